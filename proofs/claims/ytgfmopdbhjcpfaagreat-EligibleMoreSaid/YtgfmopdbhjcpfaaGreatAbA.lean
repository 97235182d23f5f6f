/- Abstract states over the model. -/
import Derived.Orders
import Derived.Laws.AppendOwn
import Derived.Below
import Derived.MapKept
import Derived.IntWalk
import Derived.Laws.Tables
import Derived.Tactics
import Derived.KernelRfl
set_option linter.unusedVariables false
set_option linter.unusedSimpArgs false
namespace Go.Ab
noncomputable section
section
inductive DVal where
 | any
 | int (k:IntKind) (n:Int)
 | bool (b:Bool)
 | str (s:ByteArray)
 | lst (n:Nat) (f:Nat->List DVal)
 | mp (n:Nat) (ks:Nat->Int) (vs:Nat->DVal)
inductive CV where
 | d (x:DVal)
 | fl (n:Nat) (f:Nat->List DVal)
 | own (id:Nat)
 | ptr (id off:Nat)
 | pte (id es idx off:Nat)
 | sub (id es lo n:Nat)
 | elm (cs:List DVal)
 | clo (f:Nat) (ids:List Nat)
 | sem (p:World->(Nat->Prop)->(Nat->Prop)->Value->Prop)
 | ap (id:Nat)
 | bnd (f:Nat) (cs:List DVal)
 | cp (id j:Nat)
inductive TV where
 | c (x:CV)
 | g (xs:List CV)
inductive AVal where
 | any
 | v (x:TV)
 | t (xs:List TV)
inductive Obj where
 | box (ro:Bool) (cs:List CV)
 | arr (es n:Nat) (f:Nat->List DVal)
 | ext (p:World->(Nat->Prop)->Value->Prop)
 | exr (refs:List Nat) (p:World->(Nat->Prop)->List Value->Value->Prop)
abbrev Env:=Nat->AVal
abbrev Sto:=Nat->Option Obj
structure Ctx where
 w0:World
 D:Nat->Prop
 M:Nat->Prop
 X:Nat->Prop
 pin:Nat->Option Value
inductive DRep (w:World) (X:Nat->Prop):Value->DVal->Prop
 | any (v:Value):v.oneCell'=true->DRep w X v .any
 | int (k:IntKind) (n:Int):DRep w X (.int k n) (.int k n)
 | bool (b:Bool):DRep w X (.bool b) (.bool b)
 | str (s:ByteArray):DRep w X (.string s) (.str s)
 | nil (a:Option Addr) (cap:Nat) (f:Nat->List DVal):DRep w X (.slice a 0 cap) (.lst 0 f)
 | lst (b off n cap:Nat) (c:Array Value) (e:TypeId) (fz:Nat×Nat) (f:Nat->List DVal) (es:Nat) :
   ¬ X b->w.heap[b]?=some (.cells c e fz)->n<=cap->off+n*es<=c.size->(∀ i,i<n->(f i).length=es) ->
   (∀ i j,i<n->j<es->DRep w X (c.getD (off+(i*es+j)) undef) ((f i).getD j .any)) ->
   DRep w X (.slice (some ⟨b,off,none⟩) n cap) (.lst n f)
 | mp (b:Nat) (es:Array MapEntry) (clock n:Nat) (ks:Nat->Int) (Q8E:Nat->Value) (vs:Nat->DVal):¬ X b->w.heap[b]?=some (.map es clock)->MapKept.Stamped es clock->es.size=n ->
   (∀ i,i<n->∃ bo,es[i]?=some ⟨.int .i64 (ks i),Q8E i,bo⟩)->(∀ i,i<n->DRep w X (Q8E i) (vs i))->DRep w X (.map (some b)) (.mp n ks vs)
theorem DRep.one {w:World} {X:Nat->Prop} {v:Value} {x:DVal} (h:DRep w X v x):v.oneCell'=true:=by
 cases h <;> first|assumption|rfl
theorem K8 {w:World} {b:Nat} {o:Go.Obj} (h:w.heap[b]?=some o):b<w.heap.size:=
 (Array.getElem?_eq_some_iff.1 h).1
structure Stp (Z:Nat->Prop) (w w' : World):Prop where
 os:w'.os=w.os
 tape:w'.tape=w.tape
 output:w'.output=w.output
 size:w.heap.size<=w'.heap.size
 block:∀ b,b<w.heap.size->¬ Z b->w'.heap[b]?=w.heap[b]?
 dr:w.drawn<=w'.drawn
theorem Stp.refl (Z:Nat->Prop) (w:World):Stp Z w w:=⟨rfl,rfl,rfl,Nat.le_refl _,fun _ _ _=>rfl,Nat.le_refl _⟩
theorem Stp.mono {Z Z' : Nat->Prop} {w w' : World} (h:Stp Z w w') (hz:∀ b,b<w.heap.size->Z b->Z' b):Stp Z' w w' :=
 ⟨h.os,h.tape,h.output,h.size,fun b a c=>h.block b a fun d=>c (hz b a d),h.dr⟩
theorem Stp.trans {Z:Nat->Prop} {a b c:World} (h:Stp Z a b) (k:Stp (fun x=>Z x\/a.heap.size<=x) b c):Stp Z a c:=
 ⟨k.os.trans h.os,k.tape.trans h.tape,k.output.trans h.output,Nat.le_trans h.size k.size,
  fun x f e=>(k.block x (Nat.lt_of_lt_of_le f h.size) fun d=>by rcases d with d|d;exact e d;omega).trans (h.block x f e),Nat.le_trans h.dr k.dr⟩
theorem Stp.drew (Z:Nat->Prop) (w:World):Stp Z w { w with drawn:=w.drawn+1 }:=⟨rfl,rfl,rfl,Nat.le_refl _,fun _ _ _=>rfl,Nat.le_succ _⟩
theorem Stp.alloc (Z:Nat->Prop) (w:World) (o:Go.Obj):Stp Z w { w with heap:=w.heap.push o } :=
 ⟨rfl,rfl,rfl,by simp,fun b a _=>by show (w.heap.push o)[b]?=_;rw [Array.getElem?_push,if_neg (by omega)],Nat.le_refl _⟩
theorem Stp.below {Z:Nat->Prop} {w w' : World} (h:Stp Z w w') (B:Nat) (hB:B<=w.heap.size) (hZ:∀ b,b<B->¬ Z b):Go.RowKit.Below B w w' :=
 ⟨h.os,h.tape,h.output,h.size,fun k a=>h.block k (Nat.lt_of_lt_of_le a hB) (hZ k a)⟩
theorem DRep.mono {w w' : World} {X X' : Nat->Prop} {v:Value} {x:DVal} (h:DRep w X v x)
  (hk:∀ b,b<w.heap.size->¬ X b->w'.heap[b]?=w.heap[b]? /\ ¬ X' b):DRep w' X' v x:=by
 induction h with
 | any v hv=>exact .any v hv
 | int k n=>exact .int k n
 | bool b=>exact .bool b
 | str s=>exact .str s
 | nil a cap f=>exact .nil a cap f
 | lst b off n cap c e fz f es hX hb hn ho hf _ ih=>
  have d:=hk b (K8 hb) hX;exact .lst b off n cap c e fz f es d.2 (d.1.trans hb) hn ho hf ih
 | mp b es clock n ks Q8E vs hX hb h1 h2 h3 _ ih=>
  have d:=hk b (K8 hb) hX;exact .mp b es clock n ks Q8E vs d.2 (d.1.trans hb) h1 h2 h3 ih
def Y2E:Value->List Nat
 | .pointer (some a)=>[a.block]
 | .slice (some a) _ cap=>if cap=0 then [] else [a.block]
 | .map (some b)=>[b]
 | _=>[]
def Y7:Value->List Nat
 | .pointer (some a)=>[a.block]
 | .slice (some a) _ cap=>if cap=0 then [] else [a.block]
 | .map (some b)=>[b]
 | .agg vs=>vs.toList.flatMap Y2E
 | _=>[]
def Q6Z (w w' : World) (X X' : Nat->Prop):Prop:=∀ b,b<w.heap.size->¬ X b->w'.heap[b]?=w.heap[b]? /\ ¬ X' b
def Y2F (p:World->(Nat->Prop)->Value->Prop) (v:Value):Prop:=∀ w w' X X',Q6Z w w' X X' -> (∀ b ∈ Y7 v,w'.heap[b]?=w.heap[b]?)->p w X v->p w' X' v
section
variable (w:World) (X:Nat->Prop) (η:Nat->Value) (C:Ctx)
inductive CRep:Value->CV->Prop
 | d (v:Value) (x:DVal):DRep w X v x->CRep v (.d x)
 | fl (a:Option Addr) (n:Nat) (f:Nat->List DVal):DRep w X (.slice a n n) (.lst n f)->CRep (.slice a n n) (.fl n f)
 | own (v:Value) (id:Nat):v=η id->v.oneCell'=true->CRep v (.own id)
 | ptr (b id off:Nat):η id=.pointer (some ⟨b,0,none⟩)->CRep (.pointer (some ⟨b,off,none⟩)) (.ptr id off)
 | pte (b n cap id es idx off:Nat):η id=.slice (some ⟨b,0,none⟩) n cap->CRep (.pointer (some ⟨b,idx*es+off,none⟩)) (.pte id es idx off)
 | sub (b N cap id es lo n:Nat):η id=.slice (some ⟨b,0,none⟩) N cap->lo+n<=N->lo<cap->CRep (.slice (some ⟨b,lo*es,none⟩) n (cap-lo)) (.sub id es lo n)
 | subN (ad ad' : Option Addr) (N id es:Nat):η id=.slice ad N N->CRep (.slice ad' 0 0) (.sub id es N 0)
 | elm (b off:Nat) (c:Array Value) (e:TypeId) (fz:Nat×Nat) (cs:List DVal):¬ X b->w.heap[b]?=some (.cells c e fz)->off+cs.length<=c.size ->
   (∀ j,j<cs.length->DRep w X (c.getD (off+j) undef) (cs.getD j .any))->CRep (.pointer (some ⟨b,off,none⟩)) (.elm cs)
 | clo (f:Nat) (ids:List Nat) (vs:Array Value):vs=(ids.map η).toArray->CRep (.func (.func f) #[] vs) (.clo f ids)
 | sem (v:Value) (p:World->(Nat->Prop)->(Nat->Prop)->Value->Prop):p C.w0 C.D C.X v->v.oneCell'=true->CRep v (.sem p)
 | ap (v:Value) (id:Nat):(η id=v\/η id=.tuple #[v]\/∃ l,η id=.agg (v::l).toArray)->v.oneCell'=true->CRep v (.ap id)
 | bnd (f:Nat) (vs:Array Value) (cs:List DVal):vs.size=cs.length->(∀ j,j<cs.length->DRep w X (vs.getD j undef) (cs.getD j .any))->CRep (.func (.func f) #[.agg vs] #[]) (.bnd f cs)
 | cp (v:Value) (id j:Nat) (vs:Array Value):η id=.agg vs->vs[j]?=some v->v.oneCell'=true->CRep v (.cp id j)
def z6 (vs:Array Value) (cs:List CV):Prop:=vs.size=cs.length/\∀ j,j<cs.length->CRep w X η C (vs.getD j undef) (cs.getD j (.d .any))
inductive TRep:Value->TV->Prop
 | c (v:Value) (x:CV):CRep w X η C v x->TRep v (.c x)
 | g (vs:Array Value) (xs:List CV):z6 w X η C vs xs->TRep (.agg vs) (.g xs)
inductive ARep:Value->AVal->Prop
 | any (v:Value):ARep v .any
 | v (u:Value) (x:TV):TRep w X η C u x->ARep u (.v x)
 | t (us:Array Value) (xs:List TV):us.size=xs.length->(∀ j,j<xs.length->TRep w X η C (us.getD j undef) (xs.getD j (.c (.d .any))))->ARep (.tuple us) (.t xs)
inductive ORep:Value->Obj->Prop
 | box (b:Nat) (ro:Bool) (c:Array Value) (e:TypeId) (cs:List CV):w.heap[b]?=some (.cells c e (0,0))->z6 w X η C c cs ->
   ORep (.pointer (some ⟨b,0,none⟩)) (.box ro cs)
 | nil (ad:Option Addr) (es:Nat) (f:Nat->List DVal):ORep (.slice ad 0 0) (.arr es 0 f)
 | arr (b n cap es:Nat) (c:Array Value) (e:TypeId) (f:Nat->List DVal):w.heap[b]?=some (.cells c e (0,0))->c.size=cap*es->n<=cap->cap<=maxLen->0<cap ->
   (∀ i,i<n->(f i).length=es)->(∀ i j,i<n->j<es->DRep w X (c.getD (i*es+j) undef) ((f i).getD j .any)) ->
   ORep (.slice (some ⟨b,0,none⟩) n cap) (.arr es n f)
 | ext (v:Value) (p:World->(Nat->Prop)->Value->Prop):p w X v->Y2F p v->(∀ b ∈ Y7 v,b<w.heap.size)->ORep v (.ext p)
 | exr (v:Value) (refs:List Nat) (p:World->(Nat->Prop)->List Value->Value->Prop):p w X (refs.map η) v->Y2F (fun w X v=>p w X (refs.map η) v) v->(∀ b ∈ Y7 v,b<w.heap.size)->ORep v (.exr refs p)
end
theorem CRep.one {w:World} {X:Nat->Prop} {η:Nat->Value} {C:Ctx} {v:Value} {x:CV} (h:CRep w X η C v x):v.oneCell'=true:=by
 cases h with
 | d _ _ h=>exact h.one
 | own _ _ _ h=>exact h
 | sem _ _ _ h=>exact h
 | ap _ _ _ h=>exact h
 | cp _ _ _ _ _ _ h=>exact h
 | _=>rfl
def CV.refs:CV->List Nat
 | .own id=>[id]
 | .ptr id _=>[id]
 | .pte id _ _ _=>[id]
 | .sub id _ _ _=>[id]
 | .clo _ ids=>ids
 | .ap id=>[id]
 | .cp id _=>[id]
 | _=>[]
def TV.refs:TV->List Nat
 | .c x=>x.refs
 | .g xs=>xs.flatMap CV.refs
def AVal.refs:AVal->List Nat
 | .any=>[]
 | .v x=>x.refs
 | .t xs=>xs.flatMap TV.refs
def Obj.refs:Obj->List Nat
 | .box _ cs=>cs.flatMap CV.refs
 | .arr _ _ _=>[]
 | .ext _=>[]
 | .exr refs _=>refs
def Obj.ro:Obj->Bool
 | .box ro _=>ro
 | .arr _ _ _=>false
 | .ext _=>false
 | .exr _ _=>false
section
variable {w w' : World} {X X' : Nat->Prop} {η η' : Nat->Value} {C:Ctx}
theorem CRep.mono {v:Value} {x:CV} (h:CRep w X η C v x) (hk:Q6Z w w' X X') (hη:∀ i ∈ x.refs,η' i=η i):CRep w' X' η' C v x:=by
 cases h with
 | d _ _ h=>exact .d _ _ (h.mono hk)
 | fl a n f h=>exact .fl a n f (h.mono hk)
 | own _ id h h1=>exact .own _ id (by rw [hη id (by simp [CV.refs])];exact h) h1
 | ptr b id off h=>exact .ptr b id off (by rw [hη id (by simp [CV.refs])];exact h)
 | pte b n cap id es idx off h=>exact .pte b n cap id es idx off (by rw [hη id (by simp [CV.refs])];exact h)
 | sub b N cap id es lo n h h1 h2=>exact .sub b N cap id es lo n (by rw [hη id (by simp [CV.refs])];exact h) h1 h2
 | subN ad ad' N id es h=>exact .subN ad ad' N id es (by rw [hη id (by simp [CV.refs])];exact h)
 | elm b off c e fz cs hX hb ho hc=>
  have k:=hk b (K8 hb) hX;exact .elm b off c e fz cs k.2 (k.1.trans hb) ho fun j g=>(hc j g).mono hk
 | clo f ids vs h=>
  refine .clo f ids vs ?_;rw [h]
  congr 1
  exact List.map_congr_left fun i l=>(hη i (by simpa [CV.refs] using l)).symm
 | sem _ p h h1=>exact .sem _ p h h1
 | ap _ id h h1=>exact .ap _ id (by rw [hη id (by simp [CV.refs])];exact h) h1
 | bnd f vs cs h1 h2=>exact .bnd f vs cs h1 fun j g=>(h2 j g).mono hk
 | cp _ id j vs h h1 h2=>exact .cp _ id j vs (by rw [hη id (by simp [CV.refs])];exact h) h1 h2
theorem Q0I {α:Type} {l:List α} {j:Nat} {d:α} (h:j<l.length):l.getD j d ∈ l:=by
 rw [List.getD_eq_getElem?_getD,List.getElem?_eq_getElem h];exact List.getElem_mem h
theorem z6.mono {vs:Array Value} {cs:List CV} (h:z6 w X η C vs cs) (hk:Q6Z w w' X X') (hη:∀ i ∈ cs.flatMap CV.refs,η' i=η i):z6 w' X' η' C vs cs:=
 ⟨h.1,fun j a=>(h.2 j a).mono hk fun i b=>hη i (List.mem_flatMap.2 ⟨_,Q0I a,b⟩)⟩
theorem TRep.mono {v:Value} {x:TV} (h:TRep w X η C v x) (hk:Q6Z w w' X X') (hη:∀ i ∈ x.refs,η' i=η i):TRep w' X' η' C v x:=by
 cases h with
 | c _ x h=>exact .c _ x (h.mono hk hη)
 | g vs xs h=>exact .g vs xs (h.mono hk hη)
theorem ARep.mono {v:Value} {x:AVal} (h:ARep w X η C v x) (hk:Q6Z w w' X X') (hη:∀ i ∈ x.refs,η' i=η i):ARep w' X' η' C v x:=by
 cases h with
 | any=>exact .any v
 | v _ x h=>exact .v _ x (h.mono hk hη)
 | t us xs hs h=>exact .t us xs hs fun j a=>(h j a).mono hk fun i b=>hη i (List.mem_flatMap.2 ⟨_,Q0I a,b⟩)
theorem ORep.mono {v:Value} {o:Obj} (h:ORep w X η C v o) (hk:Q6Z w w' X X') (hη:∀ i ∈ o.refs,η' i=η i) (hb:∀ b,b ∈ Y7 v->w'.heap[b]?=w.heap[b]?):ORep w' X' η' C v o:=by
 cases h with
 | box b ro c e cs hh hc=>exact .box b ro c e cs ((hb b (by simp [Y7])).trans hh) (hc.mono hk hη)
 | nil ad es f=>exact .nil ad es f
 | arr b n cap es c e f hh hs hn hm hc hl he=>
  exact .arr b n cap es c e f ((hb b (by simp [Y7];omega)).trans hh) hs hn hm hc hl fun i j g m=>(he i j g m).mono hk
 | ext _ p h h1 h2=>
  refine .ext _ p (h1 w w' X X' hk hb h) h1 fun b a=>?_
  have:=hb b a
  have k:=h2 b a;rcases Nat.lt_or_ge b w'.heap.size with d|d
  ·exact d
  ·rw [Array.getElem?_eq_none d,Array.getElem?_eq_getElem k] at this;cases this
 | exr _ refs p h h1 h2=>
  have l:refs.map η'=refs.map η:=List.map_congr_left fun i g=>hη i g
  refine .exr _ refs p (by rw [l];exact h1 w w' X X' hk hb h) (by rw [l];exact h1) fun b a=>?_
  have:=hb b a
  have k:=h2 b a;rcases Nat.lt_or_ge b w'.heap.size with d|d
  ·exact d
  ·rw [Array.getElem?_eq_none d,Array.getElem?_eq_getElem k] at this;cases this
theorem ORep.lt {v:Value} {o:Obj} (h:ORep w X η C v o) {b:Nat} (hb:b ∈ Y7 v):b<w.heap.size:=by
 cases h with
 | box b' ro c e cs hh hc=>simp [Y7] at hb;subst hb;exact K8 hh
 | nil ad es f=>cases ad <;> simp [Y7] at hb
 | arr b' n cap es c e f hh hs hn hm hc hl he=>simp [Y7] at hb;obtain ⟨_,rfl⟩:=hb;exact K8 hh
 | ext _ p h h1 h2=>exact h2 b hb
 | exr _ refs p h h1 h2=>exact h2 b hb
end
def Own (s:Sto) (η:Nat->Value) (b:Nat):Prop:=∃ i o,s i=some o/\b ∈ Y7 (η i)
def XS (C:Ctx) (s:Sto) (η:Nat->Value) (b:Nat):Prop:=(C.X b/\¬ C.D b)\/Own s η b
structure Ctx.Ok (C:Ctx):Prop where
 md:∀ b,C.M b->C.D b
 dx:∀ b,C.D b->C.X b
 lt:∀ b,C.X b->b<C.w0.heap.size
structure Conc (C:Ctx) (nt:Nat) (R:Nat->Prop) (η:Nat->Value) (e:Env) (s:Sto) (a:Act) (w:World):Prop where
 ok:C.Ok
 df:a.defers=[]
 sz:a.tmps.size=nt
 ev:∀ t,ARep w (XS C s η) η C (a.tmps.getD t undef) (e t)
 er:∀ t i,i ∈ (e t).refs->R i
 st:∀ i o,s i=some o->ORep w (XS C s η) η C (η i) o
 sr:∀ i o,s i=some o->R i/\∀ j ∈ o.refs,R j
 ds:∀ i j b,s i≠none->s j≠none->b ∈ Y7 (η i)->b ∈ Y7 (η j)->i=j
 ow:∀ i o b,s i=some o->b ∈ Y7 (η i)->(o.ro=true/\C.D b)\/C.M b\/C.w0.heap.size<=b
 fr:Stp C.M C.w0 w
 pn:∀ i v,C.pin i=some v->η i=v/\R i
end
section
structure SR where
 v:AVal:=.any
 del:List Nat:=[]
 upd:Option (Nat×Obj):=none
 new:Option Obj:=none
 cond:Prop:=True
def SR.env (r:SR) (d:Option Tmp) (e:Env):Env:=
 match d with
 | some d=>fun t=>if t=d then r.v else e t
 | none=>e
def SR.sto (r:SR) (d:Option Tmp) (s:Sto):Sto:=fun i=>
 match r.new,d with
 | some o,some d=>if i=d then some o else
  match r.upd with
  | some (k,o')=>if i=k then some o' else if r.del.contains i then none else s i
  | none=>if r.del.contains i then none else s i
 | _,_=>
  match r.upd with
  | some (k,o')=>if i=k then some o' else if r.del.contains i then none else s i
  | none=>if r.del.contains i then none else s i
def SR.eta (r:SR) (d:Option Tmp) (v:Value) (η:Nat->Value):Nat->Value:=fun i=>
 match r.new,d with
 | some _,some d=>if i=d then v else η i
 | _,_=>η i
def SR.rng (r:SR) (d:Option Tmp) (R:Nat->Prop):Nat->Prop:=fun i=>R i\/(r.new≠none/\d=some i)
theorem Y0V (a:Act) (d:Option Tmp) (v:Value) (t:Nat) (hd:∀ x,d=some x->x<a.tmps.size) :
  (a.put d v).tmps.getD t undef=if d=some t then v else a.tmps.getD t undef:=by
 cases d with
 | none=>simp [Act.put]
 | some x=>
  have b:=hd x rfl;simp only [Act.put,Option.some.injEq]
  by_cases h:x=t
  ·subst h;simp [b]
  ·simp [h]
theorem Y3N (a:Act) (d:Option Tmp) (v:Value):(a.put d v).tmps.size=a.tmps.size:=by cases d <;> simp [Act.put]
theorem Y0W (a:Act) (d:Option Tmp) (v:Value):(a.put d v).defers=a.defers:=by cases d <;> rfl
section
variable {C:Ctx} {nt:Nat} {R:Nat->Prop} {η:Nat->Value} {e:Env} {s:Sto} {a:Act} {w:World}
theorem Conc.lt (h:Conc C nt R η e s a w) {b:Nat} (hb:Own s η b):b<w.heap.size:=by
 obtain ⟨i,o,c,hb⟩:=hb;exact (h.st i o c).lt hb
theorem Z8y (r:SR) (d:Option Tmp):∀ i o,r.sto d s i=some o->(r.new=some o/\d=some i)\/(r.upd=some (i,o)/\(r.new=none\/d≠some i))\/(s i=some o/\i ∉ r.del/\(∀ o',r.upd≠some (i,o'))/\(r.new=none\/d≠some i)):=by
 intro i o g;have b:(match r.upd with|some (k,o')=>if i=k then some o' else if r.del.contains i then none else s i|none=>if r.del.contains i then none else s i)=some o ->
   r.upd=some (i,o)\/(s i=some o/\i ∉ r.del/\∀ o',r.upd≠some (i,o')):=by
  intro f
  cases hu:r.upd with
  | none=>
   simp only [hu] at f;split at f
   ·cases f
   ·rename_i h;exact .inr ⟨f,by simpa using h,by simp⟩
  | some ko=>
   obtain ⟨k,o'⟩:=ko;simp only [hu] at f
   split at f
   ·rename_i n;cases f;subst n;exact .inl rfl
   ·rename_i n
    split at f
    ·cases f
    ·rename_i h;exact .inr ⟨f,by simpa using h,fun p q=>by cases q;exact n rfl⟩
 unfold SR.sto at g
 cases hn:r.new with
 | none=>
  simp only [hn] at g;rcases b g with c|⟨c,l,j⟩
  ·exact .inr (.inl ⟨c,.inl rfl⟩)
  ·exact .inr (.inr ⟨c,l,j,.inl rfl⟩)
 | some on=>
  cases hdd:d with
  | none=>
   simp only [hn,hdd] at g;rcases b g with c|⟨c,l,j⟩
   ·exact .inr (.inl ⟨c,.inr (by simp)⟩)
   ·exact .inr (.inr ⟨c,l,j,.inr (by simp)⟩)
  | some dd=>
   simp only [hn,hdd] at g;split at g
   ·rename_i m;cases g;subst m;exact .inl ⟨rfl,rfl⟩
   ·rename_i m
    rcases b g with c|⟨c,l,j⟩
    ·exact .inr (.inl ⟨c,.inr fun h=>m (Option.some.inj h).symm⟩)
    ·exact .inr (.inr ⟨c,l,j,.inr fun h=>m (Option.some.inj h).symm⟩)
theorem Y0e (r:SR) (d:Option Tmp) (v:Value):∀ i,(r.new=none\/d≠some i)->r.eta d v η i=η i:=by
 intro i b;unfold SR.eta
 cases hn:r.new with
 | none=>rfl
 | some on=>
  cases hdd:d with
  | none=>rfl
  | some dd=>
   rcases b with b|b
   ·rw [hn] at b;cases b
   ·simp only []
    rw [if_neg];intro c;subst c;exact b hdd
theorem Y7K (r:SR) (d:Option Tmp) (v:Value) (N:Nat->Prop) (hnew:∀ o dd,r.new=some o->d=some dd->∀ b,b ∈ Y7 v->N b\/Own s η b)
  (hupd:∀ k o,r.upd=some (k,o)->s k≠none):∀ b,Own (r.sto d s) (r.eta d v η) b->N b\/Own s η b:=by
 rintro b ⟨i,o,n,c⟩;rcases Z8y r d i o n with ⟨h,f⟩|⟨l,g⟩|⟨m,_,_,g⟩
 ·rw [show r.eta d v η i=v from by simp [SR.eta,h,f]] at c
  exact hnew o i h f b c
 ·rw [Y0e r d v i g] at c
  obtain ⟨p,j⟩:=Option.ne_none_iff_exists'.1 (hupd i o l);exact .inr ⟨i,p,j,c⟩
 ·rw [Y0e r d v i g] at c
  exact .inr ⟨i,o,m,c⟩
theorem Q5H {w w' : World} (r:SR) (d:Option Tmp) (v:Value) (Z:Nat->Prop) (hstep:Stp Z w w') (hZ:∀ b,Z b->Own s η b)
  (hnew:∀ o dd,r.new=some o->d=some dd->∀ b,b ∈ Y7 v->w.heap.size<=b\/Own s η b)
  (hupd:∀ k o,r.upd=some (k,o)->s k≠none):Q6Z w w' (XS C s η) (XS C (r.sto d s) (r.eta d v η)):=by
 intro b l i;have c:¬ Own s η b:=fun f=>i (.inr f)
 refine ⟨hstep.block b l fun j=>c (hZ b j),fun g=>?_⟩;rcases g with f|f
 ·exact i (.inl f)
 ·rcases Y7K r d v _ hnew hupd b f with h|h
  ·omega
  ·exact c h
theorem W1i {R:Nat->Prop} (r:SR) (d:Option Tmp) (v:Value) (hR:∀ o dd,r.new=some o->d=some dd->¬ R dd):∀ i,R i->r.eta d v η i=η i:=by
 intro i c;refine Y0e r d v i ?_
 cases hn:r.new with
 | none=>exact .inl rfl
 | some o=>right;intro b;exact hR o i hn b c
theorem Conc.stepG (h:Conc C nt R η e s a w) (d:Option Tmp) (hd:∀ x,d=some x->x<nt) (r:SR) (v u:Value) (w' : World) (Z:Nat->Prop) (hstep:Stp Z w w')
  (hZ:∀ b,Z b->(∃ i,(i ∈ r.del\/∃ o,r.upd=some (i,o))/\s i≠none/\b ∈ Y7 (η i))/\(C.M b\/C.w0.heap.size<=b))
  (hnew:∀ o dd,r.new=some o->d=some dd->¬ R dd/\o.ro=false/\(∀ j ∈ o.refs,R j)/\ORep w' (XS C (r.sto d s) (r.eta d u η)) (r.eta d u η) C u o /\
   (∀ b,b ∈ Y7 u->w.heap.size<=b\/((∃ i ∈ r.del,s i≠none/\b ∈ Y7 (η i))/\(C.M b\/C.w0.heap.size<=b))))
  (hupd:∀ k o,r.upd=some (k,o)->(∃ o0,s k=some o0/\o0.ro=false)/\o.ro=false/\k ∉ r.del/\(∀ j ∈ o.refs,R j)/\ORep w' (XS C (r.sto d s) (r.eta d u η)) (r.eta d u η) C (η k) o)
  (hv:d≠none->ARep w' (XS C (r.sto d s) (r.eta d u η)) (r.eta d u η) C v r.v/\∀ j ∈ r.v.refs,r.rng d R j) :
  Conc C nt (r.rng d R) (r.eta d u η) (r.env d e) (r.sto d s) (a.put d v) w':=by
 have hs:=Z8y (s:=s) r d;have c:=Y0e (η:=η) r d u
 have l:∀ o i,r.new=some o->d=some i->r.eta d u η i=u:=by
  intro o i N h2;simp [SR.eta,N,h2]
 have A:∀ i,R i->r.eta d u η i=η i:=by
  intro i g;refine c i ?_
  cases n:r.new with
  | none=>exact .inl rfl
  | some o=>right;intro f;exact (hnew o i n f).1 g
 have W:∀ b,Own (r.sto d s) (r.eta d u η) b->w.heap.size<=b\/Own s η b:=by
  rintro b ⟨i,o,g,m⟩;rcases hs i o g with ⟨n,f⟩|⟨K,p⟩|⟨D,_,_,p⟩
  ·rw [l o i n f] at m
   rcases (hnew o i n f).2.2.2.2 b m with Q|⟨⟨j,_,y,T⟩,_⟩
   ·exact .inl Q
   ·obtain ⟨J,z⟩:=Option.ne_none_iff_exists'.1 y
    exact .inr ⟨j,J,z,T⟩
  ·rw [c i p] at m
   obtain ⟨o0,S,_⟩:=(hupd i o K).1;exact .inr ⟨i,o0,S,m⟩
  ·rw [c i p] at m
   exact .inr ⟨i,o,D,m⟩
 have H:Q6Z w w' (XS C s η) (XS C (r.sto d s) (r.eta d u η)):=by
  intro b m hX;have a2:¬ Own s η b:=fun G=>hX (.inr G)
  refine ⟨hstep.block b m fun V=>?_,fun a6=>?_⟩
  ·obtain ⟨⟨i,_,g,a5⟩,_⟩:=hZ b V
   obtain ⟨P,I⟩:=Option.ne_none_iff_exists'.1 g;exact a2 ⟨i,P,I,a5⟩
  ·rcases a6 with G|G
   ·exact hX (.inl G)
   ·rcases W b G with Q|Q
    ·omega
    ·exact a2 Q
 refine ⟨h.ok,by rw [Y0W];exact h.df,by rw [Y3N];exact h.sz,?_,?_,?_,?_,?_,?_,?_,fun i u' g=>⟨(A i (h.pn i u' g).2).trans (h.pn i u' g).1,.inl (h.pn i u' g).2⟩⟩
 ·intro t
  rw [Y0V a d v t (by rw [h.sz];exact hd)]
  by_cases ht:d=some t
  ·subst ht
   simp only [if_true,SR.env];exact (hv (by simp)).1
  ·rw [if_neg ht]
   have:r.env d e t=e t:=by
    unfold SR.env
    cases d with
    | none=>rfl
    | some x=>simp only [];rw [if_neg];intro G;subst G;exact ht rfl
   rw [this];exact (h.ev t).mono H fun i g=>A i (h.er t i g)
 ·intro t i g
  by_cases ht:d=some t
  ·subst ht
   simp only [SR.env,if_true] at g;exact (hv (by simp)).2 i g
  ·have:r.env d e t=e t:=by
    unfold SR.env
    cases d with
    | none=>rfl
    | some x=>simp only [];rw [if_neg];intro G;subst G;exact ht rfl
   rw [this] at g;exact .inl (h.er t i g)
 ·intro i o g
  rcases hs i o g with ⟨n,f⟩|⟨K,p⟩|⟨D,q,O,p⟩
  ·rw [l o i n f];exact (hnew o i n f).2.2.2.1
  ·rw [c i p];exact (hupd i o K).2.2.2.2
  ·rw [c i p]
   refine (h.st i o D).mono H (fun j y=>A j ((h.sr i o D).2 j y)) fun b m=>?_
   refine hstep.block b ((h.st i o D).lt m) fun V=>?_
   obtain ⟨⟨j,y,a7,T⟩,_⟩:=hZ b V;have b0:i=j:=h.ds i j b (by rw [D];simp) a7 m T
   subst b0;rcases y with y|⟨U,b2⟩
   ·exact q y
   ·exact O U b2
 ·intro i o g
  rcases hs i o g with ⟨n,f⟩|⟨K,p⟩|⟨D,q,O,p⟩
  ·exact ⟨.inr ⟨by rw [n];simp,f⟩,fun j y=>.inl ((hnew o i n f).2.2.1 j y)⟩
  ·obtain ⟨o0,S,_⟩:=(hupd i o K).1
   exact ⟨.inl (h.sr i o0 S).1,fun j y=>.inl ((hupd i o K).2.2.2.1 j y)⟩
  ·exact ⟨.inl (h.sr i o D).1,fun j y=>.inl ((h.sr i o D).2 j y)⟩
 ·
  have F:∀ i o,r.sto d s i=some o->¬ (r.new=some o/\d=some i)->s i≠none/\i ∉ r.del/\r.eta d u η i=η i:=by
   intro i o g n;rcases hs i o g with G|⟨K,p⟩|⟨D,q,O,p⟩
   ·exact absurd G n
   ·obtain ⟨o0,S,_⟩:=(hupd i o K).1
    exact ⟨by rw [S];simp,(hupd i o K).2.2.1,c i p⟩
   ·exact ⟨by rw [D];simp,q,c i p⟩
  have L:∀ i o j U,r.sto d s j=some U -> (r.new=some o/\d=some i)->¬ (r.new=some U /\ d=some j)->∀ b,b ∈ Y7 u->b ∈ Y7 (η j)->False:=by
   intro i o j U y n b5 b m Y;obtain ⟨N,h2,_⟩:=F j U y b5
   obtain ⟨J,z⟩:=Option.ne_none_iff_exists'.1 N;rcases (hnew o i n.1 n.2).2.2.2.2 b m with Q|⟨⟨k,hk,b6,a8⟩,_⟩
   ·have:=(h.st j J z).lt Y;omega
   ·have:j=k:=h.ds j k b N b6 Y a8
    subst this;exact h2 hk
  intro i j b g y E B;obtain ⟨P,I⟩:=Option.ne_none_iff_exists'.1 g
  obtain ⟨J,z⟩:=Option.ne_none_iff_exists'.1 y
  by_cases ni:r.new=some P/\d=some i
  ·by_cases nj:r.new=some J/\d=some j
   ·have:=ni.2.symm.trans nj.2;simpa using this
   ·exfalso
    rw [l P i ni.1 ni.2] at E;rw [(F j J z nj).2.2] at B
    exact L i P j J z ni nj b E B
  ·by_cases nj:r.new=some J/\d=some j
   ·exfalso
    rw [l J j nj.1 nj.2] at B;rw [(F i P I ni).2.2] at E
    exact L j J i P I nj ni b B E
   ·obtain ⟨a1,_,a3⟩:=F i P I ni
    obtain ⟨b1,_,b3⟩:=F j J z nj;rw [a3] at E;rw [b3] at B
    exact h.ds i j b a1 b1 E B
 ·intro i o b g m
  rcases hs i o g with ⟨n,f⟩|⟨K,p⟩|⟨D,q,O,p⟩
  ·rw [l o i n f] at m
   rcases (hnew o i n f).2.2.2.2 b m with Q|⟨_,hm⟩
   ·exact .inr (.inr (Nat.le_trans h.fr.size Q))
   ·exact .inr hm
  ·rw [c i p] at m
   obtain ⟨o0,S,a4⟩:=(hupd i o K).1;rcases h.ow i o0 b S m with ⟨N,_⟩|N
   ·rw [a4] at N;cases N
   ·exact .inr N
  ·rw [c i p] at m
   exact h.ow i o b D m
 ·refine h.fr.trans (hstep.mono fun b _ V=>?_)
  exact (hZ b V).2
theorem Conc.step (h:Conc C nt R η e s a w) (d:Option Tmp) (hd:∀ x,d=some x->x<nt) (r:SR) (v:Value) (w' : World) (Z:Nat->Prop) (hstep:Stp Z w w')
  (hZ:∀ b,Z b->(∃ i,(i ∈ r.del\/∃ o,r.upd=some (i,o))/\s i≠none/\b ∈ Y7 (η i))/\(C.M b\/C.w0.heap.size<=b))
  (hnew:∀ o dd,r.new=some o->d=some dd->¬ R dd/\o.ro=false/\(∀ j ∈ o.refs,R j)/\ORep w' (XS C (r.sto d s) (r.eta d v η)) (r.eta d v η) C v o /\
   (∀ b,b ∈ Y7 v->w.heap.size<=b\/((∃ i ∈ r.del,s i≠none/\b ∈ Y7 (η i))/\(C.M b\/C.w0.heap.size<=b))))
  (hupd:∀ k o,r.upd=some (k,o)->(∃ o0,s k=some o0/\o0.ro=false)/\o.ro=false/\k ∉ r.del/\(∀ j ∈ o.refs,R j)/\ORep w' (XS C (r.sto d s) (r.eta d v η)) (r.eta d v η) C (η k) o)
  (hv:d≠none->ARep w' (XS C (r.sto d s) (r.eta d v η)) (r.eta d v η) C v r.v/\∀ j ∈ r.v.refs,r.rng d R j) :
  Conc C nt (r.rng d R) (r.eta d v η) (r.env d e) (r.sto d s) (a.put d v) w' :=
 h.stepG d hd r v v w' Z hstep hZ hnew hupd hv
theorem Conc.val (h:Conc C nt R η e s a w) (d:Option Tmp) (hd:∀ x,d=some x->x<nt) (x:AVal) (v:Value) (hv:d≠none->ARep w (XS C s η) η C v x/\∀ j ∈ x.refs,R j) :
  Conc C nt R η (SR.env { v:=x } d e) s (a.put d v) w:=by
 have g:SR.sto { v:=x } d s=s:=by funext i;simp [SR.sto]
 have l:SR.eta { v:=x } d v η=η:=by funext i;simp [SR.eta]
 have f:SR.rng { v:=x } d R=R:=by funext i;simp [SR.rng]
 have:=h.step d hd { v:=x } v w (fun _=>False) (Stp.refl _ _) (fun b m=>m.elim) (fun o dd c=>by cases c) (fun k o c=>by cases c)
  (fun n=>by rw [g,l,f];exact hv n)
 rwa [g,l,f] at this
theorem Conc.drew (h:Conc C nt R η e s a w):Conc C nt R η e s a { w with drawn:=w.drawn+1 }:=by
 have c:Q6Z w { w with drawn:=w.drawn+1 } (XS C s η) (XS C s η):=fun b _ f=>⟨rfl,f⟩
 exact ⟨h.ok,h.df,h.sz,fun t=>(h.ev t).mono c fun _ _=>rfl,h.er,fun i o d=>(h.st i o d).mono c (fun _ _=>rfl) fun _ _=>rfl,h.sr,h.ds,h.ow,
  ⟨h.fr.os,h.fr.tape,h.fr.output,h.fr.size,h.fr.block,Nat.le_succ_of_le h.fr.dr⟩,h.pn⟩
end
end
inductive TK where
 | int (k:IntKind)
 | bool
 | str
 | slice (e:Nat)
 | struct (fs:List (Nat×Nat))
 | array (n e:Nat)
 | other
def TK.agg:TK->Bool
 | .struct _=>true
 | .array _ _=>true
 | _=>false
structure TI where
 kind:TK
 size:Nat
 bytes:Nat
 zero:List CV
abbrev Lay:=Nat->Option TI
def I64 (n:Int):Prop:= -9223372036854775808<=n/\n<=9223372036854775807
def LIM:Nat:=4294967296
def vi (n:Int):AVal:=.v (.c (.d (.int .i64 n)))
def vb (b:Bool):AVal:=.v (.c (.d (.bool b)))
def Y3p:Value->AVal
 | .int k n=>.v (.c (.d (.int k n)))
 | .bool b=>.v (.c (.d (.bool b)))
 | .string s=>.v (.c (.d (.str s)))
 | .slice none 0 0=>.v (.c (.fl 0 fun _=>[]))
 | _=>.any
def aev (e:Env):Operand->AVal
 | .tmp t=>e t
 | .const v=>Y3p v
 | .func f=>.v (.c (.clo f []))
 | .global _=>.any
def Z7k:AVal->Option (List CV)
 | .v (.c x)=>some [x]
 | .v (.g xs)=>some xs
 | _=>none
def mkT (agg:Bool) (cs:List CV):Option AVal:=
 match agg with
 | true=>some (.v (.g cs))
 | false=>match cs with
  | [x]=>some (.v (.c x))
  | _=>none
def toD:CV->Option DVal
 | .d x=>some x
 | .fl n f=>some (.lst n f)
 | _=>none
def Y0q:List CV->Option (List DVal)
 | []=>some []
 | x::xs=>match toD x,Y0q xs with
  | some a,some b=>some (a::b)
  | _,_=>none
def rd (s:Sto) (n:Nat):AVal->Option (List CV×Prop)
 | .v (.c (.ptr id off))=>match s id with
  | some (.box _ cs)=>if off+n<=cs.length then some ((cs.drop off).take n,True) else none
  | _=>none
 | .v (.c (.elm cs))=>if n<=cs.length then some ((cs.take n).map .d,True) else none
 | .v (.c (.pte id es idx off))=>match s id with
  | some (.arr es' k f)=>if es=es' /\ off+n<=es/\(f idx).length=es then some ((((f idx).drop off).take n).map .d,idx<k) else none
  | _=>none
 | _=>none
def Q4z {α:Type} (cs:List α) (off:Nat) (xs:List α):List α:=cs.take off++(xs++cs.drop (off+xs.length))
def wr (s:Sto) (xs:List CV):AVal->Option SR
 | .v (.c (.ptr id off))=>match s id with
  | some (.box false cs)=>if off+xs.length<=cs.length then some { upd:=some (id,.box false (Q4z cs off xs)) } else none
  | _=>none
 | .v (.c (.pte id es idx off))=>match s id with
  | some (.arr es' k f)=>match Y0q xs with
   | some ds=>if es=es' /\ off+ds.length<=es/\(f idx).length=es then
     some { upd:=some (id,.arr es k fun j=>if j=idx then Q4z (f idx) off ds else f j),cond:=idx<k } else none
   | none=>none
  | _=>none
 | _=>none
def Z6H (m:Bool) (k:IntKind) (n:Int) (c:Prop):SR:=
 match k,m with
 | .i64,false=> { v:=vi n,cond:=I64 n/\c }
 | k,_=> { v:=.v (.c (.d (.int k (k.wrap n)))),cond:=c }
def Q5T (k:IntKind) (x y:Int):Int:=k.wrap (BitVec.ofInt k.bits x &&& BitVec.ofInt k.bits y).toNat
def bor (k:IntKind) (x y:Int):Int:=k.wrap (BitVec.ofInt k.bits x ||| BitVec.ofInt k.bits y).toNat
def W0V (k:IntKind) (x y:Int):Int:=k.wrap (BitVec.ofInt k.bits x ^^^ BitVec.ofInt k.bits y).toNat
def Y5F (m:Bool) (op:BinOp) (x y:AVal):Option SR:=
 match x,y with
 | .v (.c (.d (.int k a))),.v (.c (.d (.int k' b)))=>
  match op with
  | .shl=>some (Z6H m k (a*2 ^ (min b.toNat k.bits)) (0<=b))
  | .shr=>some { v:=.v (.c (.d (.int k (a.fdiv (2 ^ (min b.toNat k.bits)))))),cond:=0<=b }
  | op=>if k=k' then match op with
   | .add=>some (Z6H m k (a+b) True)
   | .sub=>some (Z6H m k (a-b) True)
   | .mul=>some (Z6H m k (a*b) True)
   | .quo=>some (Z6H m k (a.tdiv b) (b≠0))
   | .rem=>some { v:=.v (.c (.d (.int k (a.tmod b)))),cond:=b≠0 }
   | .and=>some { v:=.v (.c (.d (.int k (Q5T k a b)))) }
   | .or=>some { v:=.v (.c (.d (.int k (bor k a b)))) }
   | .xor=>some { v:=.v (.c (.d (.int k (W0V k a b)))) }
   | .eql=>some { v:=vb (a==b) }
   | .neq=>some { v:=vb (a != b) }
   | .lss=>some { v:=vb (a<b) }
   | .leq=>some { v:=vb (a<=b) }
   | .gtr=>some { v:=vb (b<a) }
   | .geq=>some { v:=vb (b<=a) }
   | _=>none else none
 | _,_=>none
def aun (m:Bool) (op:UnOp) (x:AVal):Option SR:=
 match op,x with
 | .not,.v (.c (.d (.bool b)))=>some { v:=vb (!b) }
 | .neg,.v (.c (.d (.int k n)))=>some (Z6H m k (0-n) True)
 | _,_=>none
def Q5P (a b:Int):Int:=if b<a then b else a
def Q0B (a b:Int):Int:=if a<b then b else a
def asI:AVal->Option Int
 | .v (.c (.d (.int _ n)))=>some n
 | _=>none
def asL (s:Sto):AVal->Option (Nat×(Nat->List DVal))
 | .v (.c (.d (.lst n f)))=>some (n,f)
 | .v (.c (.fl n f))=>some (n,f)
 | .v (.c (.own id))=>match s id with
  | some (.arr _ n f)=>some (n,f)
  | _=>none
 | .v (.c (.sub id es lo n))=>match s id with
  | some (.arr es' _ f)=>if es=es' then some (n,fun j=>f (lo+j)) else none
  | _=>none
 | _=>none
def Q5w (n:Nat) (f g:Nat->List DVal):Nat->List DVal:=fun i=>if i<n then f i else g (i-n)
def Z8k (s:Sto) (es m:Nat):AVal->Option (List Nat×Nat×(Nat->List DVal)×Prop)
 | .v (.c (.own id))=>match s id with
  | some (.arr es' n f)=>if es=es' then some ([id],n,f,True) else none
  | _=>none
 | .v (.c (.fl n f))=>if n=0\/0<m then some ([],n,f,∀ j,j<n->(f j).length=es) else none
 | _=>none
def Z6B (pl:Nat->Option (Nat×Nat)) (cells:List CV):List (Nat×AVal)->Option (List CV)
 | []=>some cells
 | (i,x)::rest=>match pl i,Z7k x with
  | some (off,size),some xs=>if xs.length=size/\off+size<=cells.length then Z6B pl (Q4z cells off xs) rest else none
  | _,_=>none
def Z5I (L:Lay):List (Nat×Nat)->Option (List (Nat×Nat))
 | []=>some []
 | (off,t)::r=>match L t,Z5I L r with
  | some ti,some l=>some ((off,ti.size)::l)
  | _,_=>none
def Y0G {α:Type} (n:Nat) (xs:List α):List α:=match n with|0=>[] | n+1=>xs++Y0G n xs
def Q9S (L:Lay) (s:Sto) (b:Builtin) (tys:Array TypeId) (xs:List AVal):Option SR:=
 match b,xs with
 | .len,[x]=>match tys.toList with
  | [t]=>match L t with
   | some { kind:=.slice _,.. }=>match asL s x with
    | some (n,_)=>some { v:=vi n }
    | none=>none
   | some { kind:=.array n _,.. }=>some { v:=vi n }
   | some { kind:=.str,.. }=>match x with
    | .v (.c (.d (.str b)))=>some { v:=vi b.size }
    | _=>none
   | _=>none
  | _=>none
 | .min,[.v (.c (.d (.int k a))),.v (.c (.d (.int _ b)))]=>some { v:=.v (.c (.d (.int k (Q5P a b)))) }
 | .max,[.v (.c (.d (.int k a))),.v (.c (.d (.int _ b)))]=>some { v:=.v (.c (.d (.int k (Q0B a b)))) }
 | .append,[x,y]=>match tys.toList with
  | [t,t']=>if t=t' then match L t with
   | some { kind:=.slice el,.. }=>match L el with
    | some te=>match asL s y with
     | some (k,g)=>match Z8k s te.size k x with
      | some (del,n,f,c)=>if 0<te.size/\te.bytes<=8192/\te.zero.length=te.size then
        some { v:=.any,del:=del,new:=some (.arr te.size (n+k) (Q5w n f g)),cond:=n+k<=LIM/\(∀ j,j<k->(g j).length=te.size)/\c } else none
      | none=>none
     | none=>none
    | none=>none
   | _=>none else none
  | _=>none
 | _,_=>none
def sl (n:Nat) (f:Nat->List DVal) (lo hi:Option Int):(Nat×(Nat->List DVal))×Prop:=
 match lo,hi with
 | none,none=>((n,f),True)
 | some l,none=>((n-l.toNat,fun i=>f (l.toNat+i)),0<=l/\l<=n)
 | none,some h=>((h.toNat,f),0<=h/\h<=n)
 | some l,some h=>((h.toNat-l.toNat,fun i=>f (l.toNat+i)),0<=l/\l<=h/\h<=n)
def oI (e:Env):Option Operand->Option (Option Int)
 | none=>some none
 | some x=>match asI (aev e x) with
  | some n=>some (some n)
  | none=>none
def Q9f (L:Lay) (m:Bool) (e:Env) (s:Sto) (o:Oper):Option SR:=
 match o.op with
 | .move x=>some { v:=aev e x }
 | .assign x=>match m,aev e x,o.dst with
  | false,x,_=>some { v:=x }
  | true,.v (.c (.fl 0 f)),some d=>match L o.type with
   | some { kind:=.slice el,.. }=>match L el with
    | some te=>some { v:=.v (.c (.own d)),new:=some (.arr te.size 0 f) }
    | none=>none
   | _=>none
  | _,_,_=>none
 | .pick c x y=>match aev e c with
  | .v (.c (.d (.bool true)))=>some { v:=aev e x }
  | .v (.c (.d (.bool false)))=>some { v:=aev e y }
  | _=>none
 | .alloc t=>match L t,o.dst with
  | some ti,some d=>some { v:=.v (.c (.ptr d 0)),new:=some (.box false ti.zero) }
  | _,_=>none
 | .box _ x=>match Z7k (aev e x),o.dst with
  | some xs,some d=>some { v:=.v (.c (.ptr d 0)),new:=some (.box false xs) }
  | _,_=>none
 | .build t ps=>match L t with
  | some { kind:=.struct fs,zero:=z,.. }=>match Z5I L fs with
   | some pl=>match Z6B (fun i=>pl[i]?) z (ps.toList.map fun p=>(p.1,aev e p.2)) with
    | some cs=>some { v:=.v (.g cs) }
    | none=>none
   | none=>none
  | some { kind:=.array _ el,zero:=z,.. }=>match L el with
   | some te=>match Z6B (fun i=>some (i*te.size,te.size)) z (ps.toList.map fun p=>(p.1,aev e p.2)) with
    | some cs=>some { v:=.v (.g cs) }
    | none=>none
   | none=>none
  | _=>none
 | .buildSlice t len ps=>match L t with
  | some { kind:=.slice el,.. }=>match L el with
   | some te=>if len*te.size<=16777216/\te.zero.length=te.size/\0<te.size then
     match Z6B (fun i=>some (i*te.size,te.size)) (Y0G len te.zero) (ps.toList.map fun p=>(p.1,aev e p.2)) with
     | some cs=>match Y0q cs with
      | some ds=>match m,o.dst with
       | false,_=>some { v:=.v (.c (.d (.lst len fun i=>(ds.drop (i*te.size)).take te.size))) }
       | true,some d=>some { v:=.v (.c (.own d)),new:=some (.arr te.size len fun i=>(ds.drop (i*te.size)).take te.size) }
       | _,_=>none
      | none=>none
     | none=>none else none
   | none=>none
  | _=>none
 | .load t x=>match L t with
  | some ti=>match rd s ti.size (aev e x) with
   | some (cs,c)=>match mkT ti.kind.agg cs with
    | some v=>some { v:=v,cond:=c }
    | none=>none
   | none=>none
  | none=>none
 | .store t x y=>match L t,Z7k (aev e y) with
  | some ti,some xs=>if xs.length=ti.size then wr s xs (aev e x) else none
  | _,_=>none
 | .nilCheck x=>match aev e x with
  | .v (.c (.ptr id off))=>some { v:=.v (.c (.ptr id off)) }
  | .v (.c (.pte id es idx off))=>some { v:=.v (.c (.pte id es idx off)) }
  | .v (.c (.elm cs))=>some { v:=.v (.c (.elm cs)) }
  | _=>none
 | .binOp op _ x y _=>Y5F m op (aev e x) (aev e y)
 | .unOp op _ x=>aun m op (aev e x)
 | .convert src dst x=>match L src,L dst,aev e x with
  | some { kind:=.int _,.. },some { kind:=.int k,.. },.v (.c (.d (.int _ n)))=>some (Z6H m k n True)
  | some { kind:=.str,.. },some { kind:=.str,.. },.v (.c (.d (.str b)))=>some { v:=.v (.c (.d (.str b))) }
  | _,_,_=>none
 | .makeFunc (.func f) first caps=>if first.size=0 then match cloIds (caps.toList.map (aev e)) with
   | some ids=>some { v:=.v (.c (.clo f ids)) }
   | none=>none else none
 | .slice t x lo hi none=>match L t with
  | some { kind:=.slice el,.. }=>match L el with
   | some te=>match m,aev e x,oI e lo,oI e hi with
    | false,x,some lo,some hi=>match asF x with
     | some (n,f)=>some { v:=.v (.c (.d (.lst (sl n f lo hi).1.1 (sl n f lo hi).1.2))),cond:=(sl n f lo hi).2/\∀ j,j<n->(f j).length=te.size }
     | none=>none
    | true,.v (.c (.own id)),some none,some (some h)=>match s id,o.dst with
     | some (.arr es n f),some d=>some { v:=.v (.c (.own d)),del:=[id],new:=some (.arr es h.toNat f),cond:=0<=h/\h<=n }
     | _,_=>none
    | _,_,_,_=>none
   | none=>none
  | _=>none
 | .slice t x none (some h) (some mx)=>match L t with
  | some { kind:=.slice el,.. }=>match L el,asF (aev e x),asI (aev e h),asI (aev e mx) with
   | some te,some (n,f),some h,some mx=>if h=mx/\0<h then
     some { v:=.v (.c (.fl h.toNat f)),cond:=h<=n/\∀ j,j<n->(f j).length=te.size } else none
   | _,_,_,_=>none
  | _=>none
 | .fieldAddr t x k=>match L t with
  | some { kind:=.struct fs,.. }=>match fs[k]? with
   | some (off,ft)=>match L ft with
    | some tf=>if tf.size=0 then none else match aev e x with
     | .v (.c (.ptr id o))=>some { v:=.v (.c (.ptr id (o+off))) }
     | .v (.c (.pte id es idx o))=>some { v:=.v (.c (.pte id es idx (o+off))) }
     | .v (.c (.elm cs))=>if off<=cs.length then some { v:=.v (.c (.elm (cs.drop off))) } else none
     | _=>none
    | none=>none
   | none=>none
  | _=>none
 | .field t x k=>match L t with
  | some { kind:=.struct fs,.. }=>match fs[k]?,aev e x with
   | some (off,ft),.v (.g cs)=>match L ft with
    | some tf=>if off+tf.size<=cs.length then match mkT tf.kind.agg ((cs.drop off).take tf.size) with
      | some v=>some { v:=v }
      | none=>none else none
    | none=>none
   | _,_=>none
  | _=>none
 | .indexAddr t x i=>match L t,asI (aev e i) with
  | some { kind:=.slice el,.. },some i=>match L el with
   | some te=>match aev e x with
    | .v (.c (.own id))=>match s id with
     | some (.arr es n _)=>if es=te.size then some { v:=.v (.c (.pte id es i.toNat 0)),cond:=0<=i/\i<n } else none
     | _=>none
    | x=>match asF x with
     | some (n,f)=>if (f i.toNat).length=te.size then some { v:=.v (.c (.elm (f i.toNat))),cond:=0<=i/\i<n } else none
     | none=>none
   | none=>none
  | some { kind:=.array n el,.. },some i=>match L el,aev e x with
   | some te,.v (.c (.ptr id off))=>if 0<=i/\i<n then some { v:=.v (.c (.ptr id (off+i.toNat*te.size))) } else none
   | _,_=>none
  | _,_=>none
 | .index t x i=>match L t,asI (aev e i),aev e x with
  | some { kind:=.array n el,.. },some i,.v (.g cs)=>match L el with
   | some te=>if 0<=i/\i<n/\i.toNat*te.size+te.size<=cs.length then match mkT te.kind.agg ((cs.drop (i.toNat*te.size)).take te.size) with
     | some v=>some { v:=v }
     | none=>none else none
   | none=>none
  | _,_,_=>none
 | .makeSlice t l c=>match L t,asI (aev e l),asI (aev e c),o.dst with
  | some { kind:=.slice el,.. },some l,some c,some d=>match L el with
   | some te=>match Y0q te.zero with
    | some z=>if 0<te.size/\te.bytes<=8192/\te.zero.length=te.size then some { v:=.v (.c (.own d)),new:=some (.arr te.size l.toNat fun _=>z),cond:=0<=l/\l=c/\l<=LIM } else none
    | none=>none
   | none=>none
  | _,_,_,_=>none
 | .extract x k=>match aev e x with
  | .t xs=>match xs[k]? with
   | some v=>some { v:=.v v }
   | none=>none
  | _=>none
 | .call { callee:=.builtin b,args,argTypes }=>match Q9S L s b argTypes (args.toList.map (aev e)),o.dst with
  | some r,d=>match r.new,d with
   | some _,some d=>some { r with v:=.v (.c (.own d)) }
   | some _,none=>none
   | none,_=>some r
  | none,_=>none
 | _=>none
where
 cloIds:List AVal->Option (List Nat)
  | []=>some []
  | .v (.c (.ptr id 0))::r=>match cloIds r with
   | some ids=>some (id::ids)
   | none=>none
  | _::_=>none
 asF:AVal->Option (Nat×(Nat->List DVal))
  | .v (.c (.d (.lst n f)))=>some (n,f)
  | .v (.c (.fl n f))=>some (n,f)
  | _=>none
section
def KOk (d:TypeDesc):TK->Prop
 | .int k=>d=.int k
 | .bool=>d=.bool
 | .str=>d=.string
 | .slice e=>d=.slice e
 | .struct fs=>∃ fields,d=.struct fields/\fields.toList.map (fun f=>(f.offset,f.type))=fs
 | .array n e=>d=.array n e
 | .other=>(∀ fs,d≠.struct fs)/\∀ n e,d≠.array n e
structure TIOk (P:Program) (t:Nat) (ti:TI) (i:TypeInfo) (d:TypeDesc) (z:Value):Prop where
 info:P.info? t=some i
 und:P.underlying t=some d
 size:i.size=ti.size
 bytes:i.bytes=ti.bytes
 zero:i.zero=some z
 zrep:∀ w X η C,z6 w X η C z.cells ti.zero
 zrefs:ti.zero.flatMap CV.refs=[]
 kind:KOk d ti.kind
def LOk (P:Program) (L:Lay):Prop:=∀ t ti,L t=some ti->∃ i d z,TIOk P t ti i d z
section
variable {P:Program} {L:Lay}
theorem Z5z {t:Nat} {ti:TI} {i:TypeInfo} {d:TypeDesc} {z:Value} (h:TIOk P t ti i d z) (w:World):(isAgg t).run P w=.ok ti.kind.agg w:=by
 have b:=h.kind;simp only [isAgg,Sem.run_bind,run_underlying h.und,Result.andThen_ok]
 cases hkk:ti.kind <;> simp only [hkk,KOk] at b
 all_goals first
  | (subst b;rfl)
  | (obtain ⟨f,rfl,_⟩:=b;rfl)
  | skip
 split
 ·rename_i x c;exact absurd rfl (b.1 c)
 ·rename_i x n e;exact absurd rfl (b.2 n e)
 ·rfl
theorem K7 {t:Nat} {ti:TI} {i:TypeInfo} {d:TypeDesc} {z:Value} (h:TIOk P t ti i d z) (w:World):(sizeOf t).run P w=.ok ti.size w:=by
 simp [sizeOf,typeInfo,h.info,h.size]
theorem Q9i {t:Nat} {ti:TI} {i:TypeInfo} {d:TypeDesc} {z:Value} (h:TIOk P t ti i d z) (w:World):(zeroValue t).run P w=.ok z w:=by
 simp [zeroValue,typeInfo,h.info,h.zero]
theorem add_lit (b o n:Nat):(⟨b,o,none⟩:Addr).add n=⟨b,o+n,none⟩:=by unfold Addr.add;split <;> simp_all
theorem Z8g {w:World} {b:Nat} {c:Array Value} {e:TypeId} {fz:Nat×Nat} (h:w.heap[b]?=some (.cells c e fz)) (j:Nat) (hj:j<c.size) :
  w.cell? ⟨b,j,none⟩=some (c.getD j undef):=by
 rw [cell_of_row w b j c e fz h];simp [hj]
def Q8E (c:Array Value) (off n:Nat):List Value:=(List.range n).map fun j=>c.getD (off+j) undef
theorem Z9s {t:Nat} {ti:TI} {i:TypeInfo} {d:TypeDesc} {z:Value} (h:TIOk P t ti i d z) {w:World} {b off:Nat} {c:Array Value} {e:TypeId} {fz:Nat×Nat}
  (hb:w.heap[b]?=some (.cells c e fz)) (ho:off+ti.size<=c.size) (h1:ti.kind.agg=false->ti.size=1) :
  (loadVar t ⟨b,off,none⟩).run P w=.ok (if ti.kind.agg then .agg (Q8E c off ti.size).toArray else c.getD off undef) w:=by
 simp only [loadVar,Sem.run_bind,Z5z h,Result.andThen_ok]
 cases ha:ti.kind.agg with
 | true=>
  have:=run_loadCells (P:=P) w ⟨b,off,none⟩ ti.size (fun j=>c.getD (off+j) undef) (fun j f=>by rw [add_lit];exact Z8g hb _ (by omega))
  simp only [Sem.run_bind,K7 h,Result.andThen_ok,this,if_true,Sem.run_pure,Q8E]
 | false=>
  have:=h1 ha
  simp only [Bool.false_eq_true,if_false];rw [run_load,Z8g hb off (by omega)]
theorem Z4n {o:Oper} {a:Act} {w w' : World} {v:Value} {K:Act->World->Prop} {Q:Exit->Act->World->Prop}
  (h:(execOp a.eval o).run P w=.ok (.value v) w') (hK:K (a.put o.dst v) w'):o.wp P a w K Q:=by
 unfold Oper.wp;rw [h];exact hK
theorem Y3t {o:Oper} {a:Act} {w w' : World} {K:Act->World->Prop} {Q:Exit->Act->World->Prop}
  (h:(execOp a.eval o).run P w=.ok .skip w') (hK:K (a.put o.dst undef) w'):o.wp P a w K Q:=by
 unfold Oper.wp;rw [h];exact hK
end
section
variable {P:Program} {L:Lay} {C:Ctx} {nt:Nat} {R:Nat->Prop} {η:Nat->Value} {e:Env} {s:Sto} {a:Act} {w:World}
def Snd (P:Program) (C:Ctx) (nt:Nat) (R:Nat->Prop) (η:Nat->Value) (e:Env) (s:Sto) (a:Act) (w:World) (o:Oper) (r:SR):Prop:=
 ∃ v w',((execOp a.eval o).run P w=.ok (.value v) w' \/ ((execOp a.eval o).run P w=.ok .skip w' /\ v=undef)) /\
  Conc C nt (r.rng o.dst R) (r.eta o.dst v η) (r.env o.dst e) (r.sto o.dst s) (a.put o.dst v) w'
theorem Snd.wp {o:Oper} {r:SR} (h:Snd P C nt R η e s a w o r) {K:Act->World->Prop} {Q:Exit->Act->World->Prop}
  (hK:∀ η' a' w',Conc C nt (r.rng o.dst R) η' (r.env o.dst e) (r.sto o.dst s) a' w' -> K a' w'):o.wp P a w K Q:=by
 obtain ⟨v,w',b|⟨b,rfl⟩,c⟩:=h
 ·exact Z4n b (hK _ _ _ c)
 ·exact Y3t b (hK _ _ _ c)
theorem Y9w (d:Option Tmp) (x:AVal) (c:Prop):SR.rng { v:=x,cond:=c } d R=R:=by funext i;simp [SR.rng]
theorem Y9o (d:Option Tmp) (x:AVal) (c:Prop):SR.sto { v:=x,cond:=c } d s=s:=by funext i;simp [SR.sto]
theorem Y9V (d:Option Tmp) (x:AVal) (c:Prop) (v:Value):SR.eta { v:=x,cond:=c } d v η=η:=by funext i;simp [SR.eta]
theorem Y9X (d:Option Tmp) (x:AVal) (c:Prop):SR.env { v:=x,cond:=c } d e=SR.env { v:=x } d e:=rfl
theorem G3 (h:Conc C nt R η e s a w) {o:Oper} (hd:∀ x,o.dst=some x->x<nt) {x:AVal} {c:Prop} {v:Value}
  (hr:(execOp a.eval o).run P w=.ok (.value v) w) (hv:ARep w (XS C s η) η C v x) (hx:∀ j ∈ x.refs,R j):Snd P C nt R η e s a w o { v:=x,cond:=c }:=by
 refine ⟨v,w,.inl hr,?_⟩;rw [Y9w,Y9o,Y9V,Y9X]
 exact h.val o.dst hd x v fun _=>⟨hv,hx⟩
theorem Y7h (v:Value) (X:Nat->Prop):ARep w X η C v (Y3p v)/\(Y3p v).refs=[]:=by
 unfold Y3p;split
 ·exact ⟨.v _ _ (.c _ _ (.d _ _ (.int _ _))),rfl⟩
 ·exact ⟨.v _ _ (.c _ _ (.d _ _ (.bool _))),rfl⟩
 ·exact ⟨.v _ _ (.c _ _ (.d _ _ (.str _))),rfl⟩
 ·exact ⟨.v _ _ (.c _ _ (.fl _ _ _ (.nil _ _ _))),rfl⟩
 ·exact ⟨.any _,rfl⟩
theorem W3 (h:Conc C nt R η e s a w) (x:Operand):ARep w (XS C s η) η C (a.eval x) (aev e x)/\∀ j ∈ (aev e x).refs,R j:=by
 cases x with
 | tmp t=>exact ⟨h.ev t,h.er t⟩
 | const v=>
  obtain ⟨d,b⟩:=Y7h (w:=w) (η:=η) (C:=C) v (XS C s η);exact ⟨d,by simp only [aev];rw [b];simp⟩
 | global g=>exact ⟨.any _,by simp [aev,AVal.refs]⟩
 | func f=>exact ⟨.v _ _ (.c _ _ (.clo f [] #[] rfl)),by simp [aev,AVal.refs,TV.refs,CV.refs]⟩
theorem Z3v {α β:Type} (f:α->List β) (l:List α) (n:Nat):∀ j ∈ (l.take n).flatMap f,j ∈ l.flatMap f:=by
 intro j c;obtain ⟨x,d,b⟩:=List.mem_flatMap.1 c
 exact List.mem_flatMap.2 ⟨x,List.mem_of_mem_take d,b⟩
theorem Z3w {α β:Type} (f:α->List β) (l:List α) (n:Nat):∀ j ∈ (l.drop n).flatMap f,j ∈ l.flatMap f:=by
 intro j c;obtain ⟨x,d,b⟩:=List.mem_flatMap.1 c
 exact List.mem_flatMap.2 ⟨x,List.mem_of_mem_drop d,b⟩
theorem Y0I (ds:List DVal):(ds.map CV.d).flatMap CV.refs=[]:=by
 induction ds with
 | nil=>rfl
 | cons x r ih=>simp [CV.refs]
theorem Q8n {α:Type} (l:List α) (off n j:Nat) (x:α) (hj:j<n):((l.drop off).take n).getD j x=l.getD (off+j) x:=by
 simp [List.getD_eq_getElem?_getD,hj]
theorem W0p (h:Conc C nt R η e s a w) {n:Nat} {x:AVal} {v:Value} {cs:List CV} {c:Prop} (hr:rd s n x=some (cs,c)) (hc:c) (hv:ARep w (XS C s η) η C v x) :
  ∃ b off c' e' fz,v=.pointer (some ⟨b,off,none⟩)/\w.heap[b]?=some (.cells c' e' fz)/\off+n<=c'.size/\cs.length=n /\
   (∀ j,j<n->CRep w (XS C s η) η C (c'.getD (off+j) undef) (cs.getD j (.d .any)))/\∀ j ∈ cs.flatMap CV.refs,R j:=by
 unfold rd at hr;split at hr
 ·rename_i r off
  split at hr
  ·rename_i D E q
   split at hr
   ·rename_i m
    cases hr
    have l:=h.st r _ q
    cases hv with
    | v _ _ hv=>
    cases hv with
    | c _ _ hv=>
    cases hv with
    | ptr b _ _ he=>
    rw [he] at l
    cases l with
    | box _ _ c' e' _ hb hcs=>
    have t:=hcs.1;refine ⟨b,off,c',e',(0,0),rfl,hb,by omega,by simp;omega,fun j i=>?_,fun j i=>?_⟩
    ·rw [Q8n _ _ _ _ _ i];exact hcs.2 (off+j) (by omega)
    ·exact (h.sr r _ q).2 j (Z3w _ _ _ j (Z3v _ _ _ j i))
   ·cases hr
  ·cases hr
 ·rename_i u
  split at hr
  ·rename_i m
   cases hr
   cases hv with
   | v _ _ hv=>
   cases hv with
   | c _ _ hv=>
   cases hv with
   | elm b off c' e' fz _ hX hb p hd=>
   refine ⟨b,off,c',e',fz,rfl,hb,by omega,by simp;omega,fun j i=>?_,fun j i=>?_⟩
   ·have:((u.take n).map CV.d).getD j (.d .any)=.d (u.getD j .any):=by
     have y : j<u.length:=by omega
     simp [List.getD_eq_getElem?_getD,i,y]
    rw [this];exact .d _ _ (hd j (by omega))
   ·rw [Y0I] at i;cases i
  ·cases hr
 ·rename_i r o g off
  split at hr
  ·rename_i B k f q
   split at hr
   ·rename_i m
    obtain ⟨rfl,m,p⟩:=m;cases hr
    have l:=h.st r _ q
    cases hv with
    | v _ _ hv=>
    cases hv with
    | c _ _ hv=>
    cases hv with
    | pte b n' cap _ _ _ _ he=>
    rw [he] at l
    cases l with
    | nil=>exact absurd hc (by omega)
    | arr _ _ _ _ c' e' _ hb t hn hm hc0 hl hel=>
    have z:g*o+o<=cap*o:=by
     have:(g+1)*o<=cap*o:=Nat.mul_le_mul_right _ (by omega)
     rwa [Nat.add_mul,Nat.one_mul] at this
    refine ⟨b,g*o+off,c',e',(0,0),rfl,hb,by omega,by simp;omega,fun j i=>?_,fun j i=>?_⟩
    ·have:(((((f g).drop off).take n).map CV.d)).getD j (.d .any)=.d ((f g).getD (off+j) .any):=by
      have A:off+j<(f g).length:=by omega
      simp [List.getD_eq_getElem?_getD,i,A]
     rw [this];have:=hel g (off+j) hc (by omega)
     rw [Nat.add_assoc];exact .d _ _ this
    ·rw [Y0I] at i;cases i
   ·cases hr
  ·cases hr
 ·cases hr
end
end
section
section
variable {P:Program} {L:Lay} {C:Ctx} {nt:Nat} {R:Nat->Prop} {η:Nat->Value} {e:Env} {s:Sto} {a:Act} {w:World}
theorem Y3s {n:Int} (h:I64 n):IntKind.i64.wrap n=n:=by
  obtain ⟨c,b⟩:=h;have e:IntKind.i64.wrap n=if n % 18446744073709551616 ≥ 9223372036854775808 then n % 18446744073709551616-18446744073709551616 else n % 18446744073709551616:=by
    simp [IntKind.wrap,IntKind.bits,IntKind.signed]
  rw [e];split <;> omega
theorem Q5M {v:Value} {k:IntKind} {n:Int} (h:ARep w (XS C s η) η C v (.v (.c (.d (.int k n))))):v=.int k n:=by
  cases h with|v _ _ h=>cases h with|c _ _ h=>cases h with|d _ _ h=>cases h;rfl
theorem Z8i {v:Value} {b:Bool} (h:ARep w (XS C s η) η C v (.v (.c (.d (.bool b))))):v=.bool b:=by
  cases h with|v _ _ h=>cases h with|c _ _ h=>cases h with|d _ _ h=>cases h;rfl
theorem Z3j {v:Value} {b:ByteArray} (h:ARep w (XS C s η) η C v (.v (.c (.d (.str b))))):v=.string b:=by
  cases h with|v _ _ h=>cases h with|c _ _ h=>cases h with|d _ _ h=>cases h;rfl
theorem Q4S (X:Nat->Prop) (k:IntKind) (n:Int):ARep w X η C (.int k n) (.v (.c (.d (.int k n)))):=.v _ _ (.c _ _ (.d _ _ (.int _ _)))
theorem Z8h (X:Nat->Prop) (b:Bool):ARep w X η C (.bool b) (.v (.c (.d (.bool b)))):=.v _ _ (.c _ _ (.d _ _ (.bool _)))
def Y7N (r:SR) (v:Value):Prop:=∃ x c,r={ v:=x,cond:=c } /\ (c->∀ (w:World) (X:Nat->Prop) (η:Nat->Value) (C:Ctx),ARep w X η C v x)/\x.refs=[]
theorem Z5M (m:Bool) (k:IntKind) (n:Int) (c:Prop):(Z6H m k n c).cond->Y7N (Z6H m k n c) (.int k (k.wrap n))/\c:=by
  unfold Z6H;split
  · intro h
    refine ⟨⟨_,_,rfl,fun _ w X η C=>?_,rfl⟩,h.2⟩;rw [Y3s h.1];exact Q4S _ _ _
  · intro h
    exact ⟨⟨_,_,rfl,fun _ w X η C=>Q4S _ _ _,rfl⟩,h⟩
theorem W0h (op:BinOp) (t:TypeId) (m:Bool) {k k' : IntKind} {n n' : Int} {r:SR} (w:World)
    (hr:Y5F m op (.v (.c (.d (.int k n)))) (.v (.c (.d (.int k' n'))))=some r) (hc:r.cond) :
    ∃ v,(binOp op t (.int k n) (.int k' n')).run P w=.ok v w/\Y7N r v:=by
  simp only [Y5F] at hr;split at hr
  · cases hr
    obtain ⟨b,i⟩:=Z5M m k _ _ hc;refine ⟨_,?_,b⟩
    have:¬ n' < 0:=by omega
    simp [binOp,Op.shift,this]
  · cases hr
    have:¬ n' < 0:=by have:(0:Int)<=n':=hc;omega
    exact ⟨.int k (n.fdiv (2 ^ min n'.toNat k.bits)),by simp [binOp,Op.shift,this],_,_,rfl,fun _ _ _ _ _=>Q4S _ _ _,rfl⟩
  · rename_i h g
    split at hr
    · rename_i j
      subst j;split at hr <;> first
        | (cases hr;done)
        | (cases hr
           obtain ⟨b,i⟩:=Z5M m k _ _ hc;refine ⟨_,?_,b⟩
           first
             | (simp [binOp,Op.intArith];done)
             | (simp [binOp,Op.intDiv,i];done))
        | (cases hr
           have f : n' ≠ 0:=hc;exact ⟨.int k (n.tmod n'),by simp [binOp,Op.intDiv,f],_,_,rfl,fun _ _ _ _ _=>Q4S _ _ _,rfl⟩)
        | (cases hr;refine ⟨.int k (Q5T k n n'),?_,_,_,rfl,fun _ _ _ _ _=>Q4S _ _ _,rfl⟩;simp [binOp,Op.intBits,Q5T];done)
        | (cases hr;refine ⟨.int k (bor k n n'),?_,_,_,rfl,fun _ _ _ _ _=>Q4S _ _ _,rfl⟩;simp [binOp,Op.intBits,bor];done)
        | (cases hr;refine ⟨.int k (W0V k n n'),?_,_,_,rfl,fun _ _ _ _ _=>Q4S _ _ _,rfl⟩;simp [binOp,Op.intBits,W0V];done)
        | (cases hr;refine ⟨.bool _,?_,_,_,rfl,fun _ _ _ _ _=>Z8h _ _,rfl⟩;simp [binOp,Op.intCmp];done)
    · cases hr
theorem Z9J (op:BinOp) (t:TypeId) (x y:Operand) (k k' : IntKind) (n n' : Int) (w:World):(eqGuard op t x y (.int k n) (.int k' n')).run P w=.ok () w:=by
  unfold eqGuard;split <;> rfl
theorem Z9Z (h:Conc C nt R η e s a w) {o:Oper} (hd:∀ x,o.dst=some x->x<nt) {r:SR} {v:Value} (hn:Y7N r v) (hc:r.cond)
    (hr:(execOp a.eval o).run P w=.ok (.value v) w):Snd P C nt R η e s a w o r:=by
  obtain ⟨x,c,rfl,b,d⟩:=hn;exact G3 h hd hr (b hc _ _ _ _) (by rw [d];simp)
theorem Y9s (h:Conc C nt R η e s a w) {o:Oper} (hd:∀ x,o.dst=some x->x<nt) {op:BinOp} {t t' : TypeId} {x y:Operand} (hop:o.op=.binOp op t x y t') {m:Bool} {r:SR}
    (hr:Y5F m op (aev e x) (aev e y)=some r) (hc:r.cond):Snd P C nt R η e s a w o r:=by
  have f:=(W3 h x).1;have b:=(W3 h y).1
  unfold Y5F at hr;split at hr
  · rename_i k n g p i j
    rw [i] at f;rw [j] at b
    have z:=Q5M f;have l:=Q5M b
    obtain ⟨v,u,q⟩:=W0h (P:=P) op t m w (show Y5F m op (.v (.c (.d (.int k n)))) (.v (.c (.d (.int g p))))=some r from hr) hc;refine Z9Z h hd q hc ?_
    simp only [execOp,hop,Sem.run_bind,z,l,Z9J,u,Result.andThen_ok,Sem.run_pure]
  · cases hr
theorem W0G (h:Conc C nt R η e s a w) {o:Oper} (hd:∀ x,o.dst=some x->x<nt) {op:UnOp} {t:TypeId} {x:Operand} (hop:o.op=.unOp op t x) {m:Bool} {r:SR}
    (hr:aun m op (aev e x)=some r) (hc:r.cond):Snd P C nt R η e s a w o r:=by
  have c:=(W3 h x).1;unfold aun at hr
  split at hr
  · rename_i b d
    cases hr
    rw [d] at c;have f:=Z8i c
    exact Z9Z h hd ⟨_,_,rfl,fun _ _ _ _ _=>Z8h _ _,rfl⟩ hc (by simp [execOp,hop,f,Op.unary])
  · rename_i k n d
    cases hr
    rw [d] at c;have f:=Q5M c
    obtain ⟨g,_⟩:=Z5M m k (0-n) _ hc;exact Z9Z h hd g hc (by simp [execOp,hop,f,Op.unary,Op.intArith])
  · cases hr
theorem Y3F (h:Conc C nt R η e s a w) {o:Oper} (hd:∀ x,o.dst=some x->x<nt) {x:Operand} (hop:o.op=.move x\/o.op=.assign x):Snd P C nt R η e s a w o { v:=aev e x }:=by
  obtain ⟨c,b⟩:=W3 h x;refine G3 h hd ?_ c b
  rcases hop with hop|hop <;> simp [execOp,hop]
theorem Y3D (h:Conc C nt R η e s a w) {o:Oper} (hd:∀ x,o.dst=some x->x<nt) {c x y:Operand} (hop:o.op=.pick c x y) {b:Bool} (hb:aev e c=.v (.c (.d (.bool b)))) :
    Snd P C nt R η e s a w o { v:=aev e (if b then x else y) }:=by
  have f:=(W3 h c).1;rw [hb] at f
  have g:=Z8i f;obtain ⟨j,i⟩:=W3 h (if b then x else y)
  refine G3 h hd ?_ j i
  cases b <;> simp [execOp,hop,g,asBool]
theorem Y7A (hL:LOk P L) (h:Conc C nt R η e s a w) {o:Oper} (hd:∀ x,o.dst=some x->x<nt) {t:TypeId} {x:Operand} (hop:o.op=.load t x) {ti:TI} (ht:L t=some ti)
    {cs:List CV} {c:Prop} (hr:rd s ti.size (aev e x)=some (cs,c)) {v:AVal} (hv:mkT ti.kind.agg cs=some v) (hc:c):Snd P C nt R η e s a w o { v:=v,cond:=c }:=by
  obtain ⟨i,d,z,u⟩:=hL t ti ht;obtain ⟨b,f,q,G,F,E,D,B,r,l,m⟩:=W0p h hr hc (W3 h x).1
  have A:ti.kind.agg=false->ti.size=1:=by
    intro k;rw [k] at hv
    simp only [mkT] at hv;split at hv
    · rw [<-r];rfl
    · cases hv
  have p:=Z9s u D B A;refine G3 h hd (v:=if ti.kind.agg then .agg (Q8E q f ti.size).toArray else q.getD f undef) ?_ ?_ ?_
  · simp only [execOp,hop,Sem.run_bind,Instr.loadAt,E,Instr.sureAddr,Sem.run_pure,Result.andThen_ok,p]
  · unfold mkT at hv
    split at hv
    · rename_i k
      cases hv
      simp only [k,if_true];refine .v _ _ (.g _ _ ⟨by simp [Q8E,r],fun j n=>?_⟩)
      rw [r] at n;have:(Q8E q f ti.size).toArray.getD j undef=q.getD (f+j) undef:=by simp [Q8E,n]
      rw [this];exact l j n
    · rename_i k
      split at hv
      · cases hv
        rename_i y
        simp only [k,Bool.false_eq_true,if_false];have:=l 0 (by rw [A k];exact Nat.zero_lt_one)
        exact .v _ _ (.c _ _ (by simpa using this))
      · cases hv
  · unfold mkT at hv
    split at hv
    · cases hv;exact m
    · split at hv
      · cases hv;intro j n;exact m j (by simpa [AVal.refs,TV.refs] using n)
      · cases hv
theorem Y1K (hL:LOk P L) (h:Conc C nt R η e s a w) {o:Oper} (hd:∀ x,o.dst=some x->x<nt) {t:TypeId} {x:Operand} {k:Nat} (hop:o.op=.fieldAddr t x k)
    {ti:TI} (ht:L t=some ti) {fs:List (Nat×Nat)} (hk:ti.kind=.struct fs) {off ft:Nat} (hf:fs[k]?=some (off,ft)) {tf:TI} (hft:L ft=some tf) (hz:tf.size≠0)
    {v:AVal} (hv:∀ b o',a.eval x=.pointer (some ⟨b,o',none⟩)->ARep w (XS C s η) η C (.pointer (some ⟨b,o' + off,none⟩)) v) (hx:∀ j ∈ v.refs,R j)
    (hp:∃ b o',a.eval x=.pointer (some ⟨b,o',none⟩)):Snd P C nt R η e s a w o { v:=v }:=by
  obtain ⟨i,d,z,l⟩:=hL t ti ht;obtain ⟨A,u,y,q⟩:=hL ft tf hft
  have m:=l.kind;rw [hk] at m
  obtain ⟨c,rfl,n⟩:=m;obtain ⟨b,o',r⟩:=hp
  have p : ∃ f,c[k]?=some f/\f.offset=off/\f.type=ft:=by
    rw [<-n,List.getElem?_map] at hf
    cases g:c.toList[k]? with
    | none=>rw [g] at hf;cases hf
    | some f=>rw [g] at hf;simp at hf;exact ⟨f,by simpa using g,hf.1,hf.2⟩
  obtain ⟨f,g,rfl,rfl⟩:=p;refine G3 h hd ?_ (hv b o' r) hx
  simp only [execOp,hop,Sem.run_bind,Instr.fieldAt,run_underlying l.und,Result.andThen_ok,g,r,Instr.sureAddr,Sem.run_pure,fieldPlace,K7 q,hz,if_false,add_lit]
theorem Y2W (X:Nat->Prop) {b id off:Nat} (h:η id=.pointer (some ⟨b,0,none⟩)):ARep w X η C (.pointer (some ⟨b,off,none⟩)) (.v (.c (.ptr id off))):=.v _ _ (.c _ _ (.ptr _ _ _ h))
theorem Z7O {v:Value} {id off:Nat} (h:ARep w (XS C s η) η C v (.v (.c (.ptr id off)))):∃ b,v=.pointer (some ⟨b,off,none⟩)/\η id=.pointer (some ⟨b,0,none⟩):=by
  cases h with|v _ _ h=>cases h with|c _ _ h=>cases h with|ptr b _ _ h=>exact ⟨b,rfl,h⟩
theorem Y2X {v:Value} {id es idx off:Nat} (h:ARep w (XS C s η) η C v (.v (.c (.pte id es idx off)))):∃ b n cap,v=.pointer (some ⟨b,idx*es+off,none⟩)/\η id=.slice (some ⟨b,0,none⟩) n cap:=by
  cases h with|v _ _ h=>cases h with|c _ _ h=>cases h with|pte b n cap _ _ _ _ h=>exact ⟨b,n,cap,rfl,h⟩
theorem Y6m {v:Value} {cs:List DVal} (h:ARep w (XS C s η) η C v (.v (.c (.elm cs)))):∃ b off c e' fz,v=.pointer (some ⟨b,off,none⟩)/\¬ XS C s η b/\w.heap[b]?=some (.cells c e' fz) /\
    off+cs.length<=c.size/\∀ j,j<cs.length->DRep w (XS C s η) (c.getD (off+j) undef) (cs.getD j .any):=by
  cases h with|v _ _ h=>cases h with|c _ _ h=>cases h with|elm b off c e' fz _ hX hb ho hc=>exact ⟨b,off,c,e',fz,rfl,hX,hb,ho,hc⟩
theorem Q6H {v:Value} {id:Nat} (h:ARep w (XS C s η) η C v (.v (.c (.own id)))):v=η id:=by
  cases h with|v _ _ h=>cases h with|c _ _ h=>cases h with|own _ _ h _=>exact h
theorem Y8r {b off:Nat} {c:Array Value} {e' : TypeId} {fz:Nat×Nat} {cs:List DVal} (X:Nat->Prop) (hX:¬ X b) (hb:w.heap[b]?=some (.cells c e' fz)) (ho:off+cs.length<=c.size)
    (hc:∀ j,j<cs.length->DRep w X (c.getD (off+j) undef) (cs.getD j .any)) (k:Nat) (hk:k<=cs.length) :
    ARep w X η C (.pointer (some ⟨b,off+k,none⟩)) (.v (.c (.elm (cs.drop k)))):=by
  refine .v _ _ (.c _ _ (.elm b (off+k) c e' fz _ hX hb (by simp;omega) fun j f=>?_));have d : k+j<cs.length:=by simp at f;omega
  have:=hc (k+j) d
  have g:(cs.drop k).getD j .any=cs.getD (k+j) .any:=by simp [List.getD_eq_getElem?_getD]
  rw [g,Nat.add_assoc];exact this
theorem Y5B {v:Value} {x:AVal} (h:ARep w (XS C s η) η C v x) {n:Nat} {f:Nat->List DVal} (hx:Q9f.asF x=some (n,f)) :
    ∃ ad cap,v=.slice ad n cap/\DRep w (XS C s η) v (.lst n f):=by
  unfold Q9f.asF at hx;split at hx
  · cases hx
    cases h with|v _ _ h=>cases h with|c _ _ h=>cases h with|d _ _ h=>
    cases h with
    | nil ad cap _=>exact ⟨ad,cap,rfl,.nil _ _ _⟩
    | lst b off _ cap c e' fz _ es h1 h2 h3 h4 h5 h6=>exact ⟨_,cap,rfl,.lst b off _ cap c e' fz _ es h1 h2 h3 h4 h5 h6⟩
  · cases hx
    cases h with|v _ _ h=>cases h with|c _ _ h=>cases h with|fl ad _ _ h=>exact ⟨ad,_,rfl,h⟩
  · cases hx
end
end
section
theorem Value.cells_one {v:Value} (h:v.oneCell'=true):v.cells=#[v]:=by
 cases v <;> first|rfl | (simp [Value.oneCell'] at h)
section
variable {P:Program} {L:Lay} {C:Ctx} {nt:Nat} {R:Nat->Prop} {η:Nat->Value} {e:Env} {s:Sto} {a:Act} {w:World}
theorem Y1w {X:Nat->Prop} {v:Value} {x:AVal} {xs:List CV} (h:ARep w X η C v x) (hx:Z7k x=some xs):z6 w X η C v.cells xs/\∀ j ∈ xs.flatMap CV.refs,j ∈ x.refs:=by
 unfold Z7k at hx;split at hx
 ·cases hx
  cases h with|v _ _ h=>cases h with|c _ _ h=>
  rw [Value.cells_one h.one];exact ⟨⟨rfl,fun j b=>by
   have:j=0:=by simp at b;omega
   subst this;simpa using h⟩,fun j b=>by simpa [AVal.refs,TV.refs] using b⟩
 ·cases hx
  cases h with|v _ _ h=>cases h with|g vs _ h=>
  exact ⟨h,fun j b=>b⟩
 ·cases hx
theorem Q2S {α:Type} (cs xs:List α) (off:Nat) (h:off+xs.length<=cs.length):(Q4z cs off xs).length=cs.length:=by
 simp [Q4z];omega
theorem Z1E {α:Type} (cs xs:List α) (off t:Nat) (d:α) (h:off+xs.length<=cs.length) :
  (Q4z cs off xs).getD t d=if off<=t/\t<off+xs.length then xs.getD (t-off) d else cs.getD t d:=by
 unfold Q4z;simp only [List.getD_eq_getElem?_getD,List.getElem?_append,List.length_take,List.getElem?_take,List.getElem?_drop]
 have b:min off cs.length=off:=by omega
 rw [b]
 by_cases h1:t<off
 ·rw [if_pos h1,if_pos h1,if_neg (by omega)]
 ·rw [if_neg h1]
  by_cases h2:t<off+xs.length
  ·rw [if_pos (by omega),if_pos (by omega)]
  ·rw [if_neg (by omega),if_neg (by omega)]
   congr 2;omega
theorem Y0x {α:Type} (cs xs:List α) (off:Nat):∀ x ∈ Q4z cs off xs,x ∈ cs\/x ∈ xs:=by
 intro x b;unfold Q4z at b
 rcases List.mem_append.1 b with h|h
 ·exact .inl (List.mem_of_mem_take h)
 ·rcases List.mem_append.1 h with h|h
  ·exact .inr h
  ·exact .inl (List.mem_of_mem_drop h)
theorem Y7a (off:Nat) (vs:List Value):∀ (k:Nat) (cs:Array Value),off+k+vs.length<=cs.size ->
  ((vs.zipIdx k).foldl (fun cs p=>cs.setIfInBounds (off+p.2) p.1) cs).size=cs.size /\
  ∀ t,((vs.zipIdx k).foldl (fun cs p=>cs.setIfInBounds (off+p.2) p.1) cs).getD t undef=if off+k<=t/\t<off+k+vs.length then vs.getD (t-off-k) undef else cs.getD t undef:=by
 induction vs with
 | nil=>intro k cs _;refine ⟨rfl,fun t=>?_⟩;rw [if_neg (by simp)];rfl
 | cons v r ih=>
  intro k cs h;simp only [List.length_cons] at h
  obtain ⟨b,c⟩:=ih (k+1) (cs.setIfInBounds (off+k) v) (by simp;omega);refine ⟨by simpa [List.zipIdx_cons] using b,fun t=>?_⟩
  simp only [List.zipIdx_cons,List.foldl_cons,List.length_cons];rw [c t]
  by_cases h3:off+(k+1)<=t/\t<off+(k+1)+r.length
  ·rw [if_pos h3,if_pos (by omega)]
   have:t-off-k=(t-off-(k+1))+1:=by omega
   rw [this];simp
  ·rw [if_neg h3]
   by_cases h4:t=off+k
   ·subst h4
    rw [if_pos (by omega)];have:off+k<cs.size:=by omega
    simp [this]
   ·rw [if_neg (by omega)]
    simp [Ne.symm h4]
theorem Y6g {X:Nat->Prop} {pl:Nat->Option (Nat×Nat)}:∀ (ps:List (Nat×AVal)) (vs:List (Nat×Value)) (cells:List CV) (vc:Array Value) (cs:List CV),
  Z6B pl cells ps=some cs->z6 w X η C vc cells->vs.map (·.1)=ps.map (·.1)->(∀ (j:Nat) x v,ps[j]?=some x->vs[j]?=some v->ARep w X η C v.2 x.2) ->
  ∃ vc',Instr.fill pl vc vs=some vc' /\ z6 w X η C vc' cs/\∀ j ∈ cs.flatMap CV.refs,j ∈ cells.flatMap CV.refs\/∃ x ∈ ps,j ∈ x.2.refs:=by
 intro ps
 induction ps with
 | nil=>
  intro vs cells vc cs h A l _;cases h
  have:vs=[]:=by simpa using l
  subst this;exact ⟨vc,rfl,A,fun j c=>.inl c⟩
 | cons p ps ih=>
  intro vs cells vc cs h A l G;obtain ⟨i,x⟩:=p
  cases vs with
  | nil=>simp at l
  | cons v vs=>
   obtain ⟨Q,v⟩:=v;simp only [List.map_cons,List.cons.injEq] at l
   obtain ⟨rfl,l⟩:=l;simp only [Z6B] at h
   split at h
   ·rename_i b d J F B
    split at h
    ·rename_i o
     obtain ⟨f,o⟩:=o;have E:ARep w X η C v x:=G 0 _ _ rfl rfl
     obtain ⟨u,D⟩:=Y1w E B;have k:v.cells.size=d:=by rw [u.1,f]
     have q:vc.size=cells.length:=A.1;have H:=Y7a b v.cells.toList 0 vc (by simp [k];omega)
     have g:v.cells.zipIdx.foldl (fun cs (p:Value×Nat)=>cs.setIfInBounds (b+p.2) p.1) vc=(v.cells.toList.zipIdx 0).foldl (fun cs p=>cs.setIfInBounds (b+p.2) p.1) vc:=by
      rw [<-Array.foldl_toList,Array.toList_zipIdx]
     have r:z6 w X η C (v.cells.zipIdx.foldl (fun cs (p:Value×Nat)=>cs.setIfInBounds (b+p.2) p.1) vc) (Q4z cells b J):=by
      rw [g];refine ⟨by rw [H.1,Q2S _ _ _ (by omega)];exact q,fun t I=>?_⟩
      rw [H.2 t,Z1E _ _ _ _ _ (by omega)];rw [Q2S _ _ _ (by omega)] at I
      simp only [Nat.add_zero,Nat.sub_zero,Array.length_toList,k,f]
      by_cases m:b<=t/\t<b+d
      ·rw [if_pos m,if_pos m]
       have:=u.2 (t-b) (by omega)
       simpa [List.getD_eq_getElem?_getD] using this
      ·rw [if_neg m,if_neg m]
       exact A.2 t I
     obtain ⟨vc',M,N,m⟩:=ih vs (Q4z cells b J) _ cs h r l (fun j x v K E=>G (j+1) x v (by simpa using K) (by simpa using E));refine ⟨vc',?_,N,fun j c=>?_⟩
     ·simp only [Instr.fill,F]
      rw [if_neg (by simp [k,q];omega)];exact M
     ·rcases m j c with c|⟨y,O,c⟩
      ·obtain ⟨z,n,c⟩:=List.mem_flatMap.1 c
       rcases Y0x _ _ _ z n with n|n
       ·exact .inl (List.mem_flatMap.2 ⟨z,n,c⟩)
       ·exact .inr ⟨_,List.mem_cons_self,D j (List.mem_flatMap.2 ⟨z,n,c⟩)⟩
      ·exact .inr ⟨y,List.mem_cons_of_mem _ O,c⟩
    ·cases h
   ·cases h
theorem Y3I (hL:LOk P L):∀ (fields:List Field) (fs:List (Nat×Nat)) (pl:List (Nat×Nat)),fields.map (fun f=>(f.offset,f.type))=fs->Z5I L fs=some pl ->
  fields.mapM (fun f=>(P.info? f.type).map fun i=>(f.offset,i.size))=some pl:=by
 intro fields
 induction fields with
 | nil=>intro fs pl g b;subst g;simpa [Z5I] using b
 | cons f r ih=>
  intro fs pl g b;subst g
  simp only [List.map_cons,Z5I] at b;split at b
  ·rename_i k l j h
   cases b
   obtain ⟨i,d,z,c⟩:=hL _ _ j;have:=ih _ l rfl h
   simp [List.mapM_cons,c.info,this,c.size]
  ·cases b
theorem Y8q (h:Conc C nt R η e s a w) (ps:Array (Nat×Operand)) :
  ((ps.map fun (p:Nat×Operand)=>(p.1,a.eval p.2)).toList).map (·.1)=(ps.toList.map fun p=>(p.1,aev e p.2)).map (·.1) /\
  (∀ (j:Nat) x v,(ps.toList.map fun p=>(p.1,aev e p.2))[j]?=some x->((ps.map fun (p:Nat×Operand)=>(p.1,a.eval p.2)).toList)[j]?=some v->ARep w (XS C s η) η C v.2 x.2) /\
  ∀ x ∈ (ps.toList.map fun p=>(p.1,aev e p.2)),∀ j ∈ x.2.refs,R j:=by
 refine ⟨by simp,fun j x v b c=>?_,fun x b j d=>?_⟩
 ·rw [List.getElem?_map] at b
  simp only [Array.toList_map,List.getElem?_map] at c
  cases hp:ps.toList[j]? with
  | none=>rw [hp] at b;cases b
  | some p=>
   rw [hp] at b c
   cases b;cases c
   exact (W3 h p.2).1
 ·obtain ⟨p,_,rfl⟩:=List.mem_map.1 b
  exact (W3 h p.2).2 j d
theorem Y2k (hL:LOk P L) (h:Conc C nt R η e s a w) {o:Oper} (hd:∀ x,o.dst=some x->x<nt) {t:TypeId} {ps:Array (Nat×Operand)} (hop:o.op=.build t ps) {ti:TI} (ht:L t=some ti)
  {pl:Nat->Option (Nat×Nat)} (hpl:(∃ fs l,ti.kind=.struct fs/\Z5I L fs=some l/\pl=fun i=>l[i]?)\/(∃ n el te,ti.kind=.array n el/\L el=some te/\pl=fun i=>some (i*te.size,te.size)))
  {cs:List CV} (hf:Z6B pl ti.zero (ps.toList.map fun p=>(p.1,aev e p.2))=some cs):Snd P C nt R η e s a w o { v:=.v (.g cs) }:=by
 obtain ⟨i,d,z,b⟩:=hL t ti ht;obtain ⟨E,F,I⟩:=Y8q h ps
 obtain ⟨B,c,r,D⟩:=Y6g _ _ _ _ _ hf (b.zrep w (XS C s η) η C) E F;refine G3 h hd (v:=.agg B) ?_ (.v _ _ (.g _ _ r)) fun j m=>?_
 ·have J:P.built t (ps.map fun (p:Nat×Operand)=>(p.1,a.eval p.2)).toList=some B:=by
   have q:=b.kind;rcases hpl with ⟨fs,l,k,G,rfl⟩|⟨n,el,te,k,A,rfl⟩
   ·rw [k] at q
    obtain ⟨u,rfl,y⟩:=q;have:=Y3I hL _ _ _ y G
    simp only [Program.built,b.info,b.und,b.zero,this];simpa using c
   ·rw [k] at q
    simp only [KOk] at q;subst q
    obtain ⟨N,K,M,f⟩:=hL el te A;simp only [Program.built,b.info,b.und,b.zero,f.info,f.size]
    exact c
  simp only [execOp,hop,Sem.run_bind];rw [run_build w t _ B J];rfl
 ·rcases D j m with m|⟨x,H,m⟩
  ·rw [b.zrefs] at m;cases m
  ·exact I x H j m
theorem Y0z (h:Conc C nt R η e s a w) {o:Oper} {d:Nat} (hd:o.dst=some d) (hdn:d<nt) (hR:¬ R d) {vs:Array Value} {cs:List CV} {ety:TypeId}
  (hrun:(execOp a.eval o).run P w=.ok (.value (.pointer (some ⟨w.heap.size,0,none⟩))) { w with heap:=w.heap.push (.cells vs ety) }) (hcs:z6 w (XS C s η) η C vs cs) (hrf:∀ j ∈ cs.flatMap CV.refs,R j) :
  Snd P C nt R η e s a w o { v:=.v (.c (.ptr d 0)),new:=some (.box false cs) }:=by
 refine ⟨_,_,.inl hrun,?_⟩;have i:∀ b,b ∈ Y7 (.pointer (some (⟨w.heap.size,0,none⟩:Addr)))->w.heap.size<=b:=by intro b g;simp [Y7] at g;omega
 have r:=Q5H (C:=C) (s:=s) (η:=η) { v:=.v (.c (.ptr d 0)),new:=some (.box false cs) } o.dst (.pointer (some ⟨w.heap.size,0,none⟩)) (fun _=>False) (Stp.alloc _ w (.cells vs ety)) (fun b g=>g.elim)
  (fun _ _ _ _ b g=>.inl (i b g)) (fun k o p=>by cases p)
 have m:=W1i (η:=η) (R:=R) { v:=.v (.c (.ptr d 0)),new:=some (.box false cs) } o.dst (.pointer (some ⟨w.heap.size,0,none⟩)) (fun _ dd _ f=>by rw [hd] at f;cases f;exact hR);refine h.step o.dst (fun x q=>by rw [hd] at q;cases q;exact hdn) _ _ _ (fun _=>False) (Stp.alloc _ w _) (fun b g=>g.elim) ?_ (fun k o p=>by cases p) ?_
 ·intro t dd n f
  cases n
  rw [hd] at f;cases f
  exact ⟨hR,rfl,hrf,.box _ _ vs ety cs (by simp) (hcs.mono r fun j l=>m j (hrf j l)),fun b g=>.inl (i b g)⟩
 ·intro _
  refine ⟨Y2W _ (by simp [SR.eta,hd]),fun j l=>?_⟩;simp [AVal.refs,TV.refs,CV.refs] at l
  exact .inr ⟨by simp,by rw [hd,l]⟩
theorem Y6F (hL:LOk P L) (h:Conc C nt R η e s a w) {o:Oper} {d:Nat} (hd:o.dst=some d) (hdn:d<nt) (hR:¬ R d) {t:TypeId} (hop:o.op=.alloc t) {ti:TI} (ht:L t=some ti) :
  Snd P C nt R η e s a w o { v:=.v (.c (.ptr d 0)),new:=some (.box false ti.zero) }:=by
 obtain ⟨i,dd,z,b⟩:=hL t ti ht;refine Y0z h hd hdn hR (vs:=z.cells) (ety:=t) ?_ (b.zrep _ _ _ _) (by rw [b.zrefs];simp)
 simp [execOp,hop,Instr.alloc,Q9i b,newVar,newRow]
theorem Y9r (h:Conc C nt R η e s a w) {o:Oper} {d:Nat} (hd:o.dst=some d) (hdn:d<nt) (hR:¬ R d) {t:TypeId} {x:Operand} (hop:o.op=.box t x) {xs:List CV} (hx:Z7k (aev e x)=some xs) :
  Snd P C nt R η e s a w o { v:=.v (.c (.ptr d 0)),new:=some (.box false xs) }:=by
 obtain ⟨i,g⟩:=W3 h x;obtain ⟨b,f⟩:=Y1w i hx
 refine Y0z h hd hdn hR (vs:=(a.eval x).cells) (ety:=t) ?_ b fun j k=>g j (f j k)
 simp [execOp,hop,Instr.box,newVar,newRow]
end
end
section
section
variable {P:Program} {L:Lay} {C:Ctx} {nt:Nat} {R:Nat->Prop} {η:Nat->Value} {e:Env} {s:Sto} {a:Act} {w:World}
theorem W0D {X:Nat->Prop} {v:Value} {x:CV} {y:DVal} (h:CRep w X η C v x) (hx:toD x=some y):DRep w X v y:=by
 unfold toD at hx;split at hx
 ·cases hx;cases h with|d _ _ h=>exact h
 ·cases hx;cases h with|fl _ _ _ h=>exact h
 ·cases hx
theorem Y5J {X:Nat->Prop}:∀ (cs:List CV) (ds:List DVal) (c:Array Value) (off:Nat),Y0q cs=some ds->(∀ j,j<cs.length->CRep w X η C (c.getD (off+j) undef) (cs.getD j (.d .any))) ->
  ds.length=cs.length/\∀ j,j<ds.length->DRep w X (c.getD (off+j) undef) (ds.getD j .any):=by
 intro cs
 induction cs with
 | nil=>intro ds c off h _;cases h;exact ⟨rfl,fun j b=>by simp at b⟩
 | cons x r ih=>
  intro ds c off h g;simp only [Y0q] at h
  split at h
  ·rename_i y l k f
   cases h
   obtain ⟨i,m⟩:=ih l c (off+1) f (fun j b=>by have:=g (j+1) (by simp;omega);rwa [Nat.add_assoc,Nat.add_comm 1 j]);refine ⟨by simp [i],fun j b=>?_⟩
   cases j with
   | zero=>exact W0D (g 0 (by simp)) k
   | succ j=>have:=m j (by simpa using b);rw [Nat.add_assoc,Nat.add_comm 1 j] at this;simpa using this
  ·cases h
theorem Z3n (w:World) (b:Nat) (cs:Array Value):Stp (fun x=>x=b) w (w.setRow b cs):=
 ⟨rfl,rfl,rfl,by simp,fun x _ c=>setRow_other w b x cs c,Nat.le_refl _⟩
theorem Z0F (c:Array Value) (off:Nat) (vs:List Value) (h:off+vs.length<=c.size) :
  (c.toList.take off++vs++c.toList.drop (off+vs.length)).toArray.size=c.size /\
  ∀ t,(c.toList.take off++vs++c.toList.drop (off+vs.length)).toArray.getD t undef=if off<=t/\t<off+vs.length then vs.getD (t-off) undef else c.getD t undef:=by
 have b:off+vs.length<=c.toList.length:=by simpa using h
 have d:c.toList.take off++vs++c.toList.drop (off+vs.length)=Q4z c.toList off vs:=by simp [Q4z]
 rw [d];refine ⟨by simp [Q2S _ _ _ b],fun t=>?_⟩
 have:=Z1E c.toList vs off t undef b
 simpa [List.getD_eq_getElem?_getD,Array.getD_eq_getD_getElem?] using this
theorem Y5L (h:Conc C nt R η e s a w) {o:Oper} (hd:o.dst=none) {id:Nat} {ob ob' : Obj} (hs:s id=some ob) (hro:ob.ro=false) (hro' : ob'.ro=false) (hrf:∀ j ∈ ob'.refs,R j)
  {b:Nat} {cs:Array Value} {c:Prop} (hb:b ∈ Y7 (η id)) (hrun:(execOp a.eval o).run P w=.ok .skip (w.setRow b cs))
  (hob:∀ X',Q6Z w (w.setRow b cs) (XS C s η) X' -> ORep (w.setRow b cs) X' η C (η id) ob'):Snd P C nt R η e s a w o { upd:=some (id,ob'),cond:=c }:=by
 have l:Own s η b:=⟨id,ob,hs,hb⟩;have n:=Q5H (C:=C) (s:=s) (η:=η) { upd:=some (id,ob'),cond:=c } o.dst undef (fun x=>x=b) (Z3n w b cs) (fun x g=>by subst g;exact l) (fun _ _ d=>by cases d)
  (fun k o d=>by cases d;rw [hs];simp)
 have f:SR.eta { upd:=some (id,ob'),cond:=c } o.dst undef η=η:=by funext i;simp [SR.eta]
 refine ⟨undef,_,.inr ⟨hrun,rfl⟩,?_⟩;refine h.step o.dst (fun x g=>by rw [hd] at g;cases g) _ _ _ (fun x=>x=b) (Z3n w b cs) ?_ (fun _ _ d=>by cases d) ?_ (fun d=>absurd hd d)
 ·intro x g
  subst g;refine ⟨⟨id,.inr ⟨ob',rfl⟩,by rw [hs];simp,hb⟩,?_⟩
  rcases h.ow id ob _ hs hb with ⟨m,_⟩|m
  ·rw [hro] at m;cases m
  ·exact m
 ·intro k p d
  cases d
  refine ⟨⟨ob,hs,hro⟩,hro',by simp,hrf,?_⟩;rw [f]
  rw [f] at n;exact hob _ n
theorem Y6D (hL:LOk P L) (h:Conc C nt R η e s a w) {o:Oper} (hd:o.dst=none) {t:TypeId} {x y:Operand} (hop:o.op=.store t x y) {ti:TI} (ht:L t=some ti)
  {xs:List CV} (hy:Z7k (aev e y)=some xs) (hsz:xs.length=ti.size) {r:SR} (hr:wr s xs (aev e x)=some r) (hc:r.cond):Snd P C nt R η e s a w o r:=by
 obtain ⟨i,dd,z,a3⟩:=hL t ti ht;obtain ⟨Z,W⟩:=W3 h y
 obtain ⟨F,a0⟩:=Y1w Z hy;have G:=(W3 h x).1
 have N:∀ v ∈ (a.eval y).cells.toList,v.oneCell'=true:=by
  intro v hv;obtain ⟨j,n,rfl⟩:=List.getElem_of_mem hv
  have Q : j<(a.eval y).cells.size:=by simpa using n
  have:=(F.2 j (by rw [<-F.1];exact Q)).one
  simpa [Q] using this
 have g:(a.eval y).cells.toList.length=xs.length:=by simpa using F.1
 have O:∀ (b d:Nat) (c:Array Value) (E : TypeId),a.eval x=.pointer (some ⟨b,d,none⟩)->w.heap[b]?=some (.cells c E (0,0))->d+xs.length<=c.size ->
   (execOp a.eval o).run P w=.ok .skip (w.setRow b (c.toList.take d++(a.eval y).cells.toList++c.toList.drop (d+(a.eval y).cells.toList.length)).toArray):=by
  intro b d c E S J ho;have:=run_storeCells_at P b d E (a.eval y).cells.toList 0 c w J (by rw [g];omega) N
  simp only [Nat.add_zero] at this;have p : (a.eval y).cells.size=ti.size:=by rw [<-Array.length_toList,g,hsz]
  simp only [execOp,hop,Sem.run_bind,Instr.storeAt,S,Instr.sureAddr,Sem.run_pure,Result.andThen_ok,storeVar,K7 a3,p,ne_eq,not_true,if_false,Sem.run_ite,this]
 unfold wr at hr;split at hr
 ·rename_i U d e1
  rw [e1] at G;obtain ⟨b,S,I⟩:=Z7O G
  split at hr
  ·rename_i bs M
   split at hr
   ·rename_i q
    cases hr
    have D:=h.st U _ M;rw [I] at D
    cases D with
    | box _ _ c E _ J hbs=>
    have A:=Z0F c d (a.eval y).cells.toList (by rw [g,hbs.1];omega);refine Y5L h hd M rfl rfl (fun j n=>?_) (b:=b) (by rw [I];simp [Y7]) (O b d c E S J (by rw [hbs.1];omega)) fun X' K=>?_
    ·obtain ⟨u,T,n⟩:=List.mem_flatMap.1 n
     rcases Y0x _ _ _ u T with T|T
     ·exact (h.sr U _ M).2 j (List.mem_flatMap.2 ⟨u,T,n⟩)
     ·exact W j (a0 j (List.mem_flatMap.2 ⟨u,T,n⟩))
    ·rw [I]
     refine .box b false _ E _ (setRow_heap w b c _ E _ J) ⟨by rw [A.1,Q2S _ _ _ q];exact hbs.1,fun j n=>?_⟩;rw [Q2S _ _ _ q] at n
     rw [A.2 j,Z1E _ _ _ _ _ q]
     by_cases h3:d<=j/\j<d+xs.length
     ·rw [if_pos (by rw [g];exact h3),if_pos h3]
      have:=(F.2 (j-d) (by omega)).mono K (fun _ _=>rfl)
      simpa [List.getD_eq_getElem?_getD] using this
     ·rw [if_neg (by rw [g];exact h3),if_neg h3]
      exact (hbs.2 j n).mono K (fun _ _=>rfl)
   ·cases hr
  ·cases hr
 ·rename_i U m l d e1
  rw [e1] at G;obtain ⟨b,n0,B,S,I⟩:=Y2X G
  split at hr
  ·rename_i b0 k f M
   split at hr
   ·rename_i ds Y
    split at hr
    ·rename_i q
     obtain ⟨rfl,q,a4⟩:=q;cases hr
     have D:=h.st U _ M;rw [I] at D
     cases D with
     | nil=>exact absurd hc (by simp)
     | arr _ _ _ _ c E _ J p hn hm hc0 hl hel=>
     have a9:l*m+m<=B*m:=by
      have K:l<n0:=hc;have:(l+1)*m<=B*m:=Nat.mul_le_mul_right _ (by omega)
      rwa [Nat.add_mul,Nat.one_mul] at this
     obtain ⟨b1,a5⟩:=Y5J (w:=w) (η:=η) (C:=C) (X:=XS C s η) xs ds (a.eval y).cells 0 Y (fun j n=>by rw [Nat.zero_add];exact F.2 j n);have H:l*m+d+xs.length<=c.size:=by rw [p];omega
     have A:=Z0F c (l*m+d) (a.eval y).cells.toList (by rw [g];exact H);refine Y5L h hd M rfl rfl (by simp [Obj.refs]) (b:=b) (by rw [I];simp [Y7];omega) (O b _ c E S J H) fun X' K=>?_
     rw [I];refine .arr b n0 B m _ E _ (setRow_heap w b c _ E _ J) (by rw [A.1];exact p) hn hm hc0 (fun i V=>?_) fun i j V n=>?_
     ·by_cases hii:i=l
      ·subst hii;simp only [if_true];rw [Q2S _ _ _ (by omega)];exact a4
      ·simp only [hii,if_false];exact hl i V
     ·rw [A.2]
      by_cases hii:i=l
      ·subst hii
       simp only [if_true];rw [Z1E _ _ _ _ _ (by omega)]
       by_cases h3:d<=j/\j<d+ds.length
       ·rw [if_pos (by rw [g];omega),if_pos h3]
        have:=(a5 (j-d) (by omega)).mono K
        have e3:i*m+j-(i*m+d)=j-d:=by omega
        rw [e3];simpa [List.getD_eq_getElem?_getD] using this
       ·rw [if_neg (by rw [g];omega),if_neg h3]
        exact (hel i j V n).mono K
      ·simp only [hii,if_false]
       have a6:¬ (l*m+d<=i*m+j/\i*m+j<l*m+d+xs.length):=by
        rintro ⟨h4,h5⟩;rcases Nat.lt_or_gt_of_ne hii with h6|h6
        ·have:(i+1)*m<=l*m:=Nat.mul_le_mul_right _ h6
         rw [Nat.add_mul,Nat.one_mul] at this;omega
        ·have:(l+1)*m<=i*m:=Nat.mul_le_mul_right _ h6
         rw [Nat.add_mul,Nat.one_mul] at this;omega
       rw [if_neg (by rw [g];exact a6)];exact (hel i j V n).mono K
    ·cases hr
   ·cases hr
  ·cases hr
 ·cases hr
end
end
section
section
variable {P:Program} {L:Lay} {C:Ctx} {nt:Nat} {R:Nat->Prop} {η:Nat->Value} {e:Env} {s:Sto} {a:Act} {w:World}
theorem Q2T (h:Conc C nt R η e s a w) {o:Oper} {d:Nat} (hd:o.dst=some d) (hdn:d<nt) (hR:¬ R d) {del:List Nat} {es n:Nat} {f:Nat->List DVal} {c:Prop} {v:Value} {w' : World} {Z:Nat->Prop}
  (hrun:(execOp a.eval o).run P w=.ok (.value v) w') (hstep:Stp Z w w') (hone:v.oneCell'=true)
  (hZ:∀ b,Z b->∃ i ∈ del,s i≠none/\b ∈ Y7 (η i)) (hdel:∀ i ∈ del,∀ o',s i=some o' -> o'.ro=false)
  (hv:∀ b,b ∈ Y7 v->w.heap.size<=b\/∃ i ∈ del,s i≠none/\b ∈ Y7 (η i))
  (hob:∀ X',Q6Z w w' (XS C s η) X' -> ORep w' X' (SR.eta { v:=.v (.c (.own d)),del:=del,new:=some (.arr es n f),cond:=c } o.dst v η) C v (.arr es n f)) :
  Snd P C nt R η e s a w o { v:=.v (.c (.own d)),del:=del,new:=some (.arr es n f),cond:=c }:=by
 have q:∀ i ∈ del,s i≠none->∀ b,b ∈ Y7 (η i)->C.M b\/C.w0.heap.size<=b:=by
  intro i m r b p;obtain ⟨o',l⟩:=Option.ne_none_iff_exists'.1 r
  rcases h.ow i o' b l p with ⟨t,_⟩|t
  ·rw [hdel i m o' l] at t;cases t
  ·exact t
 have B:=Q5H (C:=C) (s:=s) (η:=η) { v:=.v (.c (.own d)),del:=del,new:=some (.arr es n f),cond:=c } o.dst v Z hstep
  (fun b p=>by
   obtain ⟨i,_,m,g⟩:=hZ b p;obtain ⟨o',l⟩:=Option.ne_none_iff_exists'.1 m
   exact ⟨i,o',l,g⟩)
  (fun _ _ _ _ b p=>(hv b p).imp id fun ⟨i,_,m,g⟩=>by
   obtain ⟨o',l⟩:=Option.ne_none_iff_exists'.1 m;exact ⟨i,o',l,g⟩)
  (fun k o y=>by cases y)
 refine ⟨v,w',.inl hrun,h.step o.dst (fun x z=>by rw [hd] at z;cases z;exact hdn) _ _ _ Z hstep ?_ ?_ (fun k o y=>by cases y) ?_⟩
 ·intro b p
  obtain ⟨i,m,r,g⟩:=hZ b p;exact ⟨⟨i,.inl m,r,g⟩,q i m r b g⟩
 ·intro o' dd l u
  cases l
  rw [hd] at u;cases u
  refine ⟨hR,rfl,by simp [Obj.refs],hob _ B,fun b p=>?_⟩;rcases hv b p with t|⟨i,m,r,g⟩
  ·exact .inl t
  ·exact .inr ⟨⟨i,m,r,g⟩,q i m r b g⟩
 ·intro _
  refine ⟨.v _ _ (.c _ _ (.own _ _ (by simp [SR.eta,hd]) hone)),fun j A=>?_⟩;simp [AVal.refs,TV.refs,CV.refs] at A
  exact .inr ⟨by simp,by rw [hd,A]⟩
theorem Y8L (h:Conc C nt R η e s a w) {v:Value} {x:AVal} (hv:ARep w (XS C s η) η C v x) {n:Nat} {f:Nat->List DVal} (hx:asL s x=some (n,f)) :
  ∃ ad cap,v=.slice ad n cap/\n<=cap/\(n=0\/∃ b off c e' fz es,ad=some ⟨b,off,none⟩/\w.heap[b]?=some (.cells c e' fz)/\off+n*es<=c.size/\(∀ i,i<n->(f i).length=es) /\
   ∀ i j,i<n->j<es->DRep w (XS C s η) (c.getD (off+(i*es+j)) undef) ((f i).getD j .any)):=by
 have k:∀ {v:Value},DRep w (XS C s η) v (.lst n f)->∃ ad cap,v=.slice ad n cap/\n<=cap/\(n=0\/∃ b off c e' fz es,ad=some ⟨b,off,none⟩/\w.heap[b]?=some (.cells c e' fz)/\off+n*es<=c.size/\(∀ i,i<n->(f i).length=es) /\
   ∀ i j,i<n->j<es->DRep w (XS C s η) (c.getD (off+(i*es+j)) undef) ((f i).getD j .any)):=by
  intro v z
  cases z with
  | nil ad cap _=>exact ⟨ad,cap,rfl,Nat.zero_le _,.inl rfl⟩
  | lst b off _ cap c e' fz _ es h1 h2 h3 h4 h5 h6=>exact ⟨_,cap,rfl,h3,.inr ⟨b,off,c,e',fz,es,rfl,h2,h4,h5,h6⟩⟩
 unfold asL at hx;split at hx
 ·cases hx
  cases hv with|v _ _ hv=>cases hv with|c _ _ hv=>cases hv with|d _ _ hv=>exact k hv
 ·cases hx
  cases hv with|v _ _ hv=>cases hv with|c _ _ hv=>cases hv with|fl _ _ _ hv=>exact k hv
 ·split at hx
  ·rename_i l _ es B t m
   cases hx
   have g:=h.st l _ m;have y:=Q6H hv
   rw [y];generalize η l=u at g
   cases g with
   | nil _ es _=>exact ⟨_,_,rfl,Nat.le_refl _,.inl rfl⟩
   | arr b _ cap es c e' _ hb hsz hn hm hc hl hel=>
    exact ⟨_,cap,rfl,hn,.inr ⟨b,0,c,e',(0,0),es,rfl,hb,by rw [Nat.zero_add,hsz];exact Nat.mul_le_mul_right _ hn,hl,fun i j o r=>by rw [Nat.zero_add];exact hel i j o r⟩⟩
  ·cases hx
 ·split at hx
  ·rename_i l es p B _ A N t m
   split at hx
   ·rename_i q
    subst q;cases hx
    have g:=h.st l _ m
    cases hv with|v _ _ hv=>cases hv with|c _ _ hv=>cases hv with
    | sub b N' cap _ _ _ _ hη h1 h2=>
     rw [hη] at g
     cases g with
     | nil=>exact absurd h2 (Nat.not_lt_zero _)
     | arr b _ cap es c e' _ hb hsz hn hm hc hl hel=>
      refine ⟨_,cap-p,rfl,by omega,.inr ⟨b,p*es,c,e',(0,0),es,rfl,hb,?_,fun i o=>hl _ (by omega),fun i j o r=>?_⟩⟩
      ·rw [hsz, <-Nat.add_mul];exact Nat.mul_le_mul_right _ (by omega)
      ·rw [<-Nat.add_assoc, <-Nat.add_mul];exact hel (p+i) j (by omega) r
    | subN ad ad' N' _ _ hη=>exact ⟨_,_,rfl,Nat.le_refl _,.inl rfl⟩
   ·cases hx
  ·cases hx
 ·cases hx
theorem Y9q (hL:LOk P L) (h:Conc C nt R η e s a w) {o:Oper} (hd:∀ x,o.dst=some x->x<nt) {t:TypeId} {x:Operand} (hop:o.op=.call { callee:=.builtin .len,args:= #[x],argTypes:= #[t] })
  {ti:TI} (ht:L t=some ti) {el:Nat} (hk:ti.kind=.slice el) {n:Nat} {f:Nat->List DVal} (hx:asL s (aev e x)=some (n,f)):Snd P C nt R η e s a w o { v:=vi n }:=by
 obtain ⟨i,dd,z,c⟩:=hL t ti ht;have b:=c.kind
 rw [hk] at b;simp only [KOk] at b
 obtain ⟨j,d,g,_⟩:=Y8L h (W3 h x).1 hx;refine G3 h hd (v:=.int .i64 n) ?_ (Q4S _ _ _) (by simp [vi,AVal.refs,TV.refs,CV.refs])
 simp [execOp,hop,resolve,invoke,builtin,Builtin.len_,run_underlying c.und,b,g,goInt]
theorem Y4O (hL:LOk P L) (h:Conc C nt R η e s a w) {o:Oper} (hd:∀ x,o.dst=some x->x<nt) {t:TypeId} {x:Operand} (hop:o.op=.call { callee:=.builtin .len,args:= #[x],argTypes:= #[t] })
  {ti:TI} (ht:L t=some ti) {n el:Nat} (hk:ti.kind=.array n el):Snd P C nt R η e s a w o { v:=vi n }:=by
 obtain ⟨i,dd,z,c⟩:=hL t ti ht;have b:=c.kind
 rw [hk] at b;simp only [KOk] at b
 refine G3 h hd (v:=.int .i64 n) ?_ (Q4S _ _ _) (by simp [vi,AVal.refs,TV.refs,CV.refs]);simp [execOp,hop,resolve,invoke,builtin,Builtin.len_,run_underlying c.und,b,goInt]
theorem Y4N (hL:LOk P L) (h:Conc C nt R η e s a w) {o:Oper} (hd:∀ x,o.dst=some x->x<nt) {t:TypeId} {x:Operand} (hop:o.op=.call { callee:=.builtin .len,args:= #[x],argTypes:= #[t] })
  {ti:TI} (ht:L t=some ti) (hk:ti.kind=.str) {b:ByteArray} (hx:aev e x=.v (.c (.d (.str b)))):Snd P C nt R η e s a w o { v:=vi b.size }:=by
 obtain ⟨i,dd,z,g⟩:=hL t ti ht;have f:=g.kind
 rw [hk] at f;simp only [KOk] at f
 have j:=(W3 h x).1;rw [hx] at j
 have k:=Z3j j;refine G3 h hd (v:=.int .i64 b.size) ?_ (Q4S _ _ _) (by simp [vi,AVal.refs,TV.refs,CV.refs])
 simp [execOp,hop,resolve,invoke,builtin,Builtin.len_,run_underlying g.und,f,k,goInt]
theorem Y0A (h:Conc C nt R η e s a w) {o:Oper} (hd:∀ x,o.dst=some x->x<nt) {tys:Array TypeId} {x y:Operand} {bi:Builtin} (hop:o.op=.call { callee:=.builtin bi,args:= #[x,y],argTypes:=tys })
  {k k' : IntKind} {n n' : Int} (hx:aev e x=.v (.c (.d (.int k n)))) (hy:aev e y=.v (.c (.d (.int k' n')))) {u:Int} (hu:(bi=.min/\u=Q5P n n')\/(bi=.max/\u=Q0B n n')) :
  Snd P C nt R η e s a w o { v:=.v (.c (.d (.int k u))) }:=by
 have g:=(W3 h x).1;have f:=(W3 h y).1
 rw [hx] at g;rw [hy] at f
 have b:=Q5M g;have i:=Q5M f
 refine G3 h hd (v:=.int k u) ?_ (Q4S _ _ _) (by simp [AVal.refs,TV.refs,CV.refs]);rcases hu with ⟨rfl,rfl⟩|⟨rfl,rfl⟩
 ·simp [execOp,hop,resolve,invoke,builtin,Builtin.min_,Builtin.min2,b,i,Q5P]
 ·simp [execOp,hop,resolve,invoke,builtin,Builtin.max_,Builtin.max2,b,i,Q0B]
theorem Q4l (v:Int) (m:Nat) (code:BoundsCode) (h:0<=v/\v<=m) (k:IntKind):(Instr.sliceBound (.int k v) m code).run P w=.ok v.toNat w:=by
 simp [Instr.sliceBound,asIntOf,h]
theorem Y5U (h:Conc C nt R η e s a w) {x:Option Operand} {n:Option Int} (hx:oI e x=some n):(x=none/\n=none)\/∃ k m,x.map a.eval=some (.int k m)/\n=some m:=by
 unfold oI at hx;split at hx
 ·cases hx;exact .inl ⟨rfl,rfl⟩
 ·rename_i y
  split at hx
  ·rename_i m b
   cases hx
   unfold asI at b;split at b
   ·rename_i k f d
    cases b
    have c:=(W3 h y).1;rw [d] at c
    exact .inr ⟨k,m,by simp [Q5M c],rfl⟩
   ·cases b
  ·cases hx
theorem Z4x (h:Conc C nt R η e s a w) {lo hi:Option Operand} {l u:Option Int} (hl:oI e lo=some l) (hu:oI e hi=some u) (n cap:Nat) (hn:n<=cap) (f:Nat->List DVal) (hc:(sl n f l u).2) :
  (Instr.sliceBounds true n cap (lo.map a.eval) (hi.map a.eval) none).run P w=.ok ((l.getD 0).toNat,(u.getD n).toNat,cap) w/\(l.getD 0).toNat<=(u.getD n).toNat/\(u.getD n).toNat<=n /\
   (sl n f l u).1.1=(u.getD n).toNat-(l.getD 0).toNat/\∀ i,(sl n f l u).1.2 i=f ((l.getD 0).toNat+i):=by
 rcases Y5U h hl with ⟨h1,h2⟩|⟨k,m,h1,h2⟩ <;> rcases Y5U h hu with ⟨h3,h4⟩|⟨k',m',h3,h4⟩ <;> subst h2 <;> subst h4 <;> simp only [sl] at hc
 ·subst h1;subst h3
  simp [Instr.sliceBounds,sl]
 ·subst h1
  simp [Instr.sliceBounds,sl,h3,Q4l m' cap _ ⟨hc.1,by omega⟩];omega
 ·subst h3
  simp [Instr.sliceBounds,sl,h1,Q4l m n _ hc];omega
 ·have b:=Q4l (P:=P) (w:=w) m m'.toNat .sliceB ⟨hc.1,by omega⟩ k
  simp [Instr.sliceBounds,sl,h1,h3,Q4l m' cap _ ⟨by omega,by omega⟩,b];omega
theorem Y4h {X:Nat->Prop} {ad:Option Addr} {n cap:Nat} {f:Nat->List DVal} {es:Nat} (h:DRep w X (.slice ad n cap) (.lst n f)) (hes:∀ j,j<n->(f j).length=es) (l u:Nat) (hlu:l<=u) (hun:u<=n) (m:Nat) (hm:u-l<=m) (g:Nat->List DVal) (hg:∀ i,g i=f (l+i)) :
  DRep w X (.slice (if cap=l then ad else ad.map (·.add (l*es))) (u-l) m) (.lst (u-l) g):=by
 by_cases h0:u-l=0
 ·rw [h0];exact .nil _ _ _
 ·cases h with
  | nil=>omega
  | lst b off _ _ c e' fz _ es' h1 h2 h3 h4 h5 h6=>
   have o:es'=es:=by rw [<-h5 l (by omega),hes l (by omega)]
   subst o;have k:¬ cap=l:=by omega
   simp only [k,if_false,Option.map_some,add_lit];have d:l*es' + (u-l)*es' <= n*es':=by rw [<-Nat.add_mul];exact Nat.mul_le_mul_right _ (by omega)
   refine .lst b (off+l*es') _ m c e' fz _ es' h1 h2 hm (by omega) (fun i p=>by rw [hg];exact h5 _ (by omega)) fun i j p q=>?_
   rw [hg];have:=h6 (l+i) j (by omega) q
   rwa [show off+((l+i)*es' + j)=off+l*es' + (i*es' + j) from by rw [Nat.add_mul];omega] at this
theorem Y6E (hL:LOk P L) (h:Conc C nt R η e s a w) {o:Oper} (hd:∀ x,o.dst=some x->x<nt) {t:TypeId} {x:Operand} {lo hi:Option Operand} (hop:o.op=.slice t x lo hi none)
  {ti:TI} (ht:L t=some ti) {el:Nat} (hk:ti.kind=.slice el) {te:TI} (hte:L el=some te) {l u:Option Int} (hl:oI e lo=some l) (hu:oI e hi=some u)
  {n:Nat} {f:Nat->List DVal} (hx:Q9f.asF (aev e x)=some (n,f)) {c:Prop} (hc:(sl n f l u).2) (hes:∀ j,j<n->(f j).length=te.size) :
  Snd P C nt R η e s a w o { v:=.v (.c (.d (.lst (sl n f l u).1.1 (sl n f l u).1.2))),cond:=c }:=by
 obtain ⟨i,dd,z,q⟩:=hL t ti ht;obtain ⟨I,D,H,p⟩:=hL el te hte
 have k:=q.kind;rw [hk] at k
 simp only [KOk] at k;obtain ⟨J,m,y,b⟩:=Y5B (W3 h x).1 hx
 rw [y] at b;have A:n<=m:=by cases b with|nil=>exact Nat.zero_le _|lst _ _ _ _ _ _ _ _ _ _ _ r=>exact r
 obtain ⟨F,E,B,r,G⟩:=Z4x (P:=P) h hl hu n m A f hc;have g:=Y4h b hes (l.getD 0).toNat (u.getD n).toNat E B (m-(l.getD 0).toNat) (by omega) (sl n f l u).1.2 G
 rw [<-r] at g;refine G3 h hd ?_ (.v _ _ (.c _ _ (.d _ _ g))) (by simp [AVal.refs,TV.refs,CV.refs])
 simp only [execOp,hop,Sem.run_bind,Instr.sliceAt,run_underlying q.und,Result.andThen_ok,k,Instr.slice,y,Option.map_none,F,K7 p,Sem.run_pure,r]
theorem Y4L (hL:LOk P L) (h:Conc C nt R η e s a w) {o:Oper} (hd:∀ x,o.dst=some x->x<nt) {t:TypeId} {x hx mx:Operand} (hop:o.op=.slice t x none (some hx) (some mx))
  {ti:TI} (ht:L t=some ti) {el:Nat} (hk:ti.kind=.slice el) {te:TI} (hte:L el=some te) {u:Int} (hu:asI (aev e hx)=some u) (hm:asI (aev e mx)=some u) (h0:0<u)
  {n:Nat} {f:Nat->List DVal} (hxx:Q9f.asF (aev e x)=some (n,f)) {c:Prop} (hc:u<=n) (hes:∀ j,j<n->(f j).length=te.size) :
  Snd P C nt R η e s a w o { v:=.v (.c (.fl u.toNat f)),cond:=c }:=by
 obtain ⟨i,dd,z,B⟩:=hL t ti ht;obtain ⟨S,J,N,r⟩:=hL el te hte
 have p:=B.kind;rw [hk] at p
 simp only [KOk] at p;obtain ⟨D,q,H,g⟩:=Y5B (W3 h x).1 hxx
 rw [H] at g;have O:n<=q:=by cases g with|nil=>exact Nat.zero_le _|lst _ _ _ _ _ _ _ _ _ _ _ h3=>exact h3
 have b:∀ {y:Operand} {m:Int},asI (aev e y)=some m->∃ k,a.eval y=.int k m:=by
  intro y m hm;unfold asI at hm
  split at hm
  ·rename_i k Q F
   cases hm
   have G:=(W3 h y).1;rw [F] at G
   exact ⟨k,Q5M G⟩
  ·cases hm
 obtain ⟨k1,F⟩:=b hu;obtain ⟨k2,M⟩:=b hm
 have d:=Y4h g hes 0 u.toNat (Nat.zero_le _) (by omega) u.toNat (by omega) f (fun i=>by rw [Nat.zero_add]);have A:¬ q=0:=by omega
 simp only [A,if_false,Nat.zero_mul,Nat.sub_zero] at d;have l:D.map (fun x:Addr=>x.add 0)=D:=by cases D <;> simp [Addr.add]
 rw [l] at d;refine G3 h hd (v:=.slice D u.toNat u.toNat) ?_ (.v _ _ (.c _ _ (.fl _ _ _ d))) (by simp [AVal.refs,TV.refs,CV.refs])
 have K:=Q4l (P:=P) (w:=w) u q .slice3Acap ⟨by omega,by omega⟩ k2;have I:=Q4l (P:=P) (w:=w) u u.toNat .slice3B ⟨by omega,by omega⟩ k1
 have E:¬ u.toNat=0:=by omega
 simp only [execOp,hop,Sem.run_bind,Instr.sliceAt,run_underlying B.und,Result.andThen_ok,p,Instr.slice,H,Instr.sliceBounds,Option.map_some,Option.map_none,if_true,F,M,K,I,Sem.run_pure,K7 r,E,if_false,Nat.zero_mul,Nat.sub_zero,l]
end
end
section
section
variable {P:Program} {L:Lay} {C:Ctx} {nt:Nat} {R:Nat->Prop} {η:Nat->Value} {e:Env} {s:Sto} {a:Act} {w:World}
theorem Y5V {X:Nat->Prop} {ad:Option Addr} {n es:Nat} {g:Nat->List DVal} (hn:n≠0)
  (h:n=0\/∃ b off c e' fz es',ad=some ⟨b,off,none⟩/\w.heap[b]?=some (.cells c e' fz)/\off+n*es' <= c.size/\(∀ i,i<n->(g i).length=es') /\
   ∀ i j,i<n->j<es' -> DRep w X (c.getD (off+(i*es' + j)) undef) ((g i).getD j .any)) (hes:∀ i,i<n->(g i).length=es) :
  ∃ b off,ad=some ⟨b,off,none⟩/\∃ news:List Value,news.length=n*es/\(∀ j u,news[j]?=some u->w.cell? ((⟨b,off,none⟩:Addr).add j)=some u)/\(∀ u ∈ news,u.oneCell'=true) /\
   ∀ i j,i<n->j<es->DRep w X (news.getD (i*es+j) undef) ((g i).getD j .any):=by
 rcases h with h|⟨b,off,c,e',fz,es',rfl,x,y,r,q⟩
 ·exact absurd h hn
 ·have l:es'=es:=by rw [<-r 0 (by omega),hes 0 (by omega)]
  subst l;refine ⟨b,off,rfl,Q8E c off (n*es'),by simp [Q8E],fun j u d=>?_,fun u d=>?_,fun i j p o=>?_⟩
  ·simp only [Q8E,List.getElem?_map] at d
   by_cases o:j<n*es'
   ·rw [List.getElem?_range o] at d
    cases d
    rw [add_lit];exact Z8g x _ (by omega)
   ·rw [List.getElem?_eq_none (by simp;omega)] at d;cases d
  ·simp only [Q8E] at d
   obtain ⟨k,f,rfl⟩:=List.mem_map.1 d;rw [List.mem_range] at f
   by_cases hz:es'=0
   ·subst hz;simp at f
   ·have v:k / es' < n:=Nat.div_lt_of_lt_mul (by rw [Nat.mul_comm];exact f)
    have t:k % es' < es':=Nat.mod_lt _ (by omega);have:=(q (k / es') (k % es') v t).one
    rwa [show k / es' * es' + k % es'=k from by rw [Nat.mul_comm];exact Nat.div_add_mod k es'] at this
  ·have m:i*es' + j<n*es':=by
    have:(i+1)*es' <= n*es':=Nat.mul_le_mul_right _ p
    rw [Nat.add_mul,Nat.one_mul] at this;omega
   have:(Q8E c off (n*es')).getD (i*es' + j) undef=c.getD (off+(i*es' + j)) undef:=by simp [Q8E,List.getD_eq_getElem?_getD,m]
   rw [this];exact q i j p o
theorem Y4q {n b:Nat} (h:n<=LIM) (hb:b<=8192):n*b<=140737488355328:=by
 have:=Nat.mul_le_mul h hb
 simp only [LIM] at this;omega
theorem Y2d {c:Array Value} {k t:Nat} {xs:List Value} (h:c.toList.take k=xs) (ht:t<k):c.getD t undef=xs.getD t undef:=by
 rw [<-h];simp [List.getD_eq_getElem?_getD,ht]
theorem Y6v {X:Nat->Prop} {es n k:Nat} {f g:Nat->List DVal} {c:Array Value} {olds news:List Value} (hc:c.toList.take ((n+k)*es)=olds++news) (ho:olds.length=n*es)
  (h1:∀ i j,i<n->j<es->DRep w X (olds.getD (i*es+j) undef) ((f i).getD j .any)) (h2:∀ i j,i<k->j<es->DRep w X (news.getD (i*es+j) undef) ((g i).getD j .any)) :
  ∀ i j,i<n+k->j<es->DRep w X (c.getD (i*es+j) undef) ((Q5w n f g i).getD j .any):=by
 intro i j o m;have l:i*es+j<(n+k)*es:=by
  have:(i+1)*es<=(n+k)*es:=Nat.mul_le_mul_right _ o
  rw [Nat.add_mul,Nat.one_mul] at this;omega
 rw [Y2d hc l];unfold Q5w
 by_cases h3:i<n
 ·have b : i*es+j<olds.length:=by
   have:(i+1)*es<=n*es:=Nat.mul_le_mul_right _ h3
   rw [Nat.add_mul,Nat.one_mul] at this;omega
  rw [if_pos h3];have:(olds++news).getD (i*es+j) undef=olds.getD (i*es+j) undef:=by simp [List.getD_eq_getElem?_getD,List.getElem?_append,b]
  rw [this];exact h1 i j h3 m
 ·have p:n*es<=i*es:=Nat.mul_le_mul_right _ (by omega)
  rw [if_neg h3];have:(olds++news).getD (i*es+j) undef=news.getD ((i-n)*es+j) undef:=by
   have h:i*es+j-olds.length=(i-n)*es+j:=by rw [ho,Nat.sub_mul];omega
   have d:¬ i*es+j<olds.length:=by omega
   simp [List.getD_eq_getElem?_getD,List.getElem?_append,d,h]
  rw [this];exact h2 (i-n) j (by omega) m
theorem Z9C (t ty:TypeId) {el:TypeId} {i:TypeInfo} (hu:P.underlying t=some (.slice el)) (hi:P.info? el=some i) (base:Option Addr) (n cap:Nat) (hn:n<=cap) (ad:Option Addr) (c:Nat) :
  (Builtin.append_ #[t,t] ty #[.slice base n cap,.slice ad 0 c]).run P w=.ok (.slice base n cap) w:=by
 have b:(Builtin.firstCells i.size 0 (.slice ad 0 c)).run P w=.ok #[] w:=by cases ad <;> simp [Builtin.firstCells,loadCells,loadCellsFrom]
 cases base <;> simp [Builtin.append_,run_underlying hu,sizeOf,typeInfo,hi,Builtin.lenOf,hn,b,storeCells]
theorem Z8B (t ty e e' : TypeId) (i:TypeInfo) (ht:P.underlying t=some (.slice e)) (hi:P.info? e=some i)
  (g sLen sCap:Nat) (cur:Array Value) (hg:w.heap[g]?=some (.cells cur e' (0,0)))
  (a:Addr) (m c:Nat) (news:List Value) (hl:news.length=m*i.size) (hnews:∀ j u,news[j]?=some u->w.cell? (a.add j)=some u) (h1:∀ u ∈ news,u.oneCell'=true)
  (hroom:sLen+m<=sCap) (hfit:sLen*i.size+news.length<=cur.size) :
  (Builtin.append_ #[t,t] ty #[.slice (some ⟨g,0,none⟩) sLen sCap,.slice (some a) m c]).run P w =
   .ok (.slice (some ⟨g,0,none⟩) (sLen+m) sCap) (w.setRow g (cur.toList.take (sLen*i.size)++news++cur.toList.drop (sLen*i.size+news.length)).toArray):=by
 have d:=run_firstCells_some (P:=P) w i.size m a m c news hl hnews;have b:=run_storeCells_at P g (sLen*i.size) e' news 0 cur w hg (by simpa using hfit) h1
 simp only [Nat.add_zero] at b;simp [Builtin.append_,run_underlying ht,sizeOf,typeInfo,hi,Builtin.lenOf,hroom,d,Addr.add_lit,b]
theorem Y1U (Z:Nat->Prop) (w:World) (o:Go.Obj):Stp Z w (w.drew.alloc o):=
 ⟨rfl,rfl,rfl,by simp,fun b c _=>by rw [heap_alloc_old w.drew o b c];rfl,Nat.le_succ _⟩
theorem Y2j (h:Conc C nt R η e s a w) {o:Oper} {d:Nat} (hd:o.dst=some d) (hdn:d<nt) (hR:¬ R d) {del:List Nat} (hdel:∀ i ∈ del,∀ o',s i=some o' -> o'.ro=false) {es n k gc:Nat} {f g:Nat->List DVal} {c:Prop} {olds news:List Value} {z:Array Value} {el:TypeId}
  (hrun:(execOp a.eval o).run P w=.ok (.value (.slice (some ⟨w.heap.size,0,none⟩) (n+k) gc)) (w.drew.alloc (.cells (olds.toArray++news.toArray++Builtin.zeroCells z (gc-(n+k))) el)))
  (hz:z.size=es) (ho:olds.length=n*es) (hnl:news.length=k*es) (hgc:n+k<=gc) (hgm:gc<=maxLen) (hk:0<k)
  (hfl:∀ i,i<n->(f i).length=es) (hgl:∀ i,i<k->(g i).length=es)
  (h1:∀ i j,i<n->j<es->DRep w (XS C s η) (olds.getD (i*es+j) undef) ((f i).getD j .any)) (h2:∀ i j,i<k->j<es->DRep w (XS C s η) (news.getD (i*es+j) undef) ((g i).getD j .any)) :
  Snd P C nt R η e s a w o { v:=.v (.c (.own d)),del:=del,new:=some (.arr es (n+k) (Q5w n f g)),cond:=c }:=by
 refine Q2T h hd hdn hR (Z:=fun _=>False) hrun (Y1U _ w _) rfl (fun b q=>q.elim) hdel (fun b q=>.inl (by simp [Y7] at q;omega)) fun X' l=>?_
 refine .arr _ _ gc es _ el _ (heap_alloc_new w.drew _) ?_ hgc hgm (by omega) (fun i p=>?_) ?_
 ·simp only [Array.size_append,List.size_toArray,size_zeroCells,hz,ho,hnl, <-Nat.add_mul]
  congr 1;omega
 ·unfold Q5w
  by_cases h3:i<n
  ·rw [if_pos h3];exact hfl i h3
  ·rw [if_neg h3];exact hgl _ (by omega)
 ·refine Y6v (olds:=olds) (news:=news) ?_ ho (fun i j p r=>(h1 i j p r).mono l) (fun i j p r=>(h2 i j p r).mono l)
  have m:(olds++news).length=(n+k)*es:=by rw [List.length_append,ho,hnl,Nat.add_mul]
  simp only [Array.toList_append,List.append_assoc];rw [<-List.append_assoc, <-m]
  exact List.take_left
theorem Q4Z (hL:LOk P L) (h:Conc C nt R η e s a w) {o:Oper} {d:Nat} (hd:o.dst=some d) (hdn:d<nt) (hR:¬ R d) {t:TypeId} {x y:Operand}
  (hop:o.op=.call { callee:=.builtin .append,args:= #[x,y],argTypes:= #[t,t] }) {ti:TI} (ht:L t=some ti) {el:Nat} (hk:ti.kind=.slice el) {te:TI} (hte:L el=some te)
  (hby:te.bytes<=8192) (hzl:te.zero.length=te.size) {del:List Nat} (hdel:∀ i ∈ del,∀ o',s i=some o' -> o'.ro=false) {n k cap:Nat} {f g:Nat->List DVal} {c:Prop} (hlim:n+k<=LIM)
  {base:Option Addr} (ex:a.eval x=.slice base n cap) (hcap:cap<n+k) (hb0:base=none->n=0/\cap=0) {olds:List Value} (holdl:olds.length=n*te.size) (holds:∀ b0,base=some b0->∀ j u,olds[j]?=some u->w.cell? (b0.add j)=some u)
  {b2:Addr} {cy:Nat} (ey:a.eval y=.slice (some b2) k cy) {news:List Value} (hnl:news.length=k*te.size) (hncell:∀ j u,news[j]?=some u->w.cell? (b2.add j)=some u) (hk0:0<k)
  (hfl:∀ i,i<n->(f i).length=te.size) (hgl:∀ i,i<k->(g i).length=te.size)
  (h1:∀ i j,i<n->j<te.size->DRep w (XS C s η) (olds.getD (i*te.size+j) undef) ((f i).getD j .any)) (h2:∀ i j,i<k->j<te.size->DRep w (XS C s η) (news.getD (i*te.size+j) undef) ((g i).getD j .any)) :
  Snd P C nt R η e s a w o { v:=.v (.c (.own d)),del:=del,new:=some (.arr te.size (n+k) (Q5w n f g)),cond:=c }:=by
 obtain ⟨i,dd,z,q⟩:=hL t ti ht;obtain ⟨E,F,B,b⟩:=hL el te hte
 have p:=q.kind;rw [hk] at p
 simp only [KOk] at p;subst p
 have r:B.cells.size=te.size:=by rw [(b.zrep w (fun _=>False) η C).1,hzl]
 have l:∀ {v:Value} {w' : World},(Builtin.append_ #[t,t] o.type #[a.eval x,a.eval y]).run P w=.ok v w' -> (execOp a.eval o).run P w=.ok (.value v) w':=by
  intro v w' G;simp [execOp,hop,resolve,invoke,builtin,G]
 cases base with
 | none=>
  obtain ⟨rfl,rfl⟩:=hb0 rfl;have:olds=[]:=List.eq_nil_of_length_eq_zero (by rw [holdl,Nat.zero_mul])
  subst this;have D:=run_append_nil (P:=P) w t o.type el E B q.und b.info b.zero b2 k cy news (by rw [b.size];exact hnl) hncell (by omega) (by simp only [LIM] at hlim;omega)
   (by have:=Y4q (n:=k) (by omega) hby;rw [b.bytes];omega)
  have A:=l (by rw [ex,ey];exact D);have m : (execOp a.eval o).run P w=.ok (.value (.slice (some ⟨w.heap.size,0,none⟩) (0+k) (grownCap w k 0 el))) (w.drew.alloc (.cells (([]:List Value).toArray++news.toArray++Builtin.zeroCells B.cells (grownCap w k 0 el-(0+k))) el)):=by
   rw [A];simp
  exact Y2j h hd hdn hR hdel m r (by simp) hnl (by have:=grownCap_ge w k 0 el;omega) (grownCap_le_maxLen w k 0 el (by simp only [LIM] at hlim;simp only [maxLen];omega)) (by omega) hfl hgl h1 h2
 | some b0=>
  have D:=run_append_grow (P:=P) w t o.type el E B q.und b.info b.zero b0 n cap olds (by rw [b.size];exact holdl) (holds b0 rfl) b2 k cy news (by rw [b.size];exact hnl) hncell (by omega) (by simp only [LIM] at hlim;omega)
   (growslice_fits (by omega) (by rw [b.bytes];exact Y4q hlim hby))
  exact Y2j h hd hdn hR hdel (l (by rw [ex,ey];exact D)) r holdl hnl (grownCap_ge w (n+k) cap el) (grownCap_le_maxLen w (n+k) cap el (by simp only [LIM] at hlim;simp only [maxLen];omega)) (by omega) hfl hgl h1 h2
theorem Z6K (hL:LOk P L) (h:Conc C nt R η e s a w) {o:Oper} {d:Nat} (hd:o.dst=some d) (hdn:d<nt) (hR:¬ R d) {t:TypeId} {x y:Operand}
  (hop:o.op=.call { callee:=.builtin .append,args:= #[x,y],argTypes:= #[t,t] }) {ti:TI} (ht:L t=some ti) {el:Nat} (hk:ti.kind=.slice el) {te:TI} (hte:L el=some te)
  {k:Nat} {g:Nat->List DVal} (hy:asL s (aev e y)=some (k,g)) {del:List Nat} {n:Nat} {f:Nat->List DVal} {c0:Prop} (hx:Z8k s te.size k (aev e x)=some (del,n,f,c0)) (hc0:c0)
  (hby:te.bytes<=8192) (hzl:te.zero.length=te.size) {c:Prop} (hlim:n+k<=LIM) (hgl:∀ j,j<k->(g j).length=te.size) :
  Snd P C nt R η e s a w o { v:=.v (.c (.own d)),del:=del,new:=some (.arr te.size (n+k) (Q5w n f g)),cond:=c }:=by
 obtain ⟨i,dd,z,S⟩:=hL t ti ht;obtain ⟨i2,d3,z2,B⟩:=hL el te hte
 have a4:=S.kind;rw [hk] at a4
 simp only [KOk] at a4;subst a4
 obtain ⟨ad,cy,W,d8,V⟩:=Y8L h (W3 h y).1 hy;have d2:z2.cells.size=te.size:=by rw [(B.zrep w (fun _=>False) η C).1,hzl]
 have J:∀ {v:Value} {w' : World},(Builtin.append_ #[t,t] o.type #[a.eval x,a.eval y]).run P w=.ok v w' -> (execOp a.eval o).run P w=.ok (.value v) w':=by
  intro v w' hh;simp [execOp,hop,resolve,invoke,builtin,hh]
 unfold Z8k at hx;split at hx
 ·
  rename_i Q e1
  split at hx
  ·rename_i b7 n' f' hs
   split at hx
   ·rename_i c5
    cases hx
    subst c5;have A:=(W3 h x).1
    rw [e1] at A;have ex:=Q6H A
    have N:=h.st Q _ hs
    by_cases hk0:k=0
    ·
     subst hk0;have a0:=N
     generalize hu:η Q=u at N ex;have hn:∃ l E,u=.slice l n E/\n<=E:=by
      cases N with
      | nil=>exact ⟨_,_,rfl,Nat.le_refl _⟩
      | arr b _ E _ c' e' _ _ _ hn _ _ _ _=>exact ⟨_,_,rfl,hn⟩
     obtain ⟨l,E,b9,hn⟩:=hn;refine Q2T h hd hdn hR (Z:=fun _=>False) (v:=u) (w':=w) (J (by rw [ex,W,b9];exact Z9C t o.type S.und B.info l n E hn ad cy)) (Stp.refl _ _) (by rw [b9];rfl) (fun b O=>O.elim)
      (fun i' p o' H=>by simp at p;subst p;rw [hs] at H;cases H;rfl) (fun b O=>.inr ⟨Q,by simp,by rw [hs];simp,by rw [hu];exact O⟩) fun X' G=>?_
     rw [hu] at a0;have c4 : ∀ b,b ∈ Y7 u->w.heap[b]?=w.heap[b]?:=fun _ _=>rfl
     have:=a0.mono (η':=SR.eta { v:=.v (.c (.own d)),del:=[Q],new:=some (.arr te.size (n+0) (Q5w n f g)),cond:=c } o.dst u η) G (by simp [Obj.refs]) c4
     cases this with
     | nil=>exact .nil _ _ _
     | arr b _ cap' _ c' e' _ q1 q2 q3 q4 q5 q6 q7=>
      refine .arr b n cap' _ c' e' _ q1 q2 q3 q4 q5 (fun i D=>?_) fun i j D r=>?_
      ·simp only [Q5w,if_pos D];exact q6 i D
      ·simp only [Q5w,if_pos D];exact q7 i j D r
    ·obtain ⟨b2,T,a9,news,F,m,K,q⟩:=Y5V hk0 V hgl
     subst a9;generalize hu:η Q=u at N ex
     cases N with
     | nil l _ _=>
      exact Q4Z hL h hd hdn hR hop ht hk hte hby hzl (fun i' p o' H=>by simp at p;subst p;rw [hs] at H;cases H;rfl) hlim ex (by omega) (fun _=>⟨rfl,rfl⟩) (olds:=[]) (by simp) (fun _ _ j u r=>by simp at r) W F m (by omega)
       (fun i D=>by omega) hgl (fun i j D=>by omega) q
     | arr b _ E _ c' e' _ O hsz hn hm hc hl hel=>
      have U:∀ i' ∈ [Q],∀ o',s i'=some o' -> o'.ro=false:=fun i' p o' H=>by simp at p;subst p;rw [hs] at H;cases H;rfl
      have d4:n*te.size<=E*te.size:=Nat.mul_le_mul_right _ hn;have I:(c'.toList.take (n*te.size)).length=n*te.size:=by simp;omega
      have a1:∀ i j,i<n->j<te.size->DRep w (XS C s η) ((c'.toList.take (n*te.size)).getD (i*te.size+j) undef) ((f i).getD j .any):=by
       intro i j D r;have b3:i*te.size+j<n*te.size:=by
        have:(i+1)*te.size<=n*te.size:=Nat.mul_le_mul_right _ D
        rw [Nat.add_mul,Nat.one_mul] at this;omega
       rw [<-Y2d rfl b3];exact hel i j D r
      by_cases hroom:n+k<=E
      ·have M:n*i2.size+news.length<=c'.size:=by rw [B.size,F,hsz, <-Nat.add_mul];exact Nat.mul_le_mul_right _ hroom
       have hr:=Z8B (P:=P) t o.type el e' i2 S.und B.info b n E c' O ⟨b2,T,none⟩ k cy news (by rw [B.size];exact F) m K hroom M;rw [B.size] at hr M
       have b6:=J (by rw [ex,W];exact hr);have Y:b ∈ Y7 (η Q):=by rw [hu];simp [Y7];omega
       refine Q2T h hd hdn hR (Z:=fun x=>x=b) b6 (Z3n w b _) rfl (fun x hx=>⟨Q,by simp,by rw [hs];simp,by rw [hx];exact Y⟩) U (fun x hx=>.inr ⟨Q,by simp,by rw [hs];simp,by simp [Y7] at hx;rw [hx.2];exact Y⟩) fun X' G=>?_
       refine .arr b (n+k) E te.size _ e' _ (setRow_heap w b c' _ e' _ O) (by rw [(Z0F c' (n*te.size) news M).1];exact hsz) hroom hm hc (fun i D=>?_) ?_
       ·unfold Q5w
        by_cases h3:i<n
        ·rw [if_pos h3];exact hl i h3
        ·rw [if_neg h3];exact hgl _ (by omega)
       ·refine Y6v (olds:=c'.toList.take (n*te.size)) (news:=news) ?_ I (fun i j D r=>(a1 i j D r).mono G) (fun i j D r=>(q i j D r).mono G)
        have b8:(c'.toList.take (n*te.size)++news).length=(n+k)*te.size:=by rw [List.length_append,I,F,Nat.add_mul]
        rw [<-b8];exact List.take_left
      ·have a7:∀ j u,(c'.toList.take (n*te.size))[j]?=some u->w.cell? ((⟨b,0,none⟩:Addr).add j)=some u:=by
        intro j u r;rw [List.getElem?_take] at r
        split at r
        ·rw [add_lit,Nat.zero_add,cell_of_row w b j c' e' (0,0) O];simpa using r
        ·cases r
       exact Q4Z hL h hd hdn hR hop ht hk hte hby hzl U hlim ex (by omega) (fun hh=>by cases hh) I (fun b0 a8=>by cases a8;exact a7) W F m (by omega) hl hgl a1 q
   ·cases hx
  ·cases hx
 ·
  rename_i n' f' e1
  split at hx
  ·rename_i d9
   cases hx
   have A:=(W3 h x).1;rw [e1] at A
   generalize hex:a.eval x=u at A;have c7:∃ l,u=.slice l n n/\DRep w (XS C s η) (.slice l n n) (.lst n f):=by
    cases A with|v _ _ A=>cases A with|c _ _ A=>cases A with|fl l _ _ A=>exact ⟨l,rfl,A⟩
   obtain ⟨l,rfl,b5⟩:=c7
   by_cases hk0:k=0
   ·subst hk0
    have b1:n=0:=by omega
    subst b1;exact Q2T h hd hdn hR (del:=[]) (Z:=fun _=>False) (v:=.slice l 0 0) (w':=w) (J (by rw [hex,W];exact Z9C t o.type S.und B.info l 0 0 (Nat.le_refl _) ad cy)) (Stp.refl _ _) rfl (fun b O=>O.elim)
     (fun i' p=>by cases p) (fun b O=>by cases l <;> simp [Y7] at O) fun X' _=>.nil _ _ _
   ·obtain ⟨b2,T,a9,news,F,m,K,q⟩:=Y5V hk0 V hgl
    subst a9
    cases b5 with
    | nil _ _ _=>
     exact Q4Z hL h hd hdn hR hop ht hk hte hby hzl (fun i' p=>by cases p) hlim hex (by omega) (fun _=>⟨rfl,rfl⟩) (olds:=[]) (by simp) (fun _ _ j u r=>by simp at r) W F m (by omega)
      (fun i D=>by omega) hgl (fun i j D=>by omega) q
    | lst b off _ _ c' e' fz _ b7 q1 q2 q3 q4 q5 q6=>
     by_cases b1:n=0
     ·subst b1
      exact Q4Z hL h hd hdn hR hop ht hk hte hby hzl (fun i' p=>by cases p) hlim hex (by omega) (fun hh=>by cases hh) (olds:=[]) (by simp) (fun _ _ j u r=>by simp at r) W F m (by omega)
       (fun i D=>by omega) hgl (fun i j D=>by omega) q
     have c6:b7=te.size:=by rw [<-q5 0 (by omega),hc0 0 (by omega)]
     subst c6;have hv:∀ j,j<n*te.size->(Q8E c' off (n*te.size)).getD j undef=c'.getD (off+j) undef:=fun j r=>by simp [Q8E,List.getD_eq_getElem?_getD,r]
     refine Q4Z hL h hd hdn hR hop ht hk hte hby hzl (fun i' p=>by cases p) hlim hex (by omega) (fun hh=>by cases hh) (olds:=Q8E c' off (n*te.size)) (by simp [Q8E]) (fun b0 a8 j u r=>?_) W F m (by omega)
      q5 hgl (fun i j D r=>?_) q
     ·cases a8
      simp only [Q8E,List.getElem?_map] at r
      by_cases hjj:j<n*te.size
      ·rw [List.getElem?_range hjj] at r
       cases r
       rw [add_lit];exact Z8g q2 _ (by omega)
      ·rw [List.getElem?_eq_none (by simp;omega)] at r;cases r
     ·have b3:i*te.size+j<n*te.size:=by
       have:(i+1)*te.size<=n*te.size:=Nat.mul_le_mul_right _ D
       rw [Nat.add_mul,Nat.one_mul] at this;omega
      rw [hv _ b3];exact q6 i j D r
  ·cases hx
 ·cases hx
end
end
section
section
variable {P:Program} {L:Lay} {C:Ctx} {nt:Nat} {R:Nat->Prop} {η:Nat->Value} {e:Env} {s:Sto} {a:Act} {w:World}
theorem Z4C {α:Type} (n:Nat) (xs:List α):(Y0G n xs).length=n*xs.length:=by
 induction n with
 | zero=>simp [Y0G]
 | succ n ih=>simp [Y0G,ih,Nat.add_mul];omega
theorem Y6J {α:Type} (n:Nat) (xs:List α) (d:α) (i:Nat) (h:i<n*xs.length):(Y0G n xs).getD i d=xs.getD (i % xs.length) d:=by
 induction n generalizing i with
 | zero=>simp at h
 | succ n ih=>
  rw [Nat.add_mul,Nat.one_mul] at h
  by_cases h1:i<xs.length
  ·simp [Y0G,List.getD_eq_getElem?_getD,List.getElem?_append,h1,Nat.mod_eq_of_lt h1]
  ·have:=ih (i-xs.length) (by omega)
   have b:(i-xs.length) % xs.length=i % xs.length:=by rw [<-Nat.mod_eq_sub_mod (by omega)]
   rw [b] at this;rw [<-this]
   simp [Y0G,List.getD_eq_getElem?_getD,List.getElem?_append,h1]
theorem Z2f (n:Nat) (f:Nat->Value) (j:Nat) (hj:j<n):((Array.range n).map f).getD j undef=f j:=by
 have h:j<((Array.range n).map f).size:=by simpa using hj
 have:((Array.range n).map f).getD j undef=((Array.range n).map f)[j]:=by simp only [Array.getD,h,dite_true];rfl
 rw [this];simp
theorem Z2e (f:Nat->Value):(Array.range 0).map f=#[]:=Array.eq_empty_of_size_eq_zero (by simp)
theorem Y6z {X:Nat->Prop} {z:Array Value} {zs:List CV} (h:z6 w X η C z zs) (len:Nat):z6 w X η C ((Array.range (len*zs.length)).map (z[· % z.size]!)) (Y0G len zs):=by
 refine ⟨by simp [Z4C],fun j c=>?_⟩;rw [Z4C] at c
 rw [Y6J _ _ _ _ c];have b:0<zs.length:=by rcases Nat.eq_zero_or_pos zs.length with d|d;simp [d] at c;exact d
 have f:=Nat.mod_lt j b;have:=h.2 _ f
 have g:((Array.range (len*zs.length)).map (z[· % z.size]!)).getD j undef=z.getD (j % zs.length) undef:=by
  have:j % z.size<z.size:=by rw [h.1];exact f
  rw [Z2f _ _ _ c, <-h.1];simp [this]
 rw [g];exact this
theorem Y0D {t:TypeId} {ti:TI} {i:TypeInfo} {el:TypeId} {z:Value} (hti:TIOk P t ti i (.slice el) z) {te:TI} {i2:TypeInfo} {d2:TypeDesc} {z2:Value} (hte:TIOk P el te i2 d2 z2) (len:Nat) (hl:len*te.size<=16777216)
  {Z9v:Array (Nat×Value)} {cells:Array Value} (hf:Instr.fill (fun i=>some (i*te.size,te.size)) ((Array.range (len*te.size)).map (z2.cells[· % z2.cells.size]!)) Z9v.toList=some cells) :
  (Instr.buildSlice t len Z9v).run P w=.ok (.slice (some ⟨w.heap.size,0,none⟩) len len) { w with heap:=w.heap.push (.cells cells el) }:=by
 have b:¬ (16777216<len*te.size):=by omega
 by_cases h0:len*te.size=0
 ·rw [h0,Z2e] at hf
  simp only [Instr.buildSlice,Sem.run_bind,run_underlying hti.und,Result.andThen_ok,K7 hte,gt_iff_lt,Nat.reducePow,h0,if_true,Sem.run_pure,Sem.run_ite,Z2e];rw [hf]
  simp [newRow]
 ·simp only [Instr.buildSlice,Sem.run_bind,run_underlying hti.und,Result.andThen_ok,K7 hte,b,gt_iff_lt,Nat.reducePow,if_false,h0,Sem.run_pure,Sem.run_ite,Q9i hte]
  rw [hf];simp [newRow]
theorem Z6J {X:Nat->Prop} {c:Array Value} {cs:List CV} {ds:List DVal} (h:z6 w X η C c cs) (hd:Y0q cs=some ds):ds.length=c.size/\∀ j,j<ds.length->DRep w X (c.getD j undef) (ds.getD j .any):=by
 obtain ⟨f,d⟩:=Y5J cs ds c 0 hd (fun j b=>by rw [Nat.zero_add];exact h.2 j b);exact ⟨by rw [f,h.1],fun j b=>by have:=d j b;rwa [Nat.zero_add] at this⟩
theorem W0I (ds:List DVal) (es i j:Nat) (hj:j<es):(((ds.drop (i*es)).take es)).getD j .any=ds.getD (i*es+j) .any:=Q8n ds (i*es) es j .any hj
theorem Y0B (hL:LOk P L) (h:Conc C nt R η e s a w) {o:Oper} (hdn:∀ x,o.dst=some x->x<nt) {t:TypeId} {len:Nat} {ps:Array (Nat×Operand)} (hop:o.op=.buildSlice t len ps)
  {ti:TI} (ht:L t=some ti) {el:Nat} (hk:ti.kind=.slice el) {te:TI} (hte:L el=some te) (hle:len*te.size<=16777216) (hzl:te.zero.length=te.size)
  {cs:List CV} (hf:Z6B (fun i=>some (i*te.size,te.size)) (Y0G len te.zero) (ps.toList.map fun p=>(p.1,aev e p.2))=some cs) {ds:List DVal} (hds:Y0q cs=some ds) :
  Snd P C nt R η e s a w o { v:=.v (.c (.d (.lst len fun i=>(ds.drop (i*te.size)).take te.size))) } /\
  ∀ d,o.dst=some d->¬ R d->0<te.size->Snd P C nt R η e s a w o { v:=.v (.c (.own d)),new:=some (.arr te.size len fun i=>(ds.drop (i*te.size)).take te.size) }:=by
 obtain ⟨i,dd,z,J⟩:=hL t ti ht;obtain ⟨i2,d2,z2,l⟩:=hL el te hte
 have n:=J.kind;rw [hk] at n
 simp only [KOk] at n;subst n
 obtain ⟨m1,m2,_⟩:=Y8q h ps;have hz:=l.zrep w (XS C s η) η C
 have a5:z2.cells.size=te.size:=by rw [hz.1,hzl]
 have F:=Y6z hz len;rw [hzl] at F
 obtain ⟨K,y,m,_⟩:=Y6g _ _ _ _ _ hf F m1 m2;have M:=Y0D (w:=w) J l len hle y
 have f:(execOp a.eval o).run P w=.ok (.value (.slice (some ⟨w.heap.size,0,none⟩) len len)) { w with heap:=w.heap.push (.cells K el) }:=by
  simp only [execOp,hop,Sem.run_bind];rw [M];rfl
 obtain ⟨D,W⟩:=Z6J m hds;have k:ds.length=len*te.size:=by
  have:=m.1
  have T:cs.length=(Y0G len te.zero).length:=by
   have V:∀ (ps:List (Nat×AVal)) (pl:Nat->Option (Nat×Nat)) (O cs:List CV),Z6B pl O ps=some cs->cs.length=O.length:=by
    intro ps pl
    induction ps with
    | nil=>intro O cs h;cases h;rfl
    | cons p r ih=>
     intro O cs h;obtain ⟨i,x⟩:=p
     simp only [Z6B] at h;split at h
     ·split at h
      ·rename_i a2;rw [ih _ _ h,Q2S _ _ _ (by omega)]
      ·cases h
     ·cases h
   exact V _ _ _ _ hf
  rw [D,this,T,Z4C,hzl]
 have N:∀ i,i<len->((ds.drop (i*te.size)).take te.size).length=te.size:=by
  intro i B;have:(i+1)*te.size<=len*te.size:=Nat.mul_le_mul_right _ B
  rw [Nat.add_mul,Nat.one_mul] at this;simp;omega
 have G:∀ i j,i<len->j<te.size->DRep w (XS C s η) (K.getD (i*te.size+j) undef) (((ds.drop (i*te.size)).take te.size).getD j .any):=by
  intro i j B q;have:(i+1)*te.size<=len*te.size:=Nat.mul_le_mul_right _ B
  rw [Nat.add_mul,Nat.one_mul] at this;rw [W0I _ _ _ _ q];exact W _ (by omega)
 have S:Q6Z w { w with heap:=w.heap.push (.cells K el) } (XS C s η) (XS C s η):=fun b g hX=>⟨by show (w.heap.push _)[b]?=_;rw [Array.getElem?_push,if_neg (by omega)],hX⟩
 have Y:¬ XS C s η w.heap.size:=by
  rintro (⟨hx,_⟩|hx)
  ·have:=h.ok.lt _ hx;have:=h.fr.size;omega
  ·have:=h.lt hx;omega
 refine ⟨?_,fun d Q hR E=>?_⟩
 ·refine ⟨_,_,.inl f,?_⟩
  have H:∀ v,SR.eta { v:=.v (.c (.d (.lst len fun i=>(ds.drop (i*te.size)).take te.size))) } o.dst v η=η:=fun v=>by funext i;simp [SR.eta]
  have I:SR.sto { v:=.v (.c (.d (.lst len fun i=>(ds.drop (i*te.size)).take te.size))) } o.dst s=s:=by funext i;simp [SR.sto]
  refine h.step o.dst hdn _ _ _ (fun _=>False) (Stp.alloc _ w _) (fun b g=>g.elim) (fun _ _ U=>by cases U) (fun _ _ U=>by cases U) fun _=>?_
  rw [H,I];refine ⟨.v _ _ (.c _ _ (.d _ _ ?_)),fun j q=>by simp [AVal.refs,TV.refs,CV.refs] at q⟩
  refine .lst w.heap.size 0 len len K el (0,0) _ te.size Y (by simp) (Nat.le_refl _) (by rw [Nat.zero_add, <-D,k];exact Nat.le_refl _) N fun i j B q=>?_
  rw [Nat.zero_add];exact (G i j B q).mono S
 ·by_cases hl0:len=0
  ·subst hl0
   exact Q2T h Q (hdn d Q) hR (del:=[]) (Z:=fun _=>False) f (Stp.alloc _ w _) rfl (fun b g=>g.elim) (fun i' u=>by cases u) (fun b g=>by simp [Y7] at g) fun X' _=>.nil _ _ _
  ·refine Q2T h Q (hdn d Q) hR (del:=[]) (Z:=fun _=>False) f (Stp.alloc _ w _) rfl (fun b g=>g.elim) (fun i' u=>by cases u) (fun b g=>.inl (by simp [Y7] at g;omega)) fun X' A=>?_
   refine .arr w.heap.size len len te.size K el _ (by simp) (by rw [<-D,k]) (Nat.le_refl _) ?_ (by omega) N fun i j B q=>(G i j B q).mono A
   have:len*1<=len*te.size:=Nat.mul_le_mul_left _ E
   simp only [maxLen];omega
theorem Y1J (hL:LOk P L) (h:Conc C nt R η e s a w) {o:Oper} {d:Nat} (hd:o.dst=some d) (hdn:d<nt) (hR:¬ R d) {t:TypeId} {l c:Operand} (hop:o.op=.makeSlice t l c)
  {ti:TI} (ht:L t=some ti) {el:Nat} (hk:ti.kind=.slice el) {te:TI} (hte:L el=some te) {n n' : Int} (hl:asI (aev e l)=some n) (hc:asI (aev e c)=some n') (h0:0<te.size) (hby:te.bytes<=8192) (hzl:te.zero.length=te.size)
  {zd:List DVal} (hz:Y0q te.zero=some zd) {c0:Prop} (hn:0<=n/\n=n' /\ n<=LIM):Snd P C nt R η e s a w o { v:=.v (.c (.own d)),new:=some (.arr te.size n.toNat fun _=>zd),cond:=c0 }:=by
 obtain ⟨i,dd,z,B⟩:=hL t ti ht;obtain ⟨i2,d2,F,f⟩:=hL el te hte
 have u:=B.kind;rw [hk] at u
 simp only [KOk] at u;subst u
 obtain ⟨Q,rfl,D⟩:=hn;have p:∀ {y:Operand} {m:Int},asI (aev e y)=some m->∃ k,a.eval y=.int k m:=by
  intro y m G;unfold asI at G
  split at G
  ·rename_i k m' M
   cases G
   have I:=(W3 h y).1;rw [M] at I
   exact ⟨k,Q5M I⟩
  ·cases G
 obtain ⟨k1,M⟩:=p hl;obtain ⟨k2,Y⟩:=p hc
 have hw:IntKind.i64.wrap n=n:=Y3s ⟨by omega,by simp only [LIM] at D;omega⟩;have r:(te.bytes:Int)*n<=2 ^ 48:=by
  have hh:te.bytes*n.toNat<=8192*4294967296:=Nat.mul_le_mul hby (by simp only [LIM] at D;omega);have:(te.bytes:Int)*n=((te.bytes*n.toNat:Nat):Int):=by rw [Int.natCast_mul,Int.toNat_of_nonneg Q]
  rw [this];omega
 have q:F.cells.size=te.size:=by rw [(f.zrep w (XS C s η) η C).1,hzl]
 have T:(decide (n<0)||decide ((te.bytes:Int)*n > 2 ^ 48))=false:=by simp;omega
 have g:∃ J,(execOp a.eval o).run P w=.ok (.value (.slice (some ⟨w.heap.size,0,none⟩) n.toNat n.toNat)) { w with heap:=w.heap.push (.cells J el) } /\ J.size=n.toNat*te.size/\∀ j,j<n.toNat*te.size->J.getD j undef=F.cells.getD (j % te.size) undef:=by
  by_cases hz0:n.toNat*te.size=0
  ·have W:n.toNat=0:=by rcases Nat.mul_eq_zero.1 hz0 with I|I;exact I;omega
   have O:n=0:=by omega
   subst O;refine ⟨#[],?_,by simp,fun j H=>by simp at H⟩
   simp [execOp,hop,Instr.makeSlice,M,Y,asInt,asIntOf,run_underlying B.und,typeInfo,f.info,newRow,IntKind.wrap,IntKind.bits,IntKind.signed,K7 f,Z2e]
  ·refine ⟨(Array.range (n.toNat*te.size)).map (F.cells[· % F.cells.size]!),?_,by simp,fun j H=>?_⟩
   ·have E:¬ n<0:=by omega
    have U:¬ (281474976710656:Int)<(te.bytes:Int)*n:=by omega
    simp [execOp,hop,Instr.makeSlice,M,Y,asInt,asIntOf,run_underlying B.und,typeInfo,f.info,f.bytes,newRow,hw,E,U,K7 f,Q9i f,hz0]
   ·have:j % F.cells.size<F.cells.size:=by rw [q];exact Nat.mod_lt _ h0
    rw [Z2f _ _ _ H, <-q];simp [this]
 obtain ⟨J,g,S,V⟩:=g;obtain ⟨K,N⟩:=Z6J (f.zrep w (XS C s η) η C) hz
 by_cases hl0:n.toNat=0
 ·rw [hl0] at g ⊢
  exact Q2T h hd hdn hR (del:=[]) (Z:=fun _=>False) g (Stp.alloc _ w _) rfl (fun b r=>r.elim) (fun i' x=>by cases x) (fun b r=>by simp [Y7] at r) fun X' _=>.nil _ _ _
 ·refine Q2T h hd hdn hR (del:=[]) (Z:=fun _=>False) g (Stp.alloc _ w _) rfl (fun b r=>r.elim) (fun i' x=>by cases x) (fun b r=>.inl (by simp [Y7] at r;omega)) fun X' A=>?_
  refine .arr w.heap.size n.toNat n.toNat te.size J el _ (by simp) S (Nat.le_refl _) (by simp only [maxLen];simp only [LIM] at D;omega) (by omega) (fun i _=>by rw [K,q]) fun i j hi H=>?_
  have E:i*te.size+j<n.toNat*te.size:=by
   have:(i+1)*te.size<=n.toNat*te.size:=Nat.mul_le_mul_right _ hi
   rw [Nat.add_mul,Nat.one_mul] at this;omega
  rw [V _ E];have G:(i*te.size+j) % te.size=j:=by rw [Nat.add_comm,Nat.add_mul_mod_self_right,Nat.mod_eq_of_lt H]
  rw [G];exact (N j (by rw [K,q];exact H)).mono A
end
end
section
section
variable {P:Program} {L:Lay} {C:Ctx} {nt:Nat} {R:Nat->Prop} {η:Nat->Value} {e:Env} {s:Sto} {a:Act} {w:World}
theorem Z9m (h:Conc C nt R η e s a w) {y:Operand} {m:Int} (hm:asI (aev e y)=some m):∃ k,a.eval y=.int k m:=by
 unfold asI at hm;split at hm
 ·rename_i k d c
  cases hm
  have b:=(W3 h y).1;rw [c] at b
  exact ⟨k,Q5M b⟩
 ·cases hm
theorem Y5R (hL:LOk P L) {X:Nat->Prop} {vs:Array Value} {cs:List CV} (h:z6 w X η C vs cs) {t off:Nat} {ti:TI} (ht:L t=some ti) (ho:off+ti.size<=cs.length) {v:AVal} (hv:mkT ti.kind.agg ((cs.drop off).take ti.size)=some v) :
  ∃ u,(part t vs off).run P w=.ok u w/\ARep w X η C u v/\∀ j ∈ v.refs,j ∈ cs.flatMap CV.refs:=by
 obtain ⟨i,d,z,k⟩:=hL t ti ht;have x:=h.1
 unfold mkT at hv;split at hv
 ·rename_i p
  cases hv
  refine ⟨.agg (vs.extract off (off+ti.size)),?_,.v _ _ (.g _ _ ⟨by simp;omega,fun j l=>?_⟩),fun j l=>Z3w _ _ _ j (Z3v _ _ _ j l)⟩
  ·simp only [part,Sem.run_bind,Z5z k,Result.andThen_ok,p,if_true,K7 k,Sem.run_pure]
  ·have m : j<ti.size:=by simp at l;omega
   rw [Q8n _ _ _ _ _ m];have f:off+j<vs.size:=by omega
   have:(vs.extract off (off+ti.size)).getD j undef=vs.getD (off+j) undef:=by
    have r:j<min (off+ti.size) vs.size-off:=by omega
    simp [f,r]
   rw [this];exact h.2 _ (by omega)
 ·rename_i p
  split at hv
  ·rename_i y n
   cases hv
   have b:((cs.drop off).take ti.size).length=ti.size:=by simp;omega
   rw [n] at b;have A:ti.size=1:=by simpa using b.symm
   have f:off<vs.size:=by omega
   refine ⟨vs.getD off undef,?_,.v _ _ (.c _ _ ?_),fun j l=>?_⟩
   ·simp [part,Z5z k,p,f]
   ·have:=h.2 off (by omega)
    have o:cs.getD off (.d .any)=y:=by
     have q:=Q8n cs off ti.size 0 (.d .any) (by omega);rw [n] at q;simpa using q.symm
    rwa [o] at this
   ·refine Z3w _ _ off j (Z3v _ _ ti.size j ?_)
    rw [n];simpa [AVal.refs,TV.refs] using l
  ·cases hv
theorem Y7e (h:Conc C nt R η e s a w):∀ (xs:List Operand) (ids:List Nat),Q9f.cloIds (xs.map (aev e))=some ids->xs.map a.eval=ids.map η/\∀ j ∈ ids,R j:=by
 intro xs
 induction xs with
 | nil=>intro ids c;cases c;exact ⟨rfl,by simp⟩
 | cons x r ih=>
  intro ids c;obtain ⟨l,n⟩:=W3 h x
  rw [List.map_cons] at c;unfold Q9f.cloIds at c
  split at c
  ·cases ‹_::_=[]›
  ·rename_i t q f
   injection f with f e2
   subst e2;split at c
   ·rename_i m d
    cases c
    obtain ⟨p,o⟩:=ih _ d;rw [f] at l n
    obtain ⟨b,i,g⟩:=Z7O l;refine ⟨by rw [List.map_cons,List.map_cons,p,i,g],fun j k=>?_⟩
    rcases List.mem_cons.1 k with rfl|k
    ·exact n _ (by simp [AVal.refs,TV.refs,CV.refs])
    ·exact o j k
   ·cases c
  ·cases c
theorem Y1l (h:Conc C nt R η e s a w) {x:Operand} {off:Nat} {v:AVal}
  (hv:(match aev e x with
     | .v (.c (.ptr id o))=>some ({ v:=.v (.c (.ptr id (o+off))) }:SR)
     | .v (.c (.pte id es idx o))=>some { v:=.v (.c (.pte id es idx (o+off))) }
     | .v (.c (.elm cs))=>if off<=cs.length then some { v:=.v (.c (.elm (cs.drop off))) } else none
     | _=>none)=some { v:=v }) :
  (∀ b o',a.eval x=.pointer (some ⟨b,o',none⟩)->ARep w (XS C s η) η C (.pointer (some ⟨b,o' + off,none⟩)) v)/\(∀ j ∈ v.refs,R j)/\∃ b o',a.eval x=.pointer (some ⟨b,o',none⟩):=by
 obtain ⟨i,l⟩:=W3 h x;split at hv
 ·rename_i id o k
  cases hv
  rw [k] at i l;obtain ⟨b,d,g⟩:=Z7O i
  exact ⟨fun r o' f=>by rw [d] at f;cases f;exact Y2W _ g,fun j q=>l j (by simpa [AVal.refs,TV.refs,CV.refs] using q),b,o,d⟩
 ·rename_i id es idx o k
  cases hv
  rw [k] at i l;obtain ⟨b,n,p,d,g⟩:=Y2X i
  exact ⟨fun r o' f=>by rw [d] at f;cases f;rw [Nat.add_assoc];exact .v _ _ (.c _ _ (.pte b n p _ _ _ _ g)),fun j q=>l j (by simpa [AVal.refs,TV.refs,CV.refs] using q),b,_,d⟩
 ·rename_i cs k
  split at hv
  ·rename_i m
   cases hv
   rw [k] at i;obtain ⟨b,o,c,B,A,d,t,z,u,y⟩:=Y6m i
   exact ⟨fun r o' f=>by rw [d] at f;cases f;exact Y8r _ t z u y off m,by simp [AVal.refs,TV.refs,CV.refs],b,o,d⟩
  ·cases hv
 ·cases hv
theorem Z9D (hL:LOk P L) (h:Conc C nt R η e s a w) {o:Oper} (hd:∀ x,o.dst=some x->x<nt) {t:TypeId} {x i:Operand} (hop:o.op=.indexAddr t x i) {ti:TI} (ht:L t=some ti) {el:Nat} (hk:ti.kind=.slice el)
  {te:TI} (hte:L el=some te) {m:Int} (hi:asI (aev e i)=some m) {n:Nat} {f:Nat->List DVal} (hx:Q9f.asF (aev e x)=some (n,f)) (hf:(f m.toNat).length=te.size) {c:Prop} (hc:0<=m/\m<n) :
  Snd P C nt R η e s a w o { v:=.v (.c (.elm (f m.toNat))),cond:=c }:=by
 obtain ⟨G,A,I,p⟩:=hL t ti ht;obtain ⟨E,B,D,l⟩:=hL el te hte
 have g:=p.kind;rw [hk] at g
 simp only [KOk] at g;subst g
 obtain ⟨k,z⟩:=Z9m h hi;obtain ⟨F,y,u,d⟩:=Y5B (W3 h x).1 hx
 rw [u] at d
 cases d with
 | nil=>omega
 | lst b off _ _ c' e' fz _ es h1 h2 h3 h4 h5 h6=>
  have r:es=te.size:=by rw [<-h5 m.toNat (by omega),hf]
  subst r;have q:m.toNat*te.size+te.size<=n*te.size:=by
   have:(m.toNat+1)*te.size<=n*te.size:=Nat.mul_le_mul_right _ (by omega)
   rwa [Nat.add_mul,Nat.one_mul] at this
  refine G3 h hd (v:=.pointer (some ⟨b,off+m.toNat*te.size,none⟩)) ?_ (.v _ _ (.c _ _ (.elm b _ c' e' fz _ h1 h2 (by rw [hf];omega) fun j H=>?_))) (by simp [AVal.refs,TV.refs,CV.refs])
  ·simp [execOp,hop,Instr.indexAt,z,u,asIntOf,run_underlying p.und,hc,K7 l,add_lit]
  ·have:=h6 m.toNat j (by omega) (by omega)
   rwa [<-Nat.add_assoc] at this
theorem Y2S (hL:LOk P L) (h:Conc C nt R η e s a w) {o:Oper} (hd:∀ x,o.dst=some x->x<nt) {t:TypeId} {x i:Operand} (hop:o.op=.indexAddr t x i) {ti:TI} (ht:L t=some ti) {el:Nat} (hk:ti.kind=.slice el)
  {te:TI} (hte:L el=some te) {m:Int} (hi:asI (aev e i)=some m) {id:Nat} (hx:aev e x=.v (.c (.own id))) {n:Nat} {f:Nat->List DVal} (hs:s id=some (.arr te.size n f)) {c:Prop} (hc:0<=m/\m<n) :
  Snd P C nt R η e s a w o { v:=.v (.c (.pte id te.size m.toNat 0)),cond:=c }:=by
 obtain ⟨G,B,H,p⟩:=hL t ti ht;obtain ⟨F,D,E,l⟩:=hL el te hte
 have d:=p.kind;rw [hk] at d
 simp only [KOk] at d;subst d
 obtain ⟨k,z⟩:=Z9m h hi;obtain ⟨q,y⟩:=W3 h x
 rw [hx] at q y;have r:=Q6H q
 have g:=h.st id _ hs;generalize hu:η id=u at g r
 cases g with
 | nil=>omega
 | arr b _ cap _ c' e' _ hb hsz hn hm hc0 hl hel=>
  refine G3 h hd (v:=.pointer (some ⟨b,m.toNat*te.size+0,none⟩)) ?_ (.v _ _ (.c _ _ (.pte b n cap _ _ _ _ hu))) (fun j A=>y j (by simpa [AVal.refs,TV.refs,CV.refs] using A));simp [execOp,hop,Instr.indexAt,z,r,asIntOf,run_underlying p.und,hc,K7 l,add_lit]
theorem Y2T (hL:LOk P L) (h:Conc C nt R η e s a w) {o:Oper} (hd:∀ x,o.dst=some x->x<nt) {t:TypeId} {x i:Operand} (hop:o.op=.indexAddr t x i) {ti:TI} (ht:L t=some ti) {n el:Nat} (hk:ti.kind=.array n el)
  {te:TI} (hte:L el=some te) {m:Int} (hi:asI (aev e i)=some m) {id off:Nat} (hx:aev e x=.v (.c (.ptr id off))) (hc:0<=m/\m<n) :
  Snd P C nt R η e s a w o { v:=.v (.c (.ptr id (off+m.toNat*te.size))) }:=by
 obtain ⟨E,z,F,g⟩:=hL t ti ht;obtain ⟨D,A,B,f⟩:=hL el te hte
 have d:=g.kind;rw [hk] at d
 simp only [KOk] at d;subst d
 obtain ⟨k,q⟩:=Z9m h hi;obtain ⟨l,p⟩:=W3 h x
 rw [hx] at l p;obtain ⟨b,r,y⟩:=Z7O l
 refine G3 h hd (v:=.pointer (some ⟨b,off+m.toNat*te.size,none⟩)) ?_ (Y2W _ y) (fun j u=>p j (by simpa [AVal.refs,TV.refs,CV.refs] using u));simp [execOp,hop,Instr.indexAt,q,r,asIntOf,run_underlying g.und,hc,K7 f,add_lit,Instr.sureAddr]
end
end
section
section
variable {P:Program} {L:Lay} {C:Ctx} {nt:Nat} {R:Nat->Prop} {η:Nat->Value} {e:Env} {s:Sto} {a:Act} {w:World}
theorem Y3e {α β:Type} {f:α->β} {l:List α} {u v:β} (h:l.map f=[u,v]):∃ x y,l=[x,y]/\f x=u/\f y=v:=by
 match l,h with
 | [],h=>simp at h
 | [_],h=>simp at h
 | [x,y],h=>simp at h;exact ⟨x,y,rfl,h.1,h.2⟩
 | _::_::_::_,h=>simp at h
theorem Y6w (hL:LOk P L) (h:Conc C nt R η e s a w) (m:Bool) (o:Oper) (hd:∀ x,o.dst=some x->x<nt) {r:SR} (hr:Q9f L m e s o=some r) (hc:r.cond) (hR:∀ d,o.dst=some d->r.new≠none->¬ R d)
  (hst:∀ t x y,o.op=.store t x y->o.dst=none):Snd P C nt R η e s a w o r:=by
 unfold Q9f at hr;split at hr
 ·
  rename_i x p
  cases hr
  exact Y3F h hd (.inl p)
 ·
  rename_i x p
  split at hr
  ·cases hr
   exact Y3F h hd (.inr p)
  ·rename_i f d G A
   split at hr
   ·rename_i el Y H zz F
    split at hr
    ·rename_i te D
     cases hr
     have N:=(W3 h x).1;rw [G] at N
     have e4:∃ ad,a.eval x=.slice ad 0 0:=by
      generalize a.eval x=u at N
      cases N with|v _ _ N=>cases N with|c _ _ N=>cases N with|fl ad _ _ N=>exact ⟨ad,rfl⟩
     obtain ⟨ad,ex⟩:=e4;exact Q2T h A (hd d A) (hR d A (by simp)) (del:=[]) (v:=.slice ad 0 0) (Z:=fun _=>False) (by simp [execOp,p,ex]) (Stp.refl _ _) rfl (fun b I=>I.elim) (fun i hi=>by cases hi) (fun b I=>by cases ad <;> simp [Y7] at I) (fun X' _=>.nil _ _ _)
    ·cases hr
   ·cases hr
  ·cases hr
 ·
  rename_i c x y p
  split at hr
  ·rename_i I;cases hr;exact Y3D h hd p I
  ·rename_i I;cases hr;exact Y3D h hd p I
  ·cases hr
 ·
  rename_i t p
  split at hr
  ·rename_i ti d F A
   cases hr
   exact Y6F hL h A (hd d A) (hR d A (by simp)) p F
  ·cases hr
 ·
  rename_i t x p
  split at hr
  ·rename_i xs d G A
   cases hr
   exact Y9r h A (hd d A) (hR d A (by simp)) p G
  ·cases hr
 ·
  rename_i t ps p
  split at hr
  ·rename_i fs Y H z F
   split at hr
   ·rename_i pl j1
    split at hr
    ·rename_i cs O
     cases hr
     exact Y2k hL h hd p F (.inl ⟨fs,pl,rfl,j1,rfl⟩) O
    ·cases hr
   ·cases hr
  ·rename_i n el Y H z F
   split at hr
   ·rename_i te D
    split at hr
    ·rename_i cs O
     cases hr
     exact Y2k hL h hd p F (.inr ⟨n,el,te,rfl,D,rfl⟩) O
    ·cases hr
   ·cases hr
  ·cases hr
 ·
  rename_i t h4 ps p
  split at hr
  ·rename_i el Y H z F
   split at hr
   ·rename_i te D
    split at hr
    ·rename_i a9
     split at hr
     ·rename_i cs O
      split at hr
      ·rename_i ds g6
       obtain ⟨B,K⟩:=Y0B hL h hd p F rfl D a9.1 a9.2.1 O g6;split at hr
       ·cases hr;exact B
       ·rename_i d A
        cases hr
        exact K d A (hR d A (by simp)) a9.2.2
       ·cases hr
      ·cases hr
     ·cases hr
    ·cases hr
   ·cases hr
  ·cases hr
 ·
  rename_i t x p
  split at hr
  ·rename_i ti F
   split at hr
   ·rename_i cs c h5
    split at hr
    ·rename_i v N
     cases hr
     exact Y7A hL h hd p F h5 N hc
    ·cases hr
   ·cases hr
  ·cases hr
 ·
  rename_i t x y p
  split at hr
  ·rename_i ti xs F hy
   split at hr
   ·rename_i i3
    exact Y6D hL h (hst t x y p) p F hy i3 hr hc
   ·cases hr
  ·cases hr
 ·
  rename_i x p
  obtain ⟨B,K⟩:=W3 h x;split at hr
  ·rename_i id a6 e1
   cases hr
   rw [e1] at B K;obtain ⟨b,W,d3⟩:=Z7O B
   exact G3 h hd (v:=a.eval x) (by simp [execOp,p,W]) B K
  ·rename_i id es l2 a6 e1
   cases hr
   rw [e1] at B K;obtain ⟨b,n,J,W,d3⟩:=Y2X B
   exact G3 h hd (v:=a.eval x) (by simp [execOp,p,W]) B K
  ·rename_i cs e1
   cases hr
   rw [e1] at B K;obtain ⟨b,a6,c,e',fz,W,_⟩:=Y6m B
   exact G3 h hd (v:=a.eval x) (by simp [execOp,p,W]) B K
  ·cases hr
 ·
  rename_i op t x y t' p
  exact Y9s h hd p hr hc
 ·
  rename_i op t x p
  exact W0G h hd p hr hc
 ·
  rename_i m0 dst x p
  split at hr
  ·rename_i k0 s1 b1 z1 k s2 b2 z2 k1 n c8 d5 G
   cases hr
   obtain ⟨i1,d1,g8,Q⟩:=hL _ _ c8;obtain ⟨i2,d2,j8,U⟩:=hL _ _ d5
   have b9:=Q.kind;have b6:=U.kind
   simp only [KOk] at b9 b6;subst b9;subst b6
   have B:=(W3 h x).1;rw [G] at B
   have ex:=Q5M B;obtain ⟨g1,_⟩:=Z5M m k n _ hc
   refine Z9Z h hd g1 hc ?_;simp [execOp,p,convert,run_underlying Q.und,run_underlying U.und,ex,Conv.intToInt]
  ·rename_i s1 b1 z1 s2 b2 z2 b c8 d5 G
   cases hr
   obtain ⟨i1,d1,g8,Q⟩:=hL _ _ c8;obtain ⟨i2,d2,j8,U⟩:=hL _ _ d5
   have b9:=Q.kind;have b6:=U.kind
   simp only [KOk] at b9 b6;subst b9;subst b6
   obtain ⟨B,K⟩:=W3 h x;rw [G] at B
   have ex:=Z3j B;refine G3 h hd (v:=.string b) ?_ (by rw [ex] at B;exact B) (by simp [AVal.refs,TV.refs,CV.refs])
   simp [execOp,p,convert,run_underlying Q.und,run_underlying U.und,ex]
  ·cases hr
 ·
  rename_i f d7 f5 p
  split at hr
  ·rename_i h7
   split at hr
   ·rename_i i8 e7
    cases hr
    obtain ⟨g1,g2⟩:=Y7e h _ _ e7;have h8:d7=#[]:=by simpa using h7
    subst h8;refine G3 h hd (v:=.func (.func f) #[] (f5.map a.eval)) (by simp [execOp,p,Instr.makeFunc]) (.v _ _ (.c _ _ (.clo f i8 _ ?_))) (fun j hj=>g2 j (by simpa [AVal.refs,TV.refs,CV.refs] using hj))
    rw [<-g1];exact Array.ext' (by simp)
   ·cases hr
  ·cases hr
 ·
  rename_i t x lo hi p
  split at hr
  ·rename_i el Y H z F
   split at hr
   ·rename_i te D
    split at hr
    ·rename_i y l u hl hu
     split at hr
     ·rename_i n f G
      cases hr
      exact Y6E hL h hd p F rfl D hl hu G hc.1 hc.2
     ·cases hr
    ·rename_i id u G hl hu
     split at hr
     ·rename_i es n f d hs A
      cases hr
      obtain ⟨i1,d1,z1,S⟩:=hL _ _ F;obtain ⟨i2,d2,z2,b0⟩:=hL _ _ D
      have V:=S.kind;simp only [KOk] at V
      subst V;have B:=(W3 h x).1
      rw [G] at B;have ex:=Q6H B
      have a1:=h.st id _ hs;have c6:0<=u/\u<=n:=hc
      have hn:∃ E J,η id=.slice E n J/\n<=J:=by
       generalize η id=v at a1
       cases a1 with
       | nil=>exact ⟨_,_,rfl,Nat.le_refl _⟩
       | arr b _ J _ c' e' _ _ _ hn _ _ _ _=>exact ⟨_,_,rfl,hn⟩
      obtain ⟨E,J,d8,hn⟩:=hn;obtain ⟨I,g1,g2,g3,g4⟩:=Z4x (P:=P) h hl hu n J hn f (by simpa [sl] using c6)
      simp only [Option.getD_none,Option.getD_some,Int.toNat_zero] at I g1 g2;have f7:E.map (fun x:Addr=>x.add 0)=E:=by cases E <;> simp [Addr.add]
      have d4:(execOp a.eval o).run P w=.ok (.value (.slice E u.toNat J)) w:=by
       have c7:(if J=0 then E else E.map (fun x:Addr=>x.add 0))=E:=by rw [f7];split <;> rfl
       simp only [execOp,p,Sem.run_bind,Instr.sliceAt,run_underlying S.und,Result.andThen_ok,Instr.slice,ex,d8,Option.map_none,I,K7 b0,Sem.run_pure,Nat.zero_mul,Nat.sub_zero];rw [c7]
      have j9:Y7 (.slice E u.toNat J)=Y7 (.slice E n J):=by cases E <;> rfl
      refine Q2T h A (hd d A) (hR d A (by simp)) (Z:=fun _=>False) d4 (Stp.refl _ _) rfl (fun b I=>I.elim) (fun i' f2 o' f6=>by simp at f2;subst f2;rw [hs] at f6;cases f6;rfl)
       (fun b I=>.inr ⟨id,by simp,by rw [hs];simp,by rw [d8, <-j9];exact I⟩) fun X' d0=>?_
      rw [d8] at a1;have:=a1.mono (η':=SR.eta { v:=.v (.c (.own d)),del:=[id],new:=some (.arr es u.toNat f),cond:=0<=u/\u<=n } o.dst (.slice E u.toNat J) η) d0 (by simp [Obj.refs]) (fun _ _=>rfl)
      cases this with
      | nil=>
       have h0:u.toNat=0:=by omega
       rw [h0];exact .nil _ _ _
      | arr b _ _ _ c' e' _ q1 q2 q3 q4 q5 q6 q7=>
       exact .arr b u.toNat J _ c' e' _ q1 q2 (by omega) q4 q5 (fun i hi=>q6 i (by omega)) fun i j hi hj=>q7 i j (by omega) hj
     ·cases hr
    ·cases hr
   ·cases hr
  ·cases hr
 ·
  rename_i t x G mx p
  split at hr
  ·rename_i el Y H z F
   split at hr
   ·rename_i te n f u u' D i7 hu hm
    split at hr
    ·rename_i g9
     obtain ⟨rfl,h0⟩:=g9;cases hr
     exact Y4L hL h hd p F rfl D hu hm h0 i7 hc.1 hc.2
    ·cases hr
   ·cases hr
  ·cases hr
 ·
  rename_i t x k p
  split at hr
  ·rename_i fs Y H z F
   split at hr
   ·rename_i a6 ft O
    split at hr
    ·rename_i tf d6
     split at hr
     ·cases hr
     ·rename_i hz
      have e8:∃ v,r={ v:=v }:=by
       split at hr
       ·cases hr;exact ⟨_,rfl⟩
       ·cases hr;exact ⟨_,rfl⟩
       ·split at hr
        ·cases hr;exact ⟨_,rfl⟩
        ·cases hr
       ·cases hr
      obtain ⟨v,rfl⟩:=e8;obtain ⟨g1,g2,g3⟩:=Y1l h hr
      exact Y1K hL h hd p F rfl O d6 hz g1 g2 g3
    ·cases hr
   ·cases hr
  ·cases hr
 ·
  rename_i t x k p
  split at hr
  ·rename_i fs Y H z F
   split at hr
   ·rename_i a6 ft cs O G
    split at hr
    ·rename_i tf d6
     split at hr
     ·rename_i a9
      split at hr
      ·rename_i v N
       cases hr
       obtain ⟨i1,d1,z1,S⟩:=hL _ _ F;have V:=S.kind
       obtain ⟨a3,rfl,i6⟩:=V;have j3 : ∃ f,a3[k]?=some f/\f.offset=a6/\f.type=ft:=by
        rw [<-i6,List.getElem?_map] at O
        cases b4:a3.toList[k]? with
        | none=>rw [b4] at O;cases O
        | some f=>rw [b4] at O;simp at O;exact ⟨f,by simpa using b4,O.1,O.2⟩
       obtain ⟨f,b4,rfl,rfl⟩:=j3;obtain ⟨B,K⟩:=W3 h x
       rw [G] at B K;have b8:∃ vs,a.eval x=.agg vs/\z6 w (XS C s η) η C vs cs:=by
        generalize a.eval x=u at B
        cases B with|v _ _ B=>cases B with|g vs _ B=>exact ⟨vs,rfl,B⟩
       obtain ⟨vs,ex,c9⟩:=b8;obtain ⟨u,g1,g2,g3⟩:=Y5R (P:=P) hL c9 d6 a9 N
       refine G3 h hd (v:=u) ?_ g2 (fun j hj=>K j (by simpa [AVal.refs,TV.refs] using g3 j hj));simp only [execOp,p,Sem.run_bind,Instr.field,run_underlying S.und,Result.andThen_ok,b4,ex,asAgg,Sem.run_pure,g1]
      ·cases hr
     ·cases hr
    ·cases hr
   ·cases hr
  ·cases hr
 ·
  rename_i t x i p
  split at hr
  ·rename_i el Y H z m' F hi
   split at hr
   ·rename_i te D
    split at hr
    ·rename_i id G
     split at hr
     ·rename_i es n f hs
      split at hr
      ·rename_i h9
       subst h9;cases hr
       exact Y2S hL h hd p F rfl D hi G hs hc
      ·cases hr
     ·cases hr
    ·split at hr
     ·rename_i n f G
      split at hr
      ·rename_i O
       cases hr
       exact Z9D hL h hd p F rfl D hi G O hc
      ·cases hr
     ·cases hr
   ·cases hr
  ·rename_i n el Y H z m' F hi
   split at hr
   ·rename_i te id a6 D G
    split at hr
    ·rename_i I
     cases hr
     exact Y2T hL h hd p F rfl D hi G I
    ·cases hr
   ·cases hr
  ·cases hr
 ·
  rename_i t x i p
  split at hr
  ·rename_i n el Y H z m' cs F hi G
   split at hr
   ·rename_i te D
    split at hr
    ·rename_i I
     obtain ⟨W,d3,i4⟩:=I;split at hr
     ·rename_i v N
      cases hr
      obtain ⟨i1,d1,z1,S⟩:=hL _ _ F;obtain ⟨i2,d2,z2,b0⟩:=hL _ _ D
      have V:=S.kind;simp only [KOk] at V
      subst V;obtain ⟨k,ei⟩:=Z9m h hi
      obtain ⟨B,K⟩:=W3 h x;rw [G] at B K
      have b8:∃ vs,a.eval x=.agg vs/\z6 w (XS C s η) η C vs cs:=by
       generalize a.eval x=u at B
       cases B with|v _ _ B=>cases B with|g vs _ B=>exact ⟨vs,rfl,B⟩
      obtain ⟨vs,ex,c9⟩:=b8;obtain ⟨u,g1,g2,g3⟩:=Y5R (P:=P) hL c9 D i4 N
      refine G3 h hd (v:=u) ?_ g2 (fun j hj=>K j (by simpa [AVal.refs,TV.refs] using g3 j hj));simp [execOp,p,Instr.index,ei,ex,asIntOf,run_underlying S.und,W,d3,K7 b0,g1]
     ·cases hr
    ·cases hr
   ·cases hr
  ·cases hr
 ·
  rename_i t l c p
  split at hr
  ·rename_i el Y H z n n' d F hl c6 A
   split at hr
   ·rename_i te D
    split at hr
    ·rename_i zd hz
     split at hr
     ·rename_i I
      cases hr
      exact Y1J hL h A (hd d A) (hR d A (by simp)) p F rfl D hl c6 I.1 I.2.1 I.2.2 hz hc
     ·cases hr
    ·cases hr
   ·cases hr
  ·cases hr
 ·
  rename_i x k p
  split at hr
  ·rename_i xs G
   split at hr
   ·rename_i v N
    cases hr
    obtain ⟨B,K⟩:=W3 h x;rw [G] at B K
    have b8:∃ us,a.eval x=.tuple us/\us.size=xs.length/\∀ j,j<xs.length->TRep w (XS C s η) η C (us.getD j undef) (xs.getD j (.c (.d .any))):=by
     generalize a.eval x=u at B
     cases B with|t us _ g1 g2=>exact ⟨us,rfl,g1,g2⟩
    obtain ⟨us,ex,g1,g2⟩:=b8;have hk:k<xs.length:=by
     rcases Nat.lt_or_ge k xs.length with h3|h3
     ·exact h3
     ·rw [List.getElem?_eq_none h3] at N;cases N
    have j6 : k<us.size:=by omega
    have h3:=g2 k hk;have j7 : xs.getD k (.c (.d .any))=v:=by rw [List.getD_eq_getElem?_getD,N];rfl
    rw [j7] at h3;refine G3 h hd (v:=us.getD k undef) ?_ (.v _ _ h3) (fun j hj=>K j ?_)
    ·simp [execOp,p,Instr.extract,ex,j6]
    ·exact List.mem_flatMap.2 ⟨v,List.mem_of_getElem? N,hj⟩
   ·cases hr
  ·cases hr
 ·
  rename_i b T e5 p
  split at hr
  ·rename_i r' d q
   unfold Q9S at q;split at q
   ·
    rename_i y M
    obtain ⟨x,hargs,hy⟩:∃ x,T=#[x]/\y=aev e x:=by
     match hl:T.toList,M with
     | [x],M=>simp at M;exact ⟨x,Array.ext' hl,M.symm⟩
    subst hargs;subst hy
    split at q
    ·rename_i t b3
     have d9:e5=#[t]:=Array.ext' b3;subst d9
     split at q
     ·rename_i el Y H z F
      split at q
      ·rename_i n f G
       cases q
       simp only at hr;cases hr
       exact Y9q hL h hd p F rfl G
      ·cases q
     ·rename_i n el Y H z F
      cases q
      simp only at hr;cases hr
      exact Y4O hL h hd p F rfl
     ·rename_i Y H z F
      split at q
      ·rename_i bb G
       cases q
       simp only at hr;cases hr
       exact Y4N hL h hd p F rfl G
      ·cases q
     ·cases q
    ·cases q
   ·
    rename_i k n k' n' M
    obtain ⟨x,y,hargs,G,hy⟩:∃ x y,T=#[x,y]/\aev e x=.v (.c (.d (.int k n)))/\aev e y=.v (.c (.d (.int k' n'))):=by
     obtain ⟨x,y,hl,B,K⟩:=Y3e M;exact ⟨x,y,Array.ext' hl,B,K⟩
    subst hargs;cases q
    simp only at hr;cases hr
    exact Y0A h hd p G hy (.inl ⟨rfl,rfl⟩)
   ·
    rename_i k n k' n' M
    obtain ⟨x,y,hargs,G,hy⟩:∃ x y,T=#[x,y]/\aev e x=.v (.c (.d (.int k n)))/\aev e y=.v (.c (.d (.int k' n'))):=by
     obtain ⟨x,y,hl,B,K⟩:=Y3e M;exact ⟨x,y,Array.ext' hl,B,K⟩
    subst hargs;cases q
    simp only at hr;cases hr
    exact Y0A h hd p G hy (.inr ⟨rfl,rfl⟩)
   ·
    rename_i u1 u2 M
    obtain ⟨x,y,hargs,G,hy⟩:∃ x y,T=#[x,y]/\aev e x=u1/\aev e y=u2:=by
     obtain ⟨x,y,hl,B,K⟩:=Y3e M;exact ⟨x,y,Array.ext' hl,B,K⟩
    subst hargs;subst G;subst hy
    split at q
    ·rename_i t t' b3
     split at q
     ·rename_i e9
      subst e9;have d9:e5=#[t,t]:=Array.ext' b3
      subst d9;split at q
      ·rename_i el Y H z F
       split at q
       ·rename_i te D
        split at q
        ·rename_i k g hy
         split at q
         ·rename_i del n f c G
          split at q
          ·rename_i I
           cases q
           simp only at hr;split at hr
           ·rename_i dd k5 A
            cases hr
            exact Z6K hL h A (hd _ A) (hR _ A (by simp)) p F rfl D hy G hc.2.2 I.2.1 I.2.2 hc.1 hc.2.1
           ·cases hr
           ·cases ‹some _=none›
          ·cases q
         ·cases q
        ·cases q
       ·cases q
      ·cases q
     ·cases q
    ·cases q
   ·cases q
  ·cases hr
 ·cases hr
end
end
section
def Z0c (d:Option Tmp) (v:AVal) (e:Env):Env:=
 match d with
 | some d=>fun t=>if t=d then v else e t
 | none=>e
def upS (l:List (Nat×Option Obj)) (s:Sto):Sto:=fun i=>
 match l.lookup i with
 | some o=>o
 | none=>s i
structure Eff where
 rd:List Nat
 ids:List Nat
 v:AVal
 l:List (Nat×Option Obj)
 news:List Nat
section
variable (P:Program) (C:Ctx) (nt:Nat) (ops:Array Oper)
def StT (o:Oper) (f:Eff) (e:Env) (s:Sto):Prop:=
 ∀ R η e0 s0 a w,(∀ t ∈ f.rd,e0 t=e t)->(∀ i ∈ f.ids,s0 i=s i)->(∀ n ∈ f.news,¬ R n)->Conc C nt R η e0 s0 a w ->
  ∀ (K:Act->World->Prop) (Q:Exit->Act->World->Prop),(∀ η' a' w',Conc C nt (fun i=>R i\/i ∈ f.news) η' (Z0c o.dst f.v e0) (upS f.l s0) a' w' -> K a' w') ->
   if Region.wanted o (yielded ops a.tmps) then o.wp P a w K Q else K (a.put o.dst undef) w
def Y1D:List Oper->List Eff->Env->Sto->Prop
 | [],[],_,_=>True
 | o::os,f::fs,e,s=>StT P C nt ops o f e s/\Y1D os fs (Z0c o.dst f.v e) (upS f.l s)
 | _,_,_,_=>False
end
def Z2j:List Oper->List Eff->Env->Env
 | o::os,f::fs,e=>Z2j os fs (Z0c o.dst f.v e)
 | _,_,e=>e
def Z2i:List Eff->Sto->Sto
 | f::fs,s=>Z2i fs (upS f.l s)
 | _,s=>s
def Q5p (fs:List Eff):List Nat:=fs.flatMap (·.news)
theorem Conc.wider {C:Ctx} {nt:Nat} {R R' : Nat->Prop} {η:Nat->Value} {e:Env} {s:Sto} {a:Act} {w:World} (h:Conc C nt R η e s a w) (hR:∀ i,R i->R' i):Conc C nt R' η e s a w:=
 ⟨h.ok,h.df,h.sz,h.ev,fun t i b=>hR i (h.er t i b),h.st,fun i o c=>⟨hR i (h.sr i o c).1,fun j d=>hR j ((h.sr i o c).2 j d)⟩,h.ds,h.ow,h.fr,fun i v b=>⟨(h.pn i v b).1,hR i (h.pn i v b).2⟩⟩
section
variable {P:Program} {C:Ctx} {nt:Nat} {ops:Array Oper}
theorem Y4R {Q:Exit->Act->World->Prop}:∀ (os:List Oper) (fs:List Eff) (R:Nat->Prop) (η:Nat->Value) (e:Env) (s:Sto) (a:Act) (w:World),Y1D P C nt ops os fs e s->(Q5p fs).Nodup->(∀ n ∈ Q5p fs,¬ R n)->Conc C nt R η e s a w ->
  (∀ η' a' w',Conc C nt (fun i=>R i\/i ∈ Q5p fs) η' (Z2j os fs e) (Z2i fs s) a' w' -> Q .normal a' w')->wpList P ops Q os a w:=by
 intro os
 induction os with
 | nil=>
  intro fs R η e s a w j _ _ q k
  cases fs with
  | nil=>exact k η a w (q.wider fun i b=>.inl b)
  | cons f fs=>exact j.elim
 | cons o os ih=>
  intro fs R η e s a w j d g q k
  cases fs with
  | nil=>exact j.elim
  | cons f fs=>
   obtain ⟨y,z⟩:=j;have c:Q5p (f::fs)=f.news++Q5p fs:=rfl
   rw [c] at d g k;have p:=y R η e s a w (fun _ _=>rfl) (fun _ _=>rfl) (fun n l=>g n (List.mem_append.2 (.inl l))) q
   refine wpList_step fun K x=>?_
   refine p K Q fun η' a' w' r=>x a' w' ?_
   refine ih fs _ η' _ _ a' w' z (List.nodup_append.1 d).2.1 (fun n l h=>?_) r fun u t v m=>k u t v (m.wider fun i b=>?_)
   ·rcases h with h|h
    ·exact g n (List.mem_append.2 (.inr l)) h
    ·exact (List.nodup_append.1 d).2.2 n h n l rfl
   ·rcases b with (b|b) | b
    ·exact .inl b
    ·exact .inr (List.mem_append.2 (.inl b))
    ·exact .inr (List.mem_append.2 (.inr b))
end
def Z6F (oi oj:Oper) (fi fj:Eff):Bool:=
 (match oi.dst with|some d=>fj.rd.contains d||oj.dst==some d|none=>false)||(match oj.dst with|some d=>fi.rd.contains d|none=>false) ||
 (fi.l.any fun p=>fj.ids.contains p.1||fj.l.any (·.1==p.1))||(fj.l.any fun p=>fi.ids.contains p.1)
def Z2G (acc:List Nat):List Edge->Nat
 | []=>0
 | e::r=>if Region.binds .any e then (2 ^ e.on ||| acc.getD e.on 0) ||| Z2G acc r else Z2G acc r
def Z9j:List Oper->List Eff->List Nat->List (Oper×Eff)->Bool
 | o::os,f::fs,acc,seen=>
  let m:=Z2G acc o.after.toList
  (o.after.toList.all fun e=> !Region.binds .any e||decide (e.on<acc.length)) &&
  (seen.zipIdx.all fun p=> !Z6F p.1.1 o p.1.2 f||m.testBit p.2)&&Z9j os fs (acc++[m]) (seen++[(o,f)])
 | [],[],_,_=>true
 | _,_,_,_=>false
def W0t (ops:List Oper) (fs:List Eff):Bool:=Z9j ops fs [] []
inductive Anc (ops:List Oper):Nat->Nat->Prop
 | edge (j:Nat) (o:Oper) (e:Edge):ops[j]?=some o->e ∈ o.after.toList->Region.binds .any e=true->Anc ops e.on j
 | trans (i j k:Nat):Anc ops i j->Anc ops j k->Anc ops i k
theorem Y6Q {ops:List Oper} {acc:List Nat} {j:Nat} {o:Oper} (ho:ops[j]?=some o) (hacc:∀ k i,(acc.getD k 0).testBit i=true->Anc ops i k):∀ (es:List Edge),(∀ e ∈ es,e ∈ o.after.toList)->∀ i,(Z2G acc es).testBit i=true->Anc ops i j:=by
 intro es
 induction es with
 | nil=>intro _ i c;simp [Z2G] at c
 | cons e r ih=>
  intro b i c;have f:=ih (fun l d=>b l (List.mem_cons_of_mem _ d))
  simp only [Z2G] at c;split at c
  ·rename_i h
   have g:Anc ops e.on j:=.edge j o e ho (b e List.mem_cons_self) h;rw [Nat.testBit_or,Nat.testBit_or] at c
   rcases (by simpa using c:((2 ^ e.on).testBit i=true\/(acc.getD e.on 0).testBit i=true)\/(Z2G acc r).testBit i=true) with (h1|h1) | h1
   ·rw [Nat.testBit_two_pow] at h1
    have:e.on=i:=by simpa using h1
    exact this ▸ g
   ·exact .trans _ _ _ (hacc _ _ h1) g
   ·exact f i h1
  ·exact f i c
theorem Y4n (ops:List Oper) (fs:List Eff):∀ (os:List Oper) (gs:List Eff) (acc:List Nat) (seen:List (Oper×Eff)),Z9j os gs acc seen=true ->
  acc.length=seen.length->ops=seen.map (·.1)++os->fs=seen.map (·.2)++gs->(∀ k i,(acc.getD k 0).testBit i=true->Anc ops i k) ->
  (∀ j o e,seen.length<=j->ops[j]?=some o->e ∈ o.after.toList->Region.binds .any e=true->e.on<j) /\
  (∀ i j oi oj fi fj,i<j->seen.length<=j->ops[i]?=some oi->ops[j]?=some oj->fs[i]?=some fi->fs[j]?=some fj->Z6F oi oj fi fj=true->Anc ops i j)/\os.length=gs.length:=by
 intro os
 induction os with
 | nil=>
  intro gs acc seen h A r y _
  cases gs with
  | cons g gs=>simp [Z9j] at h
  | nil=>
   refine ⟨fun j o e x b=>?_,fun i j oi oj fi fj p x _ b=>?_,rfl⟩
   ·rw [r,List.append_nil,List.getElem?_eq_none (by simpa using x)] at b;cases b
   ·rw [r,List.append_nil,List.getElem?_eq_none (by simpa using x)] at b;cases b
 | cons o os ih=>
  intro gs acc seen h A r y l
  cases gs with
  | nil=>simp [Z9j] at h
  | cons g gs=>
   simp only [Z9j,Bool.and_eq_true] at h;obtain ⟨⟨I,K⟩,J⟩:=h
   have m:ops[seen.length]?=some o:=by rw [r];simp
   have D:fs[seen.length]?=some g:=by rw [y];simp
   have d:∀ i,(Z2G acc o.after.toList).testBit i=true->Anc ops i seen.length:=Y6Q m l _ (fun e z=>z);obtain ⟨G,F,H⟩:=ih gs (acc++[Z2G acc o.after.toList]) (seen++[(o,g)]) J (by simp [A]) (by simp [r]) (by simp [y]) (fun k i t=>by
    by_cases hk1:k<acc.length
    ·rw [show (acc++[Z2G acc o.after.toList]).getD k 0=acc.getD k 0 from by simp [List.getD_eq_getElem?_getD,List.getElem?_append,hk1]] at t
     exact l k i t
    ·by_cases hk2:k=acc.length
     ·subst hk2
      rw [show (acc++[Z2G acc o.after.toList]).getD acc.length 0=Z2G acc o.after.toList from by simp [List.getD_eq_getElem?_getD]] at t;rw [A];exact d i t
     ·rw [show (acc++[Z2G acc o.after.toList]).getD k 0=0 from by
       rw [List.getD_eq_getElem?_getD,List.getElem?_eq_none (by simp;omega)];rfl] at t
      simp at t)
   refine ⟨fun j M e x b z E=>?_,fun i j oi oj fi fj p x f b c n v=>?_,by simp [H]⟩
   ·by_cases hjs:j=seen.length
    ·subst hjs
     rw [m] at b;cases b
     have:=List.all_eq_true.1 I e z
     simp [E] at this
     omega
    ·exact G j M e (by simp;omega) b z E
   ·by_cases hjs:j=seen.length
    ·subst hjs
     rw [m] at b;cases b
     rw [D] at n;cases n
     have B:seen[i]?=some (oi,fi):=by
      have q:i<seen.length:=p;rw [r,List.getElem?_append_left (by simpa using q),List.getElem?_map] at f
      rw [y,List.getElem?_append_left (by simpa using q),List.getElem?_map] at c;rw [List.getElem?_eq_getElem q] at f c ⊢
      simp at f c
      rw [<-f, <-c]
     have u:((oi,fi),i) ∈ seen.zipIdx:=by
      rw [List.mem_zipIdx_iff_getElem?];simpa using B
     have:=List.all_eq_true.1 K _ u
     simp [v] at this
     exact d i this
    ·exact F i j oi oj fi fj p (by simp;omega) f b c n v
end
section
instance:Inhabited Eff:=⟨⟨[],[],.any,[],[]⟩⟩
section
variable (l:List Oper) (fs:List Eff)
def Z2T (i:Nat):Option Tmp:=(l[i]?).bind (·.dst)
def Q0K (i:Nat):Eff:=fs.getD i default
def hE (e0:Env):List Nat->Env
 | []=>e0
 | i::h=>Z0c (Z2T l i) (Q0K fs i).v (hE e0 h)
def hS (s0:Sto):List Nat->Sto
 | []=>s0
 | i::h=>upS (Q0K fs i).l (hS s0 h)
def wrE (t:Nat) (j:Nat):Bool:=Z2T l j==some t
def wrS (i:Nat) (j:Nat):Bool:=((Q0K fs j).l.lookup i).isSome
theorem Y6a (e0:Env) (t:Nat):∀ h,hE l fs e0 h t=match h.find? (wrE l t) with|some j=>(Q0K fs j).v|none=>e0 t:=by
 intro h
 induction h with
 | nil=>rfl
 | cons i h ih=>
  simp only [hE,List.find?_cons,Z0c]
  cases hd:Z2T l i with
  | none=>simp [wrE,hd,ih]
  | some d=>
   by_cases hdt:t=d
   ·subst hdt;simp [wrE,hd]
   ·have:wrE l t i=false:=by simp [wrE,hd];exact fun b=>hdt b.symm
    simp [this,hdt,ih]
theorem Y5Z (s0:Sto) (k:Nat):∀ h,hS fs s0 h k=match h.find? (wrS fs k) with|some j=>((Q0K fs j).l.lookup k).getD none|none=>s0 k:=by
 intro h
 induction h with
 | nil=>rfl
 | cons i h ih=>
  simp only [hS,List.find?_cons,upS]
  cases hl:(Q0K fs i).l.lookup k with
  | none=>simp [wrS,hl,ih]
  | some o=>simp [wrS,hl]
end
structure Hist (ops:List Oper) (h:List Nat):Prop where
 nd:h.Nodup
 ord:∀ l1 k l2,h=l1++k::l2->∀ i,Anc ops i k->i ∈ l2
theorem Hist.anc {ops:List Oper} {h:List Nat} (H:Hist ops h) {i k:Nat} (hk:k ∈ h) (ha:Anc ops i k):i ∈ h:=by
 obtain ⟨b,c,rfl⟩:=List.append_of_mem hk;exact List.mem_append.2 (.inr (List.mem_cons_of_mem _ (H.ord b k c rfl i ha)))
theorem Y1k {ops:List Oper} {h:List Nat} (H:Hist ops h) {p:Nat->Bool} {f g:Nat} (hf:h.find? p=some f) (hg:g ∈ h) (hp:p g=true) (ha:Anc ops f g):False:=by
 obtain ⟨_,k,m,rfl,d⟩:=List.find?_eq_some_iff_append.1 hf;have i:g ∈ m:=by
  rcases List.mem_append.1 hg with j|j
  ·have:=d g j;simp [hp] at this
  ·rcases List.mem_cons.1 j with b|b
   ·subst b
    have:=H.ord k g m rfl g ha
    exact this
   ·exact b
 obtain ⟨o,n,rfl⟩:=List.append_of_mem i;have:=H.ord (k++f::o) g n (by simp) f ha
 have c:=H.nd;rw [List.nodup_append] at c
 have b:=c.2.1;rw [List.nodup_cons] at b
 exact b.1 (by simp [this])
theorem Y6c {ops:List Oper} {h1 h2:List Nat} (H1:Hist ops h1) (H2:Hist ops h2) {p:Nat->Bool} (hord:∀ j k,j<k->k ∈ h1->k ∈ h2->j ∈ h1->p j=true->p k=true->Anc ops j k)
  (hset:∀ j,p j=true->(j ∈ h1↔j ∈ h2)):h1.find? p=h2.find? p:=by
 cases hf:h1.find? p with
 | none=>
  symm
  rw [List.find?_eq_none] at hf ⊢;intro x r q
  exact hf x ((hset x q).2 r) q
 | some f=>
  have b:p f=true:=List.find?_some hf;have i:f ∈ h1:=List.mem_of_find?_eq_some hf
  have c:=(hset f b).1 i
  cases hg:h2.find? p with
  | none=>rw [List.find?_eq_none] at hg;exact absurd b (hg f c)
  | some g=>
   have d:p g=true:=List.find?_some hg;have h:g ∈ h2:=List.mem_of_find?_eq_some hg
   have m:=(hset g d).2 h;rcases Nat.lt_trichotomy f g with n|o|n
   ·exact (Y1k H1 hf m d (hord f g n m h i b d)).elim
   ·rw [o]
   ·exact (Y1k H2 hg c b (hord g f n i c m d b)).elim
section
variable {P:Program} {C:Ctx} {nt:Nat} {ops:Array Oper} {fs:List Eff}
theorem W0W {l:List Oper} (hb:∀ j o e,l[j]?=some o->e ∈ o.after.toList->Region.binds .any e=true->e.on<j) {i k:Nat} (h:Anc l i k):i<k:=by
 induction h with
 | edge j o e h1 h2 h3=>exact hb j o e h1 h2 h3
 | trans i j k _ _ ih1 ih2=>omega
theorem Z5x {l:List Oper} (hb:∀ j o e,l[j]?=some o->e ∈ o.after.toList->Region.binds .any e=true->e.on<j) (n:Nat):Hist l (List.range n).reverse:=by
 refine ⟨by unfold List.Nodup;rw [List.pairwise_reverse];exact (List.nodup_range (n:=n)).imp (fun h=>Ne.symm h),?_⟩
 induction n with
 | zero=>intro b k c h;simp at h
 | succ n ih=>
  intro b k c h i d;rw [List.range_succ,List.reverse_append,List.reverse_singleton,List.singleton_append] at h
  cases b with
  | nil=>
   simp only [List.nil_append,List.cons.injEq] at h;obtain ⟨rfl,rfl⟩:=h
   have:=W0W hb d
   simp;exact this
  | cons x b=>
   simp only [List.cons_append,List.cons.injEq] at h;exact ih b k c h.2 i d
theorem Y3b {fs:List Eff} (hnd:(Q5p fs).Nodup) {i j:Nat} (hij:i≠j) {x:Nat} (hi:x ∈ (Q0K fs i).news) (hj:x ∈ (Q0K fs j).news):False:=by
 induction fs generalizing i j with
 | nil=>simp [Q0K,default] at hi
 | cons f r ih=>
  have d:Q5p (f::r)=f.news++Q5p r:=rfl;rw [d,List.nodup_append] at hnd
  have b:∀ k,x ∈ (Q0K r k).news->x ∈ Q5p r:=by
   intro k c
   by_cases hkl:k<r.length
   ·exact List.mem_flatMap.2 ⟨_,Q0I hkl,c⟩
   ·have:Q0K r k=default:=by unfold Q0K;rw [List.getD_eq_getElem?_getD,List.getElem?_eq_none (by omega)];rfl
    rw [this] at c;cases c
  cases i with
  | zero=>
   cases j with
   | zero=>exact hij rfl
   | succ j=>exact hnd.2.2 x hi x (b j hj) rfl
  | succ i=>
   cases j with
   | zero=>exact hnd.2.2 x hj x (b i hi) rfl
   | succ j=>exact ih hnd.2.1 (by omega) hi hj
theorem Y1q {fs:List Eff} {k x:Nat} (hx:x ∈ (Q0K fs k).news):x ∈ Q5p fs:=by
 by_cases hk:k<fs.length
 ·exact List.mem_flatMap.2 ⟨_,Q0I hk,hx⟩
 ·have:Q0K fs k=default:=by unfold Q0K;rw [List.getD_eq_getElem?_getD,List.getElem?_eq_none (by omega)];rfl
  rw [this] at hx;cases hx
theorem Y6G:∀ (os:List Oper) (gs:List Eff) (l:List Oper) (fs:List Eff) (k:Nat) (e0:Env) (s0:Sto),(∀ j,os[j]?=l[k+j]?)->(∀ j,j<gs.length->gs[j]?=fs[k+j]?)->os.length=gs.length ->
  Y1D P C nt ops os gs (hE l fs e0 (List.range k).reverse) (hS fs s0 (List.range k).reverse) ->
  (∀ j o,os[j]?=some o->StT P C nt ops o (Q0K fs (k+j)) (hE l fs e0 (List.range (k+j)).reverse) (hS fs s0 (List.range (k+j)).reverse)) /\
  Z2j os gs (hE l fs e0 (List.range k).reverse)=hE l fs e0 (List.range (k+os.length)).reverse/\Z2i gs (hS fs s0 (List.range k).reverse)=hS fs s0 (List.range (k+os.length)).reverse:=by
 intro os
 induction os with
 | nil=>
  intro gs l fs k e0 s0 _ _ f _
  cases gs with
  | nil=>exact ⟨fun j o h=>by simp at h,rfl,rfl⟩
  | cons g gs=>simp at f
 | cons o os ih=>
  intro gs l fs k e0 s0 p n f r
  cases gs with
  | nil=>simp at f
  | cons g gs=>
   obtain ⟨x,u⟩:=r;have y:Z2T l k=o.dst:=by
    have:=p 0;simp at this;simp [Z2T, <-this]
   have i:Q0K fs k=g:=by
    have:=n 0 (by simp);simp at this;simp [Q0K,List.getD_eq_getElem?_getD, <-this]
   have c:hE l fs e0 (List.range (k+1)).reverse=Z0c o.dst g.v (hE l fs e0 (List.range k).reverse):=by
    rw [List.range_succ,List.reverse_append,List.reverse_singleton,List.singleton_append];simp only [hE,y,i]
   have d:hS fs s0 (List.range (k+1)).reverse=upS g.l (hS fs s0 (List.range k).reverse):=by
    rw [List.range_succ,List.reverse_append,List.reverse_singleton,List.singleton_append];simp only [hS,i]
   obtain ⟨t,m,q⟩:=ih gs l fs (k+1) e0 s0 (fun j=>by have:=p (j+1);simp at this;rw [this];congr 1;omega) (fun j b=>by have:=n (j+1) (by simpa using b);simp at this;rw [this];congr 1;omega) (by simpa using f)
    (by rw [c,d];exact u)
   refine ⟨fun j z b=>?_,?_,?_⟩
   ·cases j with
    | zero=>simp at b;subst b;rw [Nat.add_zero,i];exact x
    | succ j=>have:=t j z (by simpa using b);rwa [show k+1+j=k+(j+1) from by omega] at this
   ·rw [c] at m
    simp only [Z2j];rw [m];congr 3;simp;omega
   ·rw [d] at q
    simp only [Z2i];rw [q];congr 3;simp;omega
theorem Y7O:∀ (n:Nat) (l:List Nat),l.Nodup->(∀ x ∈ l,x<n)->l.length<=n:=by
 intro n
 induction n with
 | zero=>intro l _ h;cases l with
  | nil=>simp
  | cons x r=>exact absurd (h x List.mem_cons_self) (by omega)
 | succ n ih=>
  intro l c h
  by_cases hn:n ∈ l
  ·have d:=ih (l.erase n) (c.erase n) (fun x b=>by
    have f:=(c.mem_erase_iff).1 b;have:=h x f.2
    omega)
   rw [List.length_erase_of_mem hn] at d;omega
  ·have:=ih l c (fun x b=>by have:=h x b;have:x≠n:=fun e=>hn (e ▸ b);omega)
   omega
theorem Y5e {listed:Array Bool} {h:List Nat} {n:Nat} (hsz:listed.size=n) (hl:∀ i,i<n->(listed.getD i false=true↔i ∈ h)) (hb:∀ i ∈ h,i<n) (i:Nat):listed.getD i false=true↔i ∈ h:=by
 by_cases hi:i<n
 ·exact hl i hi
 ·constructor
  ·intro b;rw [show listed.getD i false=false from by simp [Array.getD,hsz,hi]] at b;cases b
  ·intro b;exact absurd (hb i b) hi
theorem Z8M {ops:Array Oper} {listed:Array Bool} (hsz:listed.size=ops.size) (i:Nat):i ∈ Region.ready .any ops listed↔∃ o,ops[i]?=some o/\listed.getD i false=false/\∀ e ∈ o.after.toList,Region.binds .any e=true->listed.getD e.on false=true:=by
 unfold Region.ready;rw [List.mem_filter,List.mem_range]
 constructor
 ·rintro ⟨b,c⟩
  refine ⟨ops[i],by simp [b],?_,?_⟩
  ·simp only [Bool.and_eq_true] at c
   have m:=c.1;have:i<listed.size:=by omega
   simp [Array.getD,this] at m ⊢
   exact m
  ·intro e d g
   simp only [Bool.and_eq_true] at c;have h:=c.2
   simp only [Array.getElem?_eq_getElem b,Option.map_some,Option.getD_some] at h;rw [Array.all_eq_true'] at h
   have:=h e (by simpa using d)
   simpa [g] using this
 ·rintro ⟨o,j,k,d⟩
  have b:i<ops.size:=(Array.getElem?_eq_some_iff.1 j).1;refine ⟨b,?_⟩
  simp only [Bool.and_eq_true];refine ⟨?_,?_⟩
  ·have:i<listed.size:=by omega
   simp [Array.getD,this] at k ⊢
   exact k
  ·simp only [j,Option.map_some,Option.getD_some]
   rw [Array.all_eq_true'];intro e f
   cases g:Region.binds .any e with
   | false=>rfl
   | true=>simpa using d e (by simpa using f) g
theorem Y8P {Q:Exit->Act->World->Prop} {e0:Env} {s0:Sto} {R:Nat->Prop} (hlen:ops.toList.length=fs.length)
  (hback:∀ j o e,ops.toList[j]?=some o->e ∈ o.after.toList->Region.binds .any e=true->e.on<j)
  (hconf:∀ i j oi oj fi fj,i<j->ops.toList[i]?=some oi->ops.toList[j]?=some oj->fs[i]?=some fi->fs[j]?=some fj->Z6F oi oj fi fj=true->Anc ops.toList i j)
  (hst:∀ j o,ops.toList[j]?=some o->StT P C nt ops o (Q0K fs j) (hE ops.toList fs e0 (List.range j).reverse) (hS fs s0 (List.range j).reverse))
  (hnd:(Q5p fs).Nodup) (hfr:∀ n ∈ Q5p fs,¬ R n)
  (hq:∀ η a w,Conc C nt (fun i=>R i\/i ∈ Q5p fs) η (hE ops.toList fs e0 (List.range ops.size).reverse) (hS fs s0 (List.range ops.size).reverse) a w->Q .normal a w) :
  ∀ (fuel:Nat) (listed:Array Bool) (h:List Nat) (η:Nat->Value) (a:Act) (w:World),listed.size=ops.size->(∀ i,i<ops.size->(listed.getD i false=true↔i ∈ h))->(∀ i ∈ h,i<ops.size)->Hist ops.toList h->ops.size<=fuel+h.length ->
   Conc C nt (fun i=>R i\/∃ j ∈ h,i ∈ (Q0K fs j).news) η (hE ops.toList fs e0 h) (hS fs s0 h) a w->wpAny P .any ops Q fuel listed a w:=by
 have c:∀ {i:Nat},i<ops.size->∃ o,ops.toList[i]?=some o/\ops[i]?=some o:=fun {i} r=>⟨ops[i],by simp [r],by simp [r]⟩
 have G:∀ {i:Nat},i<ops.size->fs[i]?=some (Q0K fs i):=by
  intro i r;have:i<fs.length:=by rw [<-hlen];simpa using r
  simp [Q0K,List.getD_eq_getElem?_getD,this]
 have hC:∀ i j oi oj,i<j->j<ops.size->ops.toList[i]?=some oi->ops.toList[j]?=some oj->Z6F oi oj (Q0K fs i) (Q0K fs j)=true->Anc ops.toList i j:=by
  intro i j oi oj a8 f m d4 Z;exact hconf i j oi oj _ _ a8 m d4 (G (by omega)) (G f) Z
 have N:∀ (U E:List Nat),Hist ops.toList U->Hist ops.toList E->(∀ i ∈ U,i<ops.size)->∀ t,(∀ j,j<ops.size->Z2T ops.toList j=some t->(j ∈ U↔j ∈ E))->(∀ i ∈ E,i<ops.size)->hE ops.toList fs e0 U t=hE ops.toList fs e0 E t:=by
  intro U E H1 H2 D t Y b3;rw [Y6a,Y6a,Y6c (p:=wrE ops.toList t) H1 H2 ?_ ?_]
  ·intro j k c6 c2 _ a2 a0 b6
   obtain ⟨oj,g,_⟩:=c (D j a2);obtain ⟨ok,b5,_⟩:=c (D k c2)
   refine hC j k oj ok c6 (D k c2) g b5 ?_;simp [wrE,Z2T,g] at a0
   simp [wrE,Z2T,b5] at b6
   simp [Z6F,a0,b6]
  ·intro j hp
   have hd:Z2T ops.toList j=some t:=by simpa [wrE] using hp
   have f:j<ops.size:=by
    unfold Z2T at hd;rcases Nat.lt_or_ge j ops.size with h3|h3
    ·exact h3
    ·rw [List.getElem?_eq_none (by simpa using h3)] at hd;cases hd
   exact Y j f hd
 have M:∀ (U E:List Nat),Hist ops.toList U->Hist ops.toList E->(∀ i ∈ U,i<ops.size)->∀ k,(∀ j,j<ops.size->wrS fs k j=true->(j ∈ U↔j ∈ E))->(∀ i ∈ E,i<ops.size)->hS fs s0 U k=hS fs s0 E k:=by
  intro U E H1 H2 D k Y b3;have a4:∀ j,wrS fs k j=true->∃ o,(k,o) ∈ (Q0K fs j).l:=by
   intro j f;simp only [wrS,Option.isSome_iff_exists] at f
   obtain ⟨o,W⟩:=f;obtain ⟨l1,l2,hl,_⟩:=List.lookup_eq_some_iff.1 W
   exact ⟨o,by rw [hl];simp⟩
  rw [Y5Z,Y5Z,Y6c (p:=wrS fs k) H1 H2 ?_ ?_]
  ·intro i j a8 a2 _ c8 d8 a0
   obtain ⟨oi,d9,_⟩:=c (D i c8);obtain ⟨oj,g,_⟩:=c (D j a2)
   refine hC i j oi oj a8 (D j a2) d9 g ?_;obtain ⟨u,hu⟩:=a4 i d8
   obtain ⟨v,hv⟩:=a4 j a0;have:((Q0K fs i).l.any fun p=>(Q0K fs j).ids.contains p.1||(Q0K fs j).l.any (·.1==p.1))=true:=by
    rw [List.any_eq_true];refine ⟨_,hu,?_⟩
    simp only [Bool.or_eq_true];right
    rw [List.any_eq_true];exact ⟨_,hv,by simp⟩
   simp only [Z6F,this,Bool.or_true,Bool.true_or]
  ·intro j hp
   by_cases f:j<ops.size
   ·exact Y j f hp
   ·exact ⟨fun b=>absurd (D j b) f,fun b=>absurd (b3 j b) f⟩
 have K:∀ n,n<=ops.size->(∀ i ∈ (List.range n).reverse,i<ops.size):=by intro n hn i r;simp at r;omega
 have T:∀ (listed:Array Bool) (h:List Nat) (η:Nat->Value) (a:Act) (w:World),(∀ i ∈ h,i<ops.size)->Hist ops.toList h->(∀ i,i<ops.size->i ∈ h) ->
   Conc C nt (fun i=>R i\/∃ j ∈ h,i ∈ (Q0K fs j).news) η (hE ops.toList fs e0 h) (hS fs s0 h) a w->Q .normal a w:=by
  intro listed h η a w V H B Z;have e1:hE ops.toList fs e0 h=hE ops.toList fs e0 (List.range ops.size).reverse:=
   funext fun t=>N _ _ H (Z5x hback _) V t (fun j f _=>⟨fun _=>by simp;exact f,fun _=>B j f⟩) (K _ (Nat.le_refl _))
  have e2:hS fs s0 h=hS fs s0 (List.range ops.size).reverse:=
   funext fun k=>M _ _ H (Z5x hback _) V k (fun j f _=>⟨fun _=>by simp;exact f,fun _=>B j f⟩) (K _ (Nat.le_refl _))
  rw [e1,e2] at Z;refine hq η a w (Z.wider fun i r=>?_)
  rcases r with r|⟨j,_,r⟩
  ·exact .inl r
  ·exact .inr (Y1q r)
 intro fuel
 induction fuel with
 | zero=>
  intro listed h η a w O hl V H hf Z;have B:∀ i,i<ops.size->i ∈ h:=by
   intro i r;rcases Classical.em (i ∈ h) with d|d
   ·exact d
   ·have:=Y7O ops.size (i::h) (List.nodup_cons.2 ⟨d,H.nd⟩) (fun x F=>by rcases List.mem_cons.1 F with rfl|F;exact r;exact V x F)
    simp at this;omega
  refine ⟨?_,T listed h η a w V H B Z⟩;refine List.eq_nil_iff_forall_not_mem.2 fun i r=>?_
  obtain ⟨o,W,E,_⟩:=(Z8M O i).1 r;have m : i<ops.size:=(Array.getElem?_eq_some_iff.1 W).1
  rw [(hl i m).2 (B i m)] at E;cases E
 | succ fuel ih=>
  intro listed h η a w O hl V H hf Z;have a1:=Y5e O hl V
  refine ⟨fun b1=>?_,fun i r=>?_⟩
  ·refine T listed h η a w V H (fun i r=>?_) Z
   induction i using Nat.strongRecOn with
   | _ i ihi=>
    rcases Classical.em (i ∈ h) with d|d
    ·exact d
    ·exfalso
     obtain ⟨o,W,d1⟩:=c r;have:i ∈ Region.ready .any ops listed:=(Z8M O i).2 ⟨o,d1,by
      cases F:listed.getD i false with
      | false=>rfl
      | true=>exact absurd ((a1 i).1 F) d,fun e he c0=>(a1 e.on).2 (ihi e.on (hback i o e W he c0) (by have:=hback i o e W he c0;omega))⟩
     rw [b1] at this;cases this
  ·obtain ⟨o,W,E,h3⟩:=(Z8M O i).1 r
   have m : i<ops.size:=(Array.getElem?_eq_some_iff.1 W).1;have d:i ∉ h:=fun b=>by rw [(a1 i).2 b] at E;cases E
   have I:ops.toList[i]?=some o:=by simpa using W
   have a7 : ∀ k z,Anc ops.toList k z->(z=i\/z ∈ h)->k ∈ h:=by
    intro k z q
    induction q with
    | edge j o' e g1 g2 g3=>
     intro hz;rcases hz with rfl|hz
     ·rw [I] at g1;cases g1;exact (a1 _).1 (h3 e g2 g3)
     ·exact H.anc hz (.edge j o' e g1 g2 g3)
    | trans x y z _ _ ih1 ih2=>intro hz;exact ih1 (.inr (ih2 hz))
   have S:∀ k,Anc ops.toList k i->k ∈ h:=fun k q=>a7 k i q (.inl rfl)
   have e5:=G m;have c7 : Hist ops.toList (i::h):=by
    refine ⟨List.nodup_cons.2 ⟨d,H.nd⟩,fun l1 k l2 b x F=>?_⟩
    cases l1 with
    | nil=>
     simp only [List.nil_append,List.cons.injEq] at b;obtain ⟨rfl,rfl⟩:=b
     exact S x F
    | cons y l1=>
     simp only [List.cons_append,List.cons.injEq] at b;exact H.ord l1 k l2 b.2 x F
   have b7:=K i (Nat.le_of_lt m);have c9:∀ t ∈ (Q0K fs i).rd,hE ops.toList fs e0 h t=hE ops.toList fs e0 (List.range i).reverse t:=by
    intro t ht;refine N _ _ H (Z5x hback i) V t (fun j f hd=>?_) b7
    obtain ⟨oj,g,_⟩:=c f;have b8:oj.dst=some t:=by simpa [Z2T,g] using hd
    rcases Nat.lt_trichotomy j i with A|rfl|A
    ·have:=hC j i oj o A m g I (by simp [Z6F,b8,ht])
     exact ⟨fun _=>by simp;exact A,fun _=>S j this⟩
    ·exact ⟨fun b=>absurd b d,fun b=>by simp at b⟩
    ·have:=hC i j o oj A f I g (by simp [Z6F,b8,ht])
     exact ⟨fun b=>absurd (H.anc b this) d,fun b=>by simp at b;omega⟩
   have d5:∀ k ∈ (Q0K fs i).ids,hS fs s0 h k=hS fs s0 (List.range i).reverse k:=by
    intro k q;refine M _ _ H (Z5x hback i) V k (fun j f Y=>?_) b7
    obtain ⟨oj,g,_⟩:=c f;simp only [wrS,Option.isSome_iff_exists] at Y
    obtain ⟨u,hu⟩:=Y;obtain ⟨l1,l2,d2,_⟩:=List.lookup_eq_some_iff.1 hu
    have a6:(k,u) ∈ (Q0K fs j).l:=by rw [d2];simp
    rcases Nat.lt_trichotomy j i with A|rfl|A
    ·have F:((Q0K fs j).l.any fun p=>(Q0K fs i).ids.contains p.1||(Q0K fs i).l.any (·.1==p.1))=true:=by
      rw [List.any_eq_true];exact ⟨_,a6,by simp [q]⟩
     have:=hC j i oj o A m g I (by simp only [Z6F,F,Bool.or_true,Bool.true_or])
     exact ⟨fun _=>by simp;exact A,fun _=>S j this⟩
    ·exact ⟨fun b=>absurd b d,fun b=>by simp at b⟩
    ·have F:((Q0K fs j).l.any fun p=>(Q0K fs i).ids.contains p.1)=true:=by
      rw [List.any_eq_true];exact ⟨_,a6,by simp [q]⟩
     have:=hC i j o oj A f I g (by simp only [Z6F,F,Bool.or_true])
     exact ⟨fun b=>absurd (H.anc b this) d,fun b=>by simp at b;omega⟩
   have a3:∀ n ∈ (Q0K fs i).news,¬ (R n\/∃ j ∈ h,n ∈ (Q0K fs j).news):=by
    rintro n hn (F|⟨j,f,F⟩)
    ·exact hfr n (Y1q hn) F
    ·exact Y3b hnd (fun b=>d (b ▸ f):i≠j) hn F
   have J:=hst i o I _ η _ _ a w c9 d5 a3 Z (wpAny P .any ops Q fuel (listed.setIfInBounds i true)) Q fun η' a' w' d6=>by
    refine ih (listed.setIfInBounds i true) (i::h) η' a' w' (by simp [O]) (fun k q=>?_) (fun k q=>?_) c7 (by simp;omega) ?_
    ·have b9 : k<listed.size:=by omega
     by_cases hki:i=k
     ·subst hki;simp [Array.getD,b9]
     ·have:=hl k q
      simp [Array.getD,b9] at this ⊢
      rw [Array.getElem_setIfInBounds_ne (by omega) hki];rw [this]
      exact ⟨fun b=>.inr b,fun b=>b.resolve_left (fun e=>hki e.symm)⟩
    ·rcases List.mem_cons.1 q with rfl|q
     ·exact m
     ·exact V k q
    ·have hd:Z2T ops.toList i=o.dst:=by simp [Z2T,I]
     simp only [hE,hS,hd];refine d6.wider fun k q=>?_
     rcases q with (q|⟨j,f,q⟩) | q
     ·exact .inl q
     ·exact .inr ⟨j,List.mem_cons_of_mem _ f,q⟩
     ·exact .inr ⟨i,List.mem_cons_self,q⟩
   simp only [wpOp,W];split at J
   ·rename_i Y;rw [if_pos Y];exact .inl J
   ·rename_i Y;rw [if_neg Y];exact J
end
end
section
section
variable {L:Lay} {e e0:Env} {s s0:Sto}
theorem Y7H {n:Nat} {x:AVal} (h:∀ i ∈ x.refs,s0 i=s i):rd s0 n x=rd s n x:=by
 unfold rd;split
 ·rename_i c b;rw [h c (by simp [AVal.refs,TV.refs,CV.refs])]
 ·rfl
 ·rename_i c f d b;rw [h c (by simp [AVal.refs,TV.refs,CV.refs])]
 ·rfl
theorem Y7n {xs:List CV} {x:AVal} (h:∀ i ∈ x.refs,s0 i=s i):wr s0 xs x=wr s xs x:=by
 unfold wr;split
 ·rename_i c b;rw [h c (by simp [AVal.refs,TV.refs,CV.refs])]
 ·rename_i c f d b;rw [h c (by simp [AVal.refs,TV.refs,CV.refs])]
 ·rfl
theorem Z9l {x:AVal} (h:∀ i ∈ x.refs,s0 i=s i):asL s0 x=asL s x:=by
 unfold asL;split
 ·rfl
 ·rfl
 ·rename_i b;rw [h b (by simp [AVal.refs,TV.refs,CV.refs])]
 ·rename_i b c d n;rw [h b (by simp [AVal.refs,TV.refs,CV.refs])]
 ·rfl
theorem Y4t {x:AVal} {es m:Nat} (h:∀ i ∈ x.refs,s0 i=s i):Z8k s0 es m x=Z8k s es m x:=by
 unfold Z8k;split
 ·rename_i b;rw [h b (by simp [AVal.refs,TV.refs,CV.refs])]
 ·rfl
 ·rfl
theorem Y1C {b:Builtin} {tys:Array TypeId} {xs:List AVal} (h:∀ x ∈ xs,∀ i ∈ x.refs,s0 i=s i):Q9S L s0 b tys xs=Q9S L s b tys xs:=by
 unfold Q9S;split
 ·rename_i x
  rw [Z9l (h x (by simp))]
 ·rfl
 ·rfl
 ·rename_i x y
  rw [Z9l (h y (by simp))];simp only [Y4t (h x (by simp))]
 ·rfl
theorem Z7Q {x:Option Operand} (h:∀ y,x=some y->aev e0 y=aev e y):oI e0 x=oI e x:=by
 cases x with
 | none=>rfl
 | some y=>simp only [oI,h y rfl]
theorem Y1z (m:Bool) (o:Oper) (he:∀ x ∈ o.op.operands.toList,aev e0 x=aev e x) (hs:∀ x ∈ o.op.operands.toList,∀ i ∈ (aev e x).refs,s0 i=s i):Q9f L m e0 s0 o=Q9f L m e s o:=by
 have f:∀ (z:Array Operand),(∀ x ∈ z.toList,aev e0 x=aev e x)->z.toList.map (aev e0)=z.toList.map (aev e):=fun z h=>List.map_congr_left h
 unfold Q9f
 cases ho:o.op <;> simp only [ho,Op.operands] at he hs <;> try rfl
 case move x=>simp only [he x (by simp)]
 case assign x=>simp only [he x (by simp)]
 case pick c a b=>simp only [he c (by simp),he a (by simp),he b (by simp)]
 case box t x=>simp only [he x (by simp)]
 case build t ps=>
  have:ps.toList.map (fun p=>(p.1,aev e0 p.2))=ps.toList.map (fun p=>(p.1,aev e p.2)):=List.map_congr_left fun p A=>by rw [he p.2 (by simp;exact ⟨p.1,by simpa using A⟩)]
  simp only [this]
 case buildSlice t n ps=>
  have:ps.toList.map (fun p=>(p.1,aev e0 p.2))=ps.toList.map (fun p=>(p.1,aev e p.2)):=List.map_congr_left fun p A=>by rw [he p.2 (by simp;exact ⟨p.1,by simpa using A⟩)]
  simp only [this]
 case load t x=>simp only [he x (by simp),Y7H (hs x (by simp))]
 case store t x y=>simp only [he x (by simp),he y (by simp),Y7n (hs x (by simp))]
 case nilCheck x=>simp only [he x (by simp)]
 case binOp op t x y t'=>simp only [he x (by simp),he y (by simp)]
 case unOp op t x=>simp only [he x (by simp)]
 case convert src dst x=>simp only [he x (by simp)]
 case makeFunc fn first caps=>
  cases fn <;> try rfl
  simp only [f caps (fun x j=>he x (by simp;exact .inr (by simpa using j)))]
 case makeSlice t l c=>simp only [he l (by simp),he c (by simp)]
 case slice t x lo hi mx=>
  have j:=he x (by simp);have B:oI e0 lo=oI e lo:=Z7Q fun y v=>he y (by subst v;simp)
  have D:oI e0 hi=oI e hi:=Z7Q fun y v=>he y (by subst v;simp)
  have g:=hs x (by simp)
  cases mx with
  | none=>
   simp only [j,B,D];split
   ·split
    ·split <;> try rfl
     rename_i F u q _ _
     rw [q] at g;simp only [g F (by simp [AVal.refs,TV.refs,CV.refs])]
    ·rfl
   ·rfl
  | some mx=>
   cases lo with
   | some lo=>rfl
   | none=>
    cases hi with
    | none=>rfl
    | some hi=>simp only [j,he hi (by simp),he mx (by simp)]
 case fieldAddr t x k=>simp only [he x (by simp)]
 case field t x k=>simp only [he x (by simp)]
 case indexAddr t x i=>
  have g:=hs x (by simp);simp only [he x (by simp),he i (by simp)]
  split
  ·split
   ·split
    ·rename_i F q
     rw [q] at g;simp only [g F (by simp [AVal.refs,TV.refs,CV.refs])]
    ·rfl
   ·rfl
  ·rfl
  ·rfl
 case index t x i=>simp only [he x (by simp),he i (by simp)]
 case extract x k=>simp only [he x (by simp)]
 case call c=>
  obtain ⟨E,d,r⟩:=c
  cases E <;> try rfl
  rename_i b
  simp only [Call.operands] at he hs;have H:d.toList.map (aev e0)=d.toList.map (aev e):=f d (fun x j=>he x (by simpa using j))
  have G:Q9S L s0 b r (d.toList.map (aev e))=Q9S L s b r (d.toList.map (aev e)):=Y1C fun x j=>by
   obtain ⟨y,v,rfl⟩:=List.mem_map.1 j;exact hs y (by simpa using v)
  simp only [H,G]
end
end
section
def Y2t:AVal->Bool
 | .v (.c (.pte _ _ _ _))=>true
 | _=>false
def Y5l (e:Env) (o:Oper):Bool:=
 match o.op with
 | .binOp op _ _ _ _=>match op with
  | .add | .sub | .mul | .quo | .rem | .shl | .shr=>true
  | _=>false
 | .unOp op _ _=>match op with
  | .neg=>true
  | _=>false
 | .convert _ _ _=>true
 | .load _ x=>Y2t (aev e x)
 | .store _ x _=>Y2t (aev e x)
 | .slice _ _ _ _ _=>true
 | .indexAddr _ _ _=>true
 | .makeSlice _ _ _=>true
 | .call { callee:=.builtin .append,.. }=>true
 | _=>false
theorem Y9J {L:Lay} {m:Bool} {e:Env} {s:Sto} {o:Oper} {r:SR} (h:Y5l e o=false) (hr:Q9f L m e s o=some r):r.cond:=by
 unfold Y5l at h;unfold Q9f at hr
 split at hr
 case h_1=>cases hr;trivial
 case h_2=>
  split at hr
  ·cases hr;trivial
  ·split at hr
   ·split at hr
    ·cases hr;trivial
    ·cases hr
   ·cases hr
  ·cases hr
 case h_3=>split at hr <;> first | (cases hr;done) | (cases hr;trivial)
 case h_4=>split at hr <;> first | (cases hr;done) | (cases hr;trivial)
 case h_5=>split at hr <;> first | (cases hr;done) | (cases hr;trivial)
 case h_6=>
  split at hr
  ·split at hr
   ·split at hr <;> first | (cases hr;done) | (cases hr;trivial)
   ·cases hr
  ·split at hr
   ·split at hr <;> first | (cases hr;done) | (cases hr;trivial)
   ·cases hr
  ·cases hr
 case h_7=>
  split at hr
  ·split at hr
   ·split at hr
    ·split at hr
     ·split at hr
      ·split at hr <;> first | (cases hr;done) | (cases hr;trivial)
      ·cases hr
     ·cases hr
    ·cases hr
   ·cases hr
  ·cases hr
 case h_8 t x hop=>
  rw [hop] at h;simp only at h
  split at hr
  ·split at hr
   ·rename_i j c g
    split at hr
    ·cases hr
     unfold rd at g;split at g
     ·split at g
      ·split at g <;> first | (cases g;done) | (cases g;trivial)
      ·cases g
     ·split at g <;> first | (cases g;done) | (cases g;trivial)
     ·rename_i i;rw [i] at h;simp [Y2t] at h
     ·cases g
    ·cases hr
   ·cases hr
  ·cases hr
 case h_9 t x y hop=>
  rw [hop] at h;simp only at h
  split at hr
  ·split at hr
   ·unfold wr at hr
    split at hr
    ·split at hr
     ·split at hr <;> first | (cases hr;done) | (cases hr;trivial)
     ·cases hr
    ·rename_i i;rw [i] at h;simp [Y2t] at h
    ·cases hr
   ·cases hr
  ·cases hr
 case h_10=>split at hr <;> first | (cases hr;done) | (cases hr;trivial)
 case h_11 op t x y t' hop=>
  rw [hop] at h;unfold Y5F at hr
  split at hr
  ·split at hr
   ·simp at h
   ·simp at h
   ·split at hr
    ·split at hr <;> first | (cases hr;done) | (simp at h;done) | (cases hr;trivial)
    ·cases hr
  ·cases hr
 case h_12 op t x hop=>
  rw [hop] at h;unfold aun at hr
  split at hr
  ·cases hr;trivial
  ·simp at h
  ·cases hr
 case h_13 hop=>rw [hop] at h;simp at h
 case h_14=>
  split at hr
  ·split at hr <;> first | (cases hr;done) | (cases hr;trivial)
  ·cases hr
 case h_15 hop=>rw [hop] at h;simp at h
 case h_16 hop=>rw [hop] at h;simp at h
 case h_17=>
  split at hr
  ·split at hr
   ·split at hr
    ·split at hr
     ·cases hr
     ·split at hr
      ·cases hr;trivial
      ·cases hr;trivial
      ·split at hr <;> first | (cases hr;done) | (cases hr;trivial)
      ·cases hr
    ·cases hr
   ·cases hr
  ·cases hr
 case h_18=>
  split at hr
  ·split at hr
   ·split at hr
    ·split at hr
     ·split at hr <;> first | (cases hr;done) | (cases hr;trivial)
     ·cases hr
    ·cases hr
   ·cases hr
  ·cases hr
 case h_19 hop=>rw [hop] at h;simp at h
 case h_20=>
  split at hr
  ·split at hr
   ·split at hr
    ·split at hr <;> first | (cases hr;done) | (cases hr;trivial)
    ·cases hr
   ·cases hr
  ·cases hr
 case h_21 hop=>rw [hop] at h;simp at h
 case h_22=>
  split at hr
  ·split at hr <;> first | (cases hr;done) | (cases hr;trivial)
  ·cases hr
 case h_23 b args tys hop=>
  rw [hop] at h;split at hr
  ·rename_i k d f
   unfold Q9S at f;split at f
   ·split at f
    ·split at f
     ·split at f
      ·cases f;simp only at hr;cases hr;trivial
      ·cases f
     ·cases f;simp only at hr;cases hr;trivial
     ·split at f
      ·cases f;simp only at hr;cases hr;trivial
      ·cases f
     ·cases f
    ·cases f
   ·cases f;simp only at hr;cases hr;trivial
   ·cases f;simp only at hr;cases hr;trivial
   ·simp at h
   ·cases f
  ·cases hr
 case h_24=>cases hr
inductive Dir where
 | s
 | m
 | w (v:AVal)
 | k (f:Array Oper->Oper->Env->Eff)
def Q0h (o:Oper):List Nat:=o.op.operands.toList.filterMap fun | .tmp t=>some t|_=>none
def Z1M (e:Env) (o:Oper):List Nat:=o.op.operands.toList.flatMap fun x=>(aev e x).refs
def V6 (ops:Array Oper) (o:Oper):List Nat:=
 match o.guard with
 | some (j,_)=>((ops[j]?).bind (·.dst)).toList
 | none=>[]
def Q8l (ops:Array Oper) (e:Env) (o:Oper):Option Bool:=
 match o.guard with
 | none=>some true
 | some (j,want)=>match (ops[j]?).bind (·.dst) with
  | some d=>match e d with
   | .v (.c (.d (.bool b)))=>some (b==want)
   | .t []=>some false
   | _=>none
  | none=>none
def SR.l (r:SR) (d:Option Tmp):List (Nat×Option Obj):=
 (match r.new,d with|some o,some d=>[(d,some o)] | _,_=>[])++((match r.upd with|some (k,o)=>[(k,some o)] | none=>[])++r.del.map fun i=>(i,none))
def SR.nw (r:SR) (d:Option Tmp):List Nat:=match r.new,d with|some _,some d=>[d] | _,_=>[]
def Y1p (ops:Array Oper) (o:Oper) (e:Env) (r:SR) (v:AVal):Eff:= { rd:=Q0h o++V6 ops o,ids:=Z1M e o,v:=v,l:=r.l o.dst,news:=r.nw o.dst }
def Y1y (o:Oper):Bool:=match o.op with
 | .move _ | .assign _ | .pick _ _ _ | .extract _ _ | .field _ _ _=>true
 | _=>false
def Z3A (ops:Array Oper) (o:Oper) (e:Env) (r:SR) (v:AVal):Eff:= { rd:=Q0h o++V6 ops o,ids:=if Y1y o then [] else Z1M e o,v:=v,l:=r.l o.dst,news:=r.nw o.dst }
def Y0f (ops:Array Oper) (o:Oper):Eff:= { rd:=V6 ops o,ids:=[],v:=.t [],l:=[],news:=[] }
def Z2t (L:Lay) (ops:Array Oper) (o:Oper) (d:Dir) (e:Env) (s:Sto):Eff:=
 match Q8l ops e o,d with
 | _,.k f=>f ops o e
 | some true,.s=>match Q9f L false e s o with|some r=>Z3A ops o e r r.v|none=>default
 | some true,.m=>match Q9f L true e s o with|some r=>Z3A ops o e r r.v|none=>default
 | some true,.w v=>match Q9f L false e s o with|some r=>Z3A ops o e r v|none=>default
 | _,_=>Y0f ops o
def ALe (x y:AVal):Prop:=(∀ w X η C v,ARep w X η C v x->ARep w X η C v y)/\∀ i ∈ y.refs,i ∈ x.refs
def Y9a (b:Bool) (c rest:Prop):Prop:=match b with|true=>c/\rest|false=>rest
def W0l (P:Program) (C:Ctx) (nt:Nat) (L:Lay) (ops:Array Oper) (o:Oper) (d:Dir) (e:Env) (s:Sto) (rest:Prop):Prop:=
 match Q8l ops e o,d with
 | _,.k f=>StT P C nt ops o (f ops o e) e s/\rest
 | some true,.s=>match Q9f L false e s o with|some r=>Y9a (Y5l e o) r.cond rest|none=>False
 | some true,.m=>match Q9f L true e s o with|some r=>Y9a (Y5l e o) r.cond rest|none=>False
 | some true,.w v=>match Q9f L false e s o with|some r=>Y9a (Y5l e o) r.cond (ALe r.v v/\rest) | none=>False
 | some false,.s=>rest
 | _,_=>False
def Q1E (nt:Nat) (o:Oper):Bool:=
 (match o.dst with|some d=>decide (d<nt) | none=>true)&&(match o.op with | .store _ _ _=>o.dst.isNone|_=>true)
section
variable (P:Program) (C:Ctx) (nt:Nat) (L:Lay) (ops:Array Oper)
def Q1o:List Oper->List Dir->Env->Sto->List Eff
 | o::os,d::ds,e,s=>let f:=Z2t L ops o d e s;f::Q1o os ds (Z0c o.dst f.v e) (upS f.l s)
 | _,_,_,_=>[]
def Q7m:List Oper->List Dir->Env->Sto->Prop
 | o::os,d::ds,e,s=>W0l P C nt L ops o d e s (Q7m os ds (Z0c o.dst (Z2t L ops o d e s).v e) (upS (Z2t L ops o d e s).l s))
 | [],[],_,_=>True
 | _,_,_,_=>False
end
theorem Y4C (r:SR) (d:Option Tmp) (s:Sto):upS (r.l d) s=r.sto d s:=by
 have c:∀ (l:List Nat) (i:Nat),(l.map fun i=>(i,(none:Option Obj))).lookup i=if l.contains i then some none else none:=by
  intro l i
  induction l with
  | nil=>rfl
  | cons x l ih=>
   simp only [List.map_cons,List.lookup_cons,List.contains_cons]
   by_cases hx:i=x
   ·subst hx;simp
   ·have:(i==x)=false:=by simpa using hx
    simp only [this,Bool.false_or];exact ih
 funext i
 unfold upS SR.sto SR.l;rw [List.lookup_append,List.lookup_append,c]
 cases hn:r.new with
 | none=>
  cases hu:r.upd with
  | none=>by_cases hc:i ∈ r.del <;> simp [hc]
  | some ko=>
   obtain ⟨k,o⟩:=ko
   by_cases hk:i=k
   ·subst hk;simp
   ·have:(i==k)=false:=by simpa using hk
    by_cases hc:i ∈ r.del <;> simp [List.lookup_cons,this,hk,hc]
 | some o=>
  cases d with
  | none=>
   cases hu:r.upd with
   | none=>by_cases hc:i ∈ r.del <;> simp [hc]
   | some ko=>
    obtain ⟨k,o⟩:=ko
    by_cases hk:i=k
    ·subst hk;simp
    ·have:(i==k)=false:=by simpa using hk
     by_cases hc:i ∈ r.del <;> simp [List.lookup_cons,this,hk,hc]
  | some d=>
   by_cases hd:i=d
   ·subst hd;simp
   ·have b:(i==d)=false:=by simpa using hd
    cases hu:r.upd with
    | none=>by_cases hc:i ∈ r.del <;> simp [List.lookup_cons,b,hd,hc]
    | some ko=>
     obtain ⟨k,o⟩:=ko
     by_cases hk:i=k
     ·subst hk;simp [List.lookup_cons,b,hd]
     ·have:(i==k)=false:=by simpa using hk
      by_cases hc:i ∈ r.del <;> simp [List.lookup_cons,b,hd,this,hk,hc]
theorem Y4D (r:SR) (d:Option Tmp) (R:Nat->Prop):∀ i,r.rng d R i->R i\/i ∈ r.nw d:=by
 intro i b;rcases b with b|⟨g,c⟩
 ·exact .inl b
 ·right
  obtain ⟨o,f⟩:=Option.ne_none_iff_exists'.1 g;simp [SR.nw,f,c]
section
variable {P:Program} {C:Ctx} {nt:Nat} {L:Lay} {ops:Array Oper}
theorem Y9k {w:World} {X:Nat->Prop} {η:Nat->Value} {C:Ctx} {v:Value} (h:ARep w X η C v (.t [])):v=.tuple #[]:=by
 cases h with|t us _ h _=>exact congrArg Value.tuple (Array.size_eq_zero_iff.1 h)
theorem Q5y {R:Nat->Prop} {η:Nat->Value} {e e0:Env} {s:Sto} {a:Act} {w:World} (h:Conc C nt R η e0 s a w) {o:Oper} (hg:∀ t ∈ V6 ops o,e0 t=e t) {b:Bool} (hb:Q8l ops e o=some b) :
  Region.wanted o (yielded ops a.tmps)=b:=by
 unfold Q8l at hb;unfold Region.wanted
 split at hb
 ·rename_i c;rw [c];cases hb;rfl
 ·rename_i j g c
  rw [c];split at hb
  ·rename_i d q
   split at hb
   ·rename_i r i
    cases hb
    have u:e0 d=e d:=hg d (by simp [V6,c,q]);have n:=h.ev d
    rw [u,i] at n;have p:=Z8i n
    have k:d<a.tmps.size:=by
     rcases Nat.lt_or_ge d a.tmps.size with f|f
     ·exact f
     ·simp [f,undef] at p
    have m:a.tmps[d]?=some (.bool r):=by
     rw [Array.getElem?_eq_getElem k];simpa [k] using p
    have v:yielded ops a.tmps j=some r:=by
     unfold yielded;rw [q];simp only [Option.bind_some,m]
    simp only [v]
    cases r <;> cases g <;> rfl
   ·rename_i i
    cases hb
    have u:e0 d=e d:=hg d (by simp [V6,c,q]);have n:=h.ev d
    rw [u,i] at n;have p:=Y9k n
    have v:yielded ops a.tmps j=none:=by
     unfold yielded;rw [q];simp only [Option.bind_some]
     rcases Nat.lt_or_ge d a.tmps.size with f|f
     ·rw [Array.getElem?_eq_getElem f]
      have x : a.tmps[d]=.tuple #[]:=by simpa [f,Array.getD] using p
      rw [x]
     ·rw [Array.getElem?_eq_none f]
    simp only [v]
    cases g <;> rfl
   ·cases hb
  ·cases hb
theorem Y5C {e e0:Env} {s s0:Sto} (m:Bool) (o:Oper) (he:∀ x ∈ o.op.operands.toList,aev e0 x=aev e x) (ha:Y1y o=true):Q9f L m e0 s0 o=Q9f L m e s o:=by
 unfold Y1y at ha;unfold Q9f
 cases ho:o.op <;> simp only [ho,Op.operands] at he ha <;> first | (cases ha;done) | skip
 case move x=>simp only [he x (by simp)]
 case assign x=>simp only [he x (by simp)]
 case pick c a b=>simp only [he c (by simp),he a (by simp),he b (by simp)]
 case field t x k=>simp only [he x (by simp)]
 case extract x k=>simp only [he x (by simp)]
theorem Y2R (hL:LOk P L) {o:Oper} (hdo:Q1E nt o=true) {m:Bool} {e:Env} {s:Sto} {r:SR} (hr:Q9f L m e s o=some r) (hc:r.cond) (hg:Q8l ops e o=some true) {v:AVal} (hv:ALe r.v v) :
  StT P C nt ops o (Z3A ops o e r v) e s:=by
 intro R η e0 s0 a w u z G j K Q S;have k:∀ x ∈ o.op.operands.toList,aev e0 x=aev e x:=by
  intro x k
  cases x with
  | tmp t=>exact u t (List.mem_append.2 (.inl (List.mem_filterMap.2 ⟨_,k,rfl⟩)))
  | const v=>rfl
  | global g=>rfl
  | func f=>rfl
 have A:Q9f L m e0 s0 o=some r:=by
  rcases Bool.eq_false_or_eq_true (Y1y o) with H|H
  ·rw [Y5C m o k H];exact hr
  ·have D:∀ x ∈ o.op.operands.toList,∀ i ∈ (aev e x).refs,s0 i=s i:=fun x k i h=>z i (by
    show i ∈ if Y1y o=true then [] else Z1M e o;rw [H];exact List.mem_flatMap.2 ⟨x,k,h⟩)
   rw [Y1z m o k D];exact hr
 have I:∀ x,o.dst=some x->x<nt:=by
  intro x k;simp only [Q1E,k,Bool.and_eq_true,decide_eq_true_eq] at hdo
  exact hdo.1
 have M:∀ t x y,o.op=.store t x y->o.dst=none:=by
  intro t x y E;simp only [Q1E,E,Bool.and_eq_true] at hdo
  simpa using hdo.2
 have N:=Q5y (e:=e) j (fun t T=>u t (List.mem_append.2 (.inr T))) hg;rw [if_pos N]
 have p:=Y6w hL j m o I A hc (fun d n B=>G d (by
  obtain ⟨U,J⟩:=Option.ne_none_iff_exists'.1 B;simp [Z3A,SR.nw,J,n])) M
 refine p.wp fun η' O w' F=>S η' O w' ?_
 have b:=F.wider (Y4D r o.dst R);have q:upS (Z3A ops o e r v).l s0=r.sto o.dst s0:=Y4C r o.dst s0
 rw [q];have B:(Z3A ops o e r v).news=r.nw o.dst:=rfl
 rw [B];refine ⟨b.ok,b.df,b.sz,fun t=>?_,fun t i h=>?_,b.st,b.sr,b.ds,b.ow,b.fr,b.pn⟩
 ·have c:=b.ev t
  unfold Z0c;unfold SR.env at c
  cases n:o.dst with
  | none=>rw [n] at c;exact c
  | some d=>
   rw [n] at c;simp only at c ⊢
   by_cases htd:t=d
   ·rw [if_pos htd] at c ⊢;exact hv.1 _ _ _ _ _ c
   ·rw [if_neg htd] at c ⊢;exact c
 ·have c:=b.er t
  unfold Z0c at h;unfold SR.env at c
  cases n:o.dst with
  | none=>rw [n] at c h;exact c i h
  | some d=>
   rw [n] at c h;simp only at c h
   by_cases htd:t=d
   ·rw [if_pos htd] at c h;exact c i (hv.2 i h)
   ·rw [if_neg htd] at c h;exact c i h
theorem ALe.refl (x:AVal):ALe x x:=⟨fun _ _ _ _ _ h=>h,fun _ h=>h⟩
theorem Y7u {o:Oper} (hdo:Q1E nt o=true) {e:Env} {s:Sto} (hg:Q8l ops e o=some false):StT P C nt ops o (Y0f ops o) e s:=by
 intro R η e0 s0 a w d f h b K Q q;have p:=Q5y (e:=e) b (fun t n=>d t n) hg
 rw [if_neg (by rw [p];simp)];refine q η _ w ?_
 have c:∀ x,o.dst=some x->x<nt:=by
  intro x k;simp only [Q1E,k,Bool.and_eq_true,decide_eq_true_eq] at hdo
  exact hdo.1
 have:=b.val o.dst c (.t []) undef fun _=>⟨.t #[] [] rfl (fun j u=>absurd u (Nat.not_lt_zero j)),by simp [AVal.refs]⟩
 have g:upS (Y0f ops o).l s0=s0:=by funext i;rfl
 rw [g];have r:Z0c o.dst (Y0f ops o).v e0=SR.env { v:=.t [] } o.dst e0:=rfl
 rw [r];exact this.wider fun i m=>.inl m
theorem Y8M (hL:LOk P L):∀ (os:List Oper) (ds:List Dir) (e:Env) (s:Sto),(os.all (Q1E nt))=true->Q7m P C nt L ops os ds e s->Y1D P C nt ops os (Q1o L ops os ds e s) e s:=by
 intro os
 induction os with
 | nil=>
  intro ds e s _ h
  cases ds with
  | nil=>trivial
  | cons d ds=>exact h.elim
 | cons o os ih=>
  intro ds e s j h
  cases ds with
  | nil=>exact h.elim
  | cons d ds=>
   simp only [List.all_cons,Bool.and_eq_true] at j;simp only [Q7m] at h
   simp only [Q1o,Y1D];have p:StT P C nt ops o (Z2t L ops o d e s) e s/\Q7m P C nt L ops os ds (Z0c o.dst (Z2t L ops o d e s).v e) (upS (Z2t L ops o d e s).l s):=by
    generalize hrest:Q7m P C nt L ops os ds (Z0c o.dst (Z2t L ops o d e s).v e) (upS (Z2t L ops o d e s).l s)=f at h;have i:∀ {b:Bool} {c f:Prop},Y9a b c f->f:=by
     intro b c f q;cases b <;> first|exact q.2|exact q
    have g:∀ {m:Bool} {r:SR} {f:Prop},Q9f L m e s o=some r->Y9a (Y5l e o) r.cond f->r.cond:=by
     intro m r f n q
     cases hb:Y5l e o with
     | true=>rw [hb] at q;exact q.1
     | false=>exact Y9J hb n
    unfold W0l at h;unfold Z2t
    split at h
    ·exact ⟨by split <;> first|exact h.1|contradiction | (rename_i u t;cases t;exact h.1),h.2⟩
    ·rename_i k
     split at h
     ·rename_i r n
      simp only [k];exact ⟨Y2R hL j.1 n (g n h) k (ALe.refl _),i h⟩
     ·exact h.elim
    ·rename_i k
     split at h
     ·rename_i r n
      simp only [k];exact ⟨Y2R hL j.1 n (g n h) k (ALe.refl _),i h⟩
     ·exact h.elim
    ·rename_i v k
     split at h
     ·rename_i r n
      simp only [k];exact ⟨Y2R hL j.1 n (g n h) k (i h).1,(i h).2⟩
     ·exact h.elim
    ·rename_i k
     simp only [k];exact ⟨Y7u j.1 k,h⟩
    ·exact h.elim
   exact ⟨p.1,ih ds _ _ j.2 p.2⟩
end
end
section
def lk (E:List (Nat×AVal)):Env:=fun t=>(E.lookup t).getD .any
def ls (S:List (Nat×Obj)):Sto:=fun i=>S.lookup i
def Y2o (E:List (Nat×AVal)) (S:List (Nat×Obj)):List Nat:=E.flatMap (fun p=>p.2.refs)++S.flatMap fun p=>p.1::p.2.refs
def OLe (o o' : Obj):Prop:=(∀ w X η C v,ORep w X η C v o->ORep w X η C v o')/\o'.ro=o.ro/\∀ i ∈ o'.refs,i ∈ o.refs
theorem OLe.refl (o:Obj):OLe o o:=⟨fun _ _ _ _ _ h=>h,rfl,fun _ h=>h⟩
theorem ALe.any (x:AVal):ALe x .any:=⟨fun _ _ _ _ v _=>.any v,fun _ h=>by cases h⟩
theorem ALe.of_eq {x y:AVal} (h:x=y):ALe x y:=h ▸ ALe.refl x
def CV.ren (ρ:Nat->Nat):CV->CV
  | .own i=>.own (ρ i)
  | .ptr i o=>.ptr (ρ i) o
  | .pte i es ix o=>.pte (ρ i) es ix o
  | .sub i es lo n=>.sub (ρ i) es lo n
  | .clo f ids=>.clo f (ids.map ρ)
  | .ap i=>.ap (ρ i)
  | .cp i j=>.cp (ρ i) j
  | x=>x
def TV.ren (ρ:Nat->Nat):TV->TV
  | .c x=>.c (x.ren ρ)
  | .g xs=>.g (xs.map (CV.ren ρ))
def AVal.ren (ρ:Nat->Nat):AVal->AVal
  | .any=>.any
  | .v x=>.v (x.ren ρ)
  | .t xs=>.t (xs.map (TV.ren ρ))
def Obj.ren (ρ:Nat->Nat):Obj->Obj
  | .box ro cs=>.box ro (cs.map (CV.ren ρ))
  | .exr refs p=>.exr (refs.map ρ) p
  | o=>o
section
variable {w:World} {X:Nat->Prop} {η:Nat->Value} {C:Ctx} {ρ:Nat->Nat}
theorem CRep.unren {v:Value} {x:CV} (h:CRep w X η C v (x.ren ρ)):CRep w X (fun i=>η (ρ i)) C v x:=by
  cases x with
  | d x=>cases h with|d _ _ h=>exact .d _ _ h
  | fl n f=>cases h with|fl _ _ _ h=>exact .fl _ _ _ h
  | own i=>cases h with|own _ _ h h1=>exact .own _ i h h1
  | ptr i o=>cases h with|ptr _ _ _ h=>exact .ptr _ i o h
  | pte i es ix o=>cases h with|pte _ _ _ _ _ _ _ h=>exact .pte _ _ _ i es ix o h
  | sub i es lo n=>cases h with
    | sub b N cap _ _ _ _ h h1 h2=>exact .sub b N cap i es lo n h h1 h2
    | subN ad ad' _ _ _ h=>exact .subN ad ad' _ i es h
  | elm cs=>cases h with|elm _ _ _ _ _ _ h1 h2 h3 h4=>exact .elm _ _ _ _ _ _ h1 h2 h3 h4
  | clo f ids=>cases h with|clo _ _ _ h=>exact .clo f ids _ (by rw [h,List.map_map];rfl)
  | sem p=>cases h with|sem _ _ h h1=>exact .sem _ _ h h1
  | ap i=>cases h with|ap _ _ h h1=>exact .ap _ i h h1
  | bnd f cs=>cases h with|bnd _ _ _ h1 h2=>exact .bnd _ _ _ h1 h2
  | cp i j=>cases h with|cp _ _ _ _ h h1 h2=>exact .cp _ i j _ h h1 h2
theorem z6.unren {vs:Array Value} {cs:List CV} (h:z6 w X η C vs (cs.map (CV.ren ρ))):z6 w X (fun i=>η (ρ i)) C vs cs:=by
  refine ⟨by simpa using h.1,fun j b=>CRep.unren (ρ:=ρ) ?_⟩;have:=h.2 j (by simpa using b)
  rw [List.getD_eq_getElem?_getD,List.getElem?_map,List.getElem?_eq_getElem b] at this;rw [List.getD_eq_getElem?_getD,List.getElem?_eq_getElem b]
  exact this
theorem TRep.unren {v:Value} {x:TV} (h:TRep w X η C v (x.ren ρ)):TRep w X (fun i=>η (ρ i)) C v x:=by
  cases x with
  | c x=>cases h with|c _ _ h=>exact .c _ _ h.unren
  | g xs=>cases h with|g _ _ h=>exact .g _ _ h.unren
theorem ARep.unren {v:Value} {x:AVal} (h:ARep w X η C v (x.ren ρ)):ARep w X (fun i=>η (ρ i)) C v x:=by
  cases x with
  | any=>exact .any v
  | v x=>cases h with|v _ _ h=>exact .v _ _ h.unren
  | t xs=>
    cases h with
    | t us _ h1 h2=>
      refine .t us xs (by simpa using h1) fun j b=>TRep.unren (ρ:=ρ) ?_
      have:=h2 j (by simpa using b)
      rw [List.getD_eq_getElem?_getD,List.getElem?_map,List.getElem?_eq_getElem b] at this;rw [List.getD_eq_getElem?_getD,List.getElem?_eq_getElem b]
      exact this
theorem ORep.unren {v:Value} {o:Obj} (h:ORep w X η C v (o.ren ρ)):ORep w X (fun i=>η (ρ i)) C v o:=by
  cases o with
  | box ro cs=>cases h with|box b _ c e _ h1 h2=>exact .box b ro c e cs h1 h2.unren
  | arr es n f=>
    cases h with
    | nil ad _ _=>exact .nil ad _ _
    | arr b _ cap _ c e _ h1 h2 h3 h4 h5 h6 h7=>exact .arr b _ cap _ c e _ h1 h2 h3 h4 h5 h6 h7
  | ext p=>cases h with|ext _ _ h1 h2 h3=>exact .ext _ _ h1 h2 h3
  | exr refs p=>
    cases h with|exr _ _ _ h1 h2 h3=>
    rw [List.map_map] at h1 h2;exact .exr _ refs p h1 h2 h3
theorem Obj.ro_ren (o:Obj):(o.ren ρ).ro=o.ro:=by cases o <;> rfl
theorem Conc.conv {nt:Nat} {R R' : Nat->Prop} {e e' : Env} {s s' : Sto} {a:Act} (h:Conc C nt R η e s a w) (ρ:Nat->Nat) (he:∀ t,ALe (e t) ((e' t).ren ρ)) (hs:∀ i o',s' i=some o' -> ∃ o,s (ρ i)=some o/\OLe o (o'.ren ρ))
    (hinj:∀ i j,s' i≠none->s' j≠none->ρ i=ρ j->i=j) (hR:∀ t i,i ∈ (e' t).refs->R' i) (hR2:∀ i o',s' i=some o' -> R' i/\∀ j ∈ o'.refs,R' j) (hpin:∀ i,C.pin i≠none->ρ i=i/\R' i) :
    Conc C nt R' (fun i=>η (ρ i)) e' s' a w:=by
  have u:Q6Z w w (XS C s η) (XS C s' fun i=>η (ρ i)):=by
    intro b x D;refine ⟨rfl,fun m=>D ?_⟩
    rcases m with z|⟨i,o',c,k⟩
    · exact .inl z
    · obtain ⟨o,f,_⟩:=hs i o' c
      exact .inr ⟨ρ i,o,f,k⟩
  refine ⟨h.ok,h.df,h.sz,fun t=>?_,hR,fun i o' c=>?_,hR2,fun i j b c y r q=>?_,fun i o' b c x=>?_,h.fr,fun i v c=>?_⟩
  · exact ARep.unren (((he t).1 _ _ _ _ _ (h.ev t)).mono u (fun _ _=>rfl))
  · obtain ⟨o,f,d⟩:=hs i o' c
    exact ORep.unren ((d.1 _ _ _ _ _ (h.st _ o f)).mono u (fun _ _=>rfl) (fun _ _=>rfl))
  · obtain ⟨F,n⟩:=Option.ne_none_iff_exists'.1 c
    obtain ⟨B,p⟩:=Option.ne_none_iff_exists'.1 y;obtain ⟨H,E,_⟩:=hs i F n
    obtain ⟨G,A,_⟩:=hs j B p;exact hinj i j c y (h.ds _ _ b (by rw [E];simp) (by rw [A];simp) r q)
  · obtain ⟨o,f,d⟩:=hs i o' c
    have:=h.ow _ o b f x
    have g:o'.ro=o.ro:=by rw [<-d.2.1,Obj.ro_ren]
    rw [g];exact this
  · have:=hpin i (by rw [c];simp)
    exact ⟨by show η (ρ i)=v;rw [this.1];exact (h.pn i v c).1,this.2⟩
end
def V3 (l:List (Nat×Nat)) (i:Nat):Nat:=(l.lookup i).getD i
theorem Z8P {E:List (Nat×AVal)} {t:Nat}:lk E t=.any\/(t,lk E t) ∈ E:=by
  unfold lk
  cases h:E.lookup t with
  | none=>exact .inl rfl
  | some x=>
    right
    obtain ⟨c,d,b,_⟩:=List.lookup_eq_some_iff.1 h;rw [b];simp
theorem U4 {S:List (Nat×Obj)} {i:Nat} {o:Obj} (h:ls S i=some o):(i,o) ∈ S:=by
  obtain ⟨c,d,b,_⟩:=List.lookup_eq_some_iff.1 h;rw [b];simp
def Q3n:List Nat->Bool
  | []=>true
  | x::r=> !r.contains x&&Q3n r
theorem Q4t {l:List Nat} (h:Q3n l=true):l.Nodup:=by
  induction l with
  | nil=>exact List.nodup_nil
  | cons x r ih=>simp [Q3n] at h;exact List.nodup_cons.2 ⟨h.1,ih h.2⟩
theorem Y5k {S:List (Nat×Obj)} {ρ:Nat->Nat} (h:(S.map fun p=>ρ p.1).Nodup) {i j:Nat} (hi:ls S i≠none) (hj:ls S j≠none) (hij:ρ i=ρ j):i=j:=by
  obtain ⟨u,g⟩:=Option.ne_none_iff_exists'.1 hi;obtain ⟨q,k⟩:=Option.ne_none_iff_exists'.1 hj
  have n:=U4 g;have o:=U4 k
  rcases Nat.decEq i j with c|m
  · exfalso
    obtain ⟨r,t,rfl⟩:=List.append_of_mem n;rw [List.map_append,List.map_cons,List.nodup_append] at h
    rcases List.mem_append.1 o with d|d
    · exact h.2.2 _ (List.mem_map_of_mem d) _ (List.mem_cons_self) hij.symm
    · rcases List.mem_cons.1 d with b|b
      · injection b with h5;exact c h5.symm
      · have:=(List.nodup_cons.1 h.2.1).1
        exact this (hij ▸ List.mem_map_of_mem (f:=fun p:Nat×Obj=>ρ p.1) b)
  · exact m
section
variable {P:Program} {C:Ctx} {nt:Nat}
def Kn (C:Ctx) (nt:Nat) (E:List (Nat×AVal)) (S:List (Nat×Obj)) (K:Act->World->Prop):Prop:=
  ∀ R η a w,Conc C nt R η (lk E) (ls S) a w->K a w
def AW (P:Program) (C:Ctx) (nt:Nat) (c:Code) (E:List (Nat×AVal)) (S:List (Nat×Obj)) (Q:Exit->Act->World->Prop):Prop:=Kn C nt E S (fun a w=>c.wp P Q a w)
def pinsB (C:Ctx) (ρ:Nat->Nat):Prop:=∀ i,C.pin i≠none->ρ i=i
theorem Conc.lit {R:Nat->Prop} {η:Nat->Value} {e:Env} {s:Sto} {a:Act} {w:World} (h:Conc C nt R η e s a w) {E:List (Nat×AVal)} {S:List (Nat×Obj)} {ρ:Nat->Nat} (hpin:pinsB C ρ)
    (hE:∀ p ∈ E,ALe (e p.1) (p.2.ren ρ)) (hS:∀ p ∈ S,∃ o,s (ρ p.1)=some o/\OLe o (p.2.ren ρ)) (hinj:(S.map fun p=>ρ p.1).Nodup) :
    Conc C nt (fun i=>i ∈ Y2o E S\/C.pin i≠none) (fun i=>η (ρ i)) (lk E) (ls S) a w:=by
  refine h.conv ρ (fun t=>?_) (fun i g b=>hS _ (U4 b)) (fun i j b f d=>Y5k hinj b f d) (fun t i b=>.inl ?_) (fun i g b=>⟨.inl ?_,fun j f=>.inl ?_⟩) (fun i b=>⟨hpin i b,.inr b⟩)
  · rcases Z8P (E:=E) (t:=t) with c|c
    · rw [c];exact ALe.any _
    · exact hE _ c
  · rcases Z8P (E:=E) (t:=t) with c|c
    · rw [c] at b;cases b
    · exact List.mem_append.2 (.inl (List.mem_flatMap.2 ⟨_,c,b⟩))
  · exact List.mem_append.2 (.inr (List.mem_flatMap.2 ⟨_,U4 b,List.mem_cons_self⟩))
  · exact List.mem_append.2 (.inr (List.mem_flatMap.2 ⟨_,U4 b,List.mem_cons_of_mem _ f⟩))
theorem Conc.narrow {R:Nat->Prop} {η:Nat->Value} {E:List (Nat×AVal)} {S:List (Nat×Obj)} {a:Act} {w:World} (h:Conc C nt R η (lk E) (ls S) a w) :
    Conc C nt (fun i=>i ∈ Y2o E S\/C.pin i≠none) η (lk E) (ls S) a w:=by
  refine ⟨h.ok,h.df,h.sz,h.ev,fun t i b=>.inl ?_,h.st,fun i o b=>⟨.inl ?_,fun j d=>.inl ?_⟩,h.ds,h.ow,h.fr,fun i v b=>⟨(h.pn i v b).1,.inr (by rw [b];simp)⟩⟩
  · rcases Z8P (E:=E) (t:=t) with c|c
    · rw [c] at b;cases b
    · exact List.mem_append.2 (.inl (List.mem_flatMap.2 ⟨_,c,b⟩))
  · exact List.mem_append.2 (.inr (List.mem_flatMap.2 ⟨_,U4 b,List.mem_cons_self⟩))
  · exact List.mem_append.2 (.inr (List.mem_flatMap.2 ⟨_,U4 b,List.mem_cons_of_mem _ d⟩))
theorem Kn.le {E E' : List (Nat×AVal)} {S S' : List (Nat×Obj)} {K:Act->World->Prop} (ρ:Nat->Nat) (hpin:pinsB C ρ) (hE:∀ p ∈ E',ALe (lk E p.1) (p.2.ren ρ)) (hS:∀ p ∈ S',∃ o,ls S (ρ p.1)=some o/\OLe o (p.2.ren ρ)) (hinj:(S'.map fun p=>ρ p.1).Nodup)
    (h:Kn C nt E' S' K):Kn C nt E S K:=fun R η a w b=>h _ _ a w (b.lit hpin hE hS hinj)
theorem Q1P {α β:Type} {l:List α} {f g:α->β} (h:l.map f=l.map g):∀ x ∈ l,f x=g x:=by
  induction l with
  | nil=>intro x b;cases b
  | cons y r ih=>
    simp only [List.map_cons,List.cons.injEq] at h;intro x b
    rcases List.mem_cons.1 b with rfl|b
    · exact h.1
    · exact ih h.2 x b
theorem W1o {E E' : List (Nat×AVal)} {S S' : List (Nat×Obj)} {K:Act->World->Prop} (ρ:List (Nat×Nat)) (hpin:pinsB C (V3 ρ)) (hE:E'.map (fun p=>lk E p.1)=E'.map (fun p=>p.2.ren (V3 ρ)))
    (hS:S'.map (fun p=>ls S (V3 ρ p.1))=S'.map (fun p=>some (p.2.ren (V3 ρ)))) (hinj:Q3n (S'.map fun p=>V3 ρ p.1)=true) (h:Kn C nt E' S' K):Kn C nt E S K:=
  Kn.le (V3 ρ) hpin (fun p b=>ALe.of_eq (Q1P hE p b)) (fun p b=>⟨_,Q1P hS p b,OLe.refl _⟩) (Q4t hinj) h
theorem CV.ren_id (x:CV):x.ren (fun i=>i)=x:=by cases x <;> simp [CV.ren]
theorem TV.ren_id (x:TV):x.ren (fun i=>i)=x:=by
  cases x with
  | c x=>simp [TV.ren,CV.ren_id]
  | g xs=>
    simp only [TV.ren];congr 1;conv=>rhs;rw [<-List.map_id xs]
    exact List.map_congr_left fun y _=>CV.ren_id y
theorem AVal.ren_id (x:AVal):x.ren (fun i=>i)=x:=by
  cases x with
  | any=>rfl
  | v x=>simp [AVal.ren,TV.ren_id]
  | t xs=>
    simp only [AVal.ren];congr 1;conv=>rhs;rw [<-List.map_id xs]
    exact List.map_congr_left fun y _=>TV.ren_id y
theorem Obj.ren_id (o:Obj):o.ren (fun i=>i)=o:=by
  cases o with
  | box ro cs=>
    simp only [Obj.ren];congr 1;conv=>rhs;rw [<-List.map_id cs]
    exact List.map_congr_left fun y _=>CV.ren_id y
  | arr es n f=>rfl
  | ext p=>rfl
  | exr refs p=>simp [Obj.ren]
structure Fr (P:Program) (L:Lay) (C:Ctx) (pins:List Nat):Prop where
  mixed:P.follows .mixedOrders=true
  lay:LOk P L
  pin:∀ i,C.pin i≠none->i ∈ pins
def Z6c (L:Lay) (pins:List Nat) (nt:Nat) (ops:Array Oper) (draw:Bool) (ds:List Dir) (E:List (Nat×AVal)) (S:List (Nat×Obj)) (ρ:List (Nat×Nat)) (S' : List (Nat×Obj)):Bool:=
  let F:=Q1o L ops ops.toList ds (lk E) (ls S)
  ops.toList.all (Q1E nt)&&Q3n (Q5p F)&&(Q5p F).all (fun n=> !(Y2o E S).contains n && !pins.contains n)&&(!draw||W0t ops.toList F)&&Q3n (S'.map fun p=>V3 ρ p.1)&&pins.all fun i=>V3 ρ i==i
theorem AW.region {L:Lay} {pins:List Nat} (Fm:Fr P L C pins) {id:Nat} {ops:Array Oper} {draw:Bool} {E E' : List (Nat×AVal)} {S S' : List (Nat×Obj)} {Q:Exit->Act->World->Prop} (ds:List Dir) (ρ:List (Nat×Nat))
    (hchk:Z6c L pins nt ops draw ds E S ρ S'=true) (hC:Q7m P C nt L ops ops.toList ds (lk E) (ls S))
    (he0:E'.map (fun p=>Z2j ops.toList (Q1o L ops ops.toList ds (lk E) (ls S)) (lk E) p.1)=E'.map (fun p=>p.2.ren (V3 ρ)))
    (hs0:S'.map (fun p=>Z2i (Q1o L ops ops.toList ds (lk E) (ls S)) (ls S) (V3 ρ p.1))=S'.map (fun p=>some (p.2.ren (V3 ρ))))
    (k:Kn C nt E' S' (Q .normal)):AW P C nt (.region id ops draw) E S Q:=by
  simp only [Z6c,Bool.and_eq_true] at hchk;obtain ⟨⟨⟨⟨⟨U,T⟩,H⟩,J⟩,Y⟩,Z⟩:=hchk
  have b:=Y8M (P:=P) (C:=C) (nt:=nt) (L:=L) (ops:=ops) Fm.lay ops.toList ds (lk E) (ls S) U hC;generalize hF:Q1o L ops ops.toList ds (lk E) (ls S)=F at *
  have t:pinsB C (V3 ρ):=fun i r=>by
    have:=List.all_eq_true.1 Z i (Fm.pin i r)
    simpa using this
  have h:=Q4t T;intro R η a w M
  have g:=M.narrow;have q:∀ n ∈ Q5p F,¬ (n ∈ Y2o E S\/C.pin n≠none):=by
    intro n K f;have:=List.all_eq_true.1 H n K
    simp at this
    rcases f with f|f
    · exact this.1 f
    · exact this.2 (Fm.pin n f)
  have m:∀ η' d w',Conc C nt (fun i=>(i ∈ Y2o E S\/C.pin i≠none)\/i ∈ Q5p F) η' (Z2j ops.toList F (lk E)) (Z2i F (ls S)) d w' -> Q .normal d w':=fun η' d w' c =>
    k _ _ d w' (c.lit t (fun p v=>ALe.of_eq (Q1P he0 p v)) (fun p v=>⟨_,Q1P hs0 p v,OLe.refl _⟩) (Q4t Y))
  cases draw with
  | false=>exact wp_region_list (Y4R ops.toList F _ η _ _ a w b h q g m)
  | true=>
    have x:W0t ops.toList F=true:=by simpa using J
    obtain ⟨I,G,B⟩:=Y4n ops.toList F ops.toList F [] [] x rfl rfl rfl (fun k i V=>by simp at V);have y:=Y6G (P:=P) (C:=C) (nt:=nt) (ops:=ops) ops.toList F ops.toList F 0 (lk E) (ls S) (fun j=>by rw [Nat.zero_add]) (fun j _=>by rw [Nat.zero_add]) B b
    obtain ⟨D,z,u⟩:=y;simp only [Nat.zero_add,List.range_zero,List.reverse_nil] at D z u
    refine wp_region_any Fm.mixed (Y8P (R:=fun i=>i ∈ Y2o E S\/C.pin i≠none) (e0:=lk E) (s0:=ls S) B (fun j o e=>I j o e (Nat.zero_le _)) (fun i j N oj W fj A=>G i j N oj W fj A (Nat.zero_le _)) D h q (fun η' d w' c=>m η' d w' ?_)
      ops.size (Array.replicate ops.size false) [] η a _ (by simp) (fun i r=>by simp [r]) (by simp) ⟨List.nodup_nil,fun l1 k l2 O=>by simp at O⟩ (by simp) ?_)
    · have e2:Z2j ops.toList F (lk E)=hE ops.toList F (lk E) (List.range ops.size).reverse:=by rw [Array.length_toList] at z;exact z
      have e3:Z2i F (ls S)=hS F (ls S) (List.range ops.size).reverse:=by rw [Array.length_toList] at u;exact u
      rw [e2,e3];exact c
    · exact g.drew.wider fun i r=>.inl r
end
end
section
section
variable {P:Program} {C:Ctx} {nt:Nat} {L:Lay} {pins:List Nat} {E:List (Nat×AVal)} {S:List (Nat×Obj)} {Q:Exit->Act->World->Prop}
theorem AW.seq {x y:Code} (h:AW P C nt x E S (Exit.then (y.wp P Q) Q)):AW P C nt (.seq x y) E S Q:=fun R η a w b=>wp_seq (h R η a w b)
theorem AW.skip (h:Kn C nt E S (Q .normal)):AW P C nt .skip E S Q:=fun R η a w b=>wp_skip (h R η a w b)
theorem AW.ret (h:Kn C nt E S (Q .ret)):AW P C nt .ret E S Q:=fun R η a w b=>wp_ret (h R η a w b)
theorem AW.exit {id:Nat} (h:Kn C nt E S (Q (.exit id))):AW P C nt (.exit id) E S Q:=fun R η a w b=>wp_exit (h R η a w b)
theorem AW.block {id:Nat} {c:Code} (h:AW P C nt c E S (Exit.inBlock id Q)):AW P C nt (.block id c) E S Q:=fun R η a w b=>wp_block (h R η a w b)
theorem AW.cond {t:Nat} {x y:Code} {b:Bool} (hb:lk E t=vb b) (ht:b=true->AW P C nt x E S Q) (hf:b=false->AW P C nt y E S Q):AW P C nt (.cond (.tmp t) x y) E S Q:=by
 intro R η a w c;have d:=c.ev t
 rw [hb] at d;have f:a.eval (.tmp t)=.bool b:=Z8i d
 cases b with
 | true=>exact wp_cond_true f (ht rfl R η a w c)
 | false=>exact wp_cond_false f (hf rfl R η a w c)
def Ex {σ:Type} (C:Ctx) (nt:Nat) (I:σ->Prop) (E:σ->List (Nat×AVal)) (S:σ->List (Nat×Obj)) (a:Act) (w:World):Prop:=∃ z,I z/\∃ R η,Conc C nt R η (lk (E z)) (ls (S z)) a w
theorem W1q {σ:Type} {I:σ->Prop} {E' : σ->List (Nat×AVal)} {S' : σ->List (Nat×Obj)} (z:σ) (hz:I z):Kn C nt (E' z) (S' z) (Ex C nt I E' S'):=fun R η _ _ b=>⟨z,hz,R,η,b⟩
theorem AW.loop {σ:Type} {c:Code} (I:σ->Prop) (μ:σ->Nat) (E' : σ->List (Nat×AVal)) (S' : σ->List (Nat×Obj)) (round:∀ z,I z->AW P C nt c (E' z) (S' z) (Exit.then (Ex C nt (fun z'=>I z' /\ μ z' < μ z) E' S') Q)) (z0:σ) (h0:I z0) :
  AW P C nt (.loop c) (E' z0) (S' z0) Q:=by
 classical
 intro R η a w G
 let J:Act->World->Nat->Prop:=fun a w n=>∃ z,I z/\μ z=n/\∃ R η,Conc C nt R η (lk (E' z)) (ls (S' z)) a w
 let m:Act->World->Nat:=fun a w=>if h:∃ n,J a w n then h.choose else 0
 have b:∀ (n:Nat) a w,J a w n->∃ k,J a w k/\∀ j,J a w j->k<=j:=by
  intro n
  induction n using Nat.strongRecOn with
  | _ n ih=>
   intro a w F;rcases Classical.em (∃ j,j<n/\J a w j) with ⟨j,r,g⟩|q
   ·exact ih j r a w g
   ·exact ⟨n,F,fun j r=>Nat.le_of_not_lt fun d=>q ⟨j,d,r⟩⟩
 let μ' : Act->World->Nat:=fun a w=>if h:∃ n,J a w n then (b h.choose a w h.choose_spec).choose else 0
 have v:∀ a w,(∃ n,J a w n)->J a w (μ' a w)/\∀ j,J a w j->μ' a w<=j:=by
  intro a w f;have:μ' a w=(b f.choose a w f.choose_spec).choose:=by simp only [μ',f,dite_true]
  rw [this];exact (b f.choose a w f.choose_spec).choose_spec
 refine wp_loop (fun a w=>∃ n,J a w n) μ' ⟨_,z0,h0,rfl,R,η,G⟩ fun a w f=>?_
 obtain ⟨⟨z,D,p,H,η',t⟩,_⟩:=v a w f;refine Code.wp_mono (fun e u y x=>?_) (round z D H η' a w t)
 cases e with
 | normal=>
  obtain ⟨z',⟨o,d⟩,A,B,i⟩:=x;have g:J u y (μ z'):=⟨z',o,rfl,A,B,i⟩
  exact ⟨⟨_,g⟩,Nat.lt_of_le_of_lt ((v u y ⟨_,g⟩).2 _ g) (by rw [<-p];exact d)⟩
 | _=>exact x
def Y9y (L:Lay) (e:Env) (s:Sto):ResultVar->Option TV
 | .tmp t=>match e t with
  | .v x=>some x
  | _=>none
 | .cell a t=>match L t with
  | some ti=>match rd s ti.size (e a) with
   | some (cs,_)=>if Y2t (e a) then none else match mkT ti.kind.agg cs with
    | some (.v x)=>some x
    | _=>none
   | none=>none
  | none=>none
def Y0F (L:Lay) (e:Env) (s:Sto):List ResultVar->Option (List TV)
 | []=>some []
 | r::rs=>match Y9y L e s r,Y0F L e s rs with
  | some x,some xs=>some (x::xs)
  | _,_=>none
def Y6I (L:Lay) (e:Env) (s:Sto) (rs:List ResultVar):Option AVal:=
 match rs,Y0F L e s rs with
 | [_],some [x]=>some (.v x)
 | [_],_=>none
 | _,some xs=>some (.t xs)
 | _,none=>none
def Y5P (tmps:Array Value):ResultVar->Sem Value
 | .tmp t=>pure (tmps.getD t undef)
 | .cell a t=>do loadVar t (<-asAddr (tmps.getD a undef))
theorem Y9x (hL:LOk P L) {R:Nat->Prop} {η:Nat->Value} {e:Env} {s:Sto} {a:Act} {w:World} (h:Conc C nt R η e s a w) {r:ResultVar} {x:TV} (hr:Y9y L e s r=some x) :
  ∃ v,(Y5P a.tmps r).run P w=.ok v w/\TRep w (XS C s η) η C v x:=by
 cases r with
 | tmp t=>
  simp only [Y9y] at hr;split at hr
  ·rename_i y k
   cases hr
   have:=h.ev t
   rw [k] at this;refine ⟨a.tmps.getD t undef,rfl,?_⟩
   generalize a.tmps.getD t undef=u at this
   cases this with
   | v _ _ hv=>exact hv
  ·cases hr
 | cell a' t=>
  simp only [Y9y] at hr;split at hr
  ·rename_i n J
   split at hr
   ·rename_i V c f
    split at hr
    ·cases hr
    ·rename_i q
     split at hr
     ·rename_i y k
      cases hr
      have M:c:=by
       unfold rd at f;split at f
       ·split at f
        ·split at f <;> first | (cases f;done) | (cases f;trivial)
        ·cases f
       ·split at f <;> first | (cases f;done) | (cases f;trivial)
       ·rename_i I;rw [I] at q;simp [Y2t] at q
       ·cases f
      obtain ⟨i,d,z,G⟩:=hL t n J;obtain ⟨b,m,B,W,U,T,O,K,D,p,N⟩:=W0p h f M (h.ev a')
      have H:n.kind.agg=false->n.size=1:=by
       intro o;rw [o] at k
       simp only [mkT] at k;split at k
       ·rw [<-D];rfl
       ·cases k
      have A:=Z9s (P:=P) G O K H;refine ⟨if n.kind.agg then .agg (Q8E B m n.size).toArray else B.getD m undef,?_,?_⟩
      ·simp only [Y5P,Sem.run_bind,T,asAddr,Sem.run_pure,Result.andThen_ok,A]
      ·unfold mkT at k
       split at k
       ·rename_i o
        cases k
        simp only [o,if_true];refine .g _ _ ⟨by simp [Q8E,D],fun j F=>?_⟩
        rw [D] at F;have:(Q8E B m n.size).toArray.getD j undef=B.getD (m+j) undef:=by simp [Q8E,F]
        rw [this];exact p j F
       ·rename_i o
        split at k
        ·cases k
         simp only [o,Bool.false_eq_true,if_false];have:=p 0 (by rw [H o];exact Nat.zero_lt_one)
         exact .c _ _ (by simpa using this)
        ·cases k
     ·cases hr
   ·cases hr
  ·cases hr
theorem Y7G (hL:LOk P L) {R:Nat->Prop} {η:Nat->Value} {e:Env} {s:Sto} {a:Act} {w:World} (h:Conc C nt R η e s a w):∀ (rs:List ResultVar) (xs:List TV),Y0F L e s rs=some xs ->
  ∃ vs:List Value,(rs.mapM (Y5P a.tmps)).run P w=.ok vs w/\vs.length=xs.length/\∀ j,j<xs.length->TRep w (XS C s η) η C (vs.getD j undef) (xs.getD j (.c (.d .any))):=by
 intro rs
 induction rs with
 | nil=>intro xs b;cases b;exact ⟨[],by simp,rfl,fun j i=>by simp at i⟩
 | cons r rs ih=>
  intro xs b;simp only [Y0F] at b
  split at b
  ·rename_i x f o g
   cases b
   obtain ⟨v,p,k⟩:=Y9x hL h o;obtain ⟨vs,n,q,m⟩:=ih f g
   refine ⟨v::vs,?_,by simp [q],fun j i=>?_⟩
   ·simp only [List.mapM_cons,Sem.run_bind,p,n,Result.andThen_ok,Sem.run_pure]
   ·cases j with
    | zero=>exact k
    | succ j=>exact m j (by simpa using i)
  ·cases b
theorem Y9z (hL:LOk P L) {R:Nat->Prop} {η:Nat->Value} {e:Env} {s:Sto} {a:Act} {w:World} (h:Conc C nt R η e s a w) {fn:Func} {x:AVal} (hr:Y6I L e s fn.results.toList=some x) :
  ∃ v,(results fn a.tmps).run P w=.ok v w/\ARep w (XS C s η) η C v x:=by
 have i:∀ g,Y0F L e s fn.results.toList=some g->∃ b:List Value,(results fn a.tmps).run P w=.ok (if h:b.toArray.size=1 then b.toArray[0] else .tuple b.toArray) w/\b.length=g.length/\∀ j,j<g.length->TRep w (XS C s η) η C (b.getD j undef) (g.getD j (.c (.d .any))):=by
  intro g f;obtain ⟨b,m,k,p⟩:=Y7G hL h _ _ f
  refine ⟨b,?_,k,p⟩;have o:results fn a.tmps=(do let b <-fn.results.mapM (Y5P a.tmps);pure (if h:b.size=1 then b[0] else .tuple b)):=by
   unfold results;congr 1
  rw [o];simp only [Sem.run_bind,Array.mapM_eq_mapM_toList,Sem.run_map,m,Result.andThen_ok,Sem.run_pure]
 unfold Y6I at hr;split at hr
 ·rename_i r J z f
  cases hr
  obtain ⟨b,m,k,p⟩:=i _ f;refine ⟨b.getD 0 undef,?_,.v _ _ (p 0 (by simp))⟩
  rw [m]
  cases b with
  | nil=>simp at k
  | cons v r=>cases r with
   | nil=>rfl
   | cons _ _=>simp at k
 ·cases hr
 ·skip
  rename_i g f _ u
  cases hr
  obtain ⟨b,m,k,p⟩:=i _ f;refine ⟨.tuple b.toArray,?_,.t _ _ (by simpa using k) (fun j F=>by simpa [List.getD_eq_getElem?_getD] using p j F)⟩
  rw [m];have n:∀ (q:List ResultVar) (g:List TV),Y0F L e s q=some g->q.length=g.length:=by
   intro q
   induction q with
   | nil=>intro g h;cases h;rfl
   | cons r q ih=>
    intro g h;simp only [Y0F] at h
    split at h
    ·rename_i H I G B;cases h;simp [ih _ B]
    ·cases h
  have y:¬ b.toArray.size=1:=by
   intro D;have A:b.length=1:=by simpa using D
   have:=n _ _ f
   rw [<-k,A] at this;obtain ⟨r,hr⟩:=List.length_eq_one_iff.1 this
   exact u r hr
  rw [dif_neg y]
 ·cases hr
end
end
section
def J4 (S:List (Nat×Obj)) (w:World) (X:Nat->Prop) (η:Nat->Value):Ctx where
 w0:=w
 D:=Own (ls S) η
 M:=fun b=>∃ i o,ls S i=some o/\o.ro=false/\b ∈ Y7 (η i)
 X:=X
 pin:=fun i=>if (S.lookup i).isSome then some (η i) else none
structure Behind (C:Ctx) (r:AVal) (S' : List (Nat×Obj)) (v:Value) (η' : Nat->Value) (w' : World):Prop where
 stp:Stp C.M C.w0 w'
 res:ARep w' (XS C (ls S') η') η' C v r
 objs:∀ i o,ls S' i=some o->ORep w' (XS C (ls S') η') η' C (η' i) o
 ds:∀ i j b,ls S' i≠none->ls S' j≠none->b ∈ Y7 (η' i)->b ∈ Y7 (η' j)->i=j
 ow:∀ i o b,ls S' i=some o->b ∈ Y7 (η' i)->(o.ro=true/\C.D b)\/C.M b\/C.w0.heap.size<=b
 pn:∀ i v,C.pin i=some v->η' i=v
def Q7 (P:Program) (f:Nat) (args:List AVal) (S:List (Nat×Obj)) (r:AVal) (S' : List (Nat×Obj)):Prop:=
 ∀ (w:World) (X:Nat->Prop) (η:Nat->Value) (vs:Array Value),(∀ b,X b->b<w.heap.size)->(∀ b,Own (ls S) η b->X b) ->
  (∀ i o,ls S i=some o->ORep w X η (J4 S w X η) (η i) o)->(∀ i j b,ls S i≠none->ls S j≠none->b ∈ Y7 (η i)->b ∈ Y7 (η j)->i=j) ->
  vs.size=args.length->(∀ j,j<args.length->ARep w X η (J4 S w X η) (vs.getD j undef) (args.getD j .any)) ->
  Calls P f vs w fun e w'=>∃ v η',e=.returned v/\Behind (J4 S w X η) r S' v η' w'
def Y4u (args:List AVal):List (Nat×AVal):=args.zipIdx.map fun p=>(p.2,p.1)
def Y4T (P:Program) (fn:Func) (C:Ctx) (r:AVal) (S' : List (Nat×Obj)):Exit->Act->World->Prop:=
 bodyPost P fn fun e w'=>∃ v η',e=.returned v/\Behind C r S' v η' w'
section
variable {P:Program} {L:Lay}
theorem Y0a {S:List (Nat×Obj)} {X:Nat->Prop} {η:Nat->Value} {w:World} (h:∀ b,Own (ls S) η b->X b):XS (J4 S w X η) (ls S) η=X:=by
 funext b
 apply propext;constructor
 ·rintro (⟨c,_⟩|c)
  ·exact c
  ·exact h b c
 ·intro c
  rcases Classical.em (Own (ls S) η b) with d|d
  ·exact .inr d
  ·exact .inl ⟨c,d⟩
theorem Y8O (args:List AVal) (t:Nat):lk (Y4u args) t=args.getD t .any:=by
 unfold lk Y4u;have b:∀ (l:List AVal) (k t:Nat),(((l.zipIdx k).map fun p=>(p.2,p.1)).lookup t).getD .any=if t<k then .any else l.getD (t-k) .any:=by
  intro l
  induction l with
  | nil=>intro k t;simp
  | cons x l ih=>
   intro k t;simp only [List.zipIdx_cons,List.map_cons,List.lookup_cons]
   by_cases ht:t=k
   ·subst ht;simp
   ·have:(t==k)=false:=by simpa using ht
    simp only [this];rw [ih (k+1) t]
    by_cases h1:t<k
    ·rw [if_pos (by omega),if_pos h1]
    ·rw [if_neg (by omega),if_neg h1]
     have:t-k=(t-(k+1))+1:=by omega
     rw [this];simp
 have:=b args 0 t
 simpa using this
theorem Q7.intro (hm:P.follows .mixedOrders=true) (hL:LOk P L) {f:Nat} {fn:Func} {c:Code} (hf:P.funcs[f]?=some fn) (hb:fn.body=some c) {args:List AVal} {S:List (Nat×Obj)} {r:AVal} {S' : List (Nat×Obj)} (hn0:Nat.ble args.length fn.ntmps=true)
  (h:∀ C,Fr P L C (S.map (·.1))->AW P C fn.ntmps c (Y4u args) S (Y4T P fn C r S')):Q7 P f args S r S':=by
 have F:args.length<=fn.ntmps:=Nat.le_of_ble_eq_true hn0;intro w X η p y g m j x k
 have B:(J4 S w X η).Ok:=⟨fun b ⟨i,o,h1,_,h2⟩=>⟨i,o,h1,h2⟩,fun b hb=>g b hb,y⟩;refine calls_of_wp hf hb (h (J4 S w X η) ⟨hm,hL,fun i d=>?_⟩ (fun _=>True) η _ w ⟨B,rfl,?_,fun t=>?_,fun _ _ _=>trivial,fun i o d=>?_,fun _ _ _=>⟨trivial,fun _ _=>trivial⟩,j,fun i o b d n=>?_,Stp.refl _ _,fun i v d=>⟨?_,trivial⟩⟩)
 ·simp only [J4] at d
  split at d
  ·rename_i u
   obtain ⟨o,A⟩:=Option.isSome_iff_exists.1 u;obtain ⟨G,D,q,_⟩:=List.lookup_eq_some_iff.1 A
   rw [q];simp
  ·exact absurd rfl d
 ·simp;omega
 ·rw [Y0a g,Y8O]
  by_cases ht:t<args.length
  ·have z:(p++Array.replicate (fn.ntmps-p.size) undef).getD t undef=p.getD t undef:=by
    have:t<p.size:=by omega
    simp [this,Array.getElem?_append,Array.getD_eq_getD_getElem?]
   simp only [z];exact k t ht
  ·rw [List.getD_eq_getElem?_getD,List.getElem?_eq_none (by omega)]
   exact .any _
 ·rw [Y0a g];exact m i o d
 ·cases hro:o.ro with
  | true=>exact .inl ⟨rfl,⟨i,o,d,n⟩⟩
  | false=>exact .inr (.inl ⟨i,o,d,hro,n⟩)
 ·simp only [J4] at d
  split at d
  ·cases d;rfl
  ·cases d
theorem Kn.done {C:Ctx} {nt:Nat} {pins:List Nat} (Fm:Fr P L C pins) {fn:Func} {E:List (Nat×AVal)} {S:List (Nat×Obj)} {r:AVal} {S' : List (Nat×Obj)} (hr:Y6I L (lk E) (ls S) fn.results.toList=some r)
  (hS:S'.map (fun p=>ls S p.1)=S'.map (fun p=>some p.2)):Kn C nt E S (Y4T P fn C r S' .ret):=by
 intro R η a w f;obtain ⟨v,x,q⟩:=Y9z (P:=P) Fm.lay f hr
 have c:∀ i o,ls S' i=some o->ls S i=some o:=fun i o d=>Q1P hS (i,o) (U4 d)
 have m:Q6Z w w (XS C (ls S) η) (XS C (ls S') η):=by
  intro b z t;refine ⟨rfl,fun k=>t ?_⟩
  rcases k with n|⟨i,o,d,h⟩
  ·exact .inl n
  ·exact .inr ⟨i,o,c i o d,h⟩
 have g:∀ i,ls S' i≠none->ls S i≠none:=by
  intro i d;obtain ⟨o,u⟩:=Option.ne_none_iff_exists'.1 d
  rw [c i o u];simp
 exact ⟨f.df,v,x,v,η,rfl,f.fr,q.mono m (fun _ _=>rfl),fun i o d=>(f.st i o (c i o d)).mono m (fun _ _=>rfl) (fun _ _=>rfl),
  fun i j b d y=>f.ds i j b (g i d) (g j y),fun i o b d=>f.ow i o b (c i o d),fun i v d=>(f.pn i v d).1⟩
end
end
section
def Y2L:Value->CV
 | .int k n=>.d (.int k n)
 | .bool b=>.d (.bool b)
 | .string s=>.d (.str s)
 | .slice none 0 0=>.fl 0 fun _=>[]
 | _=>.d .any
def Y8c:TypeDesc->TK
 | .int k=>.int k
 | .bool=>.bool
 | .string=>.str
 | .slice e=>.slice e
 | .struct fs=>.struct (fs.toList.map fun f=>(f.offset,f.type))
 | .array n e=>.array n e
 | _=>.other
def Y5W (P:Program) (t:Nat):Option TI:=
 match P.info? t,P.underlying t with
 | some i,some d=>match i.zero with
  | some z=>if z.cells.toList.all Value.oneCell' then some ⟨Y8c d,i.size,i.bytes,z.cells.toList.map Y2L⟩ else none
  | none=>none
 | _,_=>none
theorem Y2b {w:World} {X:Nat->Prop} {η:Nat->Value} {C:Ctx} {v:Value} (h:v.oneCell'=true):CRep w X η C v (Y2L v)/\(Y2L v).refs=[]:=by
 unfold Y2L;split
 ·exact ⟨.d _ _ (.int _ _),rfl⟩
 ·exact ⟨.d _ _ (.bool _),rfl⟩
 ·exact ⟨.d _ _ (.str _),rfl⟩
 ·exact ⟨.fl _ _ _ (.nil _ _ _),rfl⟩
 ·exact ⟨.d _ _ (.any _ h),rfl⟩
theorem Y8b (P:Program):LOk P (Y5W P):=by
 intro t q h;unfold Y5W at h
 split at h
 ·rename_i i d g n
  split at h
  ·rename_i z k
   split at h
   ·rename_i b
    cases h
    rw [List.all_eq_true] at b;refine ⟨i,d,z,g,n,rfl,rfl,k,fun w X η C=>⟨by simp,fun j o=>?_⟩,?_,?_⟩
    ·have c : j<z.cells.size:=by simpa using o
     have m:z.cells[j] ∈ z.cells.toList:=by simp
     have:=(Y2b (w:=w) (X:=X) (η:=η) (C:=C) (b _ m)).1
     simpa [List.getD_eq_getElem?_getD,c] using this
    ·rw [List.flatMap_eq_nil_iff]
     intro x f;obtain ⟨v,p,rfl⟩:=List.mem_map.1 f
     exact (Y2b (w:=default) (X:=fun _=>False) (η:=fun _=>default) (C:=⟨default,fun _=>False,fun _=>False,fun _=>False,fun _=>none⟩) (b v p)).2
    ·cases d <;> simp [Y8c,KOk]
   ·cases h
  ·cases h
 ·cases h
def Y3v (T:List (Nat×TI)):Lay:=fun t=>T.lookup t
theorem W0E {P:Program} {T:List (Nat×TI)} (h:T.map (fun p=>Y5W P p.1)=T.map (fun p=>some p.2)):LOk P (Y3v T):=by
 intro t b c;obtain ⟨f,g,d,_⟩:=List.lookup_eq_some_iff.1 c
 exact Y8b P t b (Q1P h (t,b) (by rw [d];simp))
section
variable {P:Program} {C:Ctx} {nt:Nat} {L:Lay} {pins:List Nat}
end
end
end
end Go.Ab
