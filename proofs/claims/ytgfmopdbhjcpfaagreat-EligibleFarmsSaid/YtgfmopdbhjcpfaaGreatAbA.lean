/- Abstract states over the model. -/
import Derived.Orders
import Derived.Laws.AppendOwn
import Derived.Below
import Derived.MapKept
import Derived.IntWalk
import Derived.Laws.Tables
import Derived.Tactics
import Derived.KernelRfl
set_option linter.unusedVariables false
set_option linter.unusedSimpArgs false
namespace Go.Ab
noncomputable section
section
inductive DVal where
 | any
 | int (k:IntKind) (n:Int)
 | bool (b:Bool)
 | str (s:ByteArray)
 | lst (n:Nat) (f:Nat->List DVal)
 | mp (n:Nat) (ks:Nat->Int) (vs:Nat->DVal)
inductive CV where
 | d (x:DVal)
 | fl (n:Nat) (f:Nat->List DVal)
 | own (id:Nat)
 | ptr (id off:Nat)
 | pte (id es idx off:Nat)
 | sub (id es lo n:Nat)
 | elm (cs:List DVal)
 | clo (f:Nat) (ids:List Nat)
 | sem (p:World->(Nat->Prop)->(Nat->Prop)->Value->Prop)
 | ap (id:Nat)
 | bnd (f:Nat) (cs:List DVal)
 | cp (id j:Nat)
inductive TV where
 | c (x:CV)
 | g (xs:List CV)
inductive AVal where
 | any
 | v (x:TV)
 | t (xs:List TV)
inductive Obj where
 | box (ro:Bool) (cs:List CV)
 | arr (es n:Nat) (f:Nat->List DVal)
 | ext (p:World->(Nat->Prop)->Value->Prop)
 | exr (refs:List Nat) (p:World->(Nat->Prop)->List Value->Value->Prop)
abbrev Env:=Nat->AVal
abbrev Sto:=Nat->Option Obj
structure Ctx where
 w0:World
 D:Nat->Prop
 M:Nat->Prop
 X:Nat->Prop
 pin:Nat->Option Value
inductive DRep (w:World) (X:Nat->Prop):Value->DVal->Prop
 | any (v:Value):v.oneCell'=true->DRep w X v .any
 | int (k:IntKind) (n:Int):DRep w X (.int k n) (.int k n)
 | bool (b:Bool):DRep w X (.bool b) (.bool b)
 | str (s:ByteArray):DRep w X (.string s) (.str s)
 | nil (a:Option Addr) (cap:Nat) (f:Nat->List DVal):DRep w X (.slice a 0 cap) (.lst 0 f)
 | lst (b off n cap:Nat) (c:Array Value) (e:TypeId) (fz:Nat×Nat) (f:Nat->List DVal) (es:Nat) :
   ¬ X b->w.heap[b]?=some (.cells c e fz)->n<=cap->off+n*es<=c.size->(∀ i,i<n->(f i).length=es) ->
   (∀ i j,i<n->j<es->DRep w X (c.getD (off+(i*es+j)) undef) ((f i).getD j .any)) ->
   DRep w X (.slice (some ⟨b,off,none⟩) n cap) (.lst n f)
 | mp (b:Nat) (es:Array MapEntry) (clock n:Nat) (ks:Nat->Int) (Q8J:Nat->Value) (vs:Nat->DVal):¬ X b->w.heap[b]?=some (.map es clock)->MapKept.Stamped es clock->es.size=n ->
   (∀ i,i<n->∃ bo,es[i]?=some ⟨.int .i64 (ks i),Q8J i,bo⟩)->(∀ i,i<n->DRep w X (Q8J i) (vs i))->DRep w X (.map (some b)) (.mp n ks vs)
theorem DRep.one {w:World} {X:Nat->Prop} {v:Value} {x:DVal} (h:DRep w X v x):v.oneCell'=true:=by
 cases h <;> first|assumption|rfl
theorem G4 {w:World} {b:Nat} {o:Go.Obj} (h:w.heap[b]?=some o):b<w.heap.size:=
 (Array.getElem?_eq_some_iff.1 h).1
structure Stp (Z:Nat->Prop) (w w' : World):Prop where
 os:w'.os=w.os
 tape:w'.tape=w.tape
 output:w'.output=w.output
 size:w.heap.size<=w'.heap.size
 block:∀ b,b<w.heap.size->¬ Z b->w'.heap[b]?=w.heap[b]?
 dr:w.drawn<=w'.drawn
theorem Stp.refl (Z:Nat->Prop) (w:World):Stp Z w w:=⟨rfl,rfl,rfl,Nat.le_refl _,fun _ _ _=>rfl,Nat.le_refl _⟩
theorem Stp.mono {Z Z' : Nat->Prop} {w w' : World} (h:Stp Z w w') (hz:∀ b,b<w.heap.size->Z b->Z' b):Stp Z' w w' :=
 ⟨h.os,h.tape,h.output,h.size,fun b a c=>h.block b a fun d=>c (hz b a d),h.dr⟩
theorem Stp.trans {Z:Nat->Prop} {a b c:World} (h:Stp Z a b) (k:Stp (fun x=>Z x\/a.heap.size<=x) b c):Stp Z a c:=
 ⟨k.os.trans h.os,k.tape.trans h.tape,k.output.trans h.output,Nat.le_trans h.size k.size,
  fun x f e=>(k.block x (Nat.lt_of_lt_of_le f h.size) fun d=>by rcases d with d|d;exact e d;omega).trans (h.block x f e),Nat.le_trans h.dr k.dr⟩
theorem Stp.drew (Z:Nat->Prop) (w:World):Stp Z w { w with drawn:=w.drawn+1 }:=⟨rfl,rfl,rfl,Nat.le_refl _,fun _ _ _=>rfl,Nat.le_succ _⟩
theorem Stp.alloc (Z:Nat->Prop) (w:World) (o:Go.Obj):Stp Z w { w with heap:=w.heap.push o } :=
 ⟨rfl,rfl,rfl,by simp,fun b a _=>by show (w.heap.push o)[b]?=_;rw [Array.getElem?_push,if_neg (by omega)],Nat.le_refl _⟩
theorem Stp.below {Z:Nat->Prop} {w w' : World} (h:Stp Z w w') (B:Nat) (hB:B<=w.heap.size) (hZ:∀ b,b<B->¬ Z b):Go.RowKit.Below B w w' :=
 ⟨h.os,h.tape,h.output,h.size,fun k a=>h.block k (Nat.lt_of_lt_of_le a hB) (hZ k a)⟩
theorem DRep.mono {w w' : World} {X X' : Nat->Prop} {v:Value} {x:DVal} (h:DRep w X v x)
  (hk:∀ b,b<w.heap.size->¬ X b->w'.heap[b]?=w.heap[b]? /\ ¬ X' b):DRep w' X' v x:=by
 induction h with
 | any v hv=>exact .any v hv
 | int k n=>exact .int k n
 | bool b=>exact .bool b
 | str s=>exact .str s
 | nil a cap f=>exact .nil a cap f
 | lst b off n cap c e fz f es hX hb hn ho hf _ ih=>
  have d:=hk b (G4 hb) hX;exact .lst b off n cap c e fz f es d.2 (d.1.trans hb) hn ho hf ih
 | mp b es clock n ks Q8J vs hX hb h1 h2 h3 _ ih=>
  have d:=hk b (G4 hb) hX;exact .mp b es clock n ks Q8J vs d.2 (d.1.trans hb) h1 h2 h3 ih
def Y4o:Value->List Nat
 | .pointer (some a)=>[a.block]
 | .slice (some a) _ cap=>if cap=0 then [] else [a.block]
 | .map (some b)=>[b]
 | _=>[]
def Y8:Value->List Nat
 | .pointer (some a)=>[a.block]
 | .slice (some a) _ cap=>if cap=0 then [] else [a.block]
 | .map (some b)=>[b]
 | .agg vs=>vs.toList.flatMap Y4o
 | _=>[]
def Q7i (w w' : World) (X X' : Nat->Prop):Prop:=∀ b,b<w.heap.size->¬ X b->w'.heap[b]?=w.heap[b]? /\ ¬ X' b
def Y4p (p:World->(Nat->Prop)->Value->Prop) (v:Value):Prop:=∀ w w' X X',Q7i w w' X X' -> (∀ b ∈ Y8 v,w'.heap[b]?=w.heap[b]?)->p w X v->p w' X' v
section
variable (w:World) (X:Nat->Prop) (η:Nat->Value) (C:Ctx)
inductive CRep:Value->CV->Prop
 | d (v:Value) (x:DVal):DRep w X v x->CRep v (.d x)
 | fl (a:Option Addr) (n:Nat) (f:Nat->List DVal):DRep w X (.slice a n n) (.lst n f)->CRep (.slice a n n) (.fl n f)
 | own (v:Value) (id:Nat):v=η id->v.oneCell'=true->CRep v (.own id)
 | ptr (b id off:Nat):η id=.pointer (some ⟨b,0,none⟩)->CRep (.pointer (some ⟨b,off,none⟩)) (.ptr id off)
 | pte (b n cap id es idx off:Nat):η id=.slice (some ⟨b,0,none⟩) n cap->CRep (.pointer (some ⟨b,idx*es+off,none⟩)) (.pte id es idx off)
 | sub (b N cap id es lo n:Nat):η id=.slice (some ⟨b,0,none⟩) N cap->lo+n<=N->lo<cap->CRep (.slice (some ⟨b,lo*es,none⟩) n (cap-lo)) (.sub id es lo n)
 | subN (ad ad' : Option Addr) (N id es:Nat):η id=.slice ad N N->CRep (.slice ad' 0 0) (.sub id es N 0)
 | elm (b off:Nat) (c:Array Value) (e:TypeId) (fz:Nat×Nat) (cs:List DVal):¬ X b->w.heap[b]?=some (.cells c e fz)->off+cs.length<=c.size ->
   (∀ j,j<cs.length->DRep w X (c.getD (off+j) undef) (cs.getD j .any))->CRep (.pointer (some ⟨b,off,none⟩)) (.elm cs)
 | clo (f:Nat) (ids:List Nat) (vs:Array Value):vs=(ids.map η).toArray->CRep (.func (.func f) #[] vs) (.clo f ids)
 | sem (v:Value) (p:World->(Nat->Prop)->(Nat->Prop)->Value->Prop):p C.w0 C.D C.X v->v.oneCell'=true->CRep v (.sem p)
 | ap (v:Value) (id:Nat):(η id=v\/η id=.tuple #[v]\/∃ l,η id=.agg (v::l).toArray)->v.oneCell'=true->CRep v (.ap id)
 | bnd (f:Nat) (vs:Array Value) (cs:List DVal):vs.size=cs.length->(∀ j,j<cs.length->DRep w X (vs.getD j undef) (cs.getD j .any))->CRep (.func (.func f) #[.agg vs] #[]) (.bnd f cs)
 | cp (v:Value) (id j:Nat) (vs:Array Value):η id=.agg vs->vs[j]?=some v->v.oneCell'=true->CRep v (.cp id j)
def y4 (vs:Array Value) (cs:List CV):Prop:=vs.size=cs.length/\∀ j,j<cs.length->CRep w X η C (vs.getD j undef) (cs.getD j (.d .any))
inductive TRep:Value->TV->Prop
 | c (v:Value) (x:CV):CRep w X η C v x->TRep v (.c x)
 | g (vs:Array Value) (xs:List CV):y4 w X η C vs xs->TRep (.agg vs) (.g xs)
inductive ARep:Value->AVal->Prop
 | any (v:Value):ARep v .any
 | v (u:Value) (x:TV):TRep w X η C u x->ARep u (.v x)
 | t (us:Array Value) (xs:List TV):us.size=xs.length->(∀ j,j<xs.length->TRep w X η C (us.getD j undef) (xs.getD j (.c (.d .any))))->ARep (.tuple us) (.t xs)
inductive ORep:Value->Obj->Prop
 | box (b:Nat) (ro:Bool) (c:Array Value) (e:TypeId) (cs:List CV):w.heap[b]?=some (.cells c e (0,0))->y4 w X η C c cs ->
   ORep (.pointer (some ⟨b,0,none⟩)) (.box ro cs)
 | nil (ad:Option Addr) (es:Nat) (f:Nat->List DVal):ORep (.slice ad 0 0) (.arr es 0 f)
 | arr (b n cap es:Nat) (c:Array Value) (e:TypeId) (f:Nat->List DVal):w.heap[b]?=some (.cells c e (0,0))->c.size=cap*es->n<=cap->cap<=maxLen->0<cap ->
   (∀ i,i<n->(f i).length=es)->(∀ i j,i<n->j<es->DRep w X (c.getD (i*es+j) undef) ((f i).getD j .any)) ->
   ORep (.slice (some ⟨b,0,none⟩) n cap) (.arr es n f)
 | ext (v:Value) (p:World->(Nat->Prop)->Value->Prop):p w X v->Y4p p v->(∀ b ∈ Y8 v,b<w.heap.size)->ORep v (.ext p)
 | exr (v:Value) (refs:List Nat) (p:World->(Nat->Prop)->List Value->Value->Prop):p w X (refs.map η) v->Y4p (fun w X v=>p w X (refs.map η) v) v->(∀ b ∈ Y8 v,b<w.heap.size)->ORep v (.exr refs p)
end
theorem CRep.one {w:World} {X:Nat->Prop} {η:Nat->Value} {C:Ctx} {v:Value} {x:CV} (h:CRep w X η C v x):v.oneCell'=true:=by
 cases h with
 | d _ _ h=>exact h.one
 | own _ _ _ h=>exact h
 | sem _ _ _ h=>exact h
 | ap _ _ _ h=>exact h
 | cp _ _ _ _ _ _ h=>exact h
 | _=>rfl
def CV.refs:CV->List Nat
 | .own id=>[id]
 | .ptr id _=>[id]
 | .pte id _ _ _=>[id]
 | .sub id _ _ _=>[id]
 | .clo _ ids=>ids
 | .ap id=>[id]
 | .cp id _=>[id]
 | _=>[]
def TV.refs:TV->List Nat
 | .c x=>x.refs
 | .g xs=>xs.flatMap CV.refs
def AVal.refs:AVal->List Nat
 | .any=>[]
 | .v x=>x.refs
 | .t xs=>xs.flatMap TV.refs
def Obj.refs:Obj->List Nat
 | .box _ cs=>cs.flatMap CV.refs
 | .arr _ _ _=>[]
 | .ext _=>[]
 | .exr refs _=>refs
def Obj.ro:Obj->Bool
 | .box ro _=>ro
 | .arr _ _ _=>false
 | .ext _=>false
 | .exr _ _=>false
section
variable {w w' : World} {X X' : Nat->Prop} {η η' : Nat->Value} {C:Ctx}
theorem CRep.mono {v:Value} {x:CV} (h:CRep w X η C v x) (hk:Q7i w w' X X') (hη:∀ i ∈ x.refs,η' i=η i):CRep w' X' η' C v x:=by
 cases h with
 | d _ _ h=>exact .d _ _ (h.mono hk)
 | fl a n f h=>exact .fl a n f (h.mono hk)
 | own _ id h h1=>exact .own _ id (by rw [hη id (by simp [CV.refs])];exact h) h1
 | ptr b id off h=>exact .ptr b id off (by rw [hη id (by simp [CV.refs])];exact h)
 | pte b n cap id es idx off h=>exact .pte b n cap id es idx off (by rw [hη id (by simp [CV.refs])];exact h)
 | sub b N cap id es lo n h h1 h2=>exact .sub b N cap id es lo n (by rw [hη id (by simp [CV.refs])];exact h) h1 h2
 | subN ad ad' N id es h=>exact .subN ad ad' N id es (by rw [hη id (by simp [CV.refs])];exact h)
 | elm b off c e fz cs hX hb ho hc=>
  have k:=hk b (G4 hb) hX;exact .elm b off c e fz cs k.2 (k.1.trans hb) ho fun j g=>(hc j g).mono hk
 | clo f ids vs h=>
  refine .clo f ids vs ?_;rw [h]
  congr 1
  exact List.map_congr_left fun i l=>(hη i (by simpa [CV.refs] using l)).symm
 | sem _ p h h1=>exact .sem _ p h h1
 | ap _ id h h1=>exact .ap _ id (by rw [hη id (by simp [CV.refs])];exact h) h1
 | bnd f vs cs h1 h2=>exact .bnd f vs cs h1 fun j g=>(h2 j g).mono hk
 | cp _ id j vs h h1 h2=>exact .cp _ id j vs (by rw [hη id (by simp [CV.refs])];exact h) h1 h2
theorem Q0F {α:Type} {l:List α} {j:Nat} {d:α} (h:j<l.length):l.getD j d ∈ l:=by
 rw [List.getD_eq_getElem?_getD,List.getElem?_eq_getElem h];exact List.getElem_mem h
theorem y4.mono {vs:Array Value} {cs:List CV} (h:y4 w X η C vs cs) (hk:Q7i w w' X X') (hη:∀ i ∈ cs.flatMap CV.refs,η' i=η i):y4 w' X' η' C vs cs:=
 ⟨h.1,fun j a=>(h.2 j a).mono hk fun i b=>hη i (List.mem_flatMap.2 ⟨_,Q0F a,b⟩)⟩
theorem TRep.mono {v:Value} {x:TV} (h:TRep w X η C v x) (hk:Q7i w w' X X') (hη:∀ i ∈ x.refs,η' i=η i):TRep w' X' η' C v x:=by
 cases h with
 | c _ x h=>exact .c _ x (h.mono hk hη)
 | g vs xs h=>exact .g vs xs (h.mono hk hη)
theorem ARep.mono {v:Value} {x:AVal} (h:ARep w X η C v x) (hk:Q7i w w' X X') (hη:∀ i ∈ x.refs,η' i=η i):ARep w' X' η' C v x:=by
 cases h with
 | any=>exact .any v
 | v _ x h=>exact .v _ x (h.mono hk hη)
 | t us xs hs h=>exact .t us xs hs fun j a=>(h j a).mono hk fun i b=>hη i (List.mem_flatMap.2 ⟨_,Q0F a,b⟩)
theorem ORep.mono {v:Value} {o:Obj} (h:ORep w X η C v o) (hk:Q7i w w' X X') (hη:∀ i ∈ o.refs,η' i=η i) (hb:∀ b,b ∈ Y8 v->w'.heap[b]?=w.heap[b]?):ORep w' X' η' C v o:=by
 cases h with
 | box b ro c e cs hh hc=>exact .box b ro c e cs ((hb b (by simp [Y8])).trans hh) (hc.mono hk hη)
 | nil ad es f=>exact .nil ad es f
 | arr b n cap es c e f hh hs hn hm hc hl he=>
  exact .arr b n cap es c e f ((hb b (by simp [Y8];omega)).trans hh) hs hn hm hc hl fun i j k m=>(he i j k m).mono hk
 | ext _ p h h1 h2=>
  refine .ext _ p (h1 w w' X X' hk hb h) h1 fun b a=>?_
  have:=hb b a
  have g:=h2 b a;rcases Nat.lt_or_ge b w'.heap.size with d|d
  ·exact d
  ·rw [Array.getElem?_eq_none d,Array.getElem?_eq_getElem g] at this;cases this
 | exr _ refs p h h1 h2=>
  have l:refs.map η'=refs.map η:=List.map_congr_left fun i k=>hη i k
  refine .exr _ refs p (by rw [l];exact h1 w w' X X' hk hb h) (by rw [l];exact h1) fun b a=>?_
  have:=hb b a
  have g:=h2 b a;rcases Nat.lt_or_ge b w'.heap.size with d|d
  ·exact d
  ·rw [Array.getElem?_eq_none d,Array.getElem?_eq_getElem g] at this;cases this
theorem ORep.lt {v:Value} {o:Obj} (h:ORep w X η C v o) {b:Nat} (hb:b ∈ Y8 v):b<w.heap.size:=by
 cases h with
 | box b' ro c e cs hh hc=>simp [Y8] at hb;subst hb;exact G4 hh
 | nil ad es f=>cases ad <;> simp [Y8] at hb
 | arr b' n cap es c e f hh hs hn hm hc hl he=>simp [Y8] at hb;obtain ⟨_,rfl⟩:=hb;exact G4 hh
 | ext _ p h h1 h2=>exact h2 b hb
 | exr _ refs p h h1 h2=>exact h2 b hb
end
def Own (s:Sto) (η:Nat->Value) (b:Nat):Prop:=∃ i o,s i=some o/\b ∈ Y8 (η i)
def XS (C:Ctx) (s:Sto) (η:Nat->Value) (b:Nat):Prop:=(C.X b/\¬ C.D b)\/Own s η b
structure Ctx.Ok (C:Ctx):Prop where
 md:∀ b,C.M b->C.D b
 dx:∀ b,C.D b->C.X b
 lt:∀ b,C.X b->b<C.w0.heap.size
structure Conc (C:Ctx) (nt:Nat) (R:Nat->Prop) (η:Nat->Value) (e:Env) (s:Sto) (a:Act) (w:World):Prop where
 ok:C.Ok
 df:a.defers=[]
 sz:a.tmps.size=nt
 ev:∀ t,ARep w (XS C s η) η C (a.tmps.getD t undef) (e t)
 er:∀ t i,i ∈ (e t).refs->R i
 st:∀ i o,s i=some o->ORep w (XS C s η) η C (η i) o
 sr:∀ i o,s i=some o->R i/\∀ j ∈ o.refs,R j
 ds:∀ i j b,s i≠none->s j≠none->b ∈ Y8 (η i)->b ∈ Y8 (η j)->i=j
 ow:∀ i o b,s i=some o->b ∈ Y8 (η i)->(o.ro=true/\C.D b)\/C.M b\/C.w0.heap.size<=b
 fr:Stp C.M C.w0 w
 pn:∀ i v,C.pin i=some v->η i=v/\R i
end
section
structure SR where
 v:AVal:=.any
 del:List Nat:=[]
 upd:Option (Nat×Obj):=none
 new:Option Obj:=none
 cond:Prop:=True
def SR.env (r:SR) (d:Option Tmp) (e:Env):Env:=
 match d with
 | some d=>fun t=>if t=d then r.v else e t
 | none=>e
def SR.sto (r:SR) (d:Option Tmp) (s:Sto):Sto:=fun i=>
 match r.new,d with
 | some o,some d=>if i=d then some o else
  match r.upd with
  | some (k,o')=>if i=k then some o' else if r.del.contains i then none else s i
  | none=>if r.del.contains i then none else s i
 | _,_=>
  match r.upd with
  | some (k,o')=>if i=k then some o' else if r.del.contains i then none else s i
  | none=>if r.del.contains i then none else s i
def SR.eta (r:SR) (d:Option Tmp) (v:Value) (η:Nat->Value):Nat->Value:=fun i=>
 match r.new,d with
 | some _,some d=>if i=d then v else η i
 | _,_=>η i
def SR.rng (r:SR) (d:Option Tmp) (R:Nat->Prop):Nat->Prop:=fun i=>R i\/(r.new≠none/\d=some i)
theorem Y2D (a:Act) (d:Option Tmp) (v:Value) (t:Nat) (hd:∀ x,d=some x->x<a.tmps.size) :
  (a.put d v).tmps.getD t undef=if d=some t then v else a.tmps.getD t undef:=by
 cases d with
 | none=>simp [Act.put]
 | some x=>
  have b:=hd x rfl;simp only [Act.put,Option.some.injEq]
  by_cases h:x=t
  ·subst h;simp [b]
  ·simp [h]
theorem Y5J (a:Act) (d:Option Tmp) (v:Value):(a.put d v).tmps.size=a.tmps.size:=by cases d <;> simp [Act.put]
theorem Y2E (a:Act) (d:Option Tmp) (v:Value):(a.put d v).defers=a.defers:=by cases d <;> rfl
section
variable {C:Ctx} {nt:Nat} {R:Nat->Prop} {η:Nat->Value} {e:Env} {s:Sto} {a:Act} {w:World}
theorem Conc.lt (h:Conc C nt R η e s a w) {b:Nat} (hb:Own s η b):b<w.heap.size:=by
 obtain ⟨i,o,c,hb⟩:=hb;exact (h.st i o c).lt hb
theorem Y0b (r:SR) (d:Option Tmp):∀ i o,r.sto d s i=some o->(r.new=some o/\d=some i)\/(r.upd=some (i,o)/\(r.new=none\/d≠some i))\/(s i=some o/\i ∉ r.del/\(∀ o',r.upd≠some (i,o'))/\(r.new=none\/d≠some i)):=by
 intro i o g;have b:(match r.upd with|some (k,o')=>if i=k then some o' else if r.del.contains i then none else s i|none=>if r.del.contains i then none else s i)=some o ->
   r.upd=some (i,o)\/(s i=some o/\i ∉ r.del/\∀ o',r.upd≠some (i,o')):=by
  intro f
  cases hu:r.upd with
  | none=>
   simp only [hu] at f;split at f
   ·cases f
   ·rename_i h;exact .inr ⟨f,by simpa using h,by simp⟩
  | some ko=>
   obtain ⟨k,o'⟩:=ko;simp only [hu] at f
   split at f
   ·rename_i n;cases f;subst n;exact .inl rfl
   ·rename_i n
    split at f
    ·cases f
    ·rename_i h;exact .inr ⟨f,by simpa using h,fun q p=>by cases p;exact n rfl⟩
 unfold SR.sto at g
 cases hn:r.new with
 | none=>
  simp only [hn] at g;rcases b g with c|⟨c,l,j⟩
  ·exact .inr (.inl ⟨c,.inl rfl⟩)
  ·exact .inr (.inr ⟨c,l,j,.inl rfl⟩)
 | some on=>
  cases hdd:d with
  | none=>
   simp only [hn,hdd] at g;rcases b g with c|⟨c,l,j⟩
   ·exact .inr (.inl ⟨c,.inr (by simp)⟩)
   ·exact .inr (.inr ⟨c,l,j,.inr (by simp)⟩)
  | some dd=>
   simp only [hn,hdd] at g;split at g
   ·rename_i m;cases g;subst m;exact .inl ⟨rfl,rfl⟩
   ·rename_i m
    rcases b g with c|⟨c,l,j⟩
    ·exact .inr (.inl ⟨c,.inr fun h=>m (Option.some.inj h).symm⟩)
    ·exact .inr (.inr ⟨c,l,j,.inr fun h=>m (Option.some.inj h).symm⟩)
theorem Y1M (r:SR) (d:Option Tmp) (v:Value):∀ i,(r.new=none\/d≠some i)->r.eta d v η i=η i:=by
 intro i b;unfold SR.eta
 cases hn:r.new with
 | none=>rfl
 | some on=>
  cases hdd:d with
  | none=>rfl
  | some dd=>
   rcases b with b|b
   ·rw [hn] at b;cases b
   ·simp only []
    rw [if_neg];intro c;subst c;exact b hdd
theorem Y9K (r:SR) (d:Option Tmp) (v:Value) (N:Nat->Prop) (hnew:∀ o dd,r.new=some o->d=some dd->∀ b,b ∈ Y8 v->N b\/Own s η b)
  (hupd:∀ k o,r.upd=some (k,o)->s k≠none):∀ b,Own (r.sto d s) (r.eta d v η) b->N b\/Own s η b:=by
 rintro b ⟨i,o,n,c⟩;rcases Y0b r d i o n with ⟨h,f⟩|⟨m,g⟩|⟨j,_,_,g⟩
 ·rw [show r.eta d v η i=v from by simp [SR.eta,h,f]] at c
  exact hnew o i h f b c
 ·rw [Y1M r d v i g] at c
  obtain ⟨l,p⟩:=Option.ne_none_iff_exists'.1 (hupd i o m);exact .inr ⟨i,l,p,c⟩
 ·rw [Y1M r d v i g] at c
  exact .inr ⟨i,o,j,c⟩
theorem Q5N {w w' : World} (r:SR) (d:Option Tmp) (v:Value) (Z:Nat->Prop) (hstep:Stp Z w w') (hZ:∀ b,Z b->Own s η b)
  (hnew:∀ o dd,r.new=some o->d=some dd->∀ b,b ∈ Y8 v->w.heap.size<=b\/Own s η b)
  (hupd:∀ k o,r.upd=some (k,o)->s k≠none):Q7i w w' (XS C s η) (XS C (r.sto d s) (r.eta d v η)):=by
 intro b l i;have c:¬ Own s η b:=fun f=>i (.inr f)
 refine ⟨hstep.block b l fun j=>c (hZ b j),fun g=>?_⟩;rcases g with f|f
 ·exact i (.inl f)
 ·rcases Y9K r d v _ hnew hupd b f with h|h
  ·omega
  ·exact c h
theorem W3n {R:Nat->Prop} (r:SR) (d:Option Tmp) (v:Value) (hR:∀ o dd,r.new=some o->d=some dd->¬ R dd):∀ i,R i->r.eta d v η i=η i:=by
 intro i c;refine Y1M r d v i ?_
 cases hn:r.new with
 | none=>exact .inl rfl
 | some o=>right;intro b;exact hR o i hn b c
theorem Conc.stepG (h:Conc C nt R η e s a w) (d:Option Tmp) (hd:∀ x,d=some x->x<nt) (r:SR) (v u:Value) (w' : World) (Z:Nat->Prop) (hstep:Stp Z w w')
  (hZ:∀ b,Z b->(∃ i,(i ∈ r.del\/∃ o,r.upd=some (i,o))/\s i≠none/\b ∈ Y8 (η i))/\(C.M b\/C.w0.heap.size<=b))
  (hnew:∀ o dd,r.new=some o->d=some dd->¬ R dd/\o.ro=false/\(∀ j ∈ o.refs,R j)/\ORep w' (XS C (r.sto d s) (r.eta d u η)) (r.eta d u η) C u o /\
   (∀ b,b ∈ Y8 u->w.heap.size<=b\/((∃ i ∈ r.del,s i≠none/\b ∈ Y8 (η i))/\(C.M b\/C.w0.heap.size<=b))))
  (hupd:∀ k o,r.upd=some (k,o)->(∃ o0,s k=some o0/\o0.ro=false)/\o.ro=false/\k ∉ r.del/\(∀ j ∈ o.refs,R j)/\ORep w' (XS C (r.sto d s) (r.eta d u η)) (r.eta d u η) C (η k) o)
  (hv:d≠none->ARep w' (XS C (r.sto d s) (r.eta d u η)) (r.eta d u η) C v r.v/\∀ j ∈ r.v.refs,r.rng d R j) :
  Conc C nt (r.rng d R) (r.eta d u η) (r.env d e) (r.sto d s) (a.put d v) w':=by
 have hs:=Y0b (s:=s) r d;have c:=Y1M (η:=η) r d u
 have l:∀ o i,r.new=some o->d=some i->r.eta d u η i=u:=by
  intro o i O h2;simp [SR.eta,O,h2]
 have A:∀ i,R i->r.eta d u η i=η i:=by
  intro i g;refine c i ?_
  cases n:r.new with
  | none=>exact .inl rfl
  | some o=>right;intro f;exact (hnew o i n f).1 g
 have W:∀ b,Own (r.sto d s) (r.eta d u η) b->w.heap.size<=b\/Own s η b:=by
  rintro b ⟨i,o,g,m⟩;rcases hs i o g with ⟨n,f⟩|⟨G,p⟩|⟨D,_,_,p⟩
  ·rw [l o i n f] at m
   rcases (hnew o i n f).2.2.2.2 b m with T|⟨⟨j,_,y,S⟩,_⟩
   ·exact .inl T
   ·obtain ⟨F,z⟩:=Option.ne_none_iff_exists'.1 y
    exact .inr ⟨j,F,z,S⟩
  ·rw [c i p] at m
   obtain ⟨o0,Q,_⟩:=(hupd i o G).1;exact .inr ⟨i,o0,Q,m⟩
  ·rw [c i p] at m
   exact .inr ⟨i,o,D,m⟩
 have K:Q7i w w' (XS C s η) (XS C (r.sto d s) (r.eta d u η)):=by
  intro b m hX;have V:¬ Own s η b:=fun I=>hX (.inr I)
  refine ⟨hstep.block b m fun hz=>?_,fun a6=>?_⟩
  ·obtain ⟨⟨i,_,g,a5⟩,_⟩:=hZ b hz
   obtain ⟨P,L⟩:=Option.ne_none_iff_exists'.1 g;exact V ⟨i,P,L,a5⟩
  ·rcases a6 with I|I
   ·exact hX (.inl I)
   ·rcases W b I with T|T
    ·omega
    ·exact V T
 refine ⟨h.ok,by rw [Y2E];exact h.df,by rw [Y5J];exact h.sz,?_,?_,?_,?_,?_,?_,?_,fun i u' g=>⟨(A i (h.pn i u' g).2).trans (h.pn i u' g).1,.inl (h.pn i u' g).2⟩⟩
 ·intro t
  rw [Y2D a d v t (by rw [h.sz];exact hd)]
  by_cases ht:d=some t
  ·subst ht
   simp only [if_true,SR.env];exact (hv (by simp)).1
  ·rw [if_neg ht]
   have:r.env d e t=e t:=by
    unfold SR.env
    cases d with
    | none=>rfl
    | some x=>simp only [];rw [if_neg];intro I;subst I;exact ht rfl
   rw [this];exact (h.ev t).mono K fun i g=>A i (h.er t i g)
 ·intro t i g
  by_cases ht:d=some t
  ·subst ht
   simp only [SR.env,if_true] at g;exact (hv (by simp)).2 i g
  ·have:r.env d e t=e t:=by
    unfold SR.env
    cases d with
    | none=>rfl
    | some x=>simp only [];rw [if_neg];intro I;subst I;exact ht rfl
   rw [this] at g;exact .inl (h.er t i g)
 ·intro i o g
  rcases hs i o g with ⟨n,f⟩|⟨G,p⟩|⟨D,q,N,p⟩
  ·rw [l o i n f];exact (hnew o i n f).2.2.2.1
  ·rw [c i p];exact (hupd i o G).2.2.2.2
  ·rw [c i p]
   refine (h.st i o D).mono K (fun j y=>A j ((h.sr i o D).2 j y)) fun b m=>?_
   refine hstep.block b ((h.st i o D).lt m) fun hz=>?_
   obtain ⟨⟨j,y,b4,S⟩,_⟩:=hZ b hz;have b0:i=j:=h.ds i j b (by rw [D];simp) b4 m S
   subst b0;rcases y with y|⟨U,a7⟩
   ·exact q y
   ·exact N U a7
 ·intro i o g
  rcases hs i o g with ⟨n,f⟩|⟨G,p⟩|⟨D,q,N,p⟩
  ·exact ⟨.inr ⟨by rw [n];simp,f⟩,fun j y=>.inl ((hnew o i n f).2.2.1 j y)⟩
  ·obtain ⟨o0,Q,_⟩:=(hupd i o G).1
   exact ⟨.inl (h.sr i o0 Q).1,fun j y=>.inl ((hupd i o G).2.2.2.1 j y)⟩
  ·exact ⟨.inl (h.sr i o D).1,fun j y=>.inl ((h.sr i o D).2 j y)⟩
 ·
  have J:∀ i o,r.sto d s i=some o->¬ (r.new=some o/\d=some i)->s i≠none/\i ∉ r.del/\r.eta d u η i=η i:=by
   intro i o g n;rcases hs i o g with I|⟨G,p⟩|⟨D,q,N,p⟩
   ·exact absurd I n
   ·obtain ⟨o0,Q,_⟩:=(hupd i o G).1
    exact ⟨by rw [Q];simp,(hupd i o G).2.2.1,c i p⟩
   ·exact ⟨by rw [D];simp,q,c i p⟩
  have H:∀ i o j U,r.sto d s j=some U -> (r.new=some o/\d=some i)->¬ (r.new=some U /\ d=some j)->∀ b,b ∈ Y8 u->b ∈ Y8 (η j)->False:=by
   intro i o j U y n a9 b m Y;obtain ⟨O,h2,_⟩:=J j U y a9
   obtain ⟨F,z⟩:=Option.ne_none_iff_exists'.1 O;rcases (hnew o i n.1 n.2).2.2.2.2 b m with T|⟨⟨k,hk,b6,a8⟩,_⟩
   ·have:=(h.st j F z).lt Y;omega
   ·have:j=k:=h.ds j k b O b6 Y a8
    subst this;exact h2 hk
  intro i j b g y E B;obtain ⟨P,L⟩:=Option.ne_none_iff_exists'.1 g
  obtain ⟨F,z⟩:=Option.ne_none_iff_exists'.1 y
  by_cases ni:r.new=some P/\d=some i
  ·by_cases nj:r.new=some F/\d=some j
   ·have:=ni.2.symm.trans nj.2;simpa using this
   ·exfalso
    rw [l P i ni.1 ni.2] at E;rw [(J j F z nj).2.2] at B
    exact H i P j F z ni nj b E B
  ·by_cases nj:r.new=some F/\d=some j
   ·exfalso
    rw [l F j nj.1 nj.2] at B;rw [(J i P L ni).2.2] at E
    exact H j F i P L nj ni b B E
   ·obtain ⟨a1,_,a3⟩:=J i P L ni
    obtain ⟨b1,_,b3⟩:=J j F z nj;rw [a3] at E;rw [b3] at B
    exact h.ds i j b a1 b1 E B
 ·intro i o b g m
  rcases hs i o g with ⟨n,f⟩|⟨G,p⟩|⟨D,q,N,p⟩
  ·rw [l o i n f] at m
   rcases (hnew o i n f).2.2.2.2 b m with T|⟨_,hm⟩
   ·exact .inr (.inr (Nat.le_trans h.fr.size T))
   ·exact .inr hm
  ·rw [c i p] at m
   obtain ⟨o0,Q,a4⟩:=(hupd i o G).1;rcases h.ow i o0 b Q m with ⟨O,_⟩|O
   ·rw [a4] at O;cases O
   ·exact .inr O
  ·rw [c i p] at m
   exact h.ow i o b D m
 ·refine h.fr.trans (hstep.mono fun b _ hz=>?_)
  exact (hZ b hz).2
theorem Conc.step (h:Conc C nt R η e s a w) (d:Option Tmp) (hd:∀ x,d=some x->x<nt) (r:SR) (v:Value) (w' : World) (Z:Nat->Prop) (hstep:Stp Z w w')
  (hZ:∀ b,Z b->(∃ i,(i ∈ r.del\/∃ o,r.upd=some (i,o))/\s i≠none/\b ∈ Y8 (η i))/\(C.M b\/C.w0.heap.size<=b))
  (hnew:∀ o dd,r.new=some o->d=some dd->¬ R dd/\o.ro=false/\(∀ j ∈ o.refs,R j)/\ORep w' (XS C (r.sto d s) (r.eta d v η)) (r.eta d v η) C v o /\
   (∀ b,b ∈ Y8 v->w.heap.size<=b\/((∃ i ∈ r.del,s i≠none/\b ∈ Y8 (η i))/\(C.M b\/C.w0.heap.size<=b))))
  (hupd:∀ k o,r.upd=some (k,o)->(∃ o0,s k=some o0/\o0.ro=false)/\o.ro=false/\k ∉ r.del/\(∀ j ∈ o.refs,R j)/\ORep w' (XS C (r.sto d s) (r.eta d v η)) (r.eta d v η) C (η k) o)
  (hv:d≠none->ARep w' (XS C (r.sto d s) (r.eta d v η)) (r.eta d v η) C v r.v/\∀ j ∈ r.v.refs,r.rng d R j) :
  Conc C nt (r.rng d R) (r.eta d v η) (r.env d e) (r.sto d s) (a.put d v) w' :=
 h.stepG d hd r v v w' Z hstep hZ hnew hupd hv
theorem Conc.val (h:Conc C nt R η e s a w) (d:Option Tmp) (hd:∀ x,d=some x->x<nt) (x:AVal) (v:Value) (hv:d≠none->ARep w (XS C s η) η C v x/\∀ j ∈ x.refs,R j) :
  Conc C nt R η (SR.env { v:=x } d e) s (a.put d v) w:=by
 have f:SR.sto { v:=x } d s=s:=by funext i;simp [SR.sto]
 have g:SR.eta { v:=x } d v η=η:=by funext i;simp [SR.eta]
 have l:SR.rng { v:=x } d R=R:=by funext i;simp [SR.rng]
 have:=h.step d hd { v:=x } v w (fun _=>False) (Stp.refl _ _) (fun b m=>m.elim) (fun o dd c=>by cases c) (fun k o c=>by cases c)
  (fun n=>by rw [f,g,l];exact hv n)
 rwa [f,g,l] at this
theorem Conc.drew (h:Conc C nt R η e s a w):Conc C nt R η e s a { w with drawn:=w.drawn+1 }:=by
 have c:Q7i w { w with drawn:=w.drawn+1 } (XS C s η) (XS C s η):=fun b _ f=>⟨rfl,f⟩
 exact ⟨h.ok,h.df,h.sz,fun t=>(h.ev t).mono c fun _ _=>rfl,h.er,fun i o d=>(h.st i o d).mono c (fun _ _=>rfl) fun _ _=>rfl,h.sr,h.ds,h.ow,
  ⟨h.fr.os,h.fr.tape,h.fr.output,h.fr.size,h.fr.block,Nat.le_succ_of_le h.fr.dr⟩,h.pn⟩
end
end
inductive TK where
 | int (k:IntKind)
 | bool
 | str
 | slice (e:Nat)
 | struct (fs:List (Nat×Nat))
 | array (n e:Nat)
 | other
def TK.agg:TK->Bool
 | .struct _=>true
 | .array _ _=>true
 | _=>false
structure TI where
 kind:TK
 size:Nat
 bytes:Nat
 zero:List CV
abbrev Lay:=Nat->Option TI
def I64 (n:Int):Prop:= -9223372036854775808<=n/\n<=9223372036854775807
def LIM:Nat:=4294967296
def vi (n:Int):AVal:=.v (.c (.d (.int .i64 n)))
def vb (b:Bool):AVal:=.v (.c (.d (.bool b)))
def Y5j:Value->AVal
 | .int k n=>.v (.c (.d (.int k n)))
 | .bool b=>.v (.c (.d (.bool b)))
 | .string s=>.v (.c (.d (.str s)))
 | .slice none 0 0=>.v (.c (.fl 0 fun _=>[]))
 | _=>.any
def aev (e:Env):Operand->AVal
 | .tmp t=>e t
 | .const v=>Y5j v
 | .func f=>.v (.c (.clo f []))
 | .global _=>.any
def Z8K:AVal->Option (List CV)
 | .v (.c x)=>some [x]
 | .v (.g xs)=>some xs
 | _=>none
def mkT (agg:Bool) (cs:List CV):Option AVal:=
 match agg with
 | true=>some (.v (.g cs))
 | false=>match cs with
  | [x]=>some (.v (.c x))
  | _=>none
def toD:CV->Option DVal
 | .d x=>some x
 | .fl n f=>some (.lst n f)
 | _=>none
def Y1X:List CV->Option (List DVal)
 | []=>some []
 | x::xs=>match toD x,Y1X xs with
  | some a,some b=>some (a::b)
  | _,_=>none
def rd (s:Sto) (n:Nat):AVal->Option (List CV×Prop)
 | .v (.c (.ptr id off))=>match s id with
  | some (.box _ cs)=>if off+n<=cs.length then some ((cs.drop off).take n,True) else none
  | _=>none
 | .v (.c (.elm cs))=>if n<=cs.length then some ((cs.take n).map .d,True) else none
 | .v (.c (.pte id es idx off))=>match s id with
  | some (.arr es' k f)=>if es=es' /\ off+n<=es/\(f idx).length=es then some ((((f idx).drop off).take n).map .d,idx<k) else none
  | _=>none
 | _=>none
def Q4v {α:Type} (cs:List α) (off:Nat) (xs:List α):List α:=cs.take off++(xs++cs.drop (off+xs.length))
def wr (s:Sto) (xs:List CV):AVal->Option SR
 | .v (.c (.ptr id off))=>match s id with
  | some (.box false cs)=>if off+xs.length<=cs.length then some { upd:=some (id,.box false (Q4v cs off xs)) } else none
  | _=>none
 | .v (.c (.pte id es idx off))=>match s id with
  | some (.arr es' k f)=>match Y1X xs with
   | some ds=>if es=es' /\ off+ds.length<=es/\(f idx).length=es then
     some { upd:=some (id,.arr es k fun j=>if j=idx then Q4v (f idx) off ds else f j),cond:=idx<k } else none
   | none=>none
  | _=>none
 | _=>none
def Z8e (m:Bool) (k:IntKind) (n:Int) (c:Prop):SR:=
 match k,m with
 | .i64,false=> { v:=vi n,cond:=I64 n/\c }
 | k,_=> { v:=.v (.c (.d (.int k (k.wrap n)))),cond:=c }
def Q3A (k:IntKind) (x y:Int):Int:=k.wrap (BitVec.ofInt k.bits x &&& BitVec.ofInt k.bits y).toNat
def bor (k:IntKind) (x y:Int):Int:=k.wrap (BitVec.ofInt k.bits x ||| BitVec.ofInt k.bits y).toNat
def W2Y (k:IntKind) (x y:Int):Int:=k.wrap (BitVec.ofInt k.bits x ^^^ BitVec.ofInt k.bits y).toNat
def Y7C (m:Bool) (op:BinOp) (x y:AVal):Option SR:=
 match x,y with
 | .v (.c (.d (.int k a))),.v (.c (.d (.int k' b)))=>
  match op with
  | .shl=>some (Z8e m k (a*2 ^ (min b.toNat k.bits)) (0<=b))
  | .shr=>some { v:=.v (.c (.d (.int k (a.fdiv (2 ^ (min b.toNat k.bits)))))),cond:=0<=b }
  | op=>if k=k' then match op with
   | .add=>some (Z8e m k (a+b) True)
   | .sub=>some (Z8e m k (a-b) True)
   | .mul=>some (Z8e m k (a*b) True)
   | .quo=>some (Z8e m k (a.tdiv b) (b≠0))
   | .rem=>some { v:=.v (.c (.d (.int k (a.tmod b)))),cond:=b≠0 }
   | .and=>some { v:=.v (.c (.d (.int k (Q3A k a b)))) }
   | .or=>some { v:=.v (.c (.d (.int k (bor k a b)))) }
   | .xor=>some { v:=.v (.c (.d (.int k (W2Y k a b)))) }
   | .eql=>some { v:=vb (a==b) }
   | .neq=>some { v:=vb (a != b) }
   | .lss=>some { v:=vb (a<b) }
   | .leq=>some { v:=vb (a<=b) }
   | .gtr=>some { v:=vb (b<a) }
   | .geq=>some { v:=vb (b<=a) }
   | _=>none else none
 | _,_=>none
def aun (m:Bool) (op:UnOp) (x:AVal):Option SR:=
 match op,x with
 | .not,.v (.c (.d (.bool b)))=>some { v:=vb (!b) }
 | .neg,.v (.c (.d (.int k n)))=>some (Z8e m k (0-n) True)
 | _,_=>none
def Q5U (a b:Int):Int:=if b<a then b else a
def Q0x (a b:Int):Int:=if a<b then b else a
def asI:AVal->Option Int
 | .v (.c (.d (.int _ n)))=>some n
 | _=>none
def asL (s:Sto):AVal->Option (Nat×(Nat->List DVal))
 | .v (.c (.d (.lst n f)))=>some (n,f)
 | .v (.c (.fl n f))=>some (n,f)
 | .v (.c (.own id))=>match s id with
  | some (.arr _ n f)=>some (n,f)
  | _=>none
 | .v (.c (.sub id es lo n))=>match s id with
  | some (.arr es' _ f)=>if es=es' then some (n,fun j=>f (lo+j)) else none
  | _=>none
 | _=>none
def Q5z (n:Nat) (f g:Nat->List DVal):Nat->List DVal:=fun i=>if i<n then f i else g (i-n)
def Z9P (s:Sto) (es m:Nat):AVal->Option (List Nat×Nat×(Nat->List DVal)×Prop)
 | .v (.c (.own id))=>match s id with
  | some (.arr es' n f)=>if es=es' then some ([id],n,f,True) else none
  | _=>none
 | .v (.c (.fl n f))=>if n=0\/0<m then some ([],n,f,∀ j,j<n->(f j).length=es) else none
 | _=>none
def Z7Y (pl:Nat->Option (Nat×Nat)) (cells:List CV):List (Nat×AVal)->Option (List CV)
 | []=>some cells
 | (i,x)::rest=>match pl i,Z8K x with
  | some (off,size),some xs=>if xs.length=size/\off+size<=cells.length then Z7Y pl (Q4v cells off xs) rest else none
  | _,_=>none
def Z7d (L:Lay):List (Nat×Nat)->Option (List (Nat×Nat))
 | []=>some []
 | (off,t)::r=>match L t,Z7d L r with
  | some ti,some l=>some ((off,ti.size)::l)
  | _,_=>none
def Y2o {α:Type} (n:Nat) (xs:List α):List α:=match n with|0=>[] | n+1=>xs++Y2o n xs
def Z0g (L:Lay) (s:Sto) (b:Builtin) (tys:Array TypeId) (xs:List AVal):Option SR:=
 match b,xs with
 | .len,[x]=>match tys.toList with
  | [t]=>match L t with
   | some { kind:=.slice _,.. }=>match asL s x with
    | some (n,_)=>some { v:=vi n }
    | none=>none
   | some { kind:=.array n _,.. }=>some { v:=vi n }
   | some { kind:=.str,.. }=>match x with
    | .v (.c (.d (.str b)))=>some { v:=vi b.size }
    | _=>none
   | _=>none
  | _=>none
 | .min,[.v (.c (.d (.int k a))),.v (.c (.d (.int _ b)))]=>some { v:=.v (.c (.d (.int k (Q5U a b)))) }
 | .max,[.v (.c (.d (.int k a))),.v (.c (.d (.int _ b)))]=>some { v:=.v (.c (.d (.int k (Q0x a b)))) }
 | .append,[x,y]=>match tys.toList with
  | [t,t']=>if t=t' then match L t with
   | some { kind:=.slice el,.. }=>match L el with
    | some te=>match asL s y with
     | some (k,g)=>match Z9P s te.size k x with
      | some (del,n,f,c)=>if 0<te.size/\te.bytes<=8192/\te.zero.length=te.size then
        some { v:=.any,del:=del,new:=some (.arr te.size (n+k) (Q5z n f g)),cond:=n+k<=LIM/\(∀ j,j<k->(g j).length=te.size)/\c } else none
      | none=>none
     | none=>none
    | none=>none
   | _=>none else none
  | _=>none
 | _,_=>none
def sl (n:Nat) (f:Nat->List DVal) (lo hi:Option Int):(Nat×(Nat->List DVal))×Prop:=
 match lo,hi with
 | none,none=>((n,f),True)
 | some l,none=>((n-l.toNat,fun i=>f (l.toNat+i)),0<=l/\l<=n)
 | none,some h=>((h.toNat,f),0<=h/\h<=n)
 | some l,some h=>((h.toNat-l.toNat,fun i=>f (l.toNat+i)),0<=l/\l<=h/\h<=n)
def oI (e:Env):Option Operand->Option (Option Int)
 | none=>some none
 | some x=>match asI (aev e x) with
  | some n=>some (some n)
  | none=>none
def Q9o (L:Lay) (m:Bool) (e:Env) (s:Sto) (o:Oper):Option SR:=
 match o.op with
 | .move x=>some { v:=aev e x }
 | .assign x=>match m,aev e x,o.dst with
  | false,x,_=>some { v:=x }
  | true,.v (.c (.fl 0 f)),some d=>match L o.type with
   | some { kind:=.slice el,.. }=>match L el with
    | some te=>some { v:=.v (.c (.own d)),new:=some (.arr te.size 0 f) }
    | none=>none
   | _=>none
  | _,_,_=>none
 | .pick c x y=>match aev e c with
  | .v (.c (.d (.bool true)))=>some { v:=aev e x }
  | .v (.c (.d (.bool false)))=>some { v:=aev e y }
  | _=>none
 | .alloc t=>match L t,o.dst with
  | some ti,some d=>some { v:=.v (.c (.ptr d 0)),new:=some (.box false ti.zero) }
  | _,_=>none
 | .box _ x=>match Z8K (aev e x),o.dst with
  | some xs,some d=>some { v:=.v (.c (.ptr d 0)),new:=some (.box false xs) }
  | _,_=>none
 | .build t ps=>match L t with
  | some { kind:=.struct fs,zero:=z,.. }=>match Z7d L fs with
   | some pl=>match Z7Y (fun i=>pl[i]?) z (ps.toList.map fun p=>(p.1,aev e p.2)) with
    | some cs=>some { v:=.v (.g cs) }
    | none=>none
   | none=>none
  | some { kind:=.array _ el,zero:=z,.. }=>match L el with
   | some te=>match Z7Y (fun i=>some (i*te.size,te.size)) z (ps.toList.map fun p=>(p.1,aev e p.2)) with
    | some cs=>some { v:=.v (.g cs) }
    | none=>none
   | none=>none
  | _=>none
 | .buildSlice t len ps=>match L t with
  | some { kind:=.slice el,.. }=>match L el with
   | some te=>if len*te.size<=16777216/\te.zero.length=te.size/\0<te.size then
     match Z7Y (fun i=>some (i*te.size,te.size)) (Y2o len te.zero) (ps.toList.map fun p=>(p.1,aev e p.2)) with
     | some cs=>match Y1X cs with
      | some ds=>match m,o.dst with
       | false,_=>some { v:=.v (.c (.d (.lst len fun i=>(ds.drop (i*te.size)).take te.size))) }
       | true,some d=>some { v:=.v (.c (.own d)),new:=some (.arr te.size len fun i=>(ds.drop (i*te.size)).take te.size) }
       | _,_=>none
      | none=>none
     | none=>none else none
   | none=>none
  | _=>none
 | .load t x=>match L t with
  | some ti=>match rd s ti.size (aev e x) with
   | some (cs,c)=>match mkT ti.kind.agg cs with
    | some v=>some { v:=v,cond:=c }
    | none=>none
   | none=>none
  | none=>none
 | .store t x y=>match L t,Z8K (aev e y) with
  | some ti,some xs=>if xs.length=ti.size then wr s xs (aev e x) else none
  | _,_=>none
 | .nilCheck x=>match aev e x with
  | .v (.c (.ptr id off))=>some { v:=.v (.c (.ptr id off)) }
  | .v (.c (.pte id es idx off))=>some { v:=.v (.c (.pte id es idx off)) }
  | .v (.c (.elm cs))=>some { v:=.v (.c (.elm cs)) }
  | _=>none
 | .binOp op _ x y _=>Y7C m op (aev e x) (aev e y)
 | .unOp op _ x=>aun m op (aev e x)
 | .convert src dst x=>match L src,L dst,aev e x with
  | some { kind:=.int _,.. },some { kind:=.int k,.. },.v (.c (.d (.int _ n)))=>some (Z8e m k n True)
  | some { kind:=.str,.. },some { kind:=.str,.. },.v (.c (.d (.str b)))=>some { v:=.v (.c (.d (.str b))) }
  | _,_,_=>none
 | .makeFunc (.func f) first caps=>if first.size=0 then match cloIds (caps.toList.map (aev e)) with
   | some ids=>some { v:=.v (.c (.clo f ids)) }
   | none=>none else none
 | .slice t x lo hi none=>match L t with
  | some { kind:=.slice el,.. }=>match L el with
   | some te=>match m,aev e x,oI e lo,oI e hi with
    | false,x,some lo,some hi=>match asF x with
     | some (n,f)=>some { v:=.v (.c (.d (.lst (sl n f lo hi).1.1 (sl n f lo hi).1.2))),cond:=(sl n f lo hi).2/\∀ j,j<n->(f j).length=te.size }
     | none=>none
    | true,.v (.c (.own id)),some none,some (some h)=>match s id,o.dst with
     | some (.arr es n f),some d=>some { v:=.v (.c (.own d)),del:=[id],new:=some (.arr es h.toNat f),cond:=0<=h/\h<=n }
     | _,_=>none
    | _,_,_,_=>none
   | none=>none
  | _=>none
 | .slice t x none (some h) (some mx)=>match L t with
  | some { kind:=.slice el,.. }=>match L el,asF (aev e x),asI (aev e h),asI (aev e mx) with
   | some te,some (n,f),some h,some mx=>if h=mx/\0<h then
     some { v:=.v (.c (.fl h.toNat f)),cond:=h<=n/\∀ j,j<n->(f j).length=te.size } else none
   | _,_,_,_=>none
  | _=>none
 | .fieldAddr t x k=>match L t with
  | some { kind:=.struct fs,.. }=>match fs[k]? with
   | some (off,ft)=>match L ft with
    | some tf=>if tf.size=0 then none else match aev e x with
     | .v (.c (.ptr id o))=>some { v:=.v (.c (.ptr id (o+off))) }
     | .v (.c (.pte id es idx o))=>some { v:=.v (.c (.pte id es idx (o+off))) }
     | .v (.c (.elm cs))=>if off<=cs.length then some { v:=.v (.c (.elm (cs.drop off))) } else none
     | _=>none
    | none=>none
   | none=>none
  | _=>none
 | .field t x k=>match L t with
  | some { kind:=.struct fs,.. }=>match fs[k]?,aev e x with
   | some (off,ft),.v (.g cs)=>match L ft with
    | some tf=>if off+tf.size<=cs.length then match mkT tf.kind.agg ((cs.drop off).take tf.size) with
      | some v=>some { v:=v }
      | none=>none else none
    | none=>none
   | _,_=>none
  | _=>none
 | .indexAddr t x i=>match L t,asI (aev e i) with
  | some { kind:=.slice el,.. },some i=>match L el with
   | some te=>match aev e x with
    | .v (.c (.own id))=>match s id with
     | some (.arr es n _)=>if es=te.size then some { v:=.v (.c (.pte id es i.toNat 0)),cond:=0<=i/\i<n } else none
     | _=>none
    | x=>match asF x with
     | some (n,f)=>if (f i.toNat).length=te.size then some { v:=.v (.c (.elm (f i.toNat))),cond:=0<=i/\i<n } else none
     | none=>none
   | none=>none
  | some { kind:=.array n el,.. },some i=>match L el,aev e x with
   | some te,.v (.c (.ptr id off))=>if 0<=i/\i<n then some { v:=.v (.c (.ptr id (off+i.toNat*te.size))) } else none
   | _,_=>none
  | _,_=>none
 | .index t x i=>match L t,asI (aev e i),aev e x with
  | some { kind:=.array n el,.. },some i,.v (.g cs)=>match L el with
   | some te=>if 0<=i/\i<n/\i.toNat*te.size+te.size<=cs.length then match mkT te.kind.agg ((cs.drop (i.toNat*te.size)).take te.size) with
     | some v=>some { v:=v }
     | none=>none else none
   | none=>none
  | _,_,_=>none
 | .makeSlice t l c=>match L t,asI (aev e l),asI (aev e c),o.dst with
  | some { kind:=.slice el,.. },some l,some c,some d=>match L el with
   | some te=>match Y1X te.zero with
    | some z=>if 0<te.size/\te.bytes<=8192/\te.zero.length=te.size then some { v:=.v (.c (.own d)),new:=some (.arr te.size l.toNat fun _=>z),cond:=0<=l/\l=c/\l<=LIM } else none
    | none=>none
   | none=>none
  | _,_,_,_=>none
 | .extract x k=>match aev e x with
  | .t xs=>match xs[k]? with
   | some v=>some { v:=.v v }
   | none=>none
  | _=>none
 | .call { callee:=.builtin b,args,argTypes }=>match Z0g L s b argTypes (args.toList.map (aev e)),o.dst with
  | some r,d=>match r.new,d with
   | some _,some d=>some { r with v:=.v (.c (.own d)) }
   | some _,none=>none
   | none,_=>some r
  | none,_=>none
 | _=>none
where
 cloIds:List AVal->Option (List Nat)
  | []=>some []
  | .v (.c (.ptr id 0))::r=>match cloIds r with
   | some ids=>some (id::ids)
   | none=>none
  | _::_=>none
 asF:AVal->Option (Nat×(Nat->List DVal))
  | .v (.c (.d (.lst n f)))=>some (n,f)
  | .v (.c (.fl n f))=>some (n,f)
  | _=>none
section
def KOk (d:TypeDesc):TK->Prop
 | .int k=>d=.int k
 | .bool=>d=.bool
 | .str=>d=.string
 | .slice e=>d=.slice e
 | .struct fs=>∃ fields,d=.struct fields/\fields.toList.map (fun f=>(f.offset,f.type))=fs
 | .array n e=>d=.array n e
 | .other=>(∀ fs,d≠.struct fs)/\∀ n e,d≠.array n e
structure TIOk (P:Program) (t:Nat) (ti:TI) (i:TypeInfo) (d:TypeDesc) (z:Value):Prop where
 info:P.info? t=some i
 und:P.underlying t=some d
 size:i.size=ti.size
 bytes:i.bytes=ti.bytes
 zero:i.zero=some z
 zrep:∀ w X η C,y4 w X η C z.cells ti.zero
 zrefs:ti.zero.flatMap CV.refs=[]
 kind:KOk d ti.kind
def LOk (P:Program) (L:Lay):Prop:=∀ t ti,L t=some ti->∃ i d z,TIOk P t ti i d z
section
variable {P:Program} {L:Lay}
theorem Z6R {t:Nat} {ti:TI} {i:TypeInfo} {d:TypeDesc} {z:Value} (h:TIOk P t ti i d z) (w:World):(isAgg t).run P w=.ok ti.kind.agg w:=by
 have b:=h.kind;simp only [isAgg,Sem.run_bind,run_underlying h.und,Result.andThen_ok]
 cases hkk:ti.kind <;> simp only [hkk,KOk] at b
 all_goals first
  | (subst b;rfl)
  | (obtain ⟨f,rfl,_⟩:=b;rfl)
  | skip
 split
 ·rename_i x c;exact absurd rfl (b.1 c)
 ·rename_i x n e;exact absurd rfl (b.2 n e)
 ·rfl
theorem G3 {t:Nat} {ti:TI} {i:TypeInfo} {d:TypeDesc} {z:Value} (h:TIOk P t ti i d z) (w:World):(sizeOf t).run P w=.ok ti.size w:=by
 simp [sizeOf,typeInfo,h.info,h.size]
theorem Q9s {t:Nat} {ti:TI} {i:TypeInfo} {d:TypeDesc} {z:Value} (h:TIOk P t ti i d z) (w:World):(zeroValue t).run P w=.ok z w:=by
 simp [zeroValue,typeInfo,h.info,h.zero]
theorem add_lit (b o n:Nat):(⟨b,o,none⟩:Addr).add n=⟨b,o+n,none⟩:=by unfold Addr.add;split <;> simp_all
theorem Z9L {w:World} {b:Nat} {c:Array Value} {e:TypeId} {fz:Nat×Nat} (h:w.heap[b]?=some (.cells c e fz)) (j:Nat) (hj:j<c.size) :
  w.cell? ⟨b,j,none⟩=some (c.getD j undef):=by
 rw [cell_of_row w b j c e fz h];simp [hj]
def Q8J (c:Array Value) (off n:Nat):List Value:=(List.range n).map fun j=>c.getD (off+j) undef
theorem Y0X {t:Nat} {ti:TI} {i:TypeInfo} {d:TypeDesc} {z:Value} (h:TIOk P t ti i d z) {w:World} {b off:Nat} {c:Array Value} {e:TypeId} {fz:Nat×Nat}
  (hb:w.heap[b]?=some (.cells c e fz)) (ho:off+ti.size<=c.size) (h1:ti.kind.agg=false->ti.size=1) :
  (loadVar t ⟨b,off,none⟩).run P w=.ok (if ti.kind.agg then .agg (Q8J c off ti.size).toArray else c.getD off undef) w:=by
 simp only [loadVar,Sem.run_bind,Z6R h,Result.andThen_ok]
 cases ha:ti.kind.agg with
 | true=>
  have:=run_loadCells (P:=P) w ⟨b,off,none⟩ ti.size (fun j=>c.getD (off+j) undef) (fun j f=>by rw [add_lit];exact Z9L hb _ (by omega))
  simp only [Sem.run_bind,G3 h,Result.andThen_ok,this,if_true,Sem.run_pure,Q8J]
 | false=>
  have:=h1 ha
  simp only [Bool.false_eq_true,if_false];rw [run_load,Z9L hb off (by omega)]
theorem Z5y {o:Oper} {a:Act} {w w' : World} {v:Value} {K:Act->World->Prop} {Q:Exit->Act->World->Prop}
  (h:(execOp a.eval o).run P w=.ok (.value v) w') (hK:K (a.put o.dst v) w'):o.wp P a w K Q:=by
 unfold Oper.wp;rw [h];exact hK
theorem Y5n {o:Oper} {a:Act} {w w' : World} {K:Act->World->Prop} {Q:Exit->Act->World->Prop}
  (h:(execOp a.eval o).run P w=.ok .skip w') (hK:K (a.put o.dst undef) w'):o.wp P a w K Q:=by
 unfold Oper.wp;rw [h];exact hK
end
section
variable {P:Program} {L:Lay} {C:Ctx} {nt:Nat} {R:Nat->Prop} {η:Nat->Value} {e:Env} {s:Sto} {a:Act} {w:World}
def Snd (P:Program) (C:Ctx) (nt:Nat) (R:Nat->Prop) (η:Nat->Value) (e:Env) (s:Sto) (a:Act) (w:World) (o:Oper) (r:SR):Prop:=
 ∃ v w',((execOp a.eval o).run P w=.ok (.value v) w' \/ ((execOp a.eval o).run P w=.ok .skip w' /\ v=undef)) /\
  Conc C nt (r.rng o.dst R) (r.eta o.dst v η) (r.env o.dst e) (r.sto o.dst s) (a.put o.dst v) w'
theorem Snd.wp {o:Oper} {r:SR} (h:Snd P C nt R η e s a w o r) {K:Act->World->Prop} {Q:Exit->Act->World->Prop}
  (hK:∀ η' a' w',Conc C nt (r.rng o.dst R) η' (r.env o.dst e) (r.sto o.dst s) a' w' -> K a' w'):o.wp P a w K Q:=by
 obtain ⟨v,w',b|⟨b,rfl⟩,c⟩:=h
 ·exact Z5y b (hK _ _ _ c)
 ·exact Y5n b (hK _ _ _ c)
theorem W1w (d:Option Tmp) (x:AVal) (c:Prop):SR.rng { v:=x,cond:=c } d R=R:=by funext i;simp [SR.rng]
theorem W1o (d:Option Tmp) (x:AVal) (c:Prop):SR.sto { v:=x,cond:=c } d s=s:=by funext i;simp [SR.sto]
theorem W1Y (d:Option Tmp) (x:AVal) (c:Prop) (v:Value):SR.eta { v:=x,cond:=c } d v η=η:=by funext i;simp [SR.eta]
theorem W2a (d:Option Tmp) (x:AVal) (c:Prop):SR.env { v:=x,cond:=c } d e=SR.env { v:=x } d e:=rfl
theorem G6 (h:Conc C nt R η e s a w) {o:Oper} (hd:∀ x,o.dst=some x->x<nt) {x:AVal} {c:Prop} {v:Value}
  (hr:(execOp a.eval o).run P w=.ok (.value v) w) (hv:ARep w (XS C s η) η C v x) (hx:∀ j ∈ x.refs,R j):Snd P C nt R η e s a w o { v:=x,cond:=c }:=by
 refine ⟨v,w,.inl hr,?_⟩;rw [W1w,W1o,W1Y,W2a]
 exact h.val o.dst hd x v fun _=>⟨hv,hx⟩
theorem Y9f (v:Value) (X:Nat->Prop):ARep w X η C v (Y5j v)/\(Y5j v).refs=[]:=by
 unfold Y5j;split
 ·exact ⟨.v _ _ (.c _ _ (.d _ _ (.int _ _))),rfl⟩
 ·exact ⟨.v _ _ (.c _ _ (.d _ _ (.bool _))),rfl⟩
 ·exact ⟨.v _ _ (.c _ _ (.d _ _ (.str _))),rfl⟩
 ·exact ⟨.v _ _ (.c _ _ (.fl _ _ _ (.nil _ _ _))),rfl⟩
 ·exact ⟨.any _,rfl⟩
theorem W5 (h:Conc C nt R η e s a w) (x:Operand):ARep w (XS C s η) η C (a.eval x) (aev e x)/\∀ j ∈ (aev e x).refs,R j:=by
 cases x with
 | tmp t=>exact ⟨h.ev t,h.er t⟩
 | const v=>
  obtain ⟨b,d⟩:=Y9f (w:=w) (η:=η) (C:=C) v (XS C s η);exact ⟨b,by simp only [aev];rw [d];simp⟩
 | global g=>exact ⟨.any _,by simp [aev,AVal.refs]⟩
 | func f=>exact ⟨.v _ _ (.c _ _ (.clo f [] #[] rfl)),by simp [aev,AVal.refs,TV.refs,CV.refs]⟩
theorem Z4E {α β:Type} (f:α->List β) (l:List α) (n:Nat):∀ j ∈ (l.take n).flatMap f,j ∈ l.flatMap f:=by
 intro j c;obtain ⟨x,d,b⟩:=List.mem_flatMap.1 c
 exact List.mem_flatMap.2 ⟨x,List.mem_of_mem_take d,b⟩
theorem Z4F {α β:Type} (f:α->List β) (l:List α) (n:Nat):∀ j ∈ (l.drop n).flatMap f,j ∈ l.flatMap f:=by
 intro j c;obtain ⟨x,d,b⟩:=List.mem_flatMap.1 c
 exact List.mem_flatMap.2 ⟨x,List.mem_of_mem_drop d,b⟩
theorem Y2p (ds:List DVal):(ds.map CV.d).flatMap CV.refs=[]:=by
 induction ds with
 | nil=>rfl
 | cons x r ih=>simp [CV.refs]
theorem Q8m {α:Type} (l:List α) (off n j:Nat) (x:α) (hj:j<n):((l.drop off).take n).getD j x=l.getD (off+j) x:=by
 simp [List.getD_eq_getElem?_getD,hj]
theorem W2r (h:Conc C nt R η e s a w) {n:Nat} {x:AVal} {v:Value} {cs:List CV} {c:Prop} (hr:rd s n x=some (cs,c)) (hc:c) (hv:ARep w (XS C s η) η C v x) :
  ∃ b off c' e' fz,v=.pointer (some ⟨b,off,none⟩)/\w.heap[b]?=some (.cells c' e' fz)/\off+n<=c'.size/\cs.length=n /\
   (∀ j,j<n->CRep w (XS C s η) η C (c'.getD (off+j) undef) (cs.getD j (.d .any)))/\∀ j ∈ cs.flatMap CV.refs,R j:=by
 unfold rd at hr;split at hr
 ·rename_i r off
  split at hr
  ·rename_i D E q
   split at hr
   ·rename_i m
    cases hr
    have l:=h.st r _ q
    cases hv with
    | v _ _ hv=>
    cases hv with
    | c _ _ hv=>
    cases hv with
    | ptr b _ _ he=>
    rw [he] at l
    cases l with
    | box _ _ c' e' _ hb hcs=>
    have t:=hcs.1;refine ⟨b,off,c',e',(0,0),rfl,hb,by omega,by simp;omega,fun j i=>?_,fun j i=>?_⟩
    ·rw [Q8m _ _ _ _ _ i];exact hcs.2 (off+j) (by omega)
    ·exact (h.sr r _ q).2 j (Z4F _ _ _ j (Z4E _ _ _ j i))
   ·cases hr
  ·cases hr
 ·rename_i u
  split at hr
  ·rename_i m
   cases hr
   cases hv with
   | v _ _ hv=>
   cases hv with
   | c _ _ hv=>
   cases hv with
   | elm b off c' e' fz _ hX hb p hd=>
   refine ⟨b,off,c',e',fz,rfl,hb,by omega,by simp;omega,fun j i=>?_,fun j i=>?_⟩
   ·have:((u.take n).map CV.d).getD j (.d .any)=.d (u.getD j .any):=by
     have y : j<u.length:=by omega
     simp [List.getD_eq_getElem?_getD,i,y]
    rw [this];exact .d _ _ (hd j (by omega))
   ·rw [Y2p] at i;cases i
  ·cases hr
 ·rename_i r o g off
  split at hr
  ·rename_i A k f q
   split at hr
   ·rename_i m
    obtain ⟨rfl,m,p⟩:=m;cases hr
    have l:=h.st r _ q
    cases hv with
    | v _ _ hv=>
    cases hv with
    | c _ _ hv=>
    cases hv with
    | pte b n' cap _ _ _ _ he=>
    rw [he] at l
    cases l with
    | nil=>exact absurd hc (by omega)
    | arr _ _ _ _ c' e' _ hb t hn hm hc0 hl hel=>
    have z:g*o+o<=cap*o:=by
     have:(g+1)*o<=cap*o:=Nat.mul_le_mul_right _ (by omega)
     rwa [Nat.add_mul,Nat.one_mul] at this
    refine ⟨b,g*o+off,c',e',(0,0),rfl,hb,by omega,by simp;omega,fun j i=>?_,fun j i=>?_⟩
    ·have:(((((f g).drop off).take n).map CV.d)).getD j (.d .any)=.d ((f g).getD (off+j) .any):=by
      have B:off+j<(f g).length:=by omega
      simp [List.getD_eq_getElem?_getD,i,B]
     rw [this];have:=hel g (off+j) hc (by omega)
     rw [Nat.add_assoc];exact .d _ _ this
    ·rw [Y2p] at i;cases i
   ·cases hr
  ·cases hr
 ·cases hr
end
end
section
section
variable {P:Program} {L:Lay} {C:Ctx} {nt:Nat} {R:Nat->Prop} {η:Nat->Value} {e:Env} {s:Sto} {a:Act} {w:World}
theorem Y5m {n:Int} (h:I64 n):IntKind.i64.wrap n=n:=by
  obtain ⟨b,c⟩:=h;have e:IntKind.i64.wrap n=if n % 18446744073709551616 ≥ 9223372036854775808 then n % 18446744073709551616-18446744073709551616 else n % 18446744073709551616:=by
    simp [IntKind.wrap,IntKind.bits,IntKind.signed]
  rw [e];split <;> omega
theorem Q5R {v:Value} {k:IntKind} {n:Int} (h:ARep w (XS C s η) η C v (.v (.c (.d (.int k n))))):v=.int k n:=by
  cases h with|v _ _ h=>cases h with|c _ _ h=>cases h with|d _ _ h=>cases h;rfl
theorem Z9N {v:Value} {b:Bool} (h:ARep w (XS C s η) η C v (.v (.c (.d (.bool b))))):v=.bool b:=by
  cases h with|v _ _ h=>cases h with|c _ _ h=>cases h with|d _ _ h=>cases h;rfl
theorem Z4k {v:Value} {b:ByteArray} (h:ARep w (XS C s η) η C v (.v (.c (.d (.str b))))):v=.string b:=by
  cases h with|v _ _ h=>cases h with|c _ _ h=>cases h with|d _ _ h=>cases h;rfl
theorem Q4U (X:Nat->Prop) (k:IntKind) (n:Int):ARep w X η C (.int k n) (.v (.c (.d (.int k n)))):=.v _ _ (.c _ _ (.d _ _ (.int _ _)))
theorem Z9M (X:Nat->Prop) (b:Bool):ARep w X η C (.bool b) (.v (.c (.d (.bool b)))):=.v _ _ (.c _ _ (.d _ _ (.bool _)))
def Y9N (r:SR) (v:Value):Prop:=∃ x c,r={ v:=x,cond:=c } /\ (c->∀ (w:World) (X:Nat->Prop) (η:Nat->Value) (C:Ctx),ARep w X η C v x)/\x.refs=[]
theorem Z7h (m:Bool) (k:IntKind) (n:Int) (c:Prop):(Z8e m k n c).cond->Y9N (Z8e m k n c) (.int k (k.wrap n))/\c:=by
  unfold Z8e;split
  · intro h
    refine ⟨⟨_,_,rfl,fun _ w X η C=>?_,rfl⟩,h.2⟩;rw [Y5m h.1];exact Q4U _ _ _
  · intro h
    exact ⟨⟨_,_,rfl,fun _ w X η C=>Q4U _ _ _,rfl⟩,h⟩
theorem W2j (op:BinOp) (t:TypeId) (m:Bool) {k k' : IntKind} {n n' : Int} {r:SR} (w:World)
    (hr:Y7C m op (.v (.c (.d (.int k n)))) (.v (.c (.d (.int k' n'))))=some r) (hc:r.cond) :
    ∃ v,(binOp op t (.int k n) (.int k' n')).run P w=.ok v w/\Y9N r v:=by
  simp only [Y7C] at hr;split at hr
  · cases hr
    obtain ⟨b,h⟩:=Z7h m k _ _ hc;refine ⟨_,?_,b⟩
    have:¬ n' < 0:=by omega
    simp [binOp,Op.shift,this]
  · cases hr
    have:¬ n' < 0:=by have:(0:Int)<=n':=hc;omega
    exact ⟨.int k (n.fdiv (2 ^ min n'.toNat k.bits)),by simp [binOp,Op.shift,this],_,_,rfl,fun _ _ _ _ _=>Q4U _ _ _,rfl⟩
  · rename_i g i
    split at hr
    · rename_i j
      subst j;split at hr <;> first
        | (cases hr;done)
        | (cases hr
           obtain ⟨b,h⟩:=Z7h m k _ _ hc;refine ⟨_,?_,b⟩
           first
             | (simp [binOp,Op.intArith];done)
             | (simp [binOp,Op.intDiv,h];done))
        | (cases hr
           have f : n' ≠ 0:=hc;exact ⟨.int k (n.tmod n'),by simp [binOp,Op.intDiv,f],_,_,rfl,fun _ _ _ _ _=>Q4U _ _ _,rfl⟩)
        | (cases hr;refine ⟨.int k (Q3A k n n'),?_,_,_,rfl,fun _ _ _ _ _=>Q4U _ _ _,rfl⟩;simp [binOp,Op.intBits,Q3A];done)
        | (cases hr;refine ⟨.int k (bor k n n'),?_,_,_,rfl,fun _ _ _ _ _=>Q4U _ _ _,rfl⟩;simp [binOp,Op.intBits,bor];done)
        | (cases hr;refine ⟨.int k (W2Y k n n'),?_,_,_,rfl,fun _ _ _ _ _=>Q4U _ _ _,rfl⟩;simp [binOp,Op.intBits,W2Y];done)
        | (cases hr;refine ⟨.bool _,?_,_,_,rfl,fun _ _ _ _ _=>Z9M _ _,rfl⟩;simp [binOp,Op.intCmp];done)
    · cases hr
theorem Y1p (op:BinOp) (t:TypeId) (x y:Operand) (k k' : IntKind) (n n' : Int) (w:World):(eqGuard op t x y (.int k n) (.int k' n')).run P w=.ok () w:=by
  unfold eqGuard;split <;> rfl
theorem Y1H (h:Conc C nt R η e s a w) {o:Oper} (hd:∀ x,o.dst=some x->x<nt) {r:SR} {v:Value} (hn:Y9N r v) (hc:r.cond)
    (hr:(execOp a.eval o).run P w=.ok (.value v) w):Snd P C nt R η e s a w o r:=by
  obtain ⟨x,c,rfl,b,d⟩:=hn;exact G6 h hd hr (b hc _ _ _ _) (by rw [d];simp)
theorem W1s (h:Conc C nt R η e s a w) {o:Oper} (hd:∀ x,o.dst=some x->x<nt) {op:BinOp} {t t' : TypeId} {x y:Operand} (hop:o.op=.binOp op t x y t') {m:Bool} {r:SR}
    (hr:Y7C m op (aev e x) (aev e y)=some r) (hc:r.cond):Snd P C nt R η e s a w o r:=by
  have f:=(W5 h x).1;have b:=(W5 h y).1
  unfold Y7C at hr;split at hr
  · rename_i k n u z j l
    rw [j] at f;rw [l] at b
    have g:=Q5R f;have i:=Q5R b
    obtain ⟨v,p,q⟩:=W2j (P:=P) op t m w (show Y7C m op (.v (.c (.d (.int k n)))) (.v (.c (.d (.int u z))))=some r from hr) hc;refine Y1H h hd q hc ?_
    simp only [execOp,hop,Sem.run_bind,g,i,Y1p,p,Result.andThen_ok,Sem.run_pure]
  · cases hr
theorem W2J (h:Conc C nt R η e s a w) {o:Oper} (hd:∀ x,o.dst=some x->x<nt) {op:UnOp} {t:TypeId} {x:Operand} (hop:o.op=.unOp op t x) {m:Bool} {r:SR}
    (hr:aun m op (aev e x)=some r) (hc:r.cond):Snd P C nt R η e s a w o r:=by
  have c:=(W5 h x).1;unfold aun at hr
  split at hr
  · rename_i b f
    cases hr
    rw [f] at c;have d:=Z9N c
    exact Y1H h hd ⟨_,_,rfl,fun _ _ _ _ _=>Z9M _ _,rfl⟩ hc (by simp [execOp,hop,d,Op.unary])
  · rename_i k n f
    cases hr
    rw [f] at c;have d:=Q5R c
    obtain ⟨g,_⟩:=Z7h m k (0-n) _ hc;exact Y1H h hd g hc (by simp [execOp,hop,d,Op.unary,Op.intArith])
  · cases hr
theorem Y5z (h:Conc C nt R η e s a w) {o:Oper} (hd:∀ x,o.dst=some x->x<nt) {x:Operand} (hop:o.op=.move x\/o.op=.assign x):Snd P C nt R η e s a w o { v:=aev e x }:=by
  obtain ⟨b,c⟩:=W5 h x;refine G6 h hd ?_ b c
  rcases hop with hop|hop <;> simp [execOp,hop]
theorem Y5x (h:Conc C nt R η e s a w) {o:Oper} (hd:∀ x,o.dst=some x->x<nt) {c x y:Operand} (hop:o.op=.pick c x y) {b:Bool} (hb:aev e c=.v (.c (.d (.bool b)))) :
    Snd P C nt R η e s a w o { v:=aev e (if b then x else y) }:=by
  have f:=(W5 h c).1;rw [hb] at f
  have g:=Z9N f;obtain ⟨i,j⟩:=W5 h (if b then x else y)
  refine G6 h hd ?_ i j
  cases b <;> simp [execOp,hop,g,asBool]
theorem Y9z (hL:LOk P L) (h:Conc C nt R η e s a w) {o:Oper} (hd:∀ x,o.dst=some x->x<nt) {t:TypeId} {x:Operand} (hop:o.op=.load t x) {ti:TI} (ht:L t=some ti)
    {cs:List CV} {c:Prop} (hr:rd s ti.size (aev e x)=some (cs,c)) {v:AVal} (hv:mkT ti.kind.agg cs=some v) (hc:c):Snd P C nt R η e s a w o { v:=v,cond:=c }:=by
  obtain ⟨i,d,z,u⟩:=hL t ti ht;obtain ⟨b,f,q,G,F,B,D,E,r,p,m⟩:=W2r h hr hc (W5 h x).1
  have A:ti.kind.agg=false->ti.size=1:=by
    intro k;rw [k] at hv
    simp only [mkT] at hv;split at hv
    · rw [<-r];rfl
    · cases hv
  have l:=Y0X u D E A;refine G6 h hd (v:=if ti.kind.agg then .agg (Q8J q f ti.size).toArray else q.getD f undef) ?_ ?_ ?_
  · simp only [execOp,hop,Sem.run_bind,Instr.loadAt,B,Instr.sureAddr,Sem.run_pure,Result.andThen_ok,l]
  · unfold mkT at hv
    split at hv
    · rename_i k
      cases hv
      simp only [k,if_true];refine .v _ _ (.g _ _ ⟨by simp [Q8J,r],fun j n=>?_⟩)
      rw [r] at n;have:(Q8J q f ti.size).toArray.getD j undef=q.getD (f+j) undef:=by simp [Q8J,n]
      rw [this];exact p j n
    · rename_i k
      split at hv
      · cases hv
        rename_i y
        simp only [k,Bool.false_eq_true,if_false];have:=p 0 (by rw [A k];exact Nat.zero_lt_one)
        exact .v _ _ (.c _ _ (by simpa using this))
      · cases hv
  · unfold mkT at hv
    split at hv
    · cases hv;exact m
    · split at hv
      · cases hv;intro j n;exact m j (by simpa [AVal.refs,TV.refs] using n)
      · cases hv
theorem Y3x (hL:LOk P L) (h:Conc C nt R η e s a w) {o:Oper} (hd:∀ x,o.dst=some x->x<nt) {t:TypeId} {x:Operand} {k:Nat} (hop:o.op=.fieldAddr t x k)
    {ti:TI} (ht:L t=some ti) {fs:List (Nat×Nat)} (hk:ti.kind=.struct fs) {off ft:Nat} (hf:fs[k]?=some (off,ft)) {tf:TI} (hft:L ft=some tf) (hz:tf.size≠0)
    {v:AVal} (hv:∀ b o',a.eval x=.pointer (some ⟨b,o',none⟩)->ARep w (XS C s η) η C (.pointer (some ⟨b,o' + off,none⟩)) v) (hx:∀ j ∈ v.refs,R j)
    (hp:∃ b o',a.eval x=.pointer (some ⟨b,o',none⟩)):Snd P C nt R η e s a w o { v:=v }:=by
  obtain ⟨i,d,z,m⟩:=hL t ti ht;obtain ⟨y,u,A,p⟩:=hL ft tf hft
  have l:=m.kind;rw [hk] at l
  obtain ⟨c,rfl,q⟩:=l;obtain ⟨b,o',r⟩:=hp
  have n : ∃ f,c[k]?=some f/\f.offset=off/\f.type=ft:=by
    rw [<-q,List.getElem?_map] at hf
    cases g:c.toList[k]? with
    | none=>rw [g] at hf;cases hf
    | some f=>rw [g] at hf;simp at hf;exact ⟨f,by simpa using g,hf.1,hf.2⟩
  obtain ⟨f,g,rfl,rfl⟩:=n;refine G6 h hd ?_ (hv b o' r) hx
  simp only [execOp,hop,Sem.run_bind,Instr.fieldAt,run_underlying m.und,Result.andThen_ok,g,r,Instr.sureAddr,Sem.run_pure,fieldPlace,G3 p,hz,if_false,add_lit]
theorem Y4H (X:Nat->Prop) {b id off:Nat} (h:η id=.pointer (some ⟨b,0,none⟩)):ARep w X η C (.pointer (some ⟨b,off,none⟩)) (.v (.c (.ptr id off))):=.v _ _ (.c _ _ (.ptr _ _ _ h))
theorem Z9q {v:Value} {id off:Nat} (h:ARep w (XS C s η) η C v (.v (.c (.ptr id off)))):∃ b,v=.pointer (some ⟨b,off,none⟩)/\η id=.pointer (some ⟨b,0,none⟩):=by
  cases h with|v _ _ h=>cases h with|c _ _ h=>cases h with|ptr b _ _ h=>exact ⟨b,rfl,h⟩
theorem Y4I {v:Value} {id es idx off:Nat} (h:ARep w (XS C s η) η C v (.v (.c (.pte id es idx off)))):∃ b n cap,v=.pointer (some ⟨b,idx*es+off,none⟩)/\η id=.slice (some ⟨b,0,none⟩) n cap:=by
  cases h with|v _ _ h=>cases h with|c _ _ h=>cases h with|pte b n cap _ _ _ _ h=>exact ⟨b,n,cap,rfl,h⟩
theorem Y8l {v:Value} {cs:List DVal} (h:ARep w (XS C s η) η C v (.v (.c (.elm cs)))):∃ b off c e' fz,v=.pointer (some ⟨b,off,none⟩)/\¬ XS C s η b/\w.heap[b]?=some (.cells c e' fz) /\
    off+cs.length<=c.size/\∀ j,j<cs.length->DRep w (XS C s η) (c.getD (off+j) undef) (cs.getD j .any):=by
  cases h with|v _ _ h=>cases h with|c _ _ h=>cases h with|elm b off c e' fz _ hX hb ho hc=>exact ⟨b,off,c,e',fz,rfl,hX,hb,ho,hc⟩
theorem Q6R {v:Value} {id:Nat} (h:ARep w (XS C s η) η C v (.v (.c (.own id)))):v=η id:=by
  cases h with|v _ _ h=>cases h with|c _ _ h=>cases h with|own _ _ h _=>exact h
theorem W0r {b off:Nat} {c:Array Value} {e' : TypeId} {fz:Nat×Nat} {cs:List DVal} (X:Nat->Prop) (hX:¬ X b) (hb:w.heap[b]?=some (.cells c e' fz)) (ho:off+cs.length<=c.size)
    (hc:∀ j,j<cs.length->DRep w X (c.getD (off+j) undef) (cs.getD j .any)) (k:Nat) (hk:k<=cs.length) :
    ARep w X η C (.pointer (some ⟨b,off+k,none⟩)) (.v (.c (.elm (cs.drop k)))):=by
  refine .v _ _ (.c _ _ (.elm b (off+k) c e' fz _ hX hb (by simp;omega) fun j g=>?_));have d : k+j<cs.length:=by simp at g;omega
  have:=hc (k+j) d
  have f:(cs.drop k).getD j .any=cs.getD (k+j) .any:=by simp [List.getD_eq_getElem?_getD]
  rw [f,Nat.add_assoc];exact this
theorem Y7y {v:Value} {x:AVal} (h:ARep w (XS C s η) η C v x) {n:Nat} {f:Nat->List DVal} (hx:Q9o.asF x=some (n,f)) :
    ∃ ad cap,v=.slice ad n cap/\DRep w (XS C s η) v (.lst n f):=by
  unfold Q9o.asF at hx;split at hx
  · cases hx
    cases h with|v _ _ h=>cases h with|c _ _ h=>cases h with|d _ _ h=>
    cases h with
    | nil ad cap _=>exact ⟨ad,cap,rfl,.nil _ _ _⟩
    | lst b off _ cap c e' fz _ es h1 h2 h3 h4 h5 h6=>exact ⟨_,cap,rfl,.lst b off _ cap c e' fz _ es h1 h2 h3 h4 h5 h6⟩
  · cases hx
    cases h with|v _ _ h=>cases h with|c _ _ h=>cases h with|fl ad _ _ h=>exact ⟨ad,_,rfl,h⟩
  · cases hx
end
end
section
theorem Value.cells_one {v:Value} (h:v.oneCell'=true):v.cells=#[v]:=by
 cases v <;> first|rfl | (simp [Value.oneCell'] at h)
section
variable {P:Program} {L:Lay} {C:Ctx} {nt:Nat} {R:Nat->Prop} {η:Nat->Value} {e:Env} {s:Sto} {a:Act} {w:World}
theorem Y3j {X:Nat->Prop} {v:Value} {x:AVal} {xs:List CV} (h:ARep w X η C v x) (hx:Z8K x=some xs):y4 w X η C v.cells xs/\∀ j ∈ xs.flatMap CV.refs,j ∈ x.refs:=by
 unfold Z8K at hx;split at hx
 ·cases hx
  cases h with|v _ _ h=>cases h with|c _ _ h=>
  rw [Value.cells_one h.one];exact ⟨⟨rfl,fun j b=>by
   have:j=0:=by simp at b;omega
   subst this;simpa using h⟩,fun j b=>by simpa [AVal.refs,TV.refs] using b⟩
 ·cases hx
  cases h with|v _ _ h=>cases h with|g vs _ h=>
  exact ⟨h,fun j b=>b⟩
 ·cases hx
theorem Q2N {α:Type} (cs xs:List α) (off:Nat) (h:off+xs.length<=cs.length):(Q4v cs off xs).length=cs.length:=by
 simp [Q4v];omega
theorem Z2s {α:Type} (cs xs:List α) (off t:Nat) (d:α) (h:off+xs.length<=cs.length) :
  (Q4v cs off xs).getD t d=if off<=t/\t<off+xs.length then xs.getD (t-off) d else cs.getD t d:=by
 unfold Q4v;simp only [List.getD_eq_getElem?_getD,List.getElem?_append,List.length_take,List.getElem?_take,List.getElem?_drop]
 have b:min off cs.length=off:=by omega
 rw [b]
 by_cases h1:t<off
 ·rw [if_pos h1,if_pos h1,if_neg (by omega)]
 ·rw [if_neg h1]
  by_cases h2:t<off+xs.length
  ·rw [if_pos (by omega),if_pos (by omega)]
  ·rw [if_neg (by omega),if_neg (by omega)]
   congr 2;omega
theorem Y2e {α:Type} (cs xs:List α) (off:Nat):∀ x ∈ Q4v cs off xs,x ∈ cs\/x ∈ xs:=by
 intro x b;unfold Q4v at b
 rcases List.mem_append.1 b with h|h
 ·exact .inl (List.mem_of_mem_take h)
 ·rcases List.mem_append.1 h with h|h
  ·exact .inr h
  ·exact .inl (List.mem_of_mem_drop h)
theorem Y8Y (off:Nat) (vs:List Value):∀ (k:Nat) (cs:Array Value),off+k+vs.length<=cs.size ->
  ((vs.zipIdx k).foldl (fun cs p=>cs.setIfInBounds (off+p.2) p.1) cs).size=cs.size /\
  ∀ t,((vs.zipIdx k).foldl (fun cs p=>cs.setIfInBounds (off+p.2) p.1) cs).getD t undef=if off+k<=t/\t<off+k+vs.length then vs.getD (t-off-k) undef else cs.getD t undef:=by
 induction vs with
 | nil=>intro k cs _;refine ⟨rfl,fun t=>?_⟩;rw [if_neg (by simp)];rfl
 | cons v r ih=>
  intro k cs h;simp only [List.length_cons] at h
  obtain ⟨c,b⟩:=ih (k+1) (cs.setIfInBounds (off+k) v) (by simp;omega);refine ⟨by simpa [List.zipIdx_cons] using c,fun t=>?_⟩
  simp only [List.zipIdx_cons,List.foldl_cons,List.length_cons];rw [b t]
  by_cases h3:off+(k+1)<=t/\t<off+(k+1)+r.length
  ·rw [if_pos h3,if_pos (by omega)]
   have:t-off-k=(t-off-(k+1))+1:=by omega
   rw [this];simp
  ·rw [if_neg h3]
   by_cases h4:t=off+k
   ·subst h4
    rw [if_pos (by omega)];have:off+k<cs.size:=by omega
    simp [this]
   ·rw [if_neg (by omega)]
    simp [Ne.symm h4]
theorem Y8f {X:Nat->Prop} {pl:Nat->Option (Nat×Nat)}:∀ (ps:List (Nat×AVal)) (vs:List (Nat×Value)) (cells:List CV) (vc:Array Value) (cs:List CV),
  Z7Y pl cells ps=some cs->y4 w X η C vc cells->vs.map (·.1)=ps.map (·.1)->(∀ (j:Nat) x v,ps[j]?=some x->vs[j]?=some v->ARep w X η C v.2 x.2) ->
  ∃ vc',Instr.fill pl vc vs=some vc' /\ y4 w X η C vc' cs/\∀ j ∈ cs.flatMap CV.refs,j ∈ cells.flatMap CV.refs\/∃ x ∈ ps,j ∈ x.2.refs:=by
 intro ps
 induction ps with
 | nil=>
  intro vs cells vc cs h A k _;cases h
  have:vs=[]:=by simpa using k
  subst this;exact ⟨vc,rfl,A,fun j c=>.inl c⟩
 | cons p ps ih=>
  intro vs cells vc cs h A k I;obtain ⟨i,x⟩:=p
  cases vs with
  | nil=>simp at k
  | cons v vs=>
   obtain ⟨Q,v⟩:=v;simp only [List.map_cons,List.cons.injEq] at k
   obtain ⟨rfl,k⟩:=k;simp only [Z7Y] at h
   split at h
   ·rename_i b d G F B
    split at h
    ·rename_i o
     obtain ⟨f,o⟩:=o;have E:ARep w X η C v x:=I 0 _ _ rfl rfl
     obtain ⟨q,D⟩:=Y3j E B;have l:v.cells.size=d:=by rw [q.1,f]
     have n:vc.size=cells.length:=A.1;have H:=Y8Y b v.cells.toList 0 vc (by simp [l];omega)
     have g:v.cells.zipIdx.foldl (fun cs (p:Value×Nat)=>cs.setIfInBounds (b+p.2) p.1) vc=(v.cells.toList.zipIdx 0).foldl (fun cs p=>cs.setIfInBounds (b+p.2) p.1) vc:=by
      rw [<-Array.foldl_toList,Array.toList_zipIdx]
     have r:y4 w X η C (v.cells.zipIdx.foldl (fun cs (p:Value×Nat)=>cs.setIfInBounds (b+p.2) p.1) vc) (Q4v cells b G):=by
      rw [g];refine ⟨by rw [H.1,Q2N _ _ _ (by omega)];exact n,fun t J=>?_⟩
      rw [H.2 t,Z2s _ _ _ _ _ (by omega)];rw [Q2N _ _ _ (by omega)] at J
      simp only [Nat.add_zero,Nat.sub_zero,Array.length_toList,l,f]
      by_cases m:b<=t/\t<b+d
      ·rw [if_pos m,if_pos m]
       have:=q.2 (t-b) (by omega)
       simpa [List.getD_eq_getElem?_getD] using this
      ·rw [if_neg m,if_neg m]
       exact A.2 t J
     obtain ⟨vc',O,N,m⟩:=ih vs (Q4v cells b G) _ cs h r k (fun j x v M E=>I (j+1) x v (by simpa using M) (by simpa using E));refine ⟨vc',?_,N,fun j c=>?_⟩
     ·simp only [Instr.fill,F]
      rw [if_neg (by simp [l,n];omega)];exact O
     ·rcases m j c with c|⟨y,K,c⟩
      ·obtain ⟨z,u,c⟩:=List.mem_flatMap.1 c
       rcases Y2e _ _ _ z u with u|u
       ·exact .inl (List.mem_flatMap.2 ⟨z,u,c⟩)
       ·exact .inr ⟨_,List.mem_cons_self,D j (List.mem_flatMap.2 ⟨z,u,c⟩)⟩
      ·exact .inr ⟨y,List.mem_cons_of_mem _ K,c⟩
    ·cases h
   ·cases h
theorem Y5D (hL:LOk P L):∀ (fields:List Field) (fs:List (Nat×Nat)) (pl:List (Nat×Nat)),fields.map (fun f=>(f.offset,f.type))=fs->Z7d L fs=some pl ->
  fields.mapM (fun f=>(P.info? f.type).map fun i=>(f.offset,i.size))=some pl:=by
 intro fields
 induction fields with
 | nil=>intro fs pl g b;subst g;simpa [Z7d] using b
 | cons f r ih=>
  intro fs pl g b;subst g
  simp only [List.map_cons,Z7d] at b;split at b
  ·rename_i k l j h
   cases b
   obtain ⟨i,d,z,c⟩:=hL _ _ j;have:=ih _ l rfl h
   simp [List.mapM_cons,c.info,this,c.size]
  ·cases b
theorem W0q (h:Conc C nt R η e s a w) (ps:Array (Nat×Operand)) :
  ((ps.map fun (p:Nat×Operand)=>(p.1,a.eval p.2)).toList).map (·.1)=(ps.toList.map fun p=>(p.1,aev e p.2)).map (·.1) /\
  (∀ (j:Nat) x v,(ps.toList.map fun p=>(p.1,aev e p.2))[j]?=some x->((ps.map fun (p:Nat×Operand)=>(p.1,a.eval p.2)).toList)[j]?=some v->ARep w (XS C s η) η C v.2 x.2) /\
  ∀ x ∈ (ps.toList.map fun p=>(p.1,aev e p.2)),∀ j ∈ x.2.refs,R j:=by
 refine ⟨by simp,fun j x v b c=>?_,fun x b j d=>?_⟩
 ·rw [List.getElem?_map] at b
  simp only [Array.toList_map,List.getElem?_map] at c
  cases hp:ps.toList[j]? with
  | none=>rw [hp] at b;cases b
  | some p=>
   rw [hp] at b c
   cases b;cases c
   exact (W5 h p.2).1
 ·obtain ⟨p,_,rfl⟩:=List.mem_map.1 b
  exact (W5 h p.2).2 j d
theorem Y3V (hL:LOk P L) (h:Conc C nt R η e s a w) {o:Oper} (hd:∀ x,o.dst=some x->x<nt) {t:TypeId} {ps:Array (Nat×Operand)} (hop:o.op=.build t ps) {ti:TI} (ht:L t=some ti)
  {pl:Nat->Option (Nat×Nat)} (hpl:(∃ fs l,ti.kind=.struct fs/\Z7d L fs=some l/\pl=fun i=>l[i]?)\/(∃ n el te,ti.kind=.array n el/\L el=some te/\pl=fun i=>some (i*te.size,te.size)))
  {cs:List CV} (hf:Z7Y pl ti.zero (ps.toList.map fun p=>(p.1,aev e p.2))=some cs):Snd P C nt R η e s a w o { v:=.v (.g cs) }:=by
 obtain ⟨i,d,z,b⟩:=hL t ti ht;obtain ⟨G,H,J⟩:=W0q h ps
 obtain ⟨y,c,r,D⟩:=Y8f _ _ _ _ _ hf (b.zrep w (XS C s η) η C) G H;refine G6 h hd (v:=.agg y) ?_ (.v _ _ (.g _ _ r)) fun j m=>?_
 ·have E:P.built t (ps.map fun (p:Nat×Operand)=>(p.1,a.eval p.2)).toList=some y:=by
   have q:=b.kind;rcases hpl with ⟨fs,l,k,I,rfl⟩|⟨n,el,te,k,A,rfl⟩
   ·rw [k] at q
    obtain ⟨u,rfl,B⟩:=q;have:=Y5D hL _ _ _ B I
    simp only [Program.built,b.info,b.und,b.zero,this];simpa using c
   ·rw [k] at q
    simp only [KOk] at q;subst q
    obtain ⟨M,K,N,f⟩:=hL el te A;simp only [Program.built,b.info,b.und,b.zero,f.info,f.size]
    exact c
  simp only [execOp,hop,Sem.run_bind];rw [run_build w t _ y E];rfl
 ·rcases D j m with m|⟨x,F,m⟩
  ·rw [b.zrefs] at m;cases m
  ·exact J x F j m
theorem Y2g (h:Conc C nt R η e s a w) {o:Oper} {d:Nat} (hd:o.dst=some d) (hdn:d<nt) (hR:¬ R d) {vs:Array Value} {cs:List CV} {ety:TypeId}
  (hrun:(execOp a.eval o).run P w=.ok (.value (.pointer (some ⟨w.heap.size,0,none⟩))) { w with heap:=w.heap.push (.cells vs ety) }) (hcs:y4 w (XS C s η) η C vs cs) (hrf:∀ j ∈ cs.flatMap CV.refs,R j) :
  Snd P C nt R η e s a w o { v:=.v (.c (.ptr d 0)),new:=some (.box false cs) }:=by
 refine ⟨_,_,.inl hrun,?_⟩;have i:∀ b,b ∈ Y8 (.pointer (some (⟨w.heap.size,0,none⟩:Addr)))->w.heap.size<=b:=by intro b g;simp [Y8] at g;omega
 have r:=Q5N (C:=C) (s:=s) (η:=η) { v:=.v (.c (.ptr d 0)),new:=some (.box false cs) } o.dst (.pointer (some ⟨w.heap.size,0,none⟩)) (fun _=>False) (Stp.alloc _ w (.cells vs ety)) (fun b g=>g.elim)
  (fun _ _ _ _ b g=>.inl (i b g)) (fun k o m=>by cases m)
 have n:=W3n (η:=η) (R:=R) { v:=.v (.c (.ptr d 0)),new:=some (.box false cs) } o.dst (.pointer (some ⟨w.heap.size,0,none⟩)) (fun _ dd _ f=>by rw [hd] at f;cases f;exact hR);refine h.step o.dst (fun x q=>by rw [hd] at q;cases q;exact hdn) _ _ _ (fun _=>False) (Stp.alloc _ w _) (fun b g=>g.elim) ?_ (fun k o m=>by cases m) ?_
 ·intro t dd p f
  cases p
  rw [hd] at f;cases f
  exact ⟨hR,rfl,hrf,.box _ _ vs ety cs (by simp) (hcs.mono r fun j l=>n j (hrf j l)),fun b g=>.inl (i b g)⟩
 ·intro _
  refine ⟨Y4H _ (by simp [SR.eta,hd]),fun j l=>?_⟩;simp [AVal.refs,TV.refs,CV.refs] at l
  exact .inr ⟨by simp,by rw [hd,l]⟩
theorem Y8E (hL:LOk P L) (h:Conc C nt R η e s a w) {o:Oper} {d:Nat} (hd:o.dst=some d) (hdn:d<nt) (hR:¬ R d) {t:TypeId} (hop:o.op=.alloc t) {ti:TI} (ht:L t=some ti) :
  Snd P C nt R η e s a w o { v:=.v (.c (.ptr d 0)),new:=some (.box false ti.zero) }:=by
 obtain ⟨i,dd,z,b⟩:=hL t ti ht;refine Y2g h hd hdn hR (vs:=z.cells) (ety:=t) ?_ (b.zrep _ _ _ _) (by rw [b.zrefs];simp)
 simp [execOp,hop,Instr.alloc,Q9s b,newVar,newRow]
theorem W1r (h:Conc C nt R η e s a w) {o:Oper} {d:Nat} (hd:o.dst=some d) (hdn:d<nt) (hR:¬ R d) {t:TypeId} {x:Operand} (hop:o.op=.box t x) {xs:List CV} (hx:Z8K (aev e x)=some xs) :
  Snd P C nt R η e s a w o { v:=.v (.c (.ptr d 0)),new:=some (.box false xs) }:=by
 obtain ⟨k,i⟩:=W5 h x;obtain ⟨b,f⟩:=Y3j k hx
 refine Y2g h hd hdn hR (vs:=(a.eval x).cells) (ety:=t) ?_ b fun j g=>i j (f j g)
 simp [execOp,hop,Instr.box,newVar,newRow]
end
end
section
section
variable {P:Program} {L:Lay} {C:Ctx} {nt:Nat} {R:Nat->Prop} {η:Nat->Value} {e:Env} {s:Sto} {a:Act} {w:World}
theorem W2G {X:Nat->Prop} {v:Value} {x:CV} {y:DVal} (h:CRep w X η C v x) (hx:toD x=some y):DRep w X v y:=by
 unfold toD at hx;split at hx
 ·cases hx;cases h with|d _ _ h=>exact h
 ·cases hx;cases h with|fl _ _ _ h=>exact h
 ·cases hx
theorem Y7H {X:Nat->Prop}:∀ (cs:List CV) (ds:List DVal) (c:Array Value) (off:Nat),Y1X cs=some ds->(∀ j,j<cs.length->CRep w X η C (c.getD (off+j) undef) (cs.getD j (.d .any))) ->
  ds.length=cs.length/\∀ j,j<ds.length->DRep w X (c.getD (off+j) undef) (ds.getD j .any):=by
 intro cs
 induction cs with
 | nil=>intro ds c off h _;cases h;exact ⟨rfl,fun j b=>by simp at b⟩
 | cons x r ih=>
  intro ds c off h g;simp only [Y1X] at h
  split at h
  ·rename_i y i k f
   cases h
   obtain ⟨m,l⟩:=ih i c (off+1) f (fun j b=>by have:=g (j+1) (by simp;omega);rwa [Nat.add_assoc,Nat.add_comm 1 j]);refine ⟨by simp [m],fun j b=>?_⟩
   cases j with
   | zero=>exact W2G (g 0 (by simp)) k
   | succ j=>have:=l j (by simpa using b);rw [Nat.add_assoc,Nat.add_comm 1 j] at this;simpa using this
  ·cases h
theorem Z4o (w:World) (b:Nat) (cs:Array Value):Stp (fun x=>x=b) w (w.setRow b cs):=
 ⟨rfl,rfl,rfl,by simp,fun x _ c=>setRow_other w b x cs c,Nat.le_refl _⟩
theorem Z1d (c:Array Value) (off:Nat) (vs:List Value) (h:off+vs.length<=c.size) :
  (c.toList.take off++vs++c.toList.drop (off+vs.length)).toArray.size=c.size /\
  ∀ t,(c.toList.take off++vs++c.toList.drop (off+vs.length)).toArray.getD t undef=if off<=t/\t<off+vs.length then vs.getD (t-off) undef else c.getD t undef:=by
 have b:off+vs.length<=c.toList.length:=by simpa using h
 have d:c.toList.take off++vs++c.toList.drop (off+vs.length)=Q4v c.toList off vs:=by simp [Q4v]
 rw [d];refine ⟨by simp [Q2N _ _ _ b],fun t=>?_⟩
 have:=Z2s c.toList vs off t undef b
 simpa [List.getD_eq_getElem?_getD,Array.getD_eq_getD_getElem?] using this
theorem Y7J (h:Conc C nt R η e s a w) {o:Oper} (hd:o.dst=none) {id:Nat} {ob ob' : Obj} (hs:s id=some ob) (hro:ob.ro=false) (hro' : ob'.ro=false) (hrf:∀ j ∈ ob'.refs,R j)
  {b:Nat} {cs:Array Value} {c:Prop} (hb:b ∈ Y8 (η id)) (hrun:(execOp a.eval o).run P w=.ok .skip (w.setRow b cs))
  (hob:∀ X',Q7i w (w.setRow b cs) (XS C s η) X' -> ORep (w.setRow b cs) X' η C (η id) ob'):Snd P C nt R η e s a w o { upd:=some (id,ob'),cond:=c }:=by
 have l:Own s η b:=⟨id,ob,hs,hb⟩;have n:=Q5N (C:=C) (s:=s) (η:=η) { upd:=some (id,ob'),cond:=c } o.dst undef (fun x=>x=b) (Z4o w b cs) (fun x g=>by subst g;exact l) (fun _ _ d=>by cases d)
  (fun k o d=>by cases d;rw [hs];simp)
 have f:SR.eta { upd:=some (id,ob'),cond:=c } o.dst undef η=η:=by funext i;simp [SR.eta]
 refine ⟨undef,_,.inr ⟨hrun,rfl⟩,?_⟩;refine h.step o.dst (fun x g=>by rw [hd] at g;cases g) _ _ _ (fun x=>x=b) (Z4o w b cs) ?_ (fun _ _ d=>by cases d) ?_ (fun d=>absurd hd d)
 ·intro x g
  subst g;refine ⟨⟨id,.inr ⟨ob',rfl⟩,by rw [hs];simp,hb⟩,?_⟩
  rcases h.ow id ob _ hs hb with ⟨m,_⟩|m
  ·rw [hro] at m;cases m
  ·exact m
 ·intro k p d
  cases d
  refine ⟨⟨ob,hs,hro⟩,hro',by simp,hrf,?_⟩;rw [f]
  rw [f] at n;exact hob _ n
theorem Y8C (hL:LOk P L) (h:Conc C nt R η e s a w) {o:Oper} (hd:o.dst=none) {t:TypeId} {x y:Operand} (hop:o.op=.store t x y) {ti:TI} (ht:L t=some ti)
  {xs:List CV} (hy:Z8K (aev e y)=some xs) (hsz:xs.length=ti.size) {r:SR} (hr:wr s xs (aev e x)=some r) (hc:r.cond):Snd P C nt R η e s a w o r:=by
 obtain ⟨i,dd,z,a4⟩:=hL t ti ht;obtain ⟨a1,a6⟩:=W5 h y
 obtain ⟨B,a5⟩:=Y3j a1 hy;have G:=(W5 h x).1
 have O:∀ v ∈ (a.eval y).cells.toList,v.oneCell'=true:=by
  intro v hv;obtain ⟨j,p,rfl⟩:=List.getElem_of_mem hv
  have T : j<(a.eval y).cells.size:=by simpa using p
  have:=(B.2 j (by rw [<-B.1];exact T)).one
  simpa [T] using this
 have g:(a.eval y).cells.toList.length=xs.length:=by simpa using B.1
 have S:∀ (b d:Nat) (c:Array Value) (D : TypeId),a.eval x=.pointer (some ⟨b,d,none⟩)->w.heap[b]?=some (.cells c D (0,0))->d+xs.length<=c.size ->
   (execOp a.eval o).run P w=.ok .skip (w.setRow b (c.toList.take d++(a.eval y).cells.toList++c.toList.drop (d+(a.eval y).cells.toList.length)).toArray):=by
  intro b d c D N J ho;have:=run_storeCells_at P b d D (a.eval y).cells.toList 0 c w J (by rw [g];omega) O
  simp only [Nat.add_zero] at this;have n : (a.eval y).cells.size=ti.size:=by rw [<-Array.length_toList,g,hsz]
  simp only [execOp,hop,Sem.run_bind,Instr.storeAt,N,Instr.sureAddr,Sem.run_pure,Result.andThen_ok,storeVar,G3 a4,n,ne_eq,not_true,if_false,Sem.run_ite,this]
 unfold wr at hr;split at hr
 ·rename_i V d Y
  rw [Y] at G;obtain ⟨b,N,I⟩:=Z9q G
  split at hr
  ·rename_i bs M
   split at hr
   ·rename_i q
    cases hr
    have E:=h.st V _ M;rw [I] at E
    cases E with
    | box _ _ c D _ J hbs=>
    have A:=Z1d c d (a.eval y).cells.toList (by rw [g,hbs.1];omega);refine Y7J h hd M rfl rfl (fun j p=>?_) (b:=b) (by rw [I];simp [Y8]) (S b d c D N J (by rw [hbs.1];omega)) fun X' K=>?_
    ·obtain ⟨u,Q,p⟩:=List.mem_flatMap.1 p
     rcases Y2e _ _ _ u Q with Q|Q
     ·exact (h.sr V _ M).2 j (List.mem_flatMap.2 ⟨u,Q,p⟩)
     ·exact a6 j (a5 j (List.mem_flatMap.2 ⟨u,Q,p⟩))
    ·rw [I]
     refine .box b false _ D _ (setRow_heap w b c _ D _ J) ⟨by rw [A.1,Q2N _ _ _ q];exact hbs.1,fun j p=>?_⟩;rw [Q2N _ _ _ q] at p
     rw [A.2 j,Z2s _ _ _ _ _ q]
     by_cases h3:d<=j/\j<d+xs.length
     ·rw [if_pos (by rw [g];exact h3),if_pos h3]
      have:=(B.2 (j-d) (by omega)).mono K (fun _ _=>rfl)
      simpa [List.getD_eq_getElem?_getD] using this
     ·rw [if_neg (by rw [g];exact h3),if_neg h3]
      exact (hbs.2 j p).mono K (fun _ _=>rfl)
   ·cases hr
  ·cases hr
 ·rename_i V m l d Y
  rw [Y] at G;obtain ⟨b,n0,F,N,I⟩:=Y4I G
  split at hr
  ·rename_i a9 k f M
   split at hr
   ·rename_i ds a3
    split at hr
    ·rename_i q
     obtain ⟨rfl,q,a0⟩:=q;cases hr
     have E:=h.st V _ M;rw [I] at E
     cases E with
     | nil=>exact absurd hc (by simp)
     | arr _ _ _ _ c D _ J n hn hm hc0 hl hel=>
     have b2:l*m+m<=F*m:=by
      have K:l<n0:=hc;have:(l+1)*m<=F*m:=Nat.mul_le_mul_right _ (by omega)
      rwa [Nat.add_mul,Nat.one_mul] at this
     obtain ⟨b0,a2⟩:=Y7H (w:=w) (η:=η) (C:=C) (X:=XS C s η) xs ds (a.eval y).cells 0 a3 (fun j p=>by rw [Nat.zero_add];exact B.2 j p);have H:l*m+d+xs.length<=c.size:=by rw [n];omega
     have A:=Z1d c (l*m+d) (a.eval y).cells.toList (by rw [g];exact H);refine Y7J h hd M rfl rfl (by simp [Obj.refs]) (b:=b) (by rw [I];simp [Y8];omega) (S b _ c D N J H) fun X' K=>?_
     rw [I];refine .arr b n0 F m _ D _ (setRow_heap w b c _ D _ J) (by rw [A.1];exact n) hn hm hc0 (fun i U=>?_) fun i j U p=>?_
     ·by_cases hii:i=l
      ·subst hii;simp only [if_true];rw [Q2N _ _ _ (by omega)];exact a0
      ·simp only [hii,if_false];exact hl i U
     ·rw [A.2]
      by_cases hii:i=l
      ·subst hii
       simp only [if_true];rw [Z2s _ _ _ _ _ (by omega)]
       by_cases h3:d<=j/\j<d+ds.length
       ·rw [if_pos (by rw [g];omega),if_pos h3]
        have:=(a2 (j-d) (by omega)).mono K
        have e3:i*m+j-(i*m+d)=j-d:=by omega
        rw [e3];simpa [List.getD_eq_getElem?_getD] using this
       ·rw [if_neg (by rw [g];omega),if_neg h3]
        exact (hel i j U p).mono K
      ·simp only [hii,if_false]
       have Z:¬ (l*m+d<=i*m+j/\i*m+j<l*m+d+xs.length):=by
        rintro ⟨h4,h5⟩;rcases Nat.lt_or_gt_of_ne hii with W|W
        ·have:(i+1)*m<=l*m:=Nat.mul_le_mul_right _ W
         rw [Nat.add_mul,Nat.one_mul] at this;omega
        ·have:(l+1)*m<=i*m:=Nat.mul_le_mul_right _ W
         rw [Nat.add_mul,Nat.one_mul] at this;omega
       rw [if_neg (by rw [g];exact Z)];exact (hel i j U p).mono K
    ·cases hr
   ·cases hr
  ·cases hr
 ·cases hr
end
end
section
section
variable {P:Program} {L:Lay} {C:Ctx} {nt:Nat} {R:Nat->Prop} {η:Nat->Value} {e:Env} {s:Sto} {a:Act} {w:World}
theorem Q2O (h:Conc C nt R η e s a w) {o:Oper} {d:Nat} (hd:o.dst=some d) (hdn:d<nt) (hR:¬ R d) {del:List Nat} {es n:Nat} {f:Nat->List DVal} {c:Prop} {v:Value} {w' : World} {Z:Nat->Prop}
  (hrun:(execOp a.eval o).run P w=.ok (.value v) w') (hstep:Stp Z w w') (hone:v.oneCell'=true)
  (hZ:∀ b,Z b->∃ i ∈ del,s i≠none/\b ∈ Y8 (η i)) (hdel:∀ i ∈ del,∀ o',s i=some o' -> o'.ro=false)
  (hv:∀ b,b ∈ Y8 v->w.heap.size<=b\/∃ i ∈ del,s i≠none/\b ∈ Y8 (η i))
  (hob:∀ X',Q7i w w' (XS C s η) X' -> ORep w' X' (SR.eta { v:=.v (.c (.own d)),del:=del,new:=some (.arr es n f),cond:=c } o.dst v η) C v (.arr es n f)) :
  Snd P C nt R η e s a w o { v:=.v (.c (.own d)),del:=del,new:=some (.arr es n f),cond:=c }:=by
 have q:∀ i ∈ del,s i≠none->∀ b,b ∈ Y8 (η i)->C.M b\/C.w0.heap.size<=b:=by
  intro i m r b p;obtain ⟨o',l⟩:=Option.ne_none_iff_exists'.1 r
  rcases h.ow i o' b l p with ⟨t,_⟩|t
  ·rw [hdel i m o' l] at t;cases t
  ·exact t
 have B:=Q5N (C:=C) (s:=s) (η:=η) { v:=.v (.c (.own d)),del:=del,new:=some (.arr es n f),cond:=c } o.dst v Z hstep
  (fun b p=>by
   obtain ⟨i,_,m,g⟩:=hZ b p;obtain ⟨o',l⟩:=Option.ne_none_iff_exists'.1 m
   exact ⟨i,o',l,g⟩)
  (fun _ _ _ _ b p=>(hv b p).imp id fun ⟨i,_,m,g⟩=>by
   obtain ⟨o',l⟩:=Option.ne_none_iff_exists'.1 m;exact ⟨i,o',l,g⟩)
  (fun k o y=>by cases y)
 refine ⟨v,w',.inl hrun,h.step o.dst (fun x z=>by rw [hd] at z;cases z;exact hdn) _ _ _ Z hstep ?_ ?_ (fun k o y=>by cases y) ?_⟩
 ·intro b p
  obtain ⟨i,m,r,g⟩:=hZ b p;exact ⟨⟨i,.inl m,r,g⟩,q i m r b g⟩
 ·intro o' dd l u
  cases l
  rw [hd] at u;cases u
  refine ⟨hR,rfl,by simp [Obj.refs],hob _ B,fun b p=>?_⟩;rcases hv b p with t|⟨i,m,r,g⟩
  ·exact .inl t
  ·exact .inr ⟨⟨i,m,r,g⟩,q i m r b g⟩
 ·intro _
  refine ⟨.v _ _ (.c _ _ (.own _ _ (by simp [SR.eta,hd]) hone)),fun j A=>?_⟩;simp [AVal.refs,TV.refs,CV.refs] at A
  exact .inr ⟨by simp,by rw [hd,A]⟩
theorem W0K (h:Conc C nt R η e s a w) {v:Value} {x:AVal} (hv:ARep w (XS C s η) η C v x) {n:Nat} {f:Nat->List DVal} (hx:asL s x=some (n,f)) :
  ∃ ad cap,v=.slice ad n cap/\n<=cap/\(n=0\/∃ b off c e' fz es,ad=some ⟨b,off,none⟩/\w.heap[b]?=some (.cells c e' fz)/\off+n*es<=c.size/\(∀ i,i<n->(f i).length=es) /\
   ∀ i j,i<n->j<es->DRep w (XS C s η) (c.getD (off+(i*es+j)) undef) ((f i).getD j .any)):=by
 have k:∀ {v:Value},DRep w (XS C s η) v (.lst n f)->∃ ad cap,v=.slice ad n cap/\n<=cap/\(n=0\/∃ b off c e' fz es,ad=some ⟨b,off,none⟩/\w.heap[b]?=some (.cells c e' fz)/\off+n*es<=c.size/\(∀ i,i<n->(f i).length=es) /\
   ∀ i j,i<n->j<es->DRep w (XS C s η) (c.getD (off+(i*es+j)) undef) ((f i).getD j .any)):=by
  intro v t
  cases t with
  | nil ad cap _=>exact ⟨ad,cap,rfl,Nat.zero_le _,.inl rfl⟩
  | lst b off _ cap c e' fz _ es h1 h2 h3 h4 h5 h6=>exact ⟨_,cap,rfl,h3,.inr ⟨b,off,c,e',fz,es,rfl,h2,h4,h5,h6⟩⟩
 unfold asL at hx;split at hx
 ·cases hx
  cases hv with|v _ _ hv=>cases hv with|c _ _ hv=>cases hv with|d _ _ hv=>exact k hv
 ·cases hx
  cases hv with|v _ _ hv=>cases hv with|c _ _ hv=>cases hv with|fl _ _ _ hv=>exact k hv
 ·split at hx
  ·rename_i l _ es B z o
   cases hx
   have g:=h.st l _ o;have A:=Q6R hv
   rw [A];generalize η l=u at g
   cases g with
   | nil _ es _=>exact ⟨_,_,rfl,Nat.le_refl _,.inl rfl⟩
   | arr b _ cap es c e' _ hb hsz hn hm hc hl hel=>
    exact ⟨_,cap,rfl,hn,.inr ⟨b,0,c,e',(0,0),es,rfl,hb,by rw [Nat.zero_add,hsz];exact Nat.mul_le_mul_right _ hn,hl,fun i j m r=>by rw [Nat.zero_add];exact hel i j m r⟩⟩
  ·cases hx
 ·split at hx
  ·rename_i l es q B _ y N z o
   split at hx
   ·rename_i p
    subst p;cases hx
    have g:=h.st l _ o
    cases hv with|v _ _ hv=>cases hv with|c _ _ hv=>cases hv with
    | sub b N' cap _ _ _ _ hη h1 h2=>
     rw [hη] at g
     cases g with
     | nil=>exact absurd h2 (Nat.not_lt_zero _)
     | arr b _ cap es c e' _ hb hsz hn hm hc hl hel=>
      refine ⟨_,cap-q,rfl,by omega,.inr ⟨b,q*es,c,e',(0,0),es,rfl,hb,?_,fun i m=>hl _ (by omega),fun i j m r=>?_⟩⟩
      ·rw [hsz, <-Nat.add_mul];exact Nat.mul_le_mul_right _ (by omega)
      ·rw [<-Nat.add_assoc, <-Nat.add_mul];exact hel (q+i) j (by omega) r
    | subN ad ad' N' _ _ hη=>exact ⟨_,_,rfl,Nat.le_refl _,.inl rfl⟩
   ·cases hx
  ·cases hx
 ·cases hx
theorem W1q (hL:LOk P L) (h:Conc C nt R η e s a w) {o:Oper} (hd:∀ x,o.dst=some x->x<nt) {t:TypeId} {x:Operand} (hop:o.op=.call { callee:=.builtin .len,args:= #[x],argTypes:= #[t] })
  {ti:TI} (ht:L t=some ti) {el:Nat} (hk:ti.kind=.slice el) {n:Nat} {f:Nat->List DVal} (hx:asL s (aev e x)=some (n,f)):Snd P C nt R η e s a w o { v:=vi n }:=by
 obtain ⟨i,dd,z,c⟩:=hL t ti ht;have b:=c.kind
 rw [hk] at b;simp only [KOk] at b
 obtain ⟨j,d,g,_⟩:=W0K h (W5 h x).1 hx;refine G6 h hd (v:=.int .i64 n) ?_ (Q4U _ _ _) (by simp [vi,AVal.refs,TV.refs,CV.refs])
 simp [execOp,hop,resolve,invoke,builtin,Builtin.len_,run_underlying c.und,b,g,goInt]
theorem Y6M (hL:LOk P L) (h:Conc C nt R η e s a w) {o:Oper} (hd:∀ x,o.dst=some x->x<nt) {t:TypeId} {x:Operand} (hop:o.op=.call { callee:=.builtin .len,args:= #[x],argTypes:= #[t] })
  {ti:TI} (ht:L t=some ti) {n el:Nat} (hk:ti.kind=.array n el):Snd P C nt R η e s a w o { v:=vi n }:=by
 obtain ⟨i,dd,z,c⟩:=hL t ti ht;have b:=c.kind
 rw [hk] at b;simp only [KOk] at b
 refine G6 h hd (v:=.int .i64 n) ?_ (Q4U _ _ _) (by simp [vi,AVal.refs,TV.refs,CV.refs]);simp [execOp,hop,resolve,invoke,builtin,Builtin.len_,run_underlying c.und,b,goInt]
theorem Y6L (hL:LOk P L) (h:Conc C nt R η e s a w) {o:Oper} (hd:∀ x,o.dst=some x->x<nt) {t:TypeId} {x:Operand} (hop:o.op=.call { callee:=.builtin .len,args:= #[x],argTypes:= #[t] })
  {ti:TI} (ht:L t=some ti) (hk:ti.kind=.str) {b:ByteArray} (hx:aev e x=.v (.c (.d (.str b)))):Snd P C nt R η e s a w o { v:=vi b.size }:=by
 obtain ⟨i,dd,z,g⟩:=hL t ti ht;have f:=g.kind
 rw [hk] at f;simp only [KOk] at f
 have j:=(W5 h x).1;rw [hx] at j
 have k:=Z4k j;refine G6 h hd (v:=.int .i64 b.size) ?_ (Q4U _ _ _) (by simp [vi,AVal.refs,TV.refs,CV.refs])
 simp [execOp,hop,resolve,invoke,builtin,Builtin.len_,run_underlying g.und,f,k,goInt]
theorem Y2h (h:Conc C nt R η e s a w) {o:Oper} (hd:∀ x,o.dst=some x->x<nt) {tys:Array TypeId} {x y:Operand} {bi:Builtin} (hop:o.op=.call { callee:=.builtin bi,args:= #[x,y],argTypes:=tys })
  {k k' : IntKind} {n n' : Int} (hx:aev e x=.v (.c (.d (.int k n)))) (hy:aev e y=.v (.c (.d (.int k' n')))) {u:Int} (hu:(bi=.min/\u=Q5U n n')\/(bi=.max/\u=Q0x n n')) :
  Snd P C nt R η e s a w o { v:=.v (.c (.d (.int k u))) }:=by
 have i:=(W5 h x).1;have b:=(W5 h y).1
 rw [hx] at i;rw [hy] at b
 have f:=Q5R i;have g:=Q5R b
 refine G6 h hd (v:=.int k u) ?_ (Q4U _ _ _) (by simp [AVal.refs,TV.refs,CV.refs]);rcases hu with ⟨rfl,rfl⟩|⟨rfl,rfl⟩
 ·simp [execOp,hop,resolve,invoke,builtin,Builtin.min_,Builtin.min2,f,g,Q5U]
 ·simp [execOp,hop,resolve,invoke,builtin,Builtin.max_,Builtin.max2,f,g,Q0x]
theorem Q4m (v:Int) (m:Nat) (code:BoundsCode) (h:0<=v/\v<=m) (k:IntKind):(Instr.sliceBound (.int k v) m code).run P w=.ok v.toNat w:=by
 simp [Instr.sliceBound,asIntOf,h]
theorem Y7T (h:Conc C nt R η e s a w) {x:Option Operand} {n:Option Int} (hx:oI e x=some n):(x=none/\n=none)\/∃ k m,x.map a.eval=some (.int k m)/\n=some m:=by
 unfold oI at hx;split at hx
 ·cases hx;exact .inl ⟨rfl,rfl⟩
 ·rename_i y
  split at hx
  ·rename_i m b
   cases hx
   unfold asI at b;split at b
   ·rename_i k f d
    cases b
    have c:=(W5 h y).1;rw [d] at c
    exact .inr ⟨k,m,by simp [Q5R c],rfl⟩
   ·cases b
  ·cases hx
theorem Z5I (h:Conc C nt R η e s a w) {lo hi:Option Operand} {l u:Option Int} (hl:oI e lo=some l) (hu:oI e hi=some u) (n cap:Nat) (hn:n<=cap) (f:Nat->List DVal) (hc:(sl n f l u).2) :
  (Instr.sliceBounds true n cap (lo.map a.eval) (hi.map a.eval) none).run P w=.ok ((l.getD 0).toNat,(u.getD n).toNat,cap) w/\(l.getD 0).toNat<=(u.getD n).toNat/\(u.getD n).toNat<=n /\
   (sl n f l u).1.1=(u.getD n).toNat-(l.getD 0).toNat/\∀ i,(sl n f l u).1.2 i=f ((l.getD 0).toNat+i):=by
 rcases Y7T h hl with ⟨h1,h2⟩|⟨k,m,h1,h2⟩ <;> rcases Y7T h hu with ⟨h3,h4⟩|⟨k',m',h3,h4⟩ <;> subst h2 <;> subst h4 <;> simp only [sl] at hc
 ·subst h1;subst h3
  simp [Instr.sliceBounds,sl]
 ·subst h1
  simp [Instr.sliceBounds,sl,h3,Q4m m' cap _ ⟨hc.1,by omega⟩];omega
 ·subst h3
  simp [Instr.sliceBounds,sl,h1,Q4m m n _ hc];omega
 ·have b:=Q4m (P:=P) (w:=w) m m'.toNat .sliceB ⟨hc.1,by omega⟩ k
  simp [Instr.sliceBounds,sl,h1,h3,Q4m m' cap _ ⟨by omega,by omega⟩,b];omega
theorem Y6e {X:Nat->Prop} {ad:Option Addr} {n cap:Nat} {f:Nat->List DVal} {es:Nat} (h:DRep w X (.slice ad n cap) (.lst n f)) (hes:∀ j,j<n->(f j).length=es) (l u:Nat) (hlu:l<=u) (hun:u<=n) (m:Nat) (hm:u-l<=m) (g:Nat->List DVal) (hg:∀ i,g i=f (l+i)) :
  DRep w X (.slice (if cap=l then ad else ad.map (·.add (l*es))) (u-l) m) (.lst (u-l) g):=by
 by_cases h0:u-l=0
 ·rw [h0];exact .nil _ _ _
 ·cases h with
  | nil=>omega
  | lst b off _ _ c e' fz _ es' h1 h2 h3 h4 h5 h6=>
   have o:es'=es:=by rw [<-h5 l (by omega),hes l (by omega)]
   subst o;have k:¬ cap=l:=by omega
   simp only [k,if_false,Option.map_some,add_lit];have d:l*es' + (u-l)*es' <= n*es':=by rw [<-Nat.add_mul];exact Nat.mul_le_mul_right _ (by omega)
   refine .lst b (off+l*es') _ m c e' fz _ es' h1 h2 hm (by omega) (fun i p=>by rw [hg];exact h5 _ (by omega)) fun i j p q=>?_
   rw [hg];have:=h6 (l+i) j (by omega) q
   rwa [show off+((l+i)*es' + j)=off+l*es' + (i*es' + j) from by rw [Nat.add_mul];omega] at this
theorem Y8D (hL:LOk P L) (h:Conc C nt R η e s a w) {o:Oper} (hd:∀ x,o.dst=some x->x<nt) {t:TypeId} {x:Operand} {lo hi:Option Operand} (hop:o.op=.slice t x lo hi none)
  {ti:TI} (ht:L t=some ti) {el:Nat} (hk:ti.kind=.slice el) {te:TI} (hte:L el=some te) {l u:Option Int} (hl:oI e lo=some l) (hu:oI e hi=some u)
  {n:Nat} {f:Nat->List DVal} (hx:Q9o.asF (aev e x)=some (n,f)) {c:Prop} (hc:(sl n f l u).2) (hes:∀ j,j<n->(f j).length=te.size) :
  Snd P C nt R η e s a w o { v:=.v (.c (.d (.lst (sl n f l u).1.1 (sl n f l u).1.2))),cond:=c }:=by
 obtain ⟨i,dd,z,q⟩:=hL t ti ht;obtain ⟨I,B,J,p⟩:=hL el te hte
 have k:=q.kind;rw [hk] at k
 simp only [KOk] at k;obtain ⟨H,m,y,b⟩:=Y7y (W5 h x).1 hx
 rw [y] at b;have G:n<=m:=by cases b with|nil=>exact Nat.zero_le _|lst _ _ _ _ _ _ _ _ _ _ _ r=>exact r
 obtain ⟨A,E,F,r,D⟩:=Z5I (P:=P) h hl hu n m G f hc;have g:=Y6e b hes (l.getD 0).toNat (u.getD n).toNat E F (m-(l.getD 0).toNat) (by omega) (sl n f l u).1.2 D
 rw [<-r] at g;refine G6 h hd ?_ (.v _ _ (.c _ _ (.d _ _ g))) (by simp [AVal.refs,TV.refs,CV.refs])
 simp only [execOp,hop,Sem.run_bind,Instr.sliceAt,run_underlying q.und,Result.andThen_ok,k,Instr.slice,y,Option.map_none,A,G3 p,Sem.run_pure,r]
theorem Y6J (hL:LOk P L) (h:Conc C nt R η e s a w) {o:Oper} (hd:∀ x,o.dst=some x->x<nt) {t:TypeId} {x hx mx:Operand} (hop:o.op=.slice t x none (some hx) (some mx))
  {ti:TI} (ht:L t=some ti) {el:Nat} (hk:ti.kind=.slice el) {te:TI} (hte:L el=some te) {u:Int} (hu:asI (aev e hx)=some u) (hm:asI (aev e mx)=some u) (h0:0<u)
  {n:Nat} {f:Nat->List DVal} (hxx:Q9o.asF (aev e x)=some (n,f)) {c:Prop} (hc:u<=n) (hes:∀ j,j<n->(f j).length=te.size) :
  Snd P C nt R η e s a w o { v:=.v (.c (.fl u.toNat f)),cond:=c }:=by
 obtain ⟨i,dd,z,B⟩:=hL t ti ht;obtain ⟨O,I,S,A⟩:=hL el te hte
 have p:=B.kind;rw [hk] at p
 simp only [KOk] at p;obtain ⟨D,q,H,d⟩:=Y7y (W5 h x).1 hxx
 rw [H] at d;have Q:n<=q:=by cases d with|nil=>exact Nat.zero_le _|lst _ _ _ _ _ _ _ _ _ _ _ h3=>exact h3
 have b:∀ {y:Operand} {m:Int},asI (aev e y)=some m->∃ k,a.eval y=.int k m:=by
  intro y m hm;unfold asI at hm
  split at hm
  ·rename_i k N E
   cases hm
   have G:=(W5 h y).1;rw [E] at G
   exact ⟨k,Q5R G⟩
  ·cases hm
 obtain ⟨k1,E⟩:=b hu;obtain ⟨k2,M⟩:=b hm
 have g:=Y6e d hes 0 u.toNat (Nat.zero_le _) (by omega) u.toNat (by omega) f (fun i=>by rw [Nat.zero_add]);have r:¬ q=0:=by omega
 simp only [r,if_false,Nat.zero_mul,Nat.sub_zero] at g;have l:D.map (fun x:Addr=>x.add 0)=D:=by cases D <;> simp [Addr.add]
 rw [l] at g;refine G6 h hd (v:=.slice D u.toNat u.toNat) ?_ (.v _ _ (.c _ _ (.fl _ _ _ g))) (by simp [AVal.refs,TV.refs,CV.refs])
 have J:=Q4m (P:=P) (w:=w) u q .slice3Acap ⟨by omega,by omega⟩ k2;have K:=Q4m (P:=P) (w:=w) u u.toNat .slice3B ⟨by omega,by omega⟩ k1
 have F:¬ u.toNat=0:=by omega
 simp only [execOp,hop,Sem.run_bind,Instr.sliceAt,run_underlying B.und,Result.andThen_ok,p,Instr.slice,H,Instr.sliceBounds,Option.map_some,Option.map_none,if_true,E,M,J,K,Sem.run_pure,G3 A,F,if_false,Nat.zero_mul,Nat.sub_zero,l]
end
end
section
section
variable {P:Program} {L:Lay} {C:Ctx} {nt:Nat} {R:Nat->Prop} {η:Nat->Value} {e:Env} {s:Sto} {a:Act} {w:World}
theorem Y7U {X:Nat->Prop} {ad:Option Addr} {n es:Nat} {g:Nat->List DVal} (hn:n≠0)
  (h:n=0\/∃ b off c e' fz es',ad=some ⟨b,off,none⟩/\w.heap[b]?=some (.cells c e' fz)/\off+n*es' <= c.size/\(∀ i,i<n->(g i).length=es') /\
   ∀ i j,i<n->j<es' -> DRep w X (c.getD (off+(i*es' + j)) undef) ((g i).getD j .any)) (hes:∀ i,i<n->(g i).length=es) :
  ∃ b off,ad=some ⟨b,off,none⟩/\∃ news:List Value,news.length=n*es/\(∀ j u,news[j]?=some u->w.cell? ((⟨b,off,none⟩:Addr).add j)=some u)/\(∀ u ∈ news,u.oneCell'=true) /\
   ∀ i j,i<n->j<es->DRep w X (news.getD (i*es+j) undef) ((g i).getD j .any):=by
 rcases h with h|⟨b,off,c,e',fz,es',rfl,r,y,t,p⟩
 ·exact absurd h hn
 ·have m:es'=es:=by rw [<-t 0 (by omega),hes 0 (by omega)]
  subst m;refine ⟨b,off,rfl,Q8J c off (n*es'),by simp [Q8J],fun j u d=>?_,fun u d=>?_,fun i j q o=>?_⟩
  ·simp only [Q8J,List.getElem?_map] at d
   by_cases o:j<n*es'
   ·rw [List.getElem?_range o] at d
    cases d
    rw [add_lit];exact Z9L r _ (by omega)
   ·rw [List.getElem?_eq_none (by simp;omega)] at d;cases d
  ·simp only [Q8J] at d
   obtain ⟨k,l,rfl⟩:=List.mem_map.1 d;rw [List.mem_range] at l
   by_cases hz:es'=0
   ·subst hz;simp at l
   ·have x:k / es' < n:=Nat.div_lt_of_lt_mul (by rw [Nat.mul_comm];exact l)
    have v:k % es' < es':=Nat.mod_lt _ (by omega);have:=(p (k / es') (k % es') x v).one
    rwa [show k / es' * es' + k % es'=k from by rw [Nat.mul_comm];exact Nat.div_add_mod k es'] at this
  ·have f:i*es' + j<n*es':=by
    have:(i+1)*es' <= n*es':=Nat.mul_le_mul_right _ q
    rw [Nat.add_mul,Nat.one_mul] at this;omega
   have:(Q8J c off (n*es')).getD (i*es' + j) undef=c.getD (off+(i*es' + j)) undef:=by simp [Q8J,List.getD_eq_getElem?_getD,f]
   rw [this];exact p i j q o
theorem Y6p {n b:Nat} (h:n<=LIM) (hb:b<=8192):n*b<=140737488355328:=by
 have:=Nat.mul_le_mul h hb
 simp only [LIM] at this;omega
theorem Y3Q {c:Array Value} {k t:Nat} {xs:List Value} (h:c.toList.take k=xs) (ht:t<k):c.getD t undef=xs.getD t undef:=by
 rw [<-h];simp [List.getD_eq_getElem?_getD,ht]
theorem Y8u {X:Nat->Prop} {es n k:Nat} {f g:Nat->List DVal} {c:Array Value} {olds news:List Value} (hc:c.toList.take ((n+k)*es)=olds++news) (ho:olds.length=n*es)
  (h1:∀ i j,i<n->j<es->DRep w X (olds.getD (i*es+j) undef) ((f i).getD j .any)) (h2:∀ i j,i<k->j<es->DRep w X (news.getD (i*es+j) undef) ((g i).getD j .any)) :
  ∀ i j,i<n+k->j<es->DRep w X (c.getD (i*es+j) undef) ((Q5z n f g i).getD j .any):=by
 intro i j o m;have l:i*es+j<(n+k)*es:=by
  have:(i+1)*es<=(n+k)*es:=Nat.mul_le_mul_right _ o
  rw [Nat.add_mul,Nat.one_mul] at this;omega
 rw [Y3Q hc l];unfold Q5z
 by_cases h3:i<n
 ·have b : i*es+j<olds.length:=by
   have:(i+1)*es<=n*es:=Nat.mul_le_mul_right _ h3
   rw [Nat.add_mul,Nat.one_mul] at this;omega
  rw [if_pos h3];have:(olds++news).getD (i*es+j) undef=olds.getD (i*es+j) undef:=by simp [List.getD_eq_getElem?_getD,List.getElem?_append,b]
  rw [this];exact h1 i j h3 m
 ·have p:n*es<=i*es:=Nat.mul_le_mul_right _ (by omega)
  rw [if_neg h3];have:(olds++news).getD (i*es+j) undef=news.getD ((i-n)*es+j) undef:=by
   have d:i*es+j-olds.length=(i-n)*es+j:=by rw [ho,Nat.sub_mul];omega
   have h:¬ i*es+j<olds.length:=by omega
   simp [List.getD_eq_getElem?_getD,List.getElem?_append,h,d]
  rw [this];exact h2 (i-n) j (by omega) m
theorem Y1h (t ty:TypeId) {el:TypeId} {i:TypeInfo} (hu:P.underlying t=some (.slice el)) (hi:P.info? el=some i) (base:Option Addr) (n cap:Nat) (hn:n<=cap) (ad:Option Addr) (c:Nat) :
  (Builtin.append_ #[t,t] ty #[.slice base n cap,.slice ad 0 c]).run P w=.ok (.slice base n cap) w:=by
 have b:(Builtin.firstCells i.size 0 (.slice ad 0 c)).run P w=.ok #[] w:=by cases ad <;> simp [Builtin.firstCells,loadCells,loadCellsFrom]
 cases base <;> simp [Builtin.append_,run_underlying hu,sizeOf,typeInfo,hi,Builtin.lenOf,hn,b,storeCells]
theorem Y0f (t ty e e' : TypeId) (i:TypeInfo) (ht:P.underlying t=some (.slice e)) (hi:P.info? e=some i)
  (g sLen sCap:Nat) (cur:Array Value) (hg:w.heap[g]?=some (.cells cur e' (0,0)))
  (a:Addr) (m c:Nat) (news:List Value) (hl:news.length=m*i.size) (hnews:∀ j u,news[j]?=some u->w.cell? (a.add j)=some u) (h1:∀ u ∈ news,u.oneCell'=true)
  (hroom:sLen+m<=sCap) (hfit:sLen*i.size+news.length<=cur.size) :
  (Builtin.append_ #[t,t] ty #[.slice (some ⟨g,0,none⟩) sLen sCap,.slice (some a) m c]).run P w =
   .ok (.slice (some ⟨g,0,none⟩) (sLen+m) sCap) (w.setRow g (cur.toList.take (sLen*i.size)++news++cur.toList.drop (sLen*i.size+news.length)).toArray):=by
 have d:=run_firstCells_some (P:=P) w i.size m a m c news hl hnews;have b:=run_storeCells_at P g (sLen*i.size) e' news 0 cur w hg (by simpa using hfit) h1
 simp only [Nat.add_zero] at b;simp [Builtin.append_,run_underlying ht,sizeOf,typeInfo,hi,Builtin.lenOf,hroom,d,Addr.add_lit,b]
theorem Y3I (Z:Nat->Prop) (w:World) (o:Go.Obj):Stp Z w (w.drew.alloc o):=
 ⟨rfl,rfl,rfl,by simp,fun b c _=>by rw [heap_alloc_old w.drew o b c];rfl,Nat.le_succ _⟩
theorem Y3U (h:Conc C nt R η e s a w) {o:Oper} {d:Nat} (hd:o.dst=some d) (hdn:d<nt) (hR:¬ R d) {del:List Nat} (hdel:∀ i ∈ del,∀ o',s i=some o' -> o'.ro=false) {es n k gc:Nat} {f g:Nat->List DVal} {c:Prop} {olds news:List Value} {z:Array Value} {el:TypeId}
  (hrun:(execOp a.eval o).run P w=.ok (.value (.slice (some ⟨w.heap.size,0,none⟩) (n+k) gc)) (w.drew.alloc (.cells (olds.toArray++news.toArray++Builtin.zeroCells z (gc-(n+k))) el)))
  (hz:z.size=es) (ho:olds.length=n*es) (hnl:news.length=k*es) (hgc:n+k<=gc) (hgm:gc<=maxLen) (hk:0<k)
  (hfl:∀ i,i<n->(f i).length=es) (hgl:∀ i,i<k->(g i).length=es)
  (h1:∀ i j,i<n->j<es->DRep w (XS C s η) (olds.getD (i*es+j) undef) ((f i).getD j .any)) (h2:∀ i j,i<k->j<es->DRep w (XS C s η) (news.getD (i*es+j) undef) ((g i).getD j .any)) :
  Snd P C nt R η e s a w o { v:=.v (.c (.own d)),del:=del,new:=some (.arr es (n+k) (Q5z n f g)),cond:=c }:=by
 refine Q2O h hd hdn hR (Z:=fun _=>False) hrun (Y3I _ w _) rfl (fun b q=>q.elim) hdel (fun b q=>.inl (by simp [Y8] at q;omega)) fun X' l=>?_
 refine .arr _ _ gc es _ el _ (heap_alloc_new w.drew _) ?_ hgc hgm (by omega) (fun i p=>?_) ?_
 ·simp only [Array.size_append,List.size_toArray,size_zeroCells,hz,ho,hnl, <-Nat.add_mul]
  congr 1;omega
 ·unfold Q5z
  by_cases h3:i<n
  ·rw [if_pos h3];exact hfl i h3
  ·rw [if_neg h3];exact hgl _ (by omega)
 ·refine Y8u (olds:=olds) (news:=news) ?_ ho (fun i j p r=>(h1 i j p r).mono l) (fun i j p r=>(h2 i j p r).mono l)
  have m:(olds++news).length=(n+k)*es:=by rw [List.length_append,ho,hnl,Nat.add_mul]
  simp only [Array.toList_append,List.append_assoc];rw [<-List.append_assoc, <-m]
  exact List.take_left
theorem Q5a (hL:LOk P L) (h:Conc C nt R η e s a w) {o:Oper} {d:Nat} (hd:o.dst=some d) (hdn:d<nt) (hR:¬ R d) {t:TypeId} {x y:Operand}
  (hop:o.op=.call { callee:=.builtin .append,args:= #[x,y],argTypes:= #[t,t] }) {ti:TI} (ht:L t=some ti) {el:Nat} (hk:ti.kind=.slice el) {te:TI} (hte:L el=some te)
  (hby:te.bytes<=8192) (hzl:te.zero.length=te.size) {del:List Nat} (hdel:∀ i ∈ del,∀ o',s i=some o' -> o'.ro=false) {n k cap:Nat} {f g:Nat->List DVal} {c:Prop} (hlim:n+k<=LIM)
  {base:Option Addr} (ex:a.eval x=.slice base n cap) (hcap:cap<n+k) (hb0:base=none->n=0/\cap=0) {olds:List Value} (holdl:olds.length=n*te.size) (holds:∀ b0,base=some b0->∀ j u,olds[j]?=some u->w.cell? (b0.add j)=some u)
  {b2:Addr} {cy:Nat} (ey:a.eval y=.slice (some b2) k cy) {news:List Value} (hnl:news.length=k*te.size) (hncell:∀ j u,news[j]?=some u->w.cell? (b2.add j)=some u) (hk0:0<k)
  (hfl:∀ i,i<n->(f i).length=te.size) (hgl:∀ i,i<k->(g i).length=te.size)
  (h1:∀ i j,i<n->j<te.size->DRep w (XS C s η) (olds.getD (i*te.size+j) undef) ((f i).getD j .any)) (h2:∀ i j,i<k->j<te.size->DRep w (XS C s η) (news.getD (i*te.size+j) undef) ((g i).getD j .any)) :
  Snd P C nt R η e s a w o { v:=.v (.c (.own d)),del:=del,new:=some (.arr te.size (n+k) (Q5z n f g)),cond:=c }:=by
 obtain ⟨i,dd,z,q⟩:=hL t ti ht;obtain ⟨E,F,B,b⟩:=hL el te hte
 have m:=q.kind;rw [hk] at m
 simp only [KOk] at m;subst m
 have r:B.cells.size=te.size:=by rw [(b.zrep w (fun _=>False) η C).1,hzl]
 have l:∀ {v:Value} {w' : World},(Builtin.append_ #[t,t] o.type #[a.eval x,a.eval y]).run P w=.ok v w' -> (execOp a.eval o).run P w=.ok (.value v) w':=by
  intro v w' G;simp [execOp,hop,resolve,invoke,builtin,G]
 cases base with
 | none=>
  obtain ⟨rfl,rfl⟩:=hb0 rfl;have:olds=[]:=List.eq_nil_of_length_eq_zero (by rw [holdl,Nat.zero_mul])
  subst this;have D:=run_append_nil (P:=P) w t o.type el E B q.und b.info b.zero b2 k cy news (by rw [b.size];exact hnl) hncell (by omega) (by simp only [LIM] at hlim;omega)
   (by have:=Y6p (n:=k) (by omega) hby;rw [b.bytes];omega)
  have A:=l (by rw [ex,ey];exact D);have p : (execOp a.eval o).run P w=.ok (.value (.slice (some ⟨w.heap.size,0,none⟩) (0+k) (grownCap w k 0 el))) (w.drew.alloc (.cells (([]:List Value).toArray++news.toArray++Builtin.zeroCells B.cells (grownCap w k 0 el-(0+k))) el)):=by
   rw [A];simp
  exact Y3U h hd hdn hR hdel p r (by simp) hnl (by have:=grownCap_ge w k 0 el;omega) (grownCap_le_maxLen w k 0 el (by simp only [LIM] at hlim;simp only [maxLen];omega)) (by omega) hfl hgl h1 h2
 | some b0=>
  have D:=run_append_grow (P:=P) w t o.type el E B q.und b.info b.zero b0 n cap olds (by rw [b.size];exact holdl) (holds b0 rfl) b2 k cy news (by rw [b.size];exact hnl) hncell (by omega) (by simp only [LIM] at hlim;omega)
   (growslice_fits (by omega) (by rw [b.bytes];exact Y6p hlim hby))
  exact Y3U h hd hdn hR hdel (l (by rw [ex,ey];exact D)) r holdl hnl (grownCap_ge w (n+k) cap el) (grownCap_le_maxLen w (n+k) cap el (by simp only [LIM] at hlim;simp only [maxLen];omega)) (by omega) hfl hgl h1 h2
theorem Z8h (hL:LOk P L) (h:Conc C nt R η e s a w) {o:Oper} {d:Nat} (hd:o.dst=some d) (hdn:d<nt) (hR:¬ R d) {t:TypeId} {x y:Operand}
  (hop:o.op=.call { callee:=.builtin .append,args:= #[x,y],argTypes:= #[t,t] }) {ti:TI} (ht:L t=some ti) {el:Nat} (hk:ti.kind=.slice el) {te:TI} (hte:L el=some te)
  {k:Nat} {g:Nat->List DVal} (hy:asL s (aev e y)=some (k,g)) {del:List Nat} {n:Nat} {f:Nat->List DVal} {c0:Prop} (hx:Z9P s te.size k (aev e x)=some (del,n,f,c0)) (hc0:c0)
  (hby:te.bytes<=8192) (hzl:te.zero.length=te.size) {c:Prop} (hlim:n+k<=LIM) (hgl:∀ j,j<k->(g j).length=te.size) :
  Snd P C nt R η e s a w o { v:=.v (.c (.own d)),del:=del,new:=some (.arr te.size (n+k) (Q5z n f g)),cond:=c }:=by
 obtain ⟨i,dd,z,S⟩:=hL t ti ht;obtain ⟨i2,d2,z2,B⟩:=hL el te hte
 have b1:=S.kind;rw [hk] at b1
 simp only [KOk] at b1;subst b1
 obtain ⟨ad,cy,U,d8,a0⟩:=W0K h (W5 h y).1 hy;have e0:z2.cells.size=te.size:=by rw [(B.zrep w (fun _=>False) η C).1,hzl]
 have J:∀ {v:Value} {w' : World},(Builtin.append_ #[t,t] o.type #[a.eval x,a.eval y]).run P w=.ok v w' -> (execOp a.eval o).run P w=.ok (.value v) w':=by
  intro v w' hh;simp [execOp,hop,resolve,invoke,builtin,hh]
 unfold Z9P at hx;split at hx
 ·
  rename_i Q e1
  split at hx
  ·rename_i b6 n' f' hs
   split at hx
   ·rename_i c4
    cases hx
    subst c4;have A:=(W5 h x).1
    rw [e1] at A;have ex:=Q6R A
    have O:=h.st Q _ hs
    by_cases hk0:k=0
    ·
     subst hk0;have W:=O
     generalize hu:η Q=u at O ex;have hn:∃ l E,u=.slice l n E/\n<=E:=by
      cases O with
      | nil=>exact ⟨_,_,rfl,Nat.le_refl _⟩
      | arr b _ E _ c' e' _ _ _ hn _ _ _ _=>exact ⟨_,_,rfl,hn⟩
     obtain ⟨l,E,b8,hn⟩:=hn;refine Q2O h hd hdn hR (Z:=fun _=>False) (v:=u) (w':=w) (J (by rw [ex,U,b8];exact Y1h t o.type S.und B.info l n E hn ad cy)) (Stp.refl _ _) (by rw [b8];rfl) (fun b K=>K.elim)
      (fun T p o' H=>by simp at p;subst p;rw [hs] at H;cases H;rfl) (fun b K=>.inr ⟨Q,by simp,by rw [hs];simp,by rw [hu];exact K⟩) fun X' G=>?_
     rw [hu] at W;have c3 : ∀ b,b ∈ Y8 u->w.heap[b]?=w.heap[b]?:=fun _ _=>rfl
     have:=W.mono (η':=SR.eta { v:=.v (.c (.own d)),del:=[Q],new:=some (.arr te.size (n+0) (Q5z n f g)),cond:=c } o.dst u η) G (by simp [Obj.refs]) c3
     cases this with
     | nil=>exact .nil _ _ _
     | arr b _ cap' _ c' e' _ q1 q2 q3 q4 q5 q6 q7=>
      refine .arr b n cap' _ c' e' _ q1 q2 q3 q4 q5 (fun i D=>?_) fun i j D r=>?_
      ·simp only [Q5z,if_pos D];exact q6 i D
      ·simp only [Q5z,if_pos D];exact q7 i j D r
    ·obtain ⟨b2,Y,a4,news,F,m,M,q⟩:=Y7U hk0 a0 hgl
     subst a4;generalize hu:η Q=u at O ex
     cases O with
     | nil l _ _=>
      exact Q5a hL h hd hdn hR hop ht hk hte hby hzl (fun T p o' H=>by simp at p;subst p;rw [hs] at H;cases H;rfl) hlim ex (by omega) (fun _=>⟨rfl,rfl⟩) (olds:=[]) (by simp) (fun _ _ j u r=>by simp at r) U F m (by omega)
       (fun i D=>by omega) hgl (fun i j D=>by omega) q
     | arr b _ E _ c' e' _ K hsz hn hm hc hl hel=>
      have a1:∀ T ∈ [Q],∀ o',s T=some o' -> o'.ro=false:=fun T p o' H=>by simp at p;subst p;rw [hs] at H;cases H;rfl
      have d4:n*te.size<=E*te.size:=Nat.mul_le_mul_right _ hn;have I:(c'.toList.take (n*te.size)).length=n*te.size:=by simp;omega
      have a2:∀ i j,i<n->j<te.size->DRep w (XS C s η) ((c'.toList.take (n*te.size)).getD (i*te.size+j) undef) ((f i).getD j .any):=by
       intro i j D r;have a7:i*te.size+j<n*te.size:=by
        have:(i+1)*te.size<=n*te.size:=Nat.mul_le_mul_right _ D
        rw [Nat.add_mul,Nat.one_mul] at this;omega
       rw [<-Y3Q rfl a7];exact hel i j D r
      by_cases hroom:n+k<=E
      ·have N:n*i2.size+news.length<=c'.size:=by rw [B.size,F,hsz, <-Nat.add_mul];exact Nat.mul_le_mul_right _ hroom
       have hr:=Y0f (P:=P) t o.type el e' i2 S.und B.info b n E c' K ⟨b2,Y,none⟩ k cy news (by rw [B.size];exact F) m M hroom N;rw [B.size] at hr N
       have b5:=J (by rw [ex,U];exact hr);have V:b ∈ Y8 (η Q):=by rw [hu];simp [Y8];omega
       refine Q2O h hd hdn hR (Z:=fun x=>x=b) b5 (Z4o w b _) rfl (fun x hx=>⟨Q,by simp,by rw [hs];simp,by rw [hx];exact V⟩) a1 (fun x hx=>.inr ⟨Q,by simp,by rw [hs];simp,by simp [Y8] at hx;rw [hx.2];exact V⟩) fun X' G=>?_
       refine .arr b (n+k) E te.size _ e' _ (setRow_heap w b c' _ e' _ K) (by rw [(Z1d c' (n*te.size) news N).1];exact hsz) hroom hm hc (fun i D=>?_) ?_
       ·unfold Q5z
        by_cases h3:i<n
        ·rw [if_pos h3];exact hl i h3
        ·rw [if_neg h3];exact hgl _ (by omega)
       ·refine Y8u (olds:=c'.toList.take (n*te.size)) (news:=news) ?_ I (fun i j D r=>(a2 i j D r).mono G) (fun i j D r=>(q i j D r).mono G)
        have b9:(c'.toList.take (n*te.size)++news).length=(n+k)*te.size:=by rw [List.length_append,I,F,Nat.add_mul]
        rw [<-b9];exact List.take_left
      ·have a6:∀ j u,(c'.toList.take (n*te.size))[j]?=some u->w.cell? ((⟨b,0,none⟩:Addr).add j)=some u:=by
        intro j u r;rw [List.getElem?_take] at r
        split at r
        ·rw [add_lit,Nat.zero_add,cell_of_row w b j c' e' (0,0) K];simpa using r
        ·cases r
       exact Q5a hL h hd hdn hR hop ht hk hte hby hzl a1 hlim ex (by omega) (fun hh=>by cases hh) I (fun b0 a5=>by cases a5;exact a6) U F m (by omega) hl hgl a2 q
   ·cases hx
  ·cases hx
 ·
  rename_i n' f' e1
  split at hx
  ·rename_i d7
   cases hx
   have A:=(W5 h x).1;rw [e1] at A
   generalize hex:a.eval x=u at A;have c2:∃ l,u=.slice l n n/\DRep w (XS C s η) (.slice l n n) (.lst n f):=by
    cases A with|v _ _ A=>cases A with|c _ _ A=>cases A with|fl l _ _ A=>exact ⟨l,rfl,A⟩
   obtain ⟨l,rfl,c1⟩:=c2
   by_cases hk0:k=0
   ·subst hk0
    have a8:n=0:=by omega
    subst a8;exact Q2O h hd hdn hR (del:=[]) (Z:=fun _=>False) (v:=.slice l 0 0) (w':=w) (J (by rw [hex,U];exact Y1h t o.type S.und B.info l 0 0 (Nat.le_refl _) ad cy)) (Stp.refl _ _) rfl (fun b K=>K.elim)
     (fun T p=>by cases p) (fun b K=>by cases l <;> simp [Y8] at K) fun X' _=>.nil _ _ _
   ·obtain ⟨b2,Y,a4,news,F,m,M,q⟩:=Y7U hk0 a0 hgl
    subst a4
    cases c1 with
    | nil _ _ _=>
     exact Q5a hL h hd hdn hR hop ht hk hte hby hzl (fun T p=>by cases p) hlim hex (by omega) (fun _=>⟨rfl,rfl⟩) (olds:=[]) (by simp) (fun _ _ j u r=>by simp at r) U F m (by omega)
      (fun i D=>by omega) hgl (fun i j D=>by omega) q
    | lst b off _ _ c' e' fz _ b6 q1 q2 q3 q4 q5 q6=>
     by_cases a8:n=0
     ·subst a8
      exact Q5a hL h hd hdn hR hop ht hk hte hby hzl (fun T p=>by cases p) hlim hex (by omega) (fun hh=>by cases hh) (olds:=[]) (by simp) (fun _ _ j u r=>by simp at r) U F m (by omega)
       (fun i D=>by omega) hgl (fun i j D=>by omega) q
     have c7:b6=te.size:=by rw [<-q5 0 (by omega),hc0 0 (by omega)]
     subst c7;have hv:∀ j,j<n*te.size->(Q8J c' off (n*te.size)).getD j undef=c'.getD (off+j) undef:=fun j r=>by simp [Q8J,List.getD_eq_getElem?_getD,r]
     refine Q5a hL h hd hdn hR hop ht hk hte hby hzl (fun T p=>by cases p) hlim hex (by omega) (fun hh=>by cases hh) (olds:=Q8J c' off (n*te.size)) (by simp [Q8J]) (fun b0 a5 j u r=>?_) U F m (by omega)
      q5 hgl (fun i j D r=>?_) q
     ·cases a5
      simp only [Q8J,List.getElem?_map] at r
      by_cases hjj:j<n*te.size
      ·rw [List.getElem?_range hjj] at r
       cases r
       rw [add_lit];exact Z9L q2 _ (by omega)
      ·rw [List.getElem?_eq_none (by simp;omega)] at r;cases r
     ·have a7:i*te.size+j<n*te.size:=by
       have:(i+1)*te.size<=n*te.size:=Nat.mul_le_mul_right _ D
       rw [Nat.add_mul,Nat.one_mul] at this;omega
      rw [hv _ a7];exact q6 i j D r
  ·cases hx
 ·cases hx
end
end
section
section
variable {P:Program} {L:Lay} {C:Ctx} {nt:Nat} {R:Nat->Prop} {η:Nat->Value} {e:Env} {s:Sto} {a:Act} {w:World}
theorem Z5N {α:Type} (n:Nat) (xs:List α):(Y2o n xs).length=n*xs.length:=by
 induction n with
 | zero=>simp [Y2o]
 | succ n ih=>simp [Y2o,ih,Nat.add_mul];omega
theorem Y8H {α:Type} (n:Nat) (xs:List α) (d:α) (i:Nat) (h:i<n*xs.length):(Y2o n xs).getD i d=xs.getD (i % xs.length) d:=by
 induction n generalizing i with
 | zero=>simp at h
 | succ n ih=>
  rw [Nat.add_mul,Nat.one_mul] at h
  by_cases h1:i<xs.length
  ·simp [Y2o,List.getD_eq_getElem?_getD,List.getElem?_append,h1,Nat.mod_eq_of_lt h1]
  ·have:=ih (i-xs.length) (by omega)
   have b:(i-xs.length) % xs.length=i % xs.length:=by rw [<-Nat.mod_eq_sub_mod (by omega)]
   rw [b] at this;rw [<-this]
   simp [Y2o,List.getD_eq_getElem?_getD,List.getElem?_append,h1]
theorem Z3h (n:Nat) (f:Nat->Value) (j:Nat) (hj:j<n):((Array.range n).map f).getD j undef=f j:=by
 have h:j<((Array.range n).map f).size:=by simpa using hj
 have:((Array.range n).map f).getD j undef=((Array.range n).map f)[j]:=by simp only [Array.getD,h,dite_true];rfl
 rw [this];simp
theorem Z3g (f:Nat->Value):(Array.range 0).map f=#[]:=Array.eq_empty_of_size_eq_zero (by simp)
theorem Y8y {X:Nat->Prop} {z:Array Value} {zs:List CV} (h:y4 w X η C z zs) (len:Nat):y4 w X η C ((Array.range (len*zs.length)).map (z[· % z.size]!)) (Y2o len zs):=by
 refine ⟨by simp [Z5N],fun j c=>?_⟩;rw [Z5N] at c
 rw [Y8H _ _ _ _ c];have b:0<zs.length:=by rcases Nat.eq_zero_or_pos zs.length with d|d;simp [d] at c;exact d
 have f:=Nat.mod_lt j b;have:=h.2 _ f
 have g:((Array.range (len*zs.length)).map (z[· % z.size]!)).getD j undef=z.getD (j % zs.length) undef:=by
  have:j % z.size<z.size:=by rw [h.1];exact f
  rw [Z3h _ _ _ c, <-h.1];simp [this]
 rw [g];exact this
theorem Y2l {t:TypeId} {ti:TI} {i:TypeInfo} {el:TypeId} {z:Value} (hti:TIOk P t ti i (.slice el) z) {te:TI} {i2:TypeInfo} {d2:TypeDesc} {z2:Value} (hte:TIOk P el te i2 d2 z2) (len:Nat) (hl:len*te.size<=16777216)
  {Y1a:Array (Nat×Value)} {cells:Array Value} (hf:Instr.fill (fun i=>some (i*te.size,te.size)) ((Array.range (len*te.size)).map (z2.cells[· % z2.cells.size]!)) Y1a.toList=some cells) :
  (Instr.buildSlice t len Y1a).run P w=.ok (.slice (some ⟨w.heap.size,0,none⟩) len len) { w with heap:=w.heap.push (.cells cells el) }:=by
 have b:¬ (16777216<len*te.size):=by omega
 by_cases h0:len*te.size=0
 ·rw [h0,Z3g] at hf
  simp only [Instr.buildSlice,Sem.run_bind,run_underlying hti.und,Result.andThen_ok,G3 hte,gt_iff_lt,Nat.reducePow,h0,if_true,Sem.run_pure,Sem.run_ite,Z3g];rw [hf]
  simp [newRow]
 ·simp only [Instr.buildSlice,Sem.run_bind,run_underlying hti.und,Result.andThen_ok,G3 hte,b,gt_iff_lt,Nat.reducePow,if_false,h0,Sem.run_pure,Sem.run_ite,Q9s hte]
  rw [hf];simp [newRow]
theorem Z8g {X:Nat->Prop} {c:Array Value} {cs:List CV} {ds:List DVal} (h:y4 w X η C c cs) (hd:Y1X cs=some ds):ds.length=c.size/\∀ j,j<ds.length->DRep w X (c.getD j undef) (ds.getD j .any):=by
 obtain ⟨f,d⟩:=Y7H cs ds c 0 hd (fun j b=>by rw [Nat.zero_add];exact h.2 j b);exact ⟨by rw [f,h.1],fun j b=>by have:=d j b;rwa [Nat.zero_add] at this⟩
theorem W2L (ds:List DVal) (es i j:Nat) (hj:j<es):(((ds.drop (i*es)).take es)).getD j .any=ds.getD (i*es+j) .any:=Q8m ds (i*es) es j .any hj
theorem Y2i (hL:LOk P L) (h:Conc C nt R η e s a w) {o:Oper} (hdn:∀ x,o.dst=some x->x<nt) {t:TypeId} {len:Nat} {ps:Array (Nat×Operand)} (hop:o.op=.buildSlice t len ps)
  {ti:TI} (ht:L t=some ti) {el:Nat} (hk:ti.kind=.slice el) {te:TI} (hte:L el=some te) (hle:len*te.size<=16777216) (hzl:te.zero.length=te.size)
  {cs:List CV} (hf:Z7Y (fun i=>some (i*te.size,te.size)) (Y2o len te.zero) (ps.toList.map fun p=>(p.1,aev e p.2))=some cs) {ds:List DVal} (hds:Y1X cs=some ds) :
  Snd P C nt R η e s a w o { v:=.v (.c (.d (.lst len fun i=>(ds.drop (i*te.size)).take te.size))) } /\
  ∀ d,o.dst=some d->¬ R d->0<te.size->Snd P C nt R η e s a w o { v:=.v (.c (.own d)),new:=some (.arr te.size len fun i=>(ds.drop (i*te.size)).take te.size) }:=by
 obtain ⟨i,dd,z,I⟩:=hL t ti ht;obtain ⟨i2,d2,z2,m⟩:=hL el te hte
 have A:=I.kind;rw [hk] at A
 simp only [KOk] at A;subst A
 obtain ⟨m1,m2,_⟩:=W0q h ps;have hz:=m.zrep w (XS C s η) η C
 have a7:z2.cells.size=te.size:=by rw [hz.1,hzl]
 have H:=Y8y hz len;rw [hzl] at H
 obtain ⟨M,u,l,_⟩:=Y8f _ _ _ _ _ hf H m1 m2;have E:=Y2l (w:=w) I m len hle u
 have f:(execOp a.eval o).run P w=.ok (.value (.slice (some ⟨w.heap.size,0,none⟩) len len)) { w with heap:=w.heap.push (.cells M el) }:=by
  simp only [execOp,hop,Sem.run_bind];rw [E];rfl
 obtain ⟨y,W⟩:=Z8g l hds;have k:ds.length=len*te.size:=by
  have:=l.1
  have Y:cs.length=(Y2o len te.zero).length:=by
   have S:∀ (ps:List (Nat×AVal)) (pl:Nat->Option (Nat×Nat)) (Q cs:List CV),Z7Y pl Q ps=some cs->cs.length=Q.length:=by
    intro ps pl
    induction ps with
    | nil=>intro Q cs h;cases h;rfl
    | cons p r ih=>
     intro Q cs h;obtain ⟨i,x⟩:=p
     simp only [Z7Y] at h;split at h
     ·split at h
      ·rename_i a1;rw [ih _ _ h,Q2N _ _ _ (by omega)]
      ·cases h
     ·cases h
   exact S _ _ _ _ hf
  rw [y,this,Y,Z5N,hzl]
 have K:∀ i,i<len->((ds.drop (i*te.size)).take te.size).length=te.size:=by
  intro i n;have:(i+1)*te.size<=len*te.size:=Nat.mul_le_mul_right _ n
  rw [Nat.add_mul,Nat.one_mul] at this;simp;omega
 have F:∀ i j,i<len->j<te.size->DRep w (XS C s η) (M.getD (i*te.size+j) undef) (((ds.drop (i*te.size)).take te.size).getD j .any):=by
  intro i j n D;have:(i+1)*te.size<=len*te.size:=Nat.mul_le_mul_right _ n
  rw [Nat.add_mul,Nat.one_mul] at this;rw [W2L _ _ _ _ D];exact W _ (by omega)
 have T:Q7i w { w with heap:=w.heap.push (.cells M el) } (XS C s η) (XS C s η):=fun b g hX=>⟨by show (w.heap.push _)[b]?=_;rw [Array.getElem?_push,if_neg (by omega)],hX⟩
 have U:¬ XS C s η w.heap.size:=by
  rintro (⟨hx,_⟩|hx)
  ·have:=h.ok.lt _ hx;have:=h.fr.size;omega
  ·have:=h.lt hx;omega
 refine ⟨?_,fun d O hR G=>?_⟩
 ·refine ⟨_,_,.inl f,?_⟩
  have N:∀ v,SR.eta { v:=.v (.c (.d (.lst len fun i=>(ds.drop (i*te.size)).take te.size))) } o.dst v η=η:=fun v=>by funext i;simp [SR.eta]
  have J:SR.sto { v:=.v (.c (.d (.lst len fun i=>(ds.drop (i*te.size)).take te.size))) } o.dst s=s:=by funext i;simp [SR.sto]
  refine h.step o.dst hdn _ _ _ (fun _=>False) (Stp.alloc _ w _) (fun b g=>g.elim) (fun _ _ V=>by cases V) (fun _ _ V=>by cases V) fun _=>?_
  rw [N,J];refine ⟨.v _ _ (.c _ _ (.d _ _ ?_)),fun j D=>by simp [AVal.refs,TV.refs,CV.refs] at D⟩
  refine .lst w.heap.size 0 len len M el (0,0) _ te.size U (by simp) (Nat.le_refl _) (by rw [Nat.zero_add, <-y,k];exact Nat.le_refl _) K fun i j n D=>?_
  rw [Nat.zero_add];exact (F i j n D).mono T
 ·by_cases hl0:len=0
  ·subst hl0
   exact Q2O h O (hdn d O) hR (del:=[]) (Z:=fun _=>False) f (Stp.alloc _ w _) rfl (fun b g=>g.elim) (fun i' q=>by cases q) (fun b g=>by simp [Y8] at g) fun X' _=>.nil _ _ _
  ·refine Q2O h O (hdn d O) hR (del:=[]) (Z:=fun _=>False) f (Stp.alloc _ w _) rfl (fun b g=>g.elim) (fun i' q=>by cases q) (fun b g=>.inl (by simp [Y8] at g;omega)) fun X' B=>?_
   refine .arr w.heap.size len len te.size M el _ (by simp) (by rw [<-y,k]) (Nat.le_refl _) ?_ (by omega) K fun i j n D=>(F i j n D).mono B
   have:len*1<=len*te.size:=Nat.mul_le_mul_left _ G
   simp only [maxLen];omega
theorem Y3w (hL:LOk P L) (h:Conc C nt R η e s a w) {o:Oper} {d:Nat} (hd:o.dst=some d) (hdn:d<nt) (hR:¬ R d) {t:TypeId} {l c:Operand} (hop:o.op=.makeSlice t l c)
  {ti:TI} (ht:L t=some ti) {el:Nat} (hk:ti.kind=.slice el) {te:TI} (hte:L el=some te) {n n' : Int} (hl:asI (aev e l)=some n) (hc:asI (aev e c)=some n') (h0:0<te.size) (hby:te.bytes<=8192) (hzl:te.zero.length=te.size)
  {zd:List DVal} (hz:Y1X te.zero=some zd) {c0:Prop} (hn:0<=n/\n=n' /\ n<=LIM):Snd P C nt R η e s a w o { v:=.v (.c (.own d)),new:=some (.arr te.size n.toNat fun _=>zd),cond:=c0 }:=by
 obtain ⟨i,dd,z,A⟩:=hL t ti ht;obtain ⟨i2,d2,F,f⟩:=hL el te hte
 have D:=A.kind;rw [hk] at D
 simp only [KOk] at D;subst D
 obtain ⟨O,rfl,B⟩:=hn;have p:∀ {y:Operand} {m:Int},asI (aev e y)=some m->∃ k,a.eval y=.int k m:=by
  intro y m G;unfold asI at G
  split at G
  ·rename_i k m' M
   cases G
   have I:=(W5 h y).1;rw [M] at I
   exact ⟨k,Q5R I⟩
  ·cases G
 obtain ⟨k1,M⟩:=p hl;obtain ⟨k2,Y⟩:=p hc
 have hw:IntKind.i64.wrap n=n:=Y5m ⟨by omega,by simp only [LIM] at B;omega⟩;have r:(te.bytes:Int)*n<=2 ^ 48:=by
  have hh:te.bytes*n.toNat<=8192*4294967296:=Nat.mul_le_mul hby (by simp only [LIM] at B;omega);have:(te.bytes:Int)*n=((te.bytes*n.toNat:Nat):Int):=by rw [Int.natCast_mul,Int.toNat_of_nonneg O]
  rw [this];omega
 have q:F.cells.size=te.size:=by rw [(f.zrep w (XS C s η) η C).1,hzl]
 have V:(decide (n<0)||decide ((te.bytes:Int)*n > 2 ^ 48))=false:=by simp;omega
 have g:∃ K,(execOp a.eval o).run P w=.ok (.value (.slice (some ⟨w.heap.size,0,none⟩) n.toNat n.toNat)) { w with heap:=w.heap.push (.cells K el) } /\ K.size=n.toNat*te.size/\∀ j,j<n.toNat*te.size->K.getD j undef=F.cells.getD (j % te.size) undef:=by
  by_cases hz0:n.toNat*te.size=0
  ·have W:n.toNat=0:=by rcases Nat.mul_eq_zero.1 hz0 with I|I;exact I;omega
   have S:n=0:=by omega
   subst S;refine ⟨#[],?_,by simp,fun j H=>by simp at H⟩
   simp [execOp,hop,Instr.makeSlice,M,Y,asInt,asIntOf,run_underlying A.und,typeInfo,f.info,newRow,IntKind.wrap,IntKind.bits,IntKind.signed,G3 f,Z3g]
  ·refine ⟨(Array.range (n.toNat*te.size)).map (F.cells[· % F.cells.size]!),?_,by simp,fun j H=>?_⟩
   ·have u:¬ n<0:=by omega
    have N:¬ (281474976710656:Int)<(te.bytes:Int)*n:=by omega
    simp [execOp,hop,Instr.makeSlice,M,Y,asInt,asIntOf,run_underlying A.und,typeInfo,f.info,f.bytes,newRow,hw,u,N,G3 f,Q9s f,hz0]
   ·have:j % F.cells.size<F.cells.size:=by rw [q];exact Nat.mod_lt _ h0
    rw [Z3h _ _ _ H, <-q];simp [this]
 obtain ⟨K,g,Q,U⟩:=g;obtain ⟨J,T⟩:=Z8g (f.zrep w (XS C s η) η C) hz
 by_cases hl0:n.toNat=0
 ·rw [hl0] at g ⊢
  exact Q2O h hd hdn hR (del:=[]) (Z:=fun _=>False) g (Stp.alloc _ w _) rfl (fun b r=>r.elim) (fun i' x=>by cases x) (fun b r=>by simp [Y8] at r) fun X' _=>.nil _ _ _
 ·refine Q2O h hd hdn hR (del:=[]) (Z:=fun _=>False) g (Stp.alloc _ w _) rfl (fun b r=>r.elim) (fun i' x=>by cases x) (fun b r=>.inl (by simp [Y8] at r;omega)) fun X' E=>?_
  refine .arr w.heap.size n.toNat n.toNat te.size K el _ (by simp) Q (Nat.le_refl _) (by simp only [maxLen];simp only [LIM] at B;omega) (by omega) (fun i _=>by rw [J,q]) fun i j hi H=>?_
  have u:i*te.size+j<n.toNat*te.size:=by
   have:(i+1)*te.size<=n.toNat*te.size:=Nat.mul_le_mul_right _ hi
   rw [Nat.add_mul,Nat.one_mul] at this;omega
  rw [U _ u];have G:(i*te.size+j) % te.size=j:=by rw [Nat.add_comm,Nat.add_mul_mod_self_right,Nat.mod_eq_of_lt H]
  rw [G];exact (T j (by rw [J,q];exact H)).mono E
end
end
section
section
variable {P:Program} {L:Lay} {C:Ctx} {nt:Nat} {R:Nat->Prop} {η:Nat->Value} {e:Env} {s:Sto} {a:Act} {w:World}
theorem Y0Q (h:Conc C nt R η e s a w) {y:Operand} {m:Int} (hm:asI (aev e y)=some m):∃ k,a.eval y=.int k m:=by
 unfold asI at hm;split at hm
 ·rename_i k d c
  cases hm
  have b:=(W5 h y).1;rw [c] at b
  exact ⟨k,Q5R b⟩
 ·cases hm
theorem Y7Q (hL:LOk P L) {X:Nat->Prop} {vs:Array Value} {cs:List CV} (h:y4 w X η C vs cs) {t off:Nat} {ti:TI} (ht:L t=some ti) (ho:off+ti.size<=cs.length) {v:AVal} (hv:mkT ti.kind.agg ((cs.drop off).take ti.size)=some v) :
  ∃ u,(part t vs off).run P w=.ok u w/\ARep w X η C u v/\∀ j ∈ v.refs,j ∈ cs.flatMap CV.refs:=by
 obtain ⟨i,d,z,k⟩:=hL t ti ht;have r:=h.1
 unfold mkT at hv;split at hv
 ·rename_i o
  cases hv
  refine ⟨.agg (vs.extract off (off+ti.size)),?_,.v _ _ (.g _ _ ⟨by simp;omega,fun j l=>?_⟩),fun j l=>Z4F _ _ _ j (Z4E _ _ _ j l)⟩
  ·simp only [part,Sem.run_bind,Z6R k,Result.andThen_ok,o,if_true,G3 k,Sem.run_pure]
  ·have p : j<ti.size:=by simp at l;omega
   rw [Q8m _ _ _ _ _ p];have f:off+j<vs.size:=by omega
   have:(vs.extract off (off+ti.size)).getD j undef=vs.getD (off+j) undef:=by
    have x:j<min (off+ti.size) vs.size-off:=by omega
    simp [f,x]
   rw [this];exact h.2 _ (by omega)
 ·rename_i o
  split at hv
  ·rename_i y n
   cases hv
   have b:((cs.drop off).take ti.size).length=ti.size:=by simp;omega
   rw [n] at b;have A:ti.size=1:=by simpa using b.symm
   have f:off<vs.size:=by omega
   refine ⟨vs.getD off undef,?_,.v _ _ (.c _ _ ?_),fun j l=>?_⟩
   ·simp [part,Z6R k,o,f]
   ·have:=h.2 off (by omega)
    have m:cs.getD off (.d .any)=y:=by
     have q:=Q8m cs off ti.size 0 (.d .any) (by omega);rw [n] at q;simpa using q.symm
    rwa [m] at this
   ·refine Z4F _ _ off j (Z4E _ _ ti.size j ?_)
    rw [n];simpa [AVal.refs,TV.refs] using l
  ·cases hv
theorem Y9c (h:Conc C nt R η e s a w):∀ (xs:List Operand) (ids:List Nat),Q9o.cloIds (xs.map (aev e))=some ids->xs.map a.eval=ids.map η/\∀ j ∈ ids,R j:=by
 intro xs
 induction xs with
 | nil=>intro ids c;cases c;exact ⟨rfl,by simp⟩
 | cons x r ih=>
  intro ids c;obtain ⟨n,m⟩:=W5 h x
  rw [List.map_cons] at c;unfold Q9o.cloIds at c
  split at c
  ·cases ‹_::_=[]›
  ·rename_i q t g
   injection g with g e2
   subst e2;split at c
   ·rename_i l d
    cases c
    obtain ⟨p,o⟩:=ih _ d;rw [g] at n m
    obtain ⟨b,f,i⟩:=Z9q n;refine ⟨by rw [List.map_cons,List.map_cons,p,f,i],fun j k=>?_⟩
    rcases List.mem_cons.1 k with rfl|k
    ·exact m _ (by simp [AVal.refs,TV.refs,CV.refs])
    ·exact o j k
   ·cases c
  ·cases c
theorem Y2X (h:Conc C nt R η e s a w) {x:Operand} {off:Nat} {v:AVal}
  (hv:(match aev e x with
     | .v (.c (.ptr id o))=>some ({ v:=.v (.c (.ptr id (o+off))) }:SR)
     | .v (.c (.pte id es idx o))=>some { v:=.v (.c (.pte id es idx (o+off))) }
     | .v (.c (.elm cs))=>if off<=cs.length then some { v:=.v (.c (.elm (cs.drop off))) } else none
     | _=>none)=some { v:=v }) :
  (∀ b o',a.eval x=.pointer (some ⟨b,o',none⟩)->ARep w (XS C s η) η C (.pointer (some ⟨b,o' + off,none⟩)) v)/\(∀ j ∈ v.refs,R j)/\∃ b o',a.eval x=.pointer (some ⟨b,o',none⟩):=by
 obtain ⟨i,l⟩:=W5 h x;split at hv
 ·rename_i id o k
  cases hv
  rw [k] at i l;obtain ⟨b,d,g⟩:=Z9q i
  exact ⟨fun r o' f=>by rw [d] at f;cases f;exact Y4H _ g,fun j q=>l j (by simpa [AVal.refs,TV.refs,CV.refs] using q),b,o,d⟩
 ·rename_i id es idx o k
  cases hv
  rw [k] at i l;obtain ⟨b,n,p,d,g⟩:=Y4I i
  exact ⟨fun r o' f=>by rw [d] at f;cases f;rw [Nat.add_assoc];exact .v _ _ (.c _ _ (.pte b n p _ _ _ _ g)),fun j q=>l j (by simpa [AVal.refs,TV.refs,CV.refs] using q),b,_,d⟩
 ·rename_i cs k
  split at hv
  ·rename_i m
   cases hv
   rw [k] at i;obtain ⟨b,o,c,B,A,d,z,t,y,u⟩:=Y8l i
   exact ⟨fun r o' f=>by rw [d] at f;cases f;exact W0r _ z t y u off m,by simp [AVal.refs,TV.refs,CV.refs],b,o,d⟩
  ·cases hv
 ·cases hv
theorem Y1j (hL:LOk P L) (h:Conc C nt R η e s a w) {o:Oper} (hd:∀ x,o.dst=some x->x<nt) {t:TypeId} {x i:Operand} (hop:o.op=.indexAddr t x i) {ti:TI} (ht:L t=some ti) {el:Nat} (hk:ti.kind=.slice el)
  {te:TI} (hte:L el=some te) {m:Int} (hi:asI (aev e i)=some m) {n:Nat} {f:Nat->List DVal} (hx:Q9o.asF (aev e x)=some (n,f)) (hf:(f m.toNat).length=te.size) {c:Prop} (hc:0<=m/\m<n) :
  Snd P C nt R η e s a w o { v:=.v (.c (.elm (f m.toNat))),cond:=c }:=by
 obtain ⟨B,A,E,p⟩:=hL t ti ht;obtain ⟨G,D,I,l⟩:=hL el te hte
 have g:=p.kind;rw [hk] at g
 simp only [KOk] at g;subst g
 obtain ⟨k,z⟩:=Y0Q h hi;obtain ⟨F,y,u,d⟩:=Y7y (W5 h x).1 hx
 rw [u] at d
 cases d with
 | nil=>omega
 | lst b off _ _ c' e' fz _ es h1 h2 h3 h4 h5 h6=>
  have r:es=te.size:=by rw [<-h5 m.toNat (by omega),hf]
  subst r;have q:m.toNat*te.size+te.size<=n*te.size:=by
   have:(m.toNat+1)*te.size<=n*te.size:=Nat.mul_le_mul_right _ (by omega)
   rwa [Nat.add_mul,Nat.one_mul] at this
  refine G6 h hd (v:=.pointer (some ⟨b,off+m.toNat*te.size,none⟩)) ?_ (.v _ _ (.c _ _ (.elm b _ c' e' fz _ h1 h2 (by rw [hf];omega) fun j H=>?_))) (by simp [AVal.refs,TV.refs,CV.refs])
  ·simp [execOp,hop,Instr.indexAt,z,u,asIntOf,run_underlying p.und,hc,G3 l,add_lit]
  ·have:=h6 m.toNat j (by omega) (by omega)
   rwa [<-Nat.add_assoc] at this
theorem Y4C (hL:LOk P L) (h:Conc C nt R η e s a w) {o:Oper} (hd:∀ x,o.dst=some x->x<nt) {t:TypeId} {x i:Operand} (hop:o.op=.indexAddr t x i) {ti:TI} (ht:L t=some ti) {el:Nat} (hk:ti.kind=.slice el)
  {te:TI} (hte:L el=some te) {m:Int} (hi:asI (aev e i)=some m) {id:Nat} (hx:aev e x=.v (.c (.own id))) {n:Nat} {f:Nat->List DVal} (hs:s id=some (.arr te.size n f)) {c:Prop} (hc:0<=m/\m<n) :
  Snd P C nt R η e s a w o { v:=.v (.c (.pte id te.size m.toNat 0)),cond:=c }:=by
 obtain ⟨F,B,E,p⟩:=hL t ti ht;obtain ⟨G,D,H,l⟩:=hL el te hte
 have d:=p.kind;rw [hk] at d
 simp only [KOk] at d;subst d
 obtain ⟨k,z⟩:=Y0Q h hi;obtain ⟨r,q⟩:=W5 h x
 rw [hx] at r q;have y:=Q6R r
 have g:=h.st id _ hs;generalize hu:η id=u at g y
 cases g with
 | nil=>omega
 | arr b _ cap _ c' e' _ hb hsz hn hm hc0 hl hel=>
  refine G6 h hd (v:=.pointer (some ⟨b,m.toNat*te.size+0,none⟩)) ?_ (.v _ _ (.c _ _ (.pte b n cap _ _ _ _ hu))) (fun j A=>q j (by simpa [AVal.refs,TV.refs,CV.refs] using A));simp [execOp,hop,Instr.indexAt,z,y,asIntOf,run_underlying p.und,hc,G3 l,add_lit]
theorem Y4D (hL:LOk P L) (h:Conc C nt R η e s a w) {o:Oper} (hd:∀ x,o.dst=some x->x<nt) {t:TypeId} {x i:Operand} (hop:o.op=.indexAddr t x i) {ti:TI} (ht:L t=some ti) {n el:Nat} (hk:ti.kind=.array n el)
  {te:TI} (hte:L el=some te) {m:Int} (hi:asI (aev e i)=some m) {id off:Nat} (hx:aev e x=.v (.c (.ptr id off))) (hc:0<=m/\m<n) :
  Snd P C nt R η e s a w o { v:=.v (.c (.ptr id (off+m.toNat*te.size))) }:=by
 obtain ⟨D,z,B,g⟩:=hL t ti ht;obtain ⟨E,A,F,f⟩:=hL el te hte
 have d:=g.kind;rw [hk] at d
 simp only [KOk] at d;subst d
 obtain ⟨k,y⟩:=Y0Q h hi;obtain ⟨p,l⟩:=W5 h x
 rw [hx] at p l;obtain ⟨b,r,q⟩:=Z9q p
 refine G6 h hd (v:=.pointer (some ⟨b,off+m.toNat*te.size,none⟩)) ?_ (Y4H _ q) (fun j u=>l j (by simpa [AVal.refs,TV.refs,CV.refs] using u));simp [execOp,hop,Instr.indexAt,y,r,asIntOf,run_underlying g.und,hc,G3 f,add_lit,Instr.sureAddr]
end
end
section
section
variable {P:Program} {L:Lay} {C:Ctx} {nt:Nat} {R:Nat->Prop} {η:Nat->Value} {e:Env} {s:Sto} {a:Act} {w:World}
theorem Y4Q {α β:Type} {f:α->β} {l:List α} {u v:β} (h:l.map f=[u,v]):∃ x y,l=[x,y]/\f x=u/\f y=v:=by
 match l,h with
 | [],h=>simp at h
 | [_],h=>simp at h
 | [x,y],h=>simp at h;exact ⟨x,y,rfl,h.1,h.2⟩
 | _::_::_::_,h=>simp at h
theorem Y8v (hL:LOk P L) (h:Conc C nt R η e s a w) (m:Bool) (o:Oper) (hd:∀ x,o.dst=some x->x<nt) {r:SR} (hr:Q9o L m e s o=some r) (hc:r.cond) (hR:∀ d,o.dst=some d->r.new≠none->¬ R d)
  (hst:∀ t x y,o.op=.store t x y->o.dst=none):Snd P C nt R η e s a w o r:=by
 unfold Q9o at hr;split at hr
 ·
  rename_i x p
  cases hr
  exact Y5z h hd (.inl p)
 ·
  rename_i x p
  split at hr
  ·cases hr
   exact Y5z h hd (.inr p)
  ·rename_i f d G A
   split at hr
   ·rename_i el V H zz F
    split at hr
    ·rename_i te D
     cases hr
     have N:=(W5 h x).1;rw [G] at N
     have e8:∃ ad,a.eval x=.slice ad 0 0:=by
      generalize a.eval x=u at N
      cases N with|v _ _ N=>cases N with|c _ _ N=>cases N with|fl ad _ _ N=>exact ⟨ad,rfl⟩
     obtain ⟨ad,ex⟩:=e8;exact Q2O h A (hd d A) (hR d A (by simp)) (del:=[]) (v:=.slice ad 0 0) (Z:=fun _=>False) (by simp [execOp,p,ex]) (Stp.refl _ _) rfl (fun b I=>I.elim) (fun i hi=>by cases hi) (fun b I=>by cases ad <;> simp [Y8] at I) (fun X' _=>.nil _ _ _)
    ·cases hr
   ·cases hr
  ·cases hr
 ·
  rename_i c x y p
  split at hr
  ·rename_i I;cases hr;exact Y5x h hd p I
  ·rename_i I;cases hr;exact Y5x h hd p I
  ·cases hr
 ·
  rename_i t p
  split at hr
  ·rename_i ti d F A
   cases hr
   exact Y8E hL h A (hd d A) (hR d A (by simp)) p F
  ·cases hr
 ·
  rename_i t x p
  split at hr
  ·rename_i xs d G A
   cases hr
   exact W1r h A (hd d A) (hR d A (by simp)) p G
  ·cases hr
 ·
  rename_i t ps p
  split at hr
  ·rename_i fs V H z F
   split at hr
   ·rename_i pl h5
    split at hr
    ·rename_i cs O
     cases hr
     exact Y3V hL h hd p F (.inl ⟨fs,pl,rfl,h5,rfl⟩) O
    ·cases hr
   ·cases hr
  ·rename_i n el V H z F
   split at hr
   ·rename_i te D
    split at hr
    ·rename_i cs O
     cases hr
     exact Y3V hL h hd p F (.inr ⟨n,el,te,rfl,D,rfl⟩) O
    ·cases hr
   ·cases hr
  ·cases hr
 ·
  rename_i t i9 ps p
  split at hr
  ·rename_i el V H z F
   split at hr
   ·rename_i te D
    split at hr
    ·rename_i b7
     split at hr
     ·rename_i cs O
      split at hr
      ·rename_i ds j5
       obtain ⟨B,K⟩:=Y2i hL h hd p F rfl D b7.1 b7.2.1 O j5;split at hr
       ·cases hr;exact B
       ·rename_i d A
        cases hr
        exact K d A (hR d A (by simp)) b7.2.2
       ·cases hr
      ·cases hr
     ·cases hr
    ·cases hr
   ·cases hr
  ·cases hr
 ·
  rename_i t x p
  split at hr
  ·rename_i ti F
   split at hr
   ·rename_i cs c h9
    split at hr
    ·rename_i v N
     cases hr
     exact Y9z hL h hd p F h9 N hc
    ·cases hr
   ·cases hr
  ·cases hr
 ·
  rename_i t x y p
  split at hr
  ·rename_i ti xs F hy
   split at hr
   ·rename_i h7
    exact Y8C hL h (hst t x y p) p F hy h7 hr hc
   ·cases hr
  ·cases hr
 ·
  rename_i x p
  obtain ⟨B,K⟩:=W5 h x;split at hr
  ·rename_i id a4 e1
   cases hr
   rw [e1] at B K;obtain ⟨b,W,d0⟩:=Z9q B
   exact G6 h hd (v:=a.eval x) (by simp [execOp,p,W]) B K
  ·rename_i id es m1 a4 e1
   cases hr
   rw [e1] at B K;obtain ⟨b,n,J,W,d0⟩:=Y4I B
   exact G6 h hd (v:=a.eval x) (by simp [execOp,p,W]) B K
  ·rename_i cs e1
   cases hr
   rw [e1] at B K;obtain ⟨b,a4,c,e',fz,W,_⟩:=Y8l B
   exact G6 h hd (v:=a.eval x) (by simp [execOp,p,W]) B K
  ·cases hr
 ·
  rename_i op t x y t' p
  exact W1s h hd p hr hc
 ·
  rename_i op t x p
  exact W2J h hd p hr hc
 ·
  rename_i l7 dst x p
  split at hr
  ·rename_i k0 s1 b1 z1 k s2 b2 z2 k1 n d5 c6 G
   cases hr
   obtain ⟨i1,d1,i6,U⟩:=hL _ _ d5;obtain ⟨i2,d2,g9,S⟩:=hL _ _ c6
   have b6:=U.kind;have b5:=S.kind
   simp only [KOk] at b6 b5;subst b6;subst b5
   have B:=(W5 h x).1;rw [G] at B
   have ex:=Q5R B;obtain ⟨g1,_⟩:=Z7h m k n _ hc
   refine Y1H h hd g1 hc ?_;simp [execOp,p,convert,run_underlying U.und,run_underlying S.und,ex,Conv.intToInt]
  ·rename_i s1 b1 z1 s2 b2 z2 b d5 c6 G
   cases hr
   obtain ⟨i1,d1,i6,U⟩:=hL _ _ d5;obtain ⟨i2,d2,g9,S⟩:=hL _ _ c6
   have b6:=U.kind;have b5:=S.kind
   simp only [KOk] at b6 b5;subst b6;subst b5
   obtain ⟨B,K⟩:=W5 h x;rw [G] at B
   have ex:=Z4k B;refine G6 h hd (v:=.string b) ?_ (by rw [ex] at B;exact B) (by simp [AVal.refs,TV.refs,CV.refs])
   simp [execOp,p,convert,run_underlying U.und,run_underlying S.und,ex]
  ·cases hr
 ·
  rename_i f d3 f3 p
  split at hr
  ·rename_i j3
   split at hr
   ·rename_i j0 e9
    cases hr
    obtain ⟨g1,g2⟩:=Y9c h _ _ e9;have j7:d3=#[]:=by simpa using j3
    subst j7;refine G6 h hd (v:=.func (.func f) #[] (f3.map a.eval)) (by simp [execOp,p,Instr.makeFunc]) (.v _ _ (.c _ _ (.clo f j0 _ ?_))) (fun j hj=>g2 j (by simpa [AVal.refs,TV.refs,CV.refs] using hj))
    rw [<-g1];exact Array.ext' (by simp)
   ·cases hr
  ·cases hr
 ·
  rename_i t x lo hi p
  split at hr
  ·rename_i el V H z F
   split at hr
   ·rename_i te D
    split at hr
    ·rename_i y l u hl hu
     split at hr
     ·rename_i n f G
      cases hr
      exact Y8D hL h hd p F rfl D hl hu G hc.1 hc.2
     ·cases hr
    ·rename_i id u G hl hu
     split at hr
     ·rename_i es n f d hs A
      cases hr
      obtain ⟨i1,d1,z1,Q⟩:=hL _ _ F;obtain ⟨i2,d2,z2,b4⟩:=hL _ _ D
      have Y:=Q.kind;simp only [KOk] at Y
      subst Y;have B:=(W5 h x).1
      rw [G] at B;have ex:=Q6R B
      have a3:=h.st id _ hs;have d8:0<=u/\u<=n:=hc
      have hn:∃ E J,η id=.slice E n J/\n<=J:=by
       generalize η id=v at a3
       cases a3 with
       | nil=>exact ⟨_,_,rfl,Nat.le_refl _⟩
       | arr b _ J _ c' e' _ _ _ hn _ _ _ _=>exact ⟨_,_,rfl,hn⟩
      obtain ⟨E,J,c7,hn⟩:=hn;obtain ⟨I,g1,g2,g3,g4⟩:=Z5I (P:=P) h hl hu n J hn f (by simpa [sl] using d8)
      simp only [Option.getD_none,Option.getD_some,Int.toNat_zero] at I g1 g2;have f4:E.map (fun x:Addr=>x.add 0)=E:=by cases E <;> simp [Addr.add]
      have d7:(execOp a.eval o).run P w=.ok (.value (.slice E u.toNat J)) w:=by
       have d6:(if J=0 then E else E.map (fun x:Addr=>x.add 0))=E:=by rw [f4];split <;> rfl
       simp only [execOp,p,Sem.run_bind,Instr.sliceAt,run_underlying Q.und,Result.andThen_ok,Instr.slice,ex,c7,Option.map_none,I,G3 b4,Sem.run_pure,Nat.zero_mul,Nat.sub_zero];rw [d6]
      have j6:Y8 (.slice E u.toNat J)=Y8 (.slice E n J):=by cases E <;> rfl
      refine Q2O h A (hd d A) (hR d A (by simp)) (Z:=fun _=>False) d7 (Stp.refl _ _) rfl (fun b I=>I.elim) (fun i' f5 o' e4=>by simp at f5;subst f5;rw [hs] at e4;cases e4;rfl)
       (fun b I=>.inr ⟨id,by simp,by rw [hs];simp,by rw [c7, <-j6];exact I⟩) fun X' c9=>?_
      rw [c7] at a3;have:=a3.mono (η':=SR.eta { v:=.v (.c (.own d)),del:=[id],new:=some (.arr es u.toNat f),cond:=0<=u/\u<=n } o.dst (.slice E u.toNat J) η) c9 (by simp [Obj.refs]) (fun _ _=>rfl)
      cases this with
      | nil=>
       have h0:u.toNat=0:=by omega
       rw [h0];exact .nil _ _ _
      | arr b _ _ _ c' e' _ q1 q2 q3 q4 q5 q6 q7=>
       exact .arr b u.toNat J _ c' e' _ q1 q2 (by omega) q4 q5 (fun i hi=>q6 i (by omega)) fun i j hi hj=>q7 i j (by omega) hj
     ·cases hr
    ·cases hr
   ·cases hr
  ·cases hr
 ·
  rename_i t x G mx p
  split at hr
  ·rename_i el V H z F
   split at hr
   ·rename_i te n f u u' D j9 hu hm
    split at hr
    ·rename_i i0
     obtain ⟨rfl,h0⟩:=i0;cases hr
     exact Y6J hL h hd p F rfl D hu hm h0 j9 hc.1 hc.2
    ·cases hr
   ·cases hr
  ·cases hr
 ·
  rename_i t x k p
  split at hr
  ·rename_i fs V H z F
   split at hr
   ·rename_i a4 ft O
    split at hr
    ·rename_i tf d9
     split at hr
     ·cases hr
     ·rename_i hz
      have f2:∃ v,r={ v:=v }:=by
       split at hr
       ·cases hr;exact ⟨_,rfl⟩
       ·cases hr;exact ⟨_,rfl⟩
       ·split at hr
        ·cases hr;exact ⟨_,rfl⟩
        ·cases hr
       ·cases hr
      obtain ⟨v,rfl⟩:=f2;obtain ⟨g1,g2,g3⟩:=Y2X h hr
      exact Y3x hL h hd p F rfl O d9 hz g1 g2 g3
    ·cases hr
   ·cases hr
  ·cases hr
 ·
  rename_i t x k p
  split at hr
  ·rename_i fs V H z F
   split at hr
   ·rename_i a4 ft cs O G
    split at hr
    ·rename_i tf d9
     split at hr
     ·rename_i b7
      split at hr
      ·rename_i v N
       cases hr
       obtain ⟨i1,d1,z1,Q⟩:=hL _ _ F;have Y:=Q.kind
       obtain ⟨a2,rfl,i7⟩:=Y;have g6 : ∃ f,a2[k]?=some f/\f.offset=a4/\f.type=ft:=by
        rw [<-i7,List.getElem?_map] at O
        cases a9:a2.toList[k]? with
        | none=>rw [a9] at O;cases O
        | some f=>rw [a9] at O;simp at O;exact ⟨f,by simpa using a9,O.1,O.2⟩
       obtain ⟨f,a9,rfl,rfl⟩:=g6;obtain ⟨B,K⟩:=W5 h x
       rw [G] at B K;have b0:∃ vs,a.eval x=.agg vs/\y4 w (XS C s η) η C vs cs:=by
        generalize a.eval x=u at B
        cases B with|v _ _ B=>cases B with|g vs _ B=>exact ⟨vs,rfl,B⟩
       obtain ⟨vs,ex,d4⟩:=b0;obtain ⟨u,g1,g2,g3⟩:=Y7Q (P:=P) hL d4 d9 b7 N
       refine G6 h hd (v:=u) ?_ g2 (fun j hj=>K j (by simpa [AVal.refs,TV.refs] using g3 j hj));simp only [execOp,p,Sem.run_bind,Instr.field,run_underlying Q.und,Result.andThen_ok,a9,ex,asAgg,Sem.run_pure,g1]
      ·cases hr
     ·cases hr
    ·cases hr
   ·cases hr
  ·cases hr
 ·
  rename_i t x i p
  split at hr
  ·rename_i el V H z m' F hi
   split at hr
   ·rename_i te D
    split at hr
    ·rename_i id G
     split at hr
     ·rename_i es n f hs
      split at hr
      ·rename_i j1
       subst j1;cases hr
       exact Y4C hL h hd p F rfl D hi G hs hc
      ·cases hr
     ·cases hr
    ·split at hr
     ·rename_i n f G
      split at hr
      ·rename_i O
       cases hr
       exact Y1j hL h hd p F rfl D hi G O hc
      ·cases hr
     ·cases hr
   ·cases hr
  ·rename_i n el V H z m' F hi
   split at hr
   ·rename_i te id a4 D G
    split at hr
    ·rename_i I
     cases hr
     exact Y4D hL h hd p F rfl D hi G I
    ·cases hr
   ·cases hr
  ·cases hr
 ·
  rename_i t x i p
  split at hr
  ·rename_i n el V H z m' cs F hi G
   split at hr
   ·rename_i te D
    split at hr
    ·rename_i I
     obtain ⟨W,d0,i4⟩:=I;split at hr
     ·rename_i v N
      cases hr
      obtain ⟨i1,d1,z1,Q⟩:=hL _ _ F;obtain ⟨i2,d2,z2,b4⟩:=hL _ _ D
      have Y:=Q.kind;simp only [KOk] at Y
      subst Y;obtain ⟨k,ei⟩:=Y0Q h hi
      obtain ⟨B,K⟩:=W5 h x;rw [G] at B K
      have b0:∃ vs,a.eval x=.agg vs/\y4 w (XS C s η) η C vs cs:=by
       generalize a.eval x=u at B
       cases B with|v _ _ B=>cases B with|g vs _ B=>exact ⟨vs,rfl,B⟩
      obtain ⟨vs,ex,d4⟩:=b0;obtain ⟨u,g1,g2,g3⟩:=Y7Q (P:=P) hL d4 D i4 N
      refine G6 h hd (v:=u) ?_ g2 (fun j hj=>K j (by simpa [AVal.refs,TV.refs] using g3 j hj));simp [execOp,p,Instr.index,ei,ex,asIntOf,run_underlying Q.und,W,d0,G3 b4,g1]
     ·cases hr
    ·cases hr
   ·cases hr
  ·cases hr
 ·
  rename_i t l c p
  split at hr
  ·rename_i el V H z n n' d F hl d8 A
   split at hr
   ·rename_i te D
    split at hr
    ·rename_i zd hz
     split at hr
     ·rename_i I
      cases hr
      exact Y3w hL h A (hd d A) (hR d A (by simp)) p F rfl D hl d8 I.1 I.2.1 I.2.2 hz hc
     ·cases hr
    ·cases hr
   ·cases hr
  ·cases hr
 ·
  rename_i x k p
  split at hr
  ·rename_i xs G
   split at hr
   ·rename_i v N
    cases hr
    obtain ⟨B,K⟩:=W5 h x;rw [G] at B K
    have b0:∃ us,a.eval x=.tuple us/\us.size=xs.length/\∀ j,j<xs.length->TRep w (XS C s η) η C (us.getD j undef) (xs.getD j (.c (.d .any))):=by
     generalize a.eval x=u at B
     cases B with|t us _ g1 g2=>exact ⟨us,rfl,g1,g2⟩
    obtain ⟨us,ex,g1,g2⟩:=b0;have hk:k<xs.length:=by
     rcases Nat.lt_or_ge k xs.length with h3|h3
     ·exact h3
     ·rw [List.getElem?_eq_none h3] at N;cases N
    have i3 : k<us.size:=by omega
    have h3:=g2 k hk;have h6 : xs.getD k (.c (.d .any))=v:=by rw [List.getD_eq_getElem?_getD,N];rfl
    rw [h6] at h3;refine G6 h hd (v:=us.getD k undef) ?_ (.v _ _ h3) (fun j hj=>K j ?_)
    ·simp [execOp,p,Instr.extract,ex,i3]
    ·exact List.mem_flatMap.2 ⟨v,List.mem_of_getElem? N,hj⟩
   ·cases hr
  ·cases hr
 ·
  rename_i b T e7 p
  split at hr
  ·rename_i r' d q
   unfold Z0g at q;split at q
   ·
    rename_i y M
    obtain ⟨x,hargs,hy⟩:∃ x,T=#[x]/\y=aev e x:=by
     match hl:T.toList,M with
     | [x],M=>simp at M;exact ⟨x,Array.ext' hl,M.symm⟩
    subst hargs;subst hy
    split at q
    ·rename_i t b9
     have c8:e7=#[t]:=Array.ext' b9;subst c8
     split at q
     ·rename_i el V H z F
      split at q
      ·rename_i n f G
       cases q
       simp only at hr;cases hr
       exact W1q hL h hd p F rfl G
      ·cases q
     ·rename_i n el V H z F
      cases q
      simp only at hr;cases hr
      exact Y6M hL h hd p F rfl
     ·rename_i V H z F
      split at q
      ·rename_i bb G
       cases q
       simp only at hr;cases hr
       exact Y6L hL h hd p F rfl G
      ·cases q
     ·cases q
    ·cases q
   ·
    rename_i k n k' n' M
    obtain ⟨x,y,hargs,G,hy⟩:∃ x y,T=#[x,y]/\aev e x=.v (.c (.d (.int k n)))/\aev e y=.v (.c (.d (.int k' n'))):=by
     obtain ⟨x,y,hl,B,K⟩:=Y4Q M;exact ⟨x,y,Array.ext' hl,B,K⟩
    subst hargs;cases q
    simp only at hr;cases hr
    exact Y2h h hd p G hy (.inl ⟨rfl,rfl⟩)
   ·
    rename_i k n k' n' M
    obtain ⟨x,y,hargs,G,hy⟩:∃ x y,T=#[x,y]/\aev e x=.v (.c (.d (.int k n)))/\aev e y=.v (.c (.d (.int k' n'))):=by
     obtain ⟨x,y,hl,B,K⟩:=Y4Q M;exact ⟨x,y,Array.ext' hl,B,K⟩
    subst hargs;cases q
    simp only at hr;cases hr
    exact Y2h h hd p G hy (.inr ⟨rfl,rfl⟩)
   ·
    rename_i u1 u2 M
    obtain ⟨x,y,hargs,G,hy⟩:∃ x y,T=#[x,y]/\aev e x=u1/\aev e y=u2:=by
     obtain ⟨x,y,hl,B,K⟩:=Y4Q M;exact ⟨x,y,Array.ext' hl,B,K⟩
    subst hargs;subst G;subst hy
    split at q
    ·rename_i t t' b9
     split at q
     ·rename_i e5
      subst e5;have c8:e7=#[t,t]:=Array.ext' b9
      subst c8;split at q
      ·rename_i el V H z F
       split at q
       ·rename_i te D
        split at q
        ·rename_i k g hy
         split at q
         ·rename_i del n f c G
          split at q
          ·rename_i I
           cases q
           simp only at hr;split at hr
           ·rename_i dd k6 A
            cases hr
            exact Z8h hL h A (hd _ A) (hR _ A (by simp)) p F rfl D hy G hc.2.2 I.2.1 I.2.2 hc.1 hc.2.1
           ·cases hr
           ·cases ‹some _=none›
          ·cases q
         ·cases q
        ·cases q
       ·cases q
      ·cases q
     ·cases q
    ·cases q
   ·cases q
  ·cases hr
 ·cases hr
end
end
section
def Z0p (d:Option Tmp) (v:AVal) (e:Env):Env:=
 match d with
 | some d=>fun t=>if t=d then v else e t
 | none=>e
def upS (l:List (Nat×Option Obj)) (s:Sto):Sto:=fun i=>
 match l.lookup i with
 | some o=>o
 | none=>s i
structure Eff where
 rd:List Nat
 ids:List Nat
 v:AVal
 l:List (Nat×Option Obj)
 news:List Nat
section
variable (P:Program) (C:Ctx) (nt:Nat) (ops:Array Oper)
def StT (o:Oper) (f:Eff) (e:Env) (s:Sto):Prop:=
 ∀ R η e0 s0 a w,(∀ t ∈ f.rd,e0 t=e t)->(∀ i ∈ f.ids,s0 i=s i)->(∀ n ∈ f.news,¬ R n)->Conc C nt R η e0 s0 a w ->
  ∀ (K:Act->World->Prop) (Q:Exit->Act->World->Prop),(∀ η' a' w',Conc C nt (fun i=>R i\/i ∈ f.news) η' (Z0p o.dst f.v e0) (upS f.l s0) a' w' -> K a' w') ->
   if Region.wanted o (yielded ops a.tmps) then o.wp P a w K Q else K (a.put o.dst undef) w
def Y3r:List Oper->List Eff->Env->Sto->Prop
 | [],[],_,_=>True
 | o::os,f::fs,e,s=>StT P C nt ops o f e s/\Y3r os fs (Z0p o.dst f.v e) (upS f.l s)
 | _,_,_,_=>False
end
def Z3n:List Oper->List Eff->Env->Env
 | o::os,f::fs,e=>Z3n os fs (Z0p o.dst f.v e)
 | _,_,e=>e
def Z3m:List Eff->Sto->Sto
 | f::fs,s=>Z3m fs (upS f.l s)
 | _,s=>s
def Q5t (fs:List Eff):List Nat:=fs.flatMap (·.news)
theorem Conc.wider {C:Ctx} {nt:Nat} {R R' : Nat->Prop} {η:Nat->Value} {e:Env} {s:Sto} {a:Act} {w:World} (h:Conc C nt R η e s a w) (hR:∀ i,R i->R' i):Conc C nt R' η e s a w:=
 ⟨h.ok,h.df,h.sz,h.ev,fun t i b=>hR i (h.er t i b),h.st,fun i o c=>⟨hR i (h.sr i o c).1,fun j d=>hR j ((h.sr i o c).2 j d)⟩,h.ds,h.ow,h.fr,fun i v b=>⟨(h.pn i v b).1,hR i (h.pn i v b).2⟩⟩
section
variable {P:Program} {C:Ctx} {nt:Nat} {ops:Array Oper}
theorem Y6O {Q:Exit->Act->World->Prop}:∀ (os:List Oper) (fs:List Eff) (R:Nat->Prop) (η:Nat->Value) (e:Env) (s:Sto) (a:Act) (w:World),Y3r P C nt ops os fs e s->(Q5t fs).Nodup->(∀ n ∈ Q5t fs,¬ R n)->Conc C nt R η e s a w ->
  (∀ η' a' w',Conc C nt (fun i=>R i\/i ∈ Q5t fs) η' (Z3n os fs e) (Z3m fs s) a' w' -> Q .normal a' w')->wpList P ops Q os a w:=by
 intro os
 induction os with
 | nil=>
  intro fs R η e s a w k _ _ m j
  cases fs with
  | nil=>exact j η a w (m.wider fun i b=>.inl b)
  | cons f fs=>exact k.elim
 | cons o os ih=>
  intro fs R η e s a w k d g m j
  cases fs with
  | nil=>exact k.elim
  | cons f fs=>
   obtain ⟨t,x⟩:=k;have c:Q5t (f::fs)=f.news++Q5t fs:=rfl
   rw [c] at d g j;have r:=t R η e s a w (fun _ _=>rfl) (fun _ _=>rfl) (fun n l=>g n (List.mem_append.2 (.inl l))) m
   refine wpList_step fun K v=>?_
   refine r K Q fun η' a' w' p=>v a' w' ?_
   refine ih fs _ η' _ _ a' w' x (List.nodup_append.1 d).2.1 (fun n l h=>?_) p fun z y u q=>j z y u (q.wider fun i b=>?_)
   ·rcases h with h|h
    ·exact g n (List.mem_append.2 (.inr l)) h
    ·exact (List.nodup_append.1 d).2.2 n h n l rfl
   ·rcases b with (b|b) | b
    ·exact .inl b
    ·exact .inr (List.mem_append.2 (.inl b))
    ·exact .inr (List.mem_append.2 (.inr b))
end
def Z8c (oi oj:Oper) (fi fj:Eff):Bool:=
 (match oi.dst with|some d=>fj.rd.contains d||oj.dst==some d|none=>false)||(match oj.dst with|some d=>fi.rd.contains d|none=>false) ||
 (fi.l.any fun p=>fj.ids.contains p.1||fj.l.any (·.1==p.1))||(fj.l.any fun p=>fi.ids.contains p.1)
def Z3H (acc:List Nat):List Edge->Nat
 | []=>0
 | e::r=>if Region.binds .any e then (2 ^ e.on ||| acc.getD e.on 0) ||| Z3H acc r else Z3H acc r
def Y0N:List Oper->List Eff->List Nat->List (Oper×Eff)->Bool
 | o::os,f::fs,acc,seen=>
  let m:=Z3H acc o.after.toList
  (o.after.toList.all fun e=> !Region.binds .any e||decide (e.on<acc.length)) &&
  (seen.zipIdx.all fun p=> !Z8c p.1.1 o p.1.2 f||m.testBit p.2)&&Y0N os fs (acc++[m]) (seen++[(o,f)])
 | [],[],_,_=>true
 | _,_,_,_=>false
def W2v (ops:List Oper) (fs:List Eff):Bool:=Y0N ops fs [] []
inductive Anc (ops:List Oper):Nat->Nat->Prop
 | edge (j:Nat) (o:Oper) (e:Edge):ops[j]?=some o->e ∈ o.after.toList->Region.binds .any e=true->Anc ops e.on j
 | trans (i j k:Nat):Anc ops i j->Anc ops j k->Anc ops i k
theorem Y8O {ops:List Oper} {acc:List Nat} {j:Nat} {o:Oper} (ho:ops[j]?=some o) (hacc:∀ k i,(acc.getD k 0).testBit i=true->Anc ops i k):∀ (es:List Edge),(∀ e ∈ es,e ∈ o.after.toList)->∀ i,(Z3H acc es).testBit i=true->Anc ops i j:=by
 intro es
 induction es with
 | nil=>intro _ i c;simp [Z3H] at c
 | cons e r ih=>
  intro b i c;have g:=ih (fun l d=>b l (List.mem_cons_of_mem _ d))
  simp only [Z3H] at c;split at c
  ·rename_i h
   have f:Anc ops e.on j:=.edge j o e ho (b e List.mem_cons_self) h;rw [Nat.testBit_or,Nat.testBit_or] at c
   rcases (by simpa using c:((2 ^ e.on).testBit i=true\/(acc.getD e.on 0).testBit i=true)\/(Z3H acc r).testBit i=true) with (h1|h1) | h1
   ·rw [Nat.testBit_two_pow] at h1
    have:e.on=i:=by simpa using h1
    exact this ▸ f
   ·exact .trans _ _ _ (hacc _ _ h1) f
   ·exact g i h1
  ·exact g i c
theorem Y6k (ops:List Oper) (fs:List Eff):∀ (os:List Oper) (gs:List Eff) (acc:List Nat) (seen:List (Oper×Eff)),Y0N os gs acc seen=true ->
  acc.length=seen.length->ops=seen.map (·.1)++os->fs=seen.map (·.2)++gs->(∀ k i,(acc.getD k 0).testBit i=true->Anc ops i k) ->
  (∀ j o e,seen.length<=j->ops[j]?=some o->e ∈ o.after.toList->Region.binds .any e=true->e.on<j) /\
  (∀ i j oi oj fi fj,i<j->seen.length<=j->ops[i]?=some oi->ops[j]?=some oj->fs[i]?=some fi->fs[j]?=some fj->Z8c oi oj fi fj=true->Anc ops i j)/\os.length=gs.length:=by
 intro os
 induction os with
 | nil=>
  intro gs acc seen h D t z _
  cases gs with
  | cons g gs=>simp [Y0N] at h
  | nil=>
   refine ⟨fun j o e x b=>?_,fun i j oi oj fi fj n x _ b=>?_,rfl⟩
   ·rw [t,List.append_nil,List.getElem?_eq_none (by simpa using x)] at b;cases b
   ·rw [t,List.append_nil,List.getElem?_eq_none (by simpa using x)] at b;cases b
 | cons o os ih=>
  intro gs acc seen h D t z l
  cases gs with
  | nil=>simp [Y0N] at h
  | cons g gs=>
   simp only [Y0N,Bool.and_eq_true] at h;obtain ⟨⟨M,K⟩,I⟩:=h
   have q:ops[seen.length]?=some o:=by rw [t];simp
   have B:fs[seen.length]?=some g:=by rw [z];simp
   have c:∀ i,(Z3H acc o.after.toList).testBit i=true->Anc ops i seen.length:=Y8O q l _ (fun e y=>y);obtain ⟨F,J,G⟩:=ih gs (acc++[Z3H acc o.after.toList]) (seen++[(o,g)]) I (by simp [D]) (by simp [t]) (by simp [z]) (fun k i r=>by
    by_cases hk1:k<acc.length
    ·rw [show (acc++[Z3H acc o.after.toList]).getD k 0=acc.getD k 0 from by simp [List.getD_eq_getElem?_getD,List.getElem?_append,hk1]] at r
     exact l k i r
    ·by_cases hk2:k=acc.length
     ·subst hk2
      rw [show (acc++[Z3H acc o.after.toList]).getD acc.length 0=Z3H acc o.after.toList from by simp [List.getD_eq_getElem?_getD]] at r;rw [D];exact c i r
     ·rw [show (acc++[Z3H acc o.after.toList]).getD k 0=0 from by
       rw [List.getD_eq_getElem?_getD,List.getElem?_eq_none (by simp;omega)];rfl] at r
      simp at r)
   refine ⟨fun j H e x b y E=>?_,fun i j oi oj fi fj n x d b f p u=>?_,by simp [G]⟩
   ·by_cases hjs:j=seen.length
    ·subst hjs
     rw [q] at b;cases b
     have:=List.all_eq_true.1 M e y
     simp [E] at this
     omega
    ·exact F j H e (by simp;omega) b y E
   ·by_cases hjs:j=seen.length
    ·subst hjs
     rw [q] at b;cases b
     rw [B] at p;cases p
     have A:seen[i]?=some (oi,fi):=by
      have m:i<seen.length:=n;rw [t,List.getElem?_append_left (by simpa using m),List.getElem?_map] at d
      rw [z,List.getElem?_append_left (by simpa using m),List.getElem?_map] at f;rw [List.getElem?_eq_getElem m] at d f ⊢
      simp at d f
      rw [<-d, <-f]
     have v:((oi,fi),i) ∈ seen.zipIdx:=by
      rw [List.mem_zipIdx_iff_getElem?];simpa using A
     have:=List.all_eq_true.1 K _ v
     simp [u] at this
     exact c i this
    ·exact J i j oi oj fi fj n (by simp;omega) d b f p u
end
section
instance:Inhabited Eff:=⟨⟨[],[],.any,[],[]⟩⟩
section
variable (l:List Oper) (fs:List Eff)
def Z3T (i:Nat):Option Tmp:=(l[i]?).bind (·.dst)
def Q0H (i:Nat):Eff:=fs.getD i default
def hE (e0:Env):List Nat->Env
 | []=>e0
 | i::h=>Z0p (Z3T l i) (Q0H fs i).v (hE e0 h)
def hS (s0:Sto):List Nat->Sto
 | []=>s0
 | i::h=>upS (Q0H fs i).l (hS s0 h)
def wrE (t:Nat) (j:Nat):Bool:=Z3T l j==some t
def wrS (i:Nat) (j:Nat):Bool:=((Q0H fs j).l.lookup i).isSome
theorem Y7Y (e0:Env) (t:Nat):∀ h,hE l fs e0 h t=match h.find? (wrE l t) with|some j=>(Q0H fs j).v|none=>e0 t:=by
 intro h
 induction h with
 | nil=>rfl
 | cons i h ih=>
  simp only [hE,List.find?_cons,Z0p]
  cases hd:Z3T l i with
  | none=>simp [wrE,hd,ih]
  | some d=>
   by_cases hdt:t=d
   ·subst hdt;simp [wrE,hd]
   ·have:wrE l t i=false:=by simp [wrE,hd];exact fun b=>hdt b.symm
    simp [this,hdt,ih]
theorem Y7X (s0:Sto) (k:Nat):∀ h,hS fs s0 h k=match h.find? (wrS fs k) with|some j=>((Q0H fs j).l.lookup k).getD none|none=>s0 k:=by
 intro h
 induction h with
 | nil=>rfl
 | cons i h ih=>
  simp only [hS,List.find?_cons,upS]
  cases hl:(Q0H fs i).l.lookup k with
  | none=>simp [wrS,hl,ih]
  | some o=>simp [wrS,hl]
end
structure Hist (ops:List Oper) (h:List Nat):Prop where
 nd:h.Nodup
 ord:∀ l1 k l2,h=l1++k::l2->∀ i,Anc ops i k->i ∈ l2
theorem Hist.anc {ops:List Oper} {h:List Nat} (H:Hist ops h) {i k:Nat} (hk:k ∈ h) (ha:Anc ops i k):i ∈ h:=by
 obtain ⟨c,b,rfl⟩:=List.append_of_mem hk;exact List.mem_append.2 (.inr (List.mem_cons_of_mem _ (H.ord c k b rfl i ha)))
theorem Y2W {ops:List Oper} {h:List Nat} (H:Hist ops h) {p:Nat->Bool} {f g:Nat} (hf:h.find? p=some f) (hg:g ∈ h) (hp:p g=true) (ha:Anc ops f g):False:=by
 obtain ⟨_,k,m,rfl,i⟩:=List.find?_eq_some_iff_append.1 hf;have d:g ∈ m:=by
  rcases List.mem_append.1 hg with j|j
  ·have:=i g j;simp [hp] at this
  ·rcases List.mem_cons.1 j with b|b
   ·subst b
    have:=H.ord k g m rfl g ha
    exact this
   ·exact b
 obtain ⟨o,n,rfl⟩:=List.append_of_mem d;have:=H.ord (k++f::o) g n (by simp) f ha
 have c:=H.nd;rw [List.nodup_append] at c
 have b:=c.2.1;rw [List.nodup_cons] at b
 exact b.1 (by simp [this])
theorem Y8d {ops:List Oper} {h1 h2:List Nat} (H1:Hist ops h1) (H2:Hist ops h2) {p:Nat->Bool} (hord:∀ j k,j<k->k ∈ h1->k ∈ h2->j ∈ h1->p j=true->p k=true->Anc ops j k)
  (hset:∀ j,p j=true->(j ∈ h1↔j ∈ h2)):h1.find? p=h2.find? p:=by
 cases hf:h1.find? p with
 | none=>
  symm
  rw [List.find?_eq_none] at hf ⊢;intro x r q
  exact hf x ((hset x q).2 r) q
 | some f=>
  have c:p f=true:=List.find?_some hf;have n:f ∈ h1:=List.mem_of_find?_eq_some hf
  have b:=(hset f c).1 n
  cases hg:h2.find? p with
  | none=>rw [List.find?_eq_none] at hg;exact absurd c (hg f b)
  | some g=>
   have d:p g=true:=List.find?_some hg;have h:g ∈ h2:=List.mem_of_find?_eq_some hg
   have i:=(hset g d).2 h;rcases Nat.lt_trichotomy f g with m|o|m
   ·exact (Y2W H1 hf i d (hord f g m i h n c d)).elim
   ·rw [o]
   ·exact (Y2W H2 hg b c (hord g f m n b i d c)).elim
section
variable {P:Program} {C:Ctx} {nt:Nat} {ops:Array Oper} {fs:List Eff}
theorem W2Z {l:List Oper} (hb:∀ j o e,l[j]?=some o->e ∈ o.after.toList->Region.binds .any e=true->e.on<j) {i k:Nat} (h:Anc l i k):i<k:=by
 induction h with
 | edge j o e h1 h2 h3=>exact hb j o e h1 h2 h3
 | trans i j k _ _ ih1 ih2=>omega
theorem Z6O {l:List Oper} (hb:∀ j o e,l[j]?=some o->e ∈ o.after.toList->Region.binds .any e=true->e.on<j) (n:Nat):Hist l (List.range n).reverse:=by
 refine ⟨by unfold List.Nodup;rw [List.pairwise_reverse];exact (List.nodup_range (n:=n)).imp (fun h=>Ne.symm h),?_⟩
 induction n with
 | zero=>intro b k c h;simp at h
 | succ n ih=>
  intro b k c h i d;rw [List.range_succ,List.reverse_append,List.reverse_singleton,List.singleton_append] at h
  cases b with
  | nil=>
   simp only [List.nil_append,List.cons.injEq] at h;obtain ⟨rfl,rfl⟩:=h
   have:=W2Z hb d
   simp;exact this
  | cons x b=>
   simp only [List.cons_append,List.cons.injEq] at h;exact ih b k c h.2 i d
theorem Y4M {fs:List Eff} (hnd:(Q5t fs).Nodup) {i j:Nat} (hij:i≠j) {x:Nat} (hi:x ∈ (Q0H fs i).news) (hj:x ∈ (Q0H fs j).news):False:=by
 induction fs generalizing i j with
 | nil=>simp [Q0H,default] at hi
 | cons f r ih=>
  have d:Q5t (f::r)=f.news++Q5t r:=rfl;rw [d,List.nodup_append] at hnd
  have b:∀ k,x ∈ (Q0H r k).news->x ∈ Q5t r:=by
   intro k c
   by_cases hkl:k<r.length
   ·exact List.mem_flatMap.2 ⟨_,Q0F hkl,c⟩
   ·have:Q0H r k=default:=by unfold Q0H;rw [List.getD_eq_getElem?_getD,List.getElem?_eq_none (by omega)];rfl
    rw [this] at c;cases c
  cases i with
  | zero=>
   cases j with
   | zero=>exact hij rfl
   | succ j=>exact hnd.2.2 x hi x (b j hj) rfl
  | succ i=>
   cases j with
   | zero=>exact hnd.2.2 x hj x (b i hi) rfl
   | succ j=>exact ih hnd.2.1 (by omega) hi hj
theorem Y3c {fs:List Eff} {k x:Nat} (hx:x ∈ (Q0H fs k).news):x ∈ Q5t fs:=by
 by_cases hk:k<fs.length
 ·exact List.mem_flatMap.2 ⟨_,Q0F hk,hx⟩
 ·have:Q0H fs k=default:=by unfold Q0H;rw [List.getD_eq_getElem?_getD,List.getElem?_eq_none (by omega)];rfl
  rw [this] at hx;cases hx
theorem Y8F:∀ (os:List Oper) (gs:List Eff) (l:List Oper) (fs:List Eff) (k:Nat) (e0:Env) (s0:Sto),(∀ j,os[j]?=l[k+j]?)->(∀ j,j<gs.length->gs[j]?=fs[k+j]?)->os.length=gs.length ->
  Y3r P C nt ops os gs (hE l fs e0 (List.range k).reverse) (hS fs s0 (List.range k).reverse) ->
  (∀ j o,os[j]?=some o->StT P C nt ops o (Q0H fs (k+j)) (hE l fs e0 (List.range (k+j)).reverse) (hS fs s0 (List.range (k+j)).reverse)) /\
  Z3n os gs (hE l fs e0 (List.range k).reverse)=hE l fs e0 (List.range (k+os.length)).reverse/\Z3m gs (hS fs s0 (List.range k).reverse)=hS fs s0 (List.range (k+os.length)).reverse:=by
 intro os
 induction os with
 | nil=>
  intro gs l fs k e0 s0 _ _ f _
  cases gs with
  | nil=>exact ⟨fun j o h=>by simp at h,rfl,rfl⟩
  | cons g gs=>simp at f
 | cons o os ih=>
  intro gs l fs k e0 s0 p q f y
  cases gs with
  | nil=>simp at f
  | cons g gs=>
   obtain ⟨z,x⟩:=y;have t:Z3T l k=o.dst:=by
    have:=p 0;simp at this;simp [Z3T, <-this]
   have i:Q0H fs k=g:=by
    have:=q 0 (by simp);simp at this;simp [Q0H,List.getD_eq_getElem?_getD, <-this]
   have c:hE l fs e0 (List.range (k+1)).reverse=Z0p o.dst g.v (hE l fs e0 (List.range k).reverse):=by
    rw [List.range_succ,List.reverse_append,List.reverse_singleton,List.singleton_append];simp only [hE,t,i]
   have b:hS fs s0 (List.range (k+1)).reverse=upS g.l (hS fs s0 (List.range k).reverse):=by
    rw [List.range_succ,List.reverse_append,List.reverse_singleton,List.singleton_append];simp only [hS,i]
   obtain ⟨u,n,m⟩:=ih gs l fs (k+1) e0 s0 (fun j=>by have:=p (j+1);simp at this;rw [this];congr 1;omega) (fun j d=>by have:=q (j+1) (by simpa using d);simp at this;rw [this];congr 1;omega) (by simpa using f)
    (by rw [c,b];exact x)
   refine ⟨fun j r d=>?_,?_,?_⟩
   ·cases j with
    | zero=>simp at d;subst d;rw [Nat.add_zero,i];exact z
    | succ j=>have:=u j r (by simpa using d);rwa [show k+1+j=k+(j+1) from by omega] at this
   ·rw [c] at n
    simp only [Z3n];rw [n];congr 3;simp;omega
   ·rw [b] at m
    simp only [Z3m];rw [m];congr 3;simp;omega
theorem Y9O:∀ (n:Nat) (l:List Nat),l.Nodup->(∀ x ∈ l,x<n)->l.length<=n:=by
 intro n
 induction n with
 | zero=>intro l _ h;cases l with
  | nil=>simp
  | cons x r=>exact absurd (h x List.mem_cons_self) (by omega)
 | succ n ih=>
  intro l c h
  by_cases hn:n ∈ l
  ·have f:=ih (l.erase n) (c.erase n) (fun x b=>by
    have d:=(c.mem_erase_iff).1 b;have:=h x d.2
    omega)
   rw [List.length_erase_of_mem hn] at f;omega
  ·have:=ih l c (fun x b=>by have:=h x b;have:x≠n:=fun e=>hn (e ▸ b);omega)
   omega
theorem Y7b {listed:Array Bool} {h:List Nat} {n:Nat} (hsz:listed.size=n) (hl:∀ i,i<n->(listed.getD i false=true↔i ∈ h)) (hb:∀ i ∈ h,i<n) (i:Nat):listed.getD i false=true↔i ∈ h:=by
 by_cases hi:i<n
 ·exact hl i hi
 ·constructor
  ·intro b;rw [show listed.getD i false=false from by simp [Array.getD,hsz,hi]] at b;cases b
  ·intro b;exact absurd (hb i b) hi
theorem Y0p {ops:Array Oper} {listed:Array Bool} (hsz:listed.size=ops.size) (i:Nat):i ∈ Region.ready .any ops listed↔∃ o,ops[i]?=some o/\listed.getD i false=false/\∀ e ∈ o.after.toList,Region.binds .any e=true->listed.getD e.on false=true:=by
 unfold Region.ready;rw [List.mem_filter,List.mem_range]
 constructor
 ·rintro ⟨c,b⟩
  refine ⟨ops[i],by simp [c],?_,?_⟩
  ·simp only [Bool.and_eq_true] at b
   have m:=b.1;have:i<listed.size:=by omega
   simp [Array.getD,this] at m ⊢
   exact m
  ·intro e d f
   simp only [Bool.and_eq_true] at b;have g:=b.2
   simp only [Array.getElem?_eq_getElem c,Option.map_some,Option.getD_some] at g;rw [Array.all_eq_true'] at g
   have:=g e (by simpa using d)
   simpa [f] using this
 ·rintro ⟨o,k,j,d⟩
  have c:i<ops.size:=(Array.getElem?_eq_some_iff.1 k).1;refine ⟨c,?_⟩
  simp only [Bool.and_eq_true];refine ⟨?_,?_⟩
  ·have:i<listed.size:=by omega
   simp [Array.getD,this] at j ⊢
   exact j
  ·simp only [k,Option.map_some,Option.getD_some]
   rw [Array.all_eq_true'];intro e h
   cases f:Region.binds .any e with
   | false=>rfl
   | true=>simpa using d e (by simpa using h) f
theorem W0P {Q:Exit->Act->World->Prop} {e0:Env} {s0:Sto} {R:Nat->Prop} (hlen:ops.toList.length=fs.length)
  (hback:∀ j o e,ops.toList[j]?=some o->e ∈ o.after.toList->Region.binds .any e=true->e.on<j)
  (hconf:∀ i j oi oj fi fj,i<j->ops.toList[i]?=some oi->ops.toList[j]?=some oj->fs[i]?=some fi->fs[j]?=some fj->Z8c oi oj fi fj=true->Anc ops.toList i j)
  (hst:∀ j o,ops.toList[j]?=some o->StT P C nt ops o (Q0H fs j) (hE ops.toList fs e0 (List.range j).reverse) (hS fs s0 (List.range j).reverse))
  (hnd:(Q5t fs).Nodup) (hfr:∀ n ∈ Q5t fs,¬ R n)
  (hq:∀ η a w,Conc C nt (fun i=>R i\/i ∈ Q5t fs) η (hE ops.toList fs e0 (List.range ops.size).reverse) (hS fs s0 (List.range ops.size).reverse) a w->Q .normal a w) :
  ∀ (fuel:Nat) (listed:Array Bool) (h:List Nat) (η:Nat->Value) (a:Act) (w:World),listed.size=ops.size->(∀ i,i<ops.size->(listed.getD i false=true↔i ∈ h))->(∀ i ∈ h,i<ops.size)->Hist ops.toList h->ops.size<=fuel+h.length ->
   Conc C nt (fun i=>R i\/∃ j ∈ h,i ∈ (Q0H fs j).news) η (hE ops.toList fs e0 h) (hS fs s0 h) a w->wpAny P .any ops Q fuel listed a w:=by
 have c:∀ {i:Nat},i<ops.size->∃ o,ops.toList[i]?=some o/\ops[i]?=some o:=fun {i} q=>⟨ops[i],by simp [q],by simp [q]⟩
 have G:∀ {i:Nat},i<ops.size->fs[i]?=some (Q0H fs i):=by
  intro i q;have:i<fs.length:=by rw [<-hlen];simpa using q
  simp [Q0H,List.getD_eq_getElem?_getD,this]
 have hC:∀ i j oi oj,i<j->j<ops.size->ops.toList[i]?=some oi->ops.toList[j]?=some oj->Z8c oi oj (Q0H fs i) (Q0H fs j)=true->Anc ops.toList i j:=by
  intro i j oi oj a7 f m d0 Z;exact hconf i j oi oj _ _ a7 m d0 (G (by omega)) (G f) Z
 have M:∀ (T D:List Nat),Hist ops.toList T->Hist ops.toList D->(∀ i ∈ T,i<ops.size)->∀ t,(∀ j,j<ops.size->Z3T ops.toList j=some t->(j ∈ T↔j ∈ D))->(∀ i ∈ D,i<ops.size)->hE ops.toList fs e0 T t=hE ops.toList fs e0 D t:=by
  intro T D H1 H2 E t Y c1;rw [Y7Y,Y7Y,Y8d (p:=wrE ops.toList t) H1 H2 ?_ ?_]
  ·intro j k d1 b5 _ a0 a3 b9
   obtain ⟨oj,g,_⟩:=c (E j a0);obtain ⟨ok,b2,_⟩:=c (E k b5)
   refine hC j k oj ok d1 (E k b5) g b2 ?_;simp [wrE,Z3T,g] at a3
   simp [wrE,Z3T,b2] at b9
   simp [Z8c,a3,b9]
  ·intro j hp
   have hd:Z3T ops.toList j=some t:=by simpa [wrE] using hp
   have f:j<ops.size:=by
    unfold Z3T at hd;rcases Nat.lt_or_ge j ops.size with h3|h3
    ·exact h3
    ·rw [List.getElem?_eq_none (by simpa using h3)] at hd;cases hd
   exact Y j f hd
 have N:∀ (T D:List Nat),Hist ops.toList T->Hist ops.toList D->(∀ i ∈ T,i<ops.size)->∀ k,(∀ j,j<ops.size->wrS fs k j=true->(j ∈ T↔j ∈ D))->(∀ i ∈ D,i<ops.size)->hS fs s0 T k=hS fs s0 D k:=by
  intro T D H1 H2 E k Y c1;have a6:∀ j,wrS fs k j=true->∃ o,(k,o) ∈ (Q0H fs j).l:=by
   intro j f;simp only [wrS,Option.isSome_iff_exists] at f
   obtain ⟨o,W⟩:=f;obtain ⟨l1,l2,hl,_⟩:=List.lookup_eq_some_iff.1 W
   exact ⟨o,by rw [hl];simp⟩
  rw [Y7X,Y7X,Y8d (p:=wrS fs k) H1 H2 ?_ ?_]
  ·intro i j a7 a0 _ d7 c4 a3
   obtain ⟨oi,d8,_⟩:=c (E i d7);obtain ⟨oj,g,_⟩:=c (E j a0)
   refine hC i j oi oj a7 (E j a0) d8 g ?_;obtain ⟨u,hu⟩:=a6 i c4
   obtain ⟨v,hv⟩:=a6 j a3;have:((Q0H fs i).l.any fun p=>(Q0H fs j).ids.contains p.1||(Q0H fs j).l.any (·.1==p.1))=true:=by
    rw [List.any_eq_true];refine ⟨_,hu,?_⟩
    simp only [Bool.or_eq_true];right
    rw [List.any_eq_true];exact ⟨_,hv,by simp⟩
   simp only [Z8c,this,Bool.or_true,Bool.true_or]
  ·intro j hp
   by_cases f:j<ops.size
   ·exact Y j f hp
   ·exact ⟨fun b=>absurd (E j b) f,fun b=>absurd (c1 j b) f⟩
 have I:∀ n,n<=ops.size->(∀ i ∈ (List.range n).reverse,i<ops.size):=by intro n hn i q;simp at q;omega
 have U:∀ (listed:Array Bool) (h:List Nat) (η:Nat->Value) (a:Act) (w:World),(∀ i ∈ h,i<ops.size)->Hist ops.toList h->(∀ i,i<ops.size->i ∈ h) ->
   Conc C nt (fun i=>R i\/∃ j ∈ h,i ∈ (Q0H fs j).news) η (hE ops.toList fs e0 h) (hS fs s0 h) a w->Q .normal a w:=by
  intro listed h η a w S H B Z;have e1:hE ops.toList fs e0 h=hE ops.toList fs e0 (List.range ops.size).reverse:=
   funext fun t=>M _ _ H (Z6O hback _) S t (fun j f _=>⟨fun _=>by simp;exact f,fun _=>B j f⟩) (I _ (Nat.le_refl _))
  have e2:hS fs s0 h=hS fs s0 (List.range ops.size).reverse:=
   funext fun k=>N _ _ H (Z6O hback _) S k (fun j f _=>⟨fun _=>by simp;exact f,fun _=>B j f⟩) (I _ (Nat.le_refl _))
  rw [e1,e2] at Z;refine hq η a w (Z.wider fun i q=>?_)
  rcases q with q|⟨j,_,q⟩
  ·exact .inl q
  ·exact .inr (Y3c q)
 intro fuel
 induction fuel with
 | zero=>
  intro listed h η a w O hl S H hf Z;have B:∀ i,i<ops.size->i ∈ h:=by
   intro i q;rcases Classical.em (i ∈ h) with d|d
   ·exact d
   ·have:=Y9O ops.size (i::h) (List.nodup_cons.2 ⟨d,H.nd⟩) (fun x F=>by rcases List.mem_cons.1 F with rfl|F;exact q;exact S x F)
    simp at this;omega
  refine ⟨?_,U listed h η a w S H B Z⟩;refine List.eq_nil_iff_forall_not_mem.2 fun i q=>?_
  obtain ⟨o,W,D,_⟩:=(Y0p O i).1 q;have m : i<ops.size:=(Array.getElem?_eq_some_iff.1 W).1
  rw [(hl i m).2 (B i m)] at D;cases D
 | succ fuel ih=>
  intro listed h η a w O hl S H hf Z;have a1:=Y7b O hl S
  refine ⟨fun b6=>?_,fun i q=>?_⟩
  ·refine U listed h η a w S H (fun i q=>?_) Z
   induction i using Nat.strongRecOn with
   | _ i ihi=>
    rcases Classical.em (i ∈ h) with d|d
    ·exact d
    ·exfalso
     obtain ⟨o,W,c6⟩:=c q;have:i ∈ Region.ready .any ops listed:=(Y0p O i).2 ⟨o,c6,by
      cases F:listed.getD i false with
      | false=>rfl
      | true=>exact absurd ((a1 i).1 F) d,fun e he c2=>(a1 e.on).2 (ihi e.on (hback i o e W he c2) (by have:=hback i o e W he c2;omega))⟩
     rw [b6] at this;cases this
  ·obtain ⟨o,W,D,h3⟩:=(Y0p O i).1 q
   have m : i<ops.size:=(Array.getElem?_eq_some_iff.1 W).1;have d:i ∉ h:=fun b=>by rw [(a1 i).2 b] at D;cases D
   have J:ops.toList[i]?=some o:=by simpa using W
   have a8 : ∀ k z,Anc ops.toList k z->(z=i\/z ∈ h)->k ∈ h:=by
    intro k z r
    induction r with
    | edge j o' e g1 g2 g3=>
     intro hz;rcases hz with rfl|hz
     ·rw [J] at g1;cases g1;exact (a1 _).1 (h3 e g2 g3)
     ·exact H.anc hz (.edge j o' e g1 g2 g3)
    | trans x y z _ _ ih1 ih2=>intro hz;exact ih1 (.inr (ih2 hz))
   have V:∀ k,Anc ops.toList k i->k ∈ h:=fun k r=>a8 k i r (.inl rfl)
   have e5:=G m;have c8 : Hist ops.toList (i::h):=by
    refine ⟨List.nodup_cons.2 ⟨d,H.nd⟩,fun l1 k l2 b x F=>?_⟩
    cases l1 with
    | nil=>
     simp only [List.nil_append,List.cons.injEq] at b;obtain ⟨rfl,rfl⟩:=b
     exact V x F
    | cons y l1=>
     simp only [List.cons_append,List.cons.injEq] at b;exact H.ord l1 k l2 b.2 x F
   have b8:=I i (Nat.le_of_lt m);have c9:∀ t ∈ (Q0H fs i).rd,hE ops.toList fs e0 h t=hE ops.toList fs e0 (List.range i).reverse t:=by
    intro t ht;refine M _ _ H (Z6O hback i) S t (fun j f hd=>?_) b8
    obtain ⟨oj,g,_⟩:=c f;have b1:oj.dst=some t:=by simpa [Z3T,g] using hd
    rcases Nat.lt_trichotomy j i with A|rfl|A
    ·have:=hC j i oj o A m g J (by simp [Z8c,b1,ht])
     exact ⟨fun _=>by simp;exact A,fun _=>V j this⟩
    ·exact ⟨fun b=>absurd b d,fun b=>by simp at b⟩
    ·have:=hC i j o oj A f J g (by simp [Z8c,b1,ht])
     exact ⟨fun b=>absurd (H.anc b this) d,fun b=>by simp at b;omega⟩
   have d3:∀ k ∈ (Q0H fs i).ids,hS fs s0 h k=hS fs s0 (List.range i).reverse k:=by
    intro k r;refine N _ _ H (Z6O hback i) S k (fun j f Y=>?_) b8
    obtain ⟨oj,g,_⟩:=c f;simp only [wrS,Option.isSome_iff_exists] at Y
    obtain ⟨u,hu⟩:=Y;obtain ⟨l1,l2,c3,_⟩:=List.lookup_eq_some_iff.1 hu
    have a4:(k,u) ∈ (Q0H fs j).l:=by rw [c3];simp
    rcases Nat.lt_trichotomy j i with A|rfl|A
    ·have F:((Q0H fs j).l.any fun p=>(Q0H fs i).ids.contains p.1||(Q0H fs i).l.any (·.1==p.1))=true:=by
      rw [List.any_eq_true];exact ⟨_,a4,by simp [r]⟩
     have:=hC j i oj o A m g J (by simp only [Z8c,F,Bool.or_true,Bool.true_or])
     exact ⟨fun _=>by simp;exact A,fun _=>V j this⟩
    ·exact ⟨fun b=>absurd b d,fun b=>by simp at b⟩
    ·have F:((Q0H fs j).l.any fun p=>(Q0H fs i).ids.contains p.1)=true:=by
      rw [List.any_eq_true];exact ⟨_,a4,by simp [r]⟩
     have:=hC i j o oj A f J g (by simp only [Z8c,F,Bool.or_true])
     exact ⟨fun b=>absurd (H.anc b this) d,fun b=>by simp at b;omega⟩
   have a2:∀ n ∈ (Q0H fs i).news,¬ (R n\/∃ j ∈ h,n ∈ (Q0H fs j).news):=by
    rintro n hn (F|⟨j,f,F⟩)
    ·exact hfr n (Y3c hn) F
    ·exact Y4M hnd (fun b=>d (b ▸ f):i≠j) hn F
   have K:=hst i o J _ η _ _ a w c9 d3 a2 Z (wpAny P .any ops Q fuel (listed.setIfInBounds i true)) Q fun η' a' w' c7=>by
    refine ih (listed.setIfInBounds i true) (i::h) η' a' w' (by simp [O]) (fun k r=>?_) (fun k r=>?_) c8 (by simp;omega) ?_
    ·have b7 : k<listed.size:=by omega
     by_cases hki:i=k
     ·subst hki;simp [Array.getD,b7]
     ·have:=hl k r
      simp [Array.getD,b7] at this ⊢
      rw [Array.getElem_setIfInBounds_ne (by omega) hki];rw [this]
      exact ⟨fun b=>.inr b,fun b=>b.resolve_left (fun e=>hki e.symm)⟩
    ·rcases List.mem_cons.1 r with rfl|r
     ·exact m
     ·exact S k r
    ·have hd:Z3T ops.toList i=o.dst:=by simp [Z3T,J]
     simp only [hE,hS,hd];refine c7.wider fun k r=>?_
     rcases r with (r|⟨j,f,r⟩) | r
     ·exact .inl r
     ·exact .inr ⟨j,List.mem_cons_of_mem _ f,r⟩
     ·exact .inr ⟨i,List.mem_cons_self,r⟩
   simp only [wpOp,W];split at K
   ·rename_i Y;rw [if_pos Y];exact .inl K
   ·rename_i Y;rw [if_neg Y];exact K
end
end
section
section
variable {L:Lay} {e e0:Env} {s s0:Sto}
theorem Y9H {n:Nat} {x:AVal} (h:∀ i ∈ x.refs,s0 i=s i):rd s0 n x=rd s n x:=by
 unfold rd;split
 ·rename_i b c;rw [h b (by simp [AVal.refs,TV.refs,CV.refs])]
 ·rfl
 ·rename_i b f d c;rw [h b (by simp [AVal.refs,TV.refs,CV.refs])]
 ·rfl
theorem Y9m {xs:List CV} {x:AVal} (h:∀ i ∈ x.refs,s0 i=s i):wr s0 xs x=wr s xs x:=by
 unfold wr;split
 ·rename_i b c;rw [h b (by simp [AVal.refs,TV.refs,CV.refs])]
 ·rename_i b f d c;rw [h b (by simp [AVal.refs,TV.refs,CV.refs])]
 ·rfl
theorem Y0P {x:AVal} (h:∀ i ∈ x.refs,s0 i=s i):asL s0 x=asL s x:=by
 unfold asL;split
 ·rfl
 ·rfl
 ·rename_i b;rw [h b (by simp [AVal.refs,TV.refs,CV.refs])]
 ·rename_i b c d n;rw [h b (by simp [AVal.refs,TV.refs,CV.refs])]
 ·rfl
theorem Y6s {x:AVal} {es m:Nat} (h:∀ i ∈ x.refs,s0 i=s i):Z9P s0 es m x=Z9P s es m x:=by
 unfold Z9P;split
 ·rename_i b;rw [h b (by simp [AVal.refs,TV.refs,CV.refs])]
 ·rfl
 ·rfl
theorem Y3q {b:Builtin} {tys:Array TypeId} {xs:List AVal} (h:∀ x ∈ xs,∀ i ∈ x.refs,s0 i=s i):Z0g L s0 b tys xs=Z0g L s b tys xs:=by
 unfold Z0g;split
 ·rename_i x
  rw [Y0P (h x (by simp))]
 ·rfl
 ·rfl
 ·rename_i x y
  rw [Y0P (h y (by simp))];simp only [Y6s (h x (by simp))]
 ·rfl
theorem Z9s {x:Option Operand} (h:∀ y,x=some y->aev e0 y=aev e y):oI e0 x=oI e x:=by
 cases x with
 | none=>rfl
 | some y=>simp only [oI,h y rfl]
theorem Y3n (m:Bool) (o:Oper) (he:∀ x ∈ o.op.operands.toList,aev e0 x=aev e x) (hs:∀ x ∈ o.op.operands.toList,∀ i ∈ (aev e x).refs,s0 i=s i):Q9o L m e0 s0 o=Q9o L m e s o:=by
 have f:∀ (z:Array Operand),(∀ x ∈ z.toList,aev e0 x=aev e x)->z.toList.map (aev e0)=z.toList.map (aev e):=fun z h=>List.map_congr_left h
 unfold Q9o
 cases ho:o.op <;> simp only [ho,Op.operands] at he hs <;> try rfl
 case move x=>simp only [he x (by simp)]
 case assign x=>simp only [he x (by simp)]
 case pick c a b=>simp only [he c (by simp),he a (by simp),he b (by simp)]
 case box t x=>simp only [he x (by simp)]
 case build t ps=>
  have:ps.toList.map (fun p=>(p.1,aev e0 p.2))=ps.toList.map (fun p=>(p.1,aev e p.2)):=List.map_congr_left fun p F=>by rw [he p.2 (by simp;exact ⟨p.1,by simpa using F⟩)]
  simp only [this]
 case buildSlice t n ps=>
  have:ps.toList.map (fun p=>(p.1,aev e0 p.2))=ps.toList.map (fun p=>(p.1,aev e p.2)):=List.map_congr_left fun p F=>by rw [he p.2 (by simp;exact ⟨p.1,by simpa using F⟩)]
  simp only [this]
 case load t x=>simp only [he x (by simp),Y9H (hs x (by simp))]
 case store t x y=>simp only [he x (by simp),he y (by simp),Y9m (hs x (by simp))]
 case nilCheck x=>simp only [he x (by simp)]
 case binOp op t x y t'=>simp only [he x (by simp),he y (by simp)]
 case unOp op t x=>simp only [he x (by simp)]
 case convert src dst x=>simp only [he x (by simp)]
 case makeFunc fn first caps=>
  cases fn <;> try rfl
  simp only [f caps (fun x j=>he x (by simp;exact .inr (by simpa using j)))]
 case makeSlice t l c=>simp only [he l (by simp),he c (by simp)]
 case slice t x lo hi mx=>
  have j:=he x (by simp);have B:oI e0 lo=oI e lo:=Z9s fun y v=>he y (by subst v;simp)
  have A:oI e0 hi=oI e hi:=Z9s fun y v=>he y (by subst v;simp)
  have g:=hs x (by simp)
  cases mx with
  | none=>
   simp only [j,B,A];split
   ·split
    ·split <;> try rfl
     rename_i E u q _ _
     rw [q] at g;simp only [g E (by simp [AVal.refs,TV.refs,CV.refs])]
    ·rfl
   ·rfl
  | some mx=>
   cases lo with
   | some lo=>rfl
   | none=>
    cases hi with
    | none=>rfl
    | some hi=>simp only [j,he hi (by simp),he mx (by simp)]
 case fieldAddr t x k=>simp only [he x (by simp)]
 case field t x k=>simp only [he x (by simp)]
 case indexAddr t x i=>
  have g:=hs x (by simp);simp only [he x (by simp),he i (by simp)]
  split
  ·split
   ·split
    ·rename_i E q
     rw [q] at g;simp only [g E (by simp [AVal.refs,TV.refs,CV.refs])]
    ·rfl
   ·rfl
  ·rfl
  ·rfl
 case index t x i=>simp only [he x (by simp),he i (by simp)]
 case extract x k=>simp only [he x (by simp)]
 case call c=>
  obtain ⟨D,d,r⟩:=c
  cases D <;> try rfl
  rename_i b
  simp only [Call.operands] at he hs;have H:d.toList.map (aev e0)=d.toList.map (aev e):=f d (fun x j=>he x (by simpa using j))
  have G:Z0g L s0 b r (d.toList.map (aev e))=Z0g L s b r (d.toList.map (aev e)):=Y3q fun x j=>by
   obtain ⟨y,v,rfl⟩:=List.mem_map.1 j;exact hs y (by simpa using v)
  simp only [H,G]
end
end
section
def Y4d:AVal->Bool
 | .v (.c (.pte _ _ _ _))=>true
 | _=>false
def Y7i (e:Env) (o:Oper):Bool:=
 match o.op with
 | .binOp op _ _ _ _=>match op with
  | .add | .sub | .mul | .quo | .rem | .shl | .shr=>true
  | _=>false
 | .unOp op _ _=>match op with
  | .neg=>true
  | _=>false
 | .convert _ _ _=>true
 | .load _ x=>Y4d (aev e x)
 | .store _ x _=>Y4d (aev e x)
 | .slice _ _ _ _ _=>true
 | .indexAddr _ _ _=>true
 | .makeSlice _ _ _=>true
 | .call { callee:=.builtin .append,.. }=>true
 | _=>false
theorem W1J {L:Lay} {m:Bool} {e:Env} {s:Sto} {o:Oper} {r:SR} (h:Y7i e o=false) (hr:Q9o L m e s o=some r):r.cond:=by
 unfold Y7i at h;unfold Q9o at hr
 split at hr
 case h_1=>cases hr;trivial
 case h_2=>
  split at hr
  ·cases hr;trivial
  ·split at hr
   ·split at hr
    ·cases hr;trivial
    ·cases hr
   ·cases hr
  ·cases hr
 case h_3=>split at hr <;> first | (cases hr;done) | (cases hr;trivial)
 case h_4=>split at hr <;> first | (cases hr;done) | (cases hr;trivial)
 case h_5=>split at hr <;> first | (cases hr;done) | (cases hr;trivial)
 case h_6=>
  split at hr
  ·split at hr
   ·split at hr <;> first | (cases hr;done) | (cases hr;trivial)
   ·cases hr
  ·split at hr
   ·split at hr <;> first | (cases hr;done) | (cases hr;trivial)
   ·cases hr
  ·cases hr
 case h_7=>
  split at hr
  ·split at hr
   ·split at hr
    ·split at hr
     ·split at hr
      ·split at hr <;> first | (cases hr;done) | (cases hr;trivial)
      ·cases hr
     ·cases hr
    ·cases hr
   ·cases hr
  ·cases hr
 case h_8 t x hop=>
  rw [hop] at h;simp only at h
  split at hr
  ·split at hr
   ·rename_i k c g
    split at hr
    ·cases hr
     unfold rd at g;split at g
     ·split at g
      ·split at g <;> first | (cases g;done) | (cases g;trivial)
      ·cases g
     ·split at g <;> first | (cases g;done) | (cases g;trivial)
     ·rename_i i;rw [i] at h;simp [Y4d] at h
     ·cases g
    ·cases hr
   ·cases hr
  ·cases hr
 case h_9 t x y hop=>
  rw [hop] at h;simp only at h
  split at hr
  ·split at hr
   ·unfold wr at hr
    split at hr
    ·split at hr
     ·split at hr <;> first | (cases hr;done) | (cases hr;trivial)
     ·cases hr
    ·rename_i i;rw [i] at h;simp [Y4d] at h
    ·cases hr
   ·cases hr
  ·cases hr
 case h_10=>split at hr <;> first | (cases hr;done) | (cases hr;trivial)
 case h_11 op t x y t' hop=>
  rw [hop] at h;unfold Y7C at hr
  split at hr
  ·split at hr
   ·simp at h
   ·simp at h
   ·split at hr
    ·split at hr <;> first | (cases hr;done) | (simp at h;done) | (cases hr;trivial)
    ·cases hr
  ·cases hr
 case h_12 op t x hop=>
  rw [hop] at h;unfold aun at hr
  split at hr
  ·cases hr;trivial
  ·simp at h
  ·cases hr
 case h_13 hop=>rw [hop] at h;simp at h
 case h_14=>
  split at hr
  ·split at hr <;> first | (cases hr;done) | (cases hr;trivial)
  ·cases hr
 case h_15 hop=>rw [hop] at h;simp at h
 case h_16 hop=>rw [hop] at h;simp at h
 case h_17=>
  split at hr
  ·split at hr
   ·split at hr
    ·split at hr
     ·cases hr
     ·split at hr
      ·cases hr;trivial
      ·cases hr;trivial
      ·split at hr <;> first | (cases hr;done) | (cases hr;trivial)
      ·cases hr
    ·cases hr
   ·cases hr
  ·cases hr
 case h_18=>
  split at hr
  ·split at hr
   ·split at hr
    ·split at hr
     ·split at hr <;> first | (cases hr;done) | (cases hr;trivial)
     ·cases hr
    ·cases hr
   ·cases hr
  ·cases hr
 case h_19 hop=>rw [hop] at h;simp at h
 case h_20=>
  split at hr
  ·split at hr
   ·split at hr
    ·split at hr <;> first | (cases hr;done) | (cases hr;trivial)
    ·cases hr
   ·cases hr
  ·cases hr
 case h_21 hop=>rw [hop] at h;simp at h
 case h_22=>
  split at hr
  ·split at hr <;> first | (cases hr;done) | (cases hr;trivial)
  ·cases hr
 case h_23 b args tys hop=>
  rw [hop] at h;split at hr
  ·rename_i j d f
   unfold Z0g at f;split at f
   ·split at f
    ·split at f
     ·split at f
      ·cases f;simp only at hr;cases hr;trivial
      ·cases f
     ·cases f;simp only at hr;cases hr;trivial
     ·split at f
      ·cases f;simp only at hr;cases hr;trivial
      ·cases f
     ·cases f
    ·cases f
   ·cases f;simp only at hr;cases hr;trivial
   ·cases f;simp only at hr;cases hr;trivial
   ·simp at h
   ·cases f
  ·cases hr
 case h_24=>cases hr
inductive Dir where
 | s
 | m
 | w (v:AVal)
 | k (f:Array Oper->Oper->Env->Eff)
def Q0g (o:Oper):List Nat:=o.op.operands.toList.filterMap fun | .tmp t=>some t|_=>none
def Z2L (e:Env) (o:Oper):List Nat:=o.op.operands.toList.flatMap fun x=>(aev e x).refs
def V8 (ops:Array Oper) (o:Oper):List Nat:=
 match o.guard with
 | some (j,_)=>((ops[j]?).bind (·.dst)).toList
 | none=>[]
def Q8l (ops:Array Oper) (e:Env) (o:Oper):Option Bool:=
 match o.guard with
 | none=>some true
 | some (j,want)=>match (ops[j]?).bind (·.dst) with
  | some d=>match e d with
   | .v (.c (.d (.bool b)))=>some (b==want)
   | .t []=>some false
   | _=>none
  | none=>none
def SR.l (r:SR) (d:Option Tmp):List (Nat×Option Obj):=
 (match r.new,d with|some o,some d=>[(d,some o)] | _,_=>[])++((match r.upd with|some (k,o)=>[(k,some o)] | none=>[])++r.del.map fun i=>(i,none))
def SR.nw (r:SR) (d:Option Tmp):List Nat:=match r.new,d with|some _,some d=>[d] | _,_=>[]
def Y3b (ops:Array Oper) (o:Oper) (e:Env) (r:SR) (v:AVal):Eff:= { rd:=Q0g o++V8 ops o,ids:=Z2L e o,v:=v,l:=r.l o.dst,news:=r.nw o.dst }
def Y3l (o:Oper):Bool:=match o.op with
 | .move _ | .assign _ | .pick _ _ _ | .extract _ _ | .field _ _ _=>true
 | _=>false
def Z4J (ops:Array Oper) (o:Oper) (e:Env) (r:SR) (v:AVal):Eff:= { rd:=Q0g o++V8 ops o,ids:=if Y3l o then [] else Z2L e o,v:=v,l:=r.l o.dst,news:=r.nw o.dst }
def Y1N (ops:Array Oper) (o:Oper):Eff:= { rd:=V8 ops o,ids:=[],v:=.t [],l:=[],news:=[] }
def Z3r (L:Lay) (ops:Array Oper) (o:Oper) (d:Dir) (e:Env) (s:Sto):Eff:=
 match Q8l ops e o,d with
 | _,.k f=>f ops o e
 | some true,.s=>match Q9o L false e s o with|some r=>Z4J ops o e r r.v|none=>default
 | some true,.m=>match Q9o L true e s o with|some r=>Z4J ops o e r r.v|none=>default
 | some true,.w v=>match Q9o L false e s o with|some r=>Z4J ops o e r v|none=>default
 | _,_=>Y1N ops o
def ALe (x y:AVal):Prop:=(∀ w X η C v,ARep w X η C v x->ARep w X η C v y)/\∀ i ∈ y.refs,i ∈ x.refs
def W0Z (b:Bool) (c rest:Prop):Prop:=match b with|true=>c/\rest|false=>rest
def W2n (P:Program) (C:Ctx) (nt:Nat) (L:Lay) (ops:Array Oper) (o:Oper) (d:Dir) (e:Env) (s:Sto) (rest:Prop):Prop:=
 match Q8l ops e o,d with
 | _,.k f=>StT P C nt ops o (f ops o e) e s/\rest
 | some true,.s=>match Q9o L false e s o with|some r=>W0Z (Y7i e o) r.cond rest|none=>False
 | some true,.m=>match Q9o L true e s o with|some r=>W0Z (Y7i e o) r.cond rest|none=>False
 | some true,.w v=>match Q9o L false e s o with|some r=>W0Z (Y7i e o) r.cond (ALe r.v v/\rest) | none=>False
 | some false,.s=>rest
 | _,_=>False
def Q1A (nt:Nat) (o:Oper):Bool:=
 (match o.dst with|some d=>decide (d<nt) | none=>true)&&(match o.op with | .store _ _ _=>o.dst.isNone|_=>true)
section
variable (P:Program) (C:Ctx) (nt:Nat) (L:Lay) (ops:Array Oper)
def Q1k:List Oper->List Dir->Env->Sto->List Eff
 | o::os,d::ds,e,s=>let f:=Z3r L ops o d e s;f::Q1k os ds (Z0p o.dst f.v e) (upS f.l s)
 | _,_,_,_=>[]
def Q7r:List Oper->List Dir->Env->Sto->Prop
 | o::os,d::ds,e,s=>W2n P C nt L ops o d e s (Q7r os ds (Z0p o.dst (Z3r L ops o d e s).v e) (upS (Z3r L ops o d e s).l s))
 | [],[],_,_=>True
 | _,_,_,_=>False
end
theorem Y6B (r:SR) (d:Option Tmp) (s:Sto):upS (r.l d) s=r.sto d s:=by
 have c:∀ (l:List Nat) (i:Nat),(l.map fun i=>(i,(none:Option Obj))).lookup i=if l.contains i then some none else none:=by
  intro l i
  induction l with
  | nil=>rfl
  | cons x l ih=>
   simp only [List.map_cons,List.lookup_cons,List.contains_cons]
   by_cases hx:i=x
   ·subst hx;simp
   ·have:(i==x)=false:=by simpa using hx
    simp only [this,Bool.false_or];exact ih
 funext i
 unfold upS SR.sto SR.l;rw [List.lookup_append,List.lookup_append,c]
 cases hn:r.new with
 | none=>
  cases hu:r.upd with
  | none=>by_cases hc:i ∈ r.del <;> simp [hc]
  | some ko=>
   obtain ⟨k,o⟩:=ko
   by_cases hk:i=k
   ·subst hk;simp
   ·have:(i==k)=false:=by simpa using hk
    by_cases hc:i ∈ r.del <;> simp [List.lookup_cons,this,hk,hc]
 | some o=>
  cases d with
  | none=>
   cases hu:r.upd with
   | none=>by_cases hc:i ∈ r.del <;> simp [hc]
   | some ko=>
    obtain ⟨k,o⟩:=ko
    by_cases hk:i=k
    ·subst hk;simp
    ·have:(i==k)=false:=by simpa using hk
     by_cases hc:i ∈ r.del <;> simp [List.lookup_cons,this,hk,hc]
  | some d=>
   by_cases hd:i=d
   ·subst hd;simp
   ·have b:(i==d)=false:=by simpa using hd
    cases hu:r.upd with
    | none=>by_cases hc:i ∈ r.del <;> simp [List.lookup_cons,b,hd,hc]
    | some ko=>
     obtain ⟨k,o⟩:=ko
     by_cases hk:i=k
     ·subst hk;simp [List.lookup_cons,b,hd]
     ·have:(i==k)=false:=by simpa using hk
      by_cases hc:i ∈ r.del <;> simp [List.lookup_cons,b,hd,this,hk,hc]
theorem Y6C (r:SR) (d:Option Tmp) (R:Nat->Prop):∀ i,r.rng d R i->R i\/i ∈ r.nw d:=by
 intro i b;rcases b with b|⟨g,f⟩
 ·exact .inl b
 ·right
  obtain ⟨o,c⟩:=Option.ne_none_iff_exists'.1 g;simp [SR.nw,c,f]
section
variable {P:Program} {C:Ctx} {nt:Nat} {L:Lay} {ops:Array Oper}
theorem W1k {w:World} {X:Nat->Prop} {η:Nat->Value} {C:Ctx} {v:Value} (h:ARep w X η C v (.t [])):v=.tuple #[]:=by
 cases h with|t us _ h _=>exact congrArg Value.tuple (Array.size_eq_zero_iff.1 h)
theorem Q5B {R:Nat->Prop} {η:Nat->Value} {e e0:Env} {s:Sto} {a:Act} {w:World} (h:Conc C nt R η e0 s a w) {o:Oper} (hg:∀ t ∈ V8 ops o,e0 t=e t) {b:Bool} (hb:Q8l ops e o=some b) :
  Region.wanted o (yielded ops a.tmps)=b:=by
 unfold Q8l at hb;unfold Region.wanted
 split at hb
 ·rename_i c;rw [c];cases hb;rfl
 ·rename_i j f c
  rw [c];split at hb
  ·rename_i d p
   split at hb
   ·rename_i x i
    cases hb
    have r:e0 d=e d:=hg d (by simp [V8,c,p]);have m:=h.ev d
    rw [r,i] at m;have q:=Z9N m
    have n:d<a.tmps.size:=by
     rcases Nat.lt_or_ge d a.tmps.size with g|g
     ·exact g
     ·simp [g,undef] at q
    have k:a.tmps[d]?=some (.bool x):=by
     rw [Array.getElem?_eq_getElem n];simpa [n] using q
    have u:yielded ops a.tmps j=some x:=by
     unfold yielded;rw [p];simp only [Option.bind_some,k]
    simp only [u]
    cases x <;> cases f <;> rfl
   ·rename_i i
    cases hb
    have r:e0 d=e d:=hg d (by simp [V8,c,p]);have m:=h.ev d
    rw [r,i] at m;have q:=W1k m
    have u:yielded ops a.tmps j=none:=by
     unfold yielded;rw [p];simp only [Option.bind_some]
     rcases Nat.lt_or_ge d a.tmps.size with g|g
     ·rw [Array.getElem?_eq_getElem g]
      have v : a.tmps[d]=.tuple #[]:=by simpa [g,Array.getD] using q
      rw [v]
     ·rw [Array.getElem?_eq_none g]
    simp only [u]
    cases f <;> rfl
   ·cases hb
  ·cases hb
theorem Y7z {e e0:Env} {s s0:Sto} (m:Bool) (o:Oper) (he:∀ x ∈ o.op.operands.toList,aev e0 x=aev e x) (ha:Y3l o=true):Q9o L m e0 s0 o=Q9o L m e s o:=by
 unfold Y3l at ha;unfold Q9o
 cases ho:o.op <;> simp only [ho,Op.operands] at he ha <;> first | (cases ha;done) | skip
 case move x=>simp only [he x (by simp)]
 case assign x=>simp only [he x (by simp)]
 case pick c a b=>simp only [he c (by simp),he a (by simp),he b (by simp)]
 case field t x k=>simp only [he x (by simp)]
 case extract x k=>simp only [he x (by simp)]
theorem Y4B (hL:LOk P L) {o:Oper} (hdo:Q1A nt o=true) {m:Bool} {e:Env} {s:Sto} {r:SR} (hr:Q9o L m e s o=some r) (hc:r.cond) (hg:Q8l ops e o=some true) {v:AVal} (hv:ALe r.v v) :
  StT P C nt ops o (Z4J ops o e r v) e s:=by
 intro R η e0 s0 a w p z M j K Q N;have k:∀ x ∈ o.op.operands.toList,aev e0 x=aev e x:=by
  intro x k
  cases x with
  | tmp t=>exact p t (List.mem_append.2 (.inl (List.mem_filterMap.2 ⟨_,k,rfl⟩)))
  | const v=>rfl
  | global g=>rfl
  | func f=>rfl
 have E:Q9o L m e0 s0 o=some r:=by
  rcases Bool.eq_false_or_eq_true (Y3l o) with A|A
  ·rw [Y7z m o k A];exact hr
  ·have D:∀ x ∈ o.op.operands.toList,∀ i ∈ (aev e x).refs,s0 i=s i:=fun x k i h=>z i (by
    show i ∈ if Y3l o=true then [] else Z2L e o;rw [A];exact List.mem_flatMap.2 ⟨x,k,h⟩)
   rw [Y3n m o k D];exact hr
 have G:∀ x,o.dst=some x->x<nt:=by
  intro x k;simp only [Q1A,k,Bool.and_eq_true,decide_eq_true_eq] at hdo
  exact hdo.1
 have I:∀ t x y,o.op=.store t x y->o.dst=none:=by
  intro t x y H;simp only [Q1A,H,Bool.and_eq_true] at hdo
  simpa using hdo.2
 have S:=Q5B (e:=e) j (fun t T=>p t (List.mem_append.2 (.inr T))) hg;rw [if_pos S]
 have q:=Y8v hL j m o G E hc (fun d n J=>M d (by
  obtain ⟨U,B⟩:=Option.ne_none_iff_exists'.1 J;simp [Z4J,SR.nw,B,n])) I
 refine q.wp fun η' O w' F=>N η' O w' ?_
 have b:=F.wider (Y6C r o.dst R);have u:upS (Z4J ops o e r v).l s0=r.sto o.dst s0:=Y6B r o.dst s0
 rw [u];have J:(Z4J ops o e r v).news=r.nw o.dst:=rfl
 rw [J];refine ⟨b.ok,b.df,b.sz,fun t=>?_,fun t i h=>?_,b.st,b.sr,b.ds,b.ow,b.fr,b.pn⟩
 ·have c:=b.ev t
  unfold Z0p;unfold SR.env at c
  cases n:o.dst with
  | none=>rw [n] at c;exact c
  | some d=>
   rw [n] at c;simp only at c ⊢
   by_cases htd:t=d
   ·rw [if_pos htd] at c ⊢;exact hv.1 _ _ _ _ _ c
   ·rw [if_neg htd] at c ⊢;exact c
 ·have c:=b.er t
  unfold Z0p at h;unfold SR.env at c
  cases n:o.dst with
  | none=>rw [n] at c h;exact c i h
  | some d=>
   rw [n] at c h;simp only at c h
   by_cases htd:t=d
   ·rw [if_pos htd] at c h;exact c i (hv.2 i h)
   ·rw [if_neg htd] at c h;exact c i h
theorem ALe.refl (x:AVal):ALe x x:=⟨fun _ _ _ _ _ h=>h,fun _ h=>h⟩
theorem Y9t {o:Oper} (hdo:Q1A nt o=true) {e:Env} {s:Sto} (hg:Q8l ops e o=some false):StT P C nt ops o (Y1N ops o) e s:=by
 intro R η e0 s0 a w d f q b K Q m;have r:=Q5B (e:=e) b (fun t u=>d t u) hg
 rw [if_neg (by rw [r];simp)];refine m η _ w ?_
 have c:∀ x,o.dst=some x->x<nt:=by
  intro x h;simp only [Q1A,h,Bool.and_eq_true,decide_eq_true_eq] at hdo
  exact hdo.1
 have:=b.val o.dst c (.t []) undef fun _=>⟨.t #[] [] rfl (fun j p=>absurd p (Nat.not_lt_zero j)),by simp [AVal.refs]⟩
 have n:upS (Y1N ops o).l s0=s0:=by funext i;rfl
 rw [n];have g:Z0p o.dst (Y1N ops o).v e0=SR.env { v:=.t [] } o.dst e0:=rfl
 rw [g];exact this.wider fun i k=>.inl k
theorem W0L (hL:LOk P L):∀ (os:List Oper) (ds:List Dir) (e:Env) (s:Sto),(os.all (Q1A nt))=true->Q7r P C nt L ops os ds e s->Y3r P C nt ops os (Q1k L ops os ds e s) e s:=by
 intro os
 induction os with
 | nil=>
  intro ds e s _ h
  cases ds with
  | nil=>trivial
  | cons d ds=>exact h.elim
 | cons o os ih=>
  intro ds e s j h
  cases ds with
  | nil=>exact h.elim
  | cons d ds=>
   simp only [List.all_cons,Bool.and_eq_true] at j;simp only [Q7r] at h
   simp only [Q1k,Y3r];have p:StT P C nt ops o (Z3r L ops o d e s) e s/\Q7r P C nt L ops os ds (Z0p o.dst (Z3r L ops o d e s).v e) (upS (Z3r L ops o d e s).l s):=by
    generalize hrest:Q7r P C nt L ops os ds (Z0p o.dst (Z3r L ops o d e s).v e) (upS (Z3r L ops o d e s).l s)=f at h;have i:∀ {b:Bool} {c f:Prop},W0Z b c f->f:=by
     intro b c f q;cases b <;> first|exact q.2|exact q
    have g:∀ {m:Bool} {r:SR} {f:Prop},Q9o L m e s o=some r->W0Z (Y7i e o) r.cond f->r.cond:=by
     intro m r f n q
     cases hb:Y7i e o with
     | true=>rw [hb] at q;exact q.1
     | false=>exact W1J hb n
    unfold W2n at h;unfold Z3r
    split at h
    ·exact ⟨by split <;> first|exact h.1|contradiction | (rename_i u t;cases t;exact h.1),h.2⟩
    ·rename_i k
     split at h
     ·rename_i r n
      simp only [k];exact ⟨Y4B hL j.1 n (g n h) k (ALe.refl _),i h⟩
     ·exact h.elim
    ·rename_i k
     split at h
     ·rename_i r n
      simp only [k];exact ⟨Y4B hL j.1 n (g n h) k (ALe.refl _),i h⟩
     ·exact h.elim
    ·rename_i v k
     split at h
     ·rename_i r n
      simp only [k];exact ⟨Y4B hL j.1 n (g n h) k (i h).1,(i h).2⟩
     ·exact h.elim
    ·rename_i k
     simp only [k];exact ⟨Y9t j.1 k,h⟩
    ·exact h.elim
   exact ⟨p.1,ih ds _ _ j.2 p.2⟩
end
end
section
def lk (E:List (Nat×AVal)):Env:=fun t=>(E.lookup t).getD .any
def ls (S:List (Nat×Obj)):Sto:=fun i=>S.lookup i
def Y3Z (E:List (Nat×AVal)) (S:List (Nat×Obj)):List Nat:=E.flatMap (fun p=>p.2.refs)++S.flatMap fun p=>p.1::p.2.refs
def OLe (o o' : Obj):Prop:=(∀ w X η C v,ORep w X η C v o->ORep w X η C v o')/\o'.ro=o.ro/\∀ i ∈ o'.refs,i ∈ o.refs
theorem OLe.refl (o:Obj):OLe o o:=⟨fun _ _ _ _ _ h=>h,rfl,fun _ h=>h⟩
theorem ALe.any (x:AVal):ALe x .any:=⟨fun _ _ _ _ v _=>.any v,fun _ h=>by cases h⟩
theorem ALe.of_eq {x y:AVal} (h:x=y):ALe x y:=h ▸ ALe.refl x
def CV.ren (ρ:Nat->Nat):CV->CV
  | .own i=>.own (ρ i)
  | .ptr i o=>.ptr (ρ i) o
  | .pte i es ix o=>.pte (ρ i) es ix o
  | .sub i es lo n=>.sub (ρ i) es lo n
  | .clo f ids=>.clo f (ids.map ρ)
  | .ap i=>.ap (ρ i)
  | .cp i j=>.cp (ρ i) j
  | x=>x
def TV.ren (ρ:Nat->Nat):TV->TV
  | .c x=>.c (x.ren ρ)
  | .g xs=>.g (xs.map (CV.ren ρ))
def AVal.ren (ρ:Nat->Nat):AVal->AVal
  | .any=>.any
  | .v x=>.v (x.ren ρ)
  | .t xs=>.t (xs.map (TV.ren ρ))
def Obj.ren (ρ:Nat->Nat):Obj->Obj
  | .box ro cs=>.box ro (cs.map (CV.ren ρ))
  | .exr refs p=>.exr (refs.map ρ) p
  | o=>o
section
variable {w:World} {X:Nat->Prop} {η:Nat->Value} {C:Ctx} {ρ:Nat->Nat}
theorem CRep.unren {v:Value} {x:CV} (h:CRep w X η C v (x.ren ρ)):CRep w X (fun i=>η (ρ i)) C v x:=by
  cases x with
  | d x=>cases h with|d _ _ h=>exact .d _ _ h
  | fl n f=>cases h with|fl _ _ _ h=>exact .fl _ _ _ h
  | own i=>cases h with|own _ _ h h1=>exact .own _ i h h1
  | ptr i o=>cases h with|ptr _ _ _ h=>exact .ptr _ i o h
  | pte i es ix o=>cases h with|pte _ _ _ _ _ _ _ h=>exact .pte _ _ _ i es ix o h
  | sub i es lo n=>cases h with
    | sub b N cap _ _ _ _ h h1 h2=>exact .sub b N cap i es lo n h h1 h2
    | subN ad ad' _ _ _ h=>exact .subN ad ad' _ i es h
  | elm cs=>cases h with|elm _ _ _ _ _ _ h1 h2 h3 h4=>exact .elm _ _ _ _ _ _ h1 h2 h3 h4
  | clo f ids=>cases h with|clo _ _ _ h=>exact .clo f ids _ (by rw [h,List.map_map];rfl)
  | sem p=>cases h with|sem _ _ h h1=>exact .sem _ _ h h1
  | ap i=>cases h with|ap _ _ h h1=>exact .ap _ i h h1
  | bnd f cs=>cases h with|bnd _ _ _ h1 h2=>exact .bnd _ _ _ h1 h2
  | cp i j=>cases h with|cp _ _ _ _ h h1 h2=>exact .cp _ i j _ h h1 h2
theorem y4.unren {vs:Array Value} {cs:List CV} (h:y4 w X η C vs (cs.map (CV.ren ρ))):y4 w X (fun i=>η (ρ i)) C vs cs:=by
  refine ⟨by simpa using h.1,fun j b=>CRep.unren (ρ:=ρ) ?_⟩;have:=h.2 j (by simpa using b)
  rw [List.getD_eq_getElem?_getD,List.getElem?_map,List.getElem?_eq_getElem b] at this;rw [List.getD_eq_getElem?_getD,List.getElem?_eq_getElem b]
  exact this
theorem TRep.unren {v:Value} {x:TV} (h:TRep w X η C v (x.ren ρ)):TRep w X (fun i=>η (ρ i)) C v x:=by
  cases x with
  | c x=>cases h with|c _ _ h=>exact .c _ _ h.unren
  | g xs=>cases h with|g _ _ h=>exact .g _ _ h.unren
theorem ARep.unren {v:Value} {x:AVal} (h:ARep w X η C v (x.ren ρ)):ARep w X (fun i=>η (ρ i)) C v x:=by
  cases x with
  | any=>exact .any v
  | v x=>cases h with|v _ _ h=>exact .v _ _ h.unren
  | t xs=>
    cases h with
    | t us _ h1 h2=>
      refine .t us xs (by simpa using h1) fun j b=>TRep.unren (ρ:=ρ) ?_
      have:=h2 j (by simpa using b)
      rw [List.getD_eq_getElem?_getD,List.getElem?_map,List.getElem?_eq_getElem b] at this;rw [List.getD_eq_getElem?_getD,List.getElem?_eq_getElem b]
      exact this
theorem ORep.unren {v:Value} {o:Obj} (h:ORep w X η C v (o.ren ρ)):ORep w X (fun i=>η (ρ i)) C v o:=by
  cases o with
  | box ro cs=>cases h with|box b _ c e _ h1 h2=>exact .box b ro c e cs h1 h2.unren
  | arr es n f=>
    cases h with
    | nil ad _ _=>exact .nil ad _ _
    | arr b _ cap _ c e _ h1 h2 h3 h4 h5 h6 h7=>exact .arr b _ cap _ c e _ h1 h2 h3 h4 h5 h6 h7
  | ext p=>cases h with|ext _ _ h1 h2 h3=>exact .ext _ _ h1 h2 h3
  | exr refs p=>
    cases h with|exr _ _ _ h1 h2 h3=>
    rw [List.map_map] at h1 h2;exact .exr _ refs p h1 h2 h3
theorem Obj.ro_ren (o:Obj):(o.ren ρ).ro=o.ro:=by cases o <;> rfl
theorem Conc.conv {nt:Nat} {R R' : Nat->Prop} {e e' : Env} {s s' : Sto} {a:Act} (h:Conc C nt R η e s a w) (ρ:Nat->Nat) (he:∀ t,ALe (e t) ((e' t).ren ρ)) (hs:∀ i o',s' i=some o' -> ∃ o,s (ρ i)=some o/\OLe o (o'.ren ρ))
    (hinj:∀ i j,s' i≠none->s' j≠none->ρ i=ρ j->i=j) (hR:∀ t i,i ∈ (e' t).refs->R' i) (hR2:∀ i o',s' i=some o' -> R' i/\∀ j ∈ o'.refs,R' j) (hpin:∀ i,C.pin i≠none->ρ i=i/\R' i) :
    Conc C nt R' (fun i=>η (ρ i)) e' s' a w:=by
  have x:Q7i w w (XS C s η) (XS C s' fun i=>η (ρ i)):=by
    intro b u G;refine ⟨rfl,fun r=>G ?_⟩
    rcases r with A|⟨i,o',c,m⟩
    · exact .inl A
    · obtain ⟨o,f,_⟩:=hs i o' c
      exact .inr ⟨ρ i,o,f,m⟩
  refine ⟨h.ok,h.df,h.sz,fun t=>?_,hR,fun i o' c=>?_,hR2,fun i j b c y n g=>?_,fun i o' b c u=>?_,h.fr,fun i v c=>?_⟩
  · exact ARep.unren (((he t).1 _ _ _ _ _ (h.ev t)).mono x (fun _ _=>rfl))
  · obtain ⟨o,f,d⟩:=hs i o' c
    exact ORep.unren ((d.1 _ _ _ _ _ (h.st _ o f)).mono x (fun _ _=>rfl) (fun _ _=>rfl))
  · obtain ⟨B,q⟩:=Option.ne_none_iff_exists'.1 c
    obtain ⟨D,p⟩:=Option.ne_none_iff_exists'.1 y;obtain ⟨F,H,_⟩:=hs i B q
    obtain ⟨z,E,_⟩:=hs j D p;exact hinj i j c y (h.ds _ _ b (by rw [H];simp) (by rw [E];simp) n g)
  · obtain ⟨o,f,d⟩:=hs i o' c
    have:=h.ow _ o b f u
    have k:o'.ro=o.ro:=by rw [<-d.2.1,Obj.ro_ren]
    rw [k];exact this
  · have:=hpin i (by rw [c];simp)
    exact ⟨by show η (ρ i)=v;rw [this.1];exact (h.pn i v c).1,this.2⟩
end
def V3 (l:List (Nat×Nat)) (i:Nat):Nat:=(l.lookup i).getD i
theorem Y0t {E:List (Nat×AVal)} {t:Nat}:lk E t=.any\/(t,lk E t) ∈ E:=by
  unfold lk
  cases h:E.lookup t with
  | none=>exact .inl rfl
  | some x=>
    right
    obtain ⟨d,c,b,_⟩:=List.lookup_eq_some_iff.1 h;rw [b];simp
theorem U6 {S:List (Nat×Obj)} {i:Nat} {o:Obj} (h:ls S i=some o):(i,o) ∈ S:=by
  obtain ⟨d,c,b,_⟩:=List.lookup_eq_some_iff.1 h;rw [b];simp
def Q2S:List Nat->Bool
  | []=>true
  | x::r=> !r.contains x&&Q2S r
theorem Q4t {l:List Nat} (h:Q2S l=true):l.Nodup:=by
  induction l with
  | nil=>exact List.nodup_nil
  | cons x r ih=>simp [Q2S] at h;exact List.nodup_cons.2 ⟨h.1,ih h.2⟩
theorem Y7h {S:List (Nat×Obj)} {ρ:Nat->Nat} (h:(S.map fun p=>ρ p.1).Nodup) {i j:Nat} (hi:ls S i≠none) (hj:ls S j≠none) (hij:ρ i=ρ j):i=j:=by
  obtain ⟨t,k⟩:=Option.ne_none_iff_exists'.1 hi;obtain ⟨r,d⟩:=Option.ne_none_iff_exists'.1 hj
  have o:=U6 k;have n:=U6 d
  rcases Nat.decEq i j with b|m
  · exfalso
    obtain ⟨u,q,rfl⟩:=List.append_of_mem o;rw [List.map_append,List.map_cons,List.nodup_append] at h
    rcases List.mem_append.1 n with c|c
    · exact h.2.2 _ (List.mem_map_of_mem c) _ (List.mem_cons_self) hij.symm
    · rcases List.mem_cons.1 c with g|g
      · injection g with h5;exact b h5.symm
      · have:=(List.nodup_cons.1 h.2.1).1
        exact this (hij ▸ List.mem_map_of_mem (f:=fun p:Nat×Obj=>ρ p.1) g)
  · exact m
section
variable {P:Program} {C:Ctx} {nt:Nat}
def Kn (C:Ctx) (nt:Nat) (E:List (Nat×AVal)) (S:List (Nat×Obj)) (K:Act->World->Prop):Prop:=
  ∀ R η a w,Conc C nt R η (lk E) (ls S) a w->K a w
def AW (P:Program) (C:Ctx) (nt:Nat) (c:Code) (E:List (Nat×AVal)) (S:List (Nat×Obj)) (Q:Exit->Act->World->Prop):Prop:=Kn C nt E S (fun a w=>c.wp P Q a w)
def pinsB (C:Ctx) (ρ:Nat->Nat):Prop:=∀ i,C.pin i≠none->ρ i=i
theorem Conc.lit {R:Nat->Prop} {η:Nat->Value} {e:Env} {s:Sto} {a:Act} {w:World} (h:Conc C nt R η e s a w) {E:List (Nat×AVal)} {S:List (Nat×Obj)} {ρ:Nat->Nat} (hpin:pinsB C ρ)
    (hE:∀ p ∈ E,ALe (e p.1) (p.2.ren ρ)) (hS:∀ p ∈ S,∃ o,s (ρ p.1)=some o/\OLe o (p.2.ren ρ)) (hinj:(S.map fun p=>ρ p.1).Nodup) :
    Conc C nt (fun i=>i ∈ Y3Z E S\/C.pin i≠none) (fun i=>η (ρ i)) (lk E) (ls S) a w:=by
  refine h.conv ρ (fun t=>?_) (fun i g b=>hS _ (U6 b)) (fun i j b f d=>Y7h hinj b f d) (fun t i b=>.inl ?_) (fun i g b=>⟨.inl ?_,fun j f=>.inl ?_⟩) (fun i b=>⟨hpin i b,.inr b⟩)
  · rcases Y0t (E:=E) (t:=t) with c|c
    · rw [c];exact ALe.any _
    · exact hE _ c
  · rcases Y0t (E:=E) (t:=t) with c|c
    · rw [c] at b;cases b
    · exact List.mem_append.2 (.inl (List.mem_flatMap.2 ⟨_,c,b⟩))
  · exact List.mem_append.2 (.inr (List.mem_flatMap.2 ⟨_,U6 b,List.mem_cons_self⟩))
  · exact List.mem_append.2 (.inr (List.mem_flatMap.2 ⟨_,U6 b,List.mem_cons_of_mem _ f⟩))
theorem Conc.narrow {R:Nat->Prop} {η:Nat->Value} {E:List (Nat×AVal)} {S:List (Nat×Obj)} {a:Act} {w:World} (h:Conc C nt R η (lk E) (ls S) a w) :
    Conc C nt (fun i=>i ∈ Y3Z E S\/C.pin i≠none) η (lk E) (ls S) a w:=by
  refine ⟨h.ok,h.df,h.sz,h.ev,fun t i b=>.inl ?_,h.st,fun i o b=>⟨.inl ?_,fun j d=>.inl ?_⟩,h.ds,h.ow,h.fr,fun i v b=>⟨(h.pn i v b).1,.inr (by rw [b];simp)⟩⟩
  · rcases Y0t (E:=E) (t:=t) with c|c
    · rw [c] at b;cases b
    · exact List.mem_append.2 (.inl (List.mem_flatMap.2 ⟨_,c,b⟩))
  · exact List.mem_append.2 (.inr (List.mem_flatMap.2 ⟨_,U6 b,List.mem_cons_self⟩))
  · exact List.mem_append.2 (.inr (List.mem_flatMap.2 ⟨_,U6 b,List.mem_cons_of_mem _ d⟩))
theorem Kn.le {E E' : List (Nat×AVal)} {S S' : List (Nat×Obj)} {K:Act->World->Prop} (ρ:Nat->Nat) (hpin:pinsB C ρ) (hE:∀ p ∈ E',ALe (lk E p.1) (p.2.ren ρ)) (hS:∀ p ∈ S',∃ o,ls S (ρ p.1)=some o/\OLe o (p.2.ren ρ)) (hinj:(S'.map fun p=>ρ p.1).Nodup)
    (h:Kn C nt E' S' K):Kn C nt E S K:=fun R η a w b=>h _ _ a w (b.lit hpin hE hS hinj)
theorem Q1J {α β:Type} {l:List α} {f g:α->β} (h:l.map f=l.map g):∀ x ∈ l,f x=g x:=by
  induction l with
  | nil=>intro x b;cases b
  | cons y r ih=>
    simp only [List.map_cons,List.cons.injEq] at h;intro x b
    rcases List.mem_cons.1 b with rfl|b
    · exact h.1
    · exact ih h.2 x b
theorem W3u {E E' : List (Nat×AVal)} {S S' : List (Nat×Obj)} {K:Act->World->Prop} (ρ:List (Nat×Nat)) (hpin:pinsB C (V3 ρ)) (hE:E'.map (fun p=>lk E p.1)=E'.map (fun p=>p.2.ren (V3 ρ)))
    (hS:S'.map (fun p=>ls S (V3 ρ p.1))=S'.map (fun p=>some (p.2.ren (V3 ρ)))) (hinj:Q2S (S'.map fun p=>V3 ρ p.1)=true) (h:Kn C nt E' S' K):Kn C nt E S K:=
  Kn.le (V3 ρ) hpin (fun p b=>ALe.of_eq (Q1J hE p b)) (fun p b=>⟨_,Q1J hS p b,OLe.refl _⟩) (Q4t hinj) h
theorem CV.ren_id (x:CV):x.ren (fun i=>i)=x:=by cases x <;> simp [CV.ren]
theorem TV.ren_id (x:TV):x.ren (fun i=>i)=x:=by
  cases x with
  | c x=>simp [TV.ren,CV.ren_id]
  | g xs=>
    simp only [TV.ren];congr 1;conv=>rhs;rw [<-List.map_id xs]
    exact List.map_congr_left fun y _=>CV.ren_id y
theorem AVal.ren_id (x:AVal):x.ren (fun i=>i)=x:=by
  cases x with
  | any=>rfl
  | v x=>simp [AVal.ren,TV.ren_id]
  | t xs=>
    simp only [AVal.ren];congr 1;conv=>rhs;rw [<-List.map_id xs]
    exact List.map_congr_left fun y _=>TV.ren_id y
theorem Obj.ren_id (o:Obj):o.ren (fun i=>i)=o:=by
  cases o with
  | box ro cs=>
    simp only [Obj.ren];congr 1;conv=>rhs;rw [<-List.map_id cs]
    exact List.map_congr_left fun y _=>CV.ren_id y
  | arr es n f=>rfl
  | ext p=>rfl
  | exr refs p=>simp [Obj.ren]
structure Fr (P:Program) (L:Lay) (C:Ctx) (pins:List Nat):Prop where
  mixed:P.follows .mixedOrders=true
  lay:LOk P L
  pin:∀ i,C.pin i≠none->i ∈ pins
def Z7z (L:Lay) (pins:List Nat) (nt:Nat) (ops:Array Oper) (draw:Bool) (ds:List Dir) (E:List (Nat×AVal)) (S:List (Nat×Obj)) (ρ:List (Nat×Nat)) (S' : List (Nat×Obj)):Bool:=
  let F:=Q1k L ops ops.toList ds (lk E) (ls S)
  ops.toList.all (Q1A nt)&&Q2S (Q5t F)&&(Q5t F).all (fun n=> !(Y3Z E S).contains n && !pins.contains n)&&(!draw||W2v ops.toList F)&&Q2S (S'.map fun p=>V3 ρ p.1)&&pins.all fun i=>V3 ρ i==i
theorem AW.region {L:Lay} {pins:List Nat} (Fm:Fr P L C pins) {id:Nat} {ops:Array Oper} {draw:Bool} {E E' : List (Nat×AVal)} {S S' : List (Nat×Obj)} {Q:Exit->Act->World->Prop} (ds:List Dir) (ρ:List (Nat×Nat))
    (hchk:Z7z L pins nt ops draw ds E S ρ S'=true) (hC:Q7r P C nt L ops ops.toList ds (lk E) (ls S))
    (he0:E'.map (fun p=>Z3n ops.toList (Q1k L ops ops.toList ds (lk E) (ls S)) (lk E) p.1)=E'.map (fun p=>p.2.ren (V3 ρ)))
    (hs0:S'.map (fun p=>Z3m (Q1k L ops ops.toList ds (lk E) (ls S)) (ls S) (V3 ρ p.1))=S'.map (fun p=>some (p.2.ren (V3 ρ))))
    (k:Kn C nt E' S' (Q .normal)):AW P C nt (.region id ops draw) E S Q:=by
  simp only [Z7z,Bool.and_eq_true] at hchk;obtain ⟨⟨⟨⟨⟨G,O⟩,K⟩,U⟩,Y⟩,M⟩:=hchk
  have b:=W0L (P:=P) (C:=C) (nt:=nt) (L:=L) (ops:=ops) Fm.lay ops.toList ds (lk E) (ls S) G hC;generalize hF:Q1k L ops ops.toList ds (lk E) (ls S)=F at *
  have r:pinsB C (V3 ρ):=fun i f=>by
    have:=List.all_eq_true.1 M i (Fm.pin i f)
    simpa using this
  have m:=Q4t O;intro R η a w J
  have g:=J.narrow;have t:∀ n ∈ Q5t F,¬ (n ∈ Y3Z E S\/C.pin n≠none):=by
    intro n hn q;have:=List.all_eq_true.1 K n hn
    simp at this
    rcases q with q|q
    · exact this.1 q
    · exact this.2 (Fm.pin n q)
  have h:∀ η' d w',Conc C nt (fun i=>(i ∈ Y3Z E S\/C.pin i≠none)\/i ∈ Q5t F) η' (Z3n ops.toList F (lk E)) (Z3m F (ls S)) d w' -> Q .normal d w':=fun η' d w' c =>
    k _ _ d w' (c.lit r (fun p x=>ALe.of_eq (Q1J he0 p x)) (fun p x=>⟨_,Q1J hs0 p x,OLe.refl _⟩) (Q4t Y))
  cases draw with
  | false=>exact wp_region_list (Y6O ops.toList F _ η _ _ a w b m t g h)
  | true=>
    have u:W2v ops.toList F=true:=by simpa using U
    obtain ⟨H,g2,B⟩:=Y6k ops.toList F ops.toList F [] [] u rfl rfl rfl (fun k i W=>by simp at W);have v:=Y8F (P:=P) (C:=C) (nt:=nt) (ops:=ops) ops.toList F ops.toList F 0 (lk E) (ls S) (fun j=>by rw [Nat.zero_add]) (fun j _=>by rw [Nat.zero_add]) B b
    obtain ⟨D,A,z⟩:=v;simp only [Nat.zero_add,List.range_zero,List.reverse_nil] at D A z
    refine wp_region_any Fm.mixed (W0P (R:=fun i=>i ∈ Y3Z E S\/C.pin i≠none) (e0:=lk E) (s0:=ls S) B (fun j o e=>H j o e (Nat.zero_le _)) (fun i j Z I fi fj y=>g2 i j Z I fi fj y (Nat.zero_le _)) D m t (fun η' d w' c=>h η' d w' ?_)
      ops.size (Array.replicate ops.size false) [] η a _ (by simp) (fun i f=>by simp [f]) (by simp) ⟨List.nodup_nil,fun l1 k l2 V=>by simp at V⟩ (by simp) ?_)
    · have N:Z3n ops.toList F (lk E)=hE ops.toList F (lk E) (List.range ops.size).reverse:=by rw [Array.length_toList] at A;exact A
      have T:Z3m F (ls S)=hS F (ls S) (List.range ops.size).reverse:=by rw [Array.length_toList] at z;exact z
      rw [N,T];exact c
    · exact g.drew.wider fun i f=>.inl f
end
end
section
section
variable {P:Program} {C:Ctx} {nt:Nat} {L:Lay} {pins:List Nat} {E:List (Nat×AVal)} {S:List (Nat×Obj)} {Q:Exit->Act->World->Prop}
theorem AW.seq {x y:Code} (h:AW P C nt x E S (Exit.then (y.wp P Q) Q)):AW P C nt (.seq x y) E S Q:=fun R η a w b=>wp_seq (h R η a w b)
theorem AW.skip (h:Kn C nt E S (Q .normal)):AW P C nt .skip E S Q:=fun R η a w b=>wp_skip (h R η a w b)
theorem AW.ret (h:Kn C nt E S (Q .ret)):AW P C nt .ret E S Q:=fun R η a w b=>wp_ret (h R η a w b)
theorem AW.exit {id:Nat} (h:Kn C nt E S (Q (.exit id))):AW P C nt (.exit id) E S Q:=fun R η a w b=>wp_exit (h R η a w b)
theorem AW.block {id:Nat} {c:Code} (h:AW P C nt c E S (Exit.inBlock id Q)):AW P C nt (.block id c) E S Q:=fun R η a w b=>wp_block (h R η a w b)
theorem AW.cond {t:Nat} {x y:Code} {b:Bool} (hb:lk E t=vb b) (ht:b=true->AW P C nt x E S Q) (hf:b=false->AW P C nt y E S Q):AW P C nt (.cond (.tmp t) x y) E S Q:=by
 intro R η a w c;have f:=c.ev t
 rw [hb] at f;have d:a.eval (.tmp t)=.bool b:=Z9N f
 cases b with
 | true=>exact wp_cond_true d (ht rfl R η a w c)
 | false=>exact wp_cond_false d (hf rfl R η a w c)
def Ex {σ:Type} (C:Ctx) (nt:Nat) (I:σ->Prop) (E:σ->List (Nat×AVal)) (S:σ->List (Nat×Obj)) (a:Act) (w:World):Prop:=∃ z,I z/\∃ R η,Conc C nt R η (lk (E z)) (ls (S z)) a w
theorem W3v {σ:Type} {I:σ->Prop} {E' : σ->List (Nat×AVal)} {S' : σ->List (Nat×Obj)} (z:σ) (hz:I z):Kn C nt (E' z) (S' z) (Ex C nt I E' S'):=fun R η _ _ b=>⟨z,hz,R,η,b⟩
theorem AW.loop {σ:Type} {c:Code} (I:σ->Prop) (μ:σ->Nat) (E' : σ->List (Nat×AVal)) (S' : σ->List (Nat×Obj)) (round:∀ z,I z->AW P C nt c (E' z) (S' z) (Exit.then (Ex C nt (fun z'=>I z' /\ μ z' < μ z) E' S') Q)) (z0:σ) (h0:I z0) :
  AW P C nt (.loop c) (E' z0) (S' z0) Q:=by
 classical
 intro R η a w B
 let J:Act->World->Nat->Prop:=fun a w n=>∃ z,I z/\μ z=n/\∃ R η,Conc C nt R η (lk (E' z)) (ls (S' z)) a w
 let m:Act->World->Nat:=fun a w=>if h:∃ n,J a w n then h.choose else 0
 have f:∀ (n:Nat) a w,J a w n->∃ k,J a w k/\∀ j,J a w j->k<=j:=by
  intro n
  induction n using Nat.strongRecOn with
  | _ n ih=>
   intro a w H;rcases Classical.em (∃ j,j<n/\J a w j) with ⟨j,t,g⟩|i
   ·exact ih j t a w g
   ·exact ⟨n,H,fun j t=>Nat.le_of_not_lt fun d=>i ⟨j,d,t⟩⟩
 let μ' : Act->World->Nat:=fun a w=>if h:∃ n,J a w n then (f h.choose a w h.choose_spec).choose else 0
 have x:∀ a w,(∃ n,J a w n)->J a w (μ' a w)/\∀ j,J a w j->μ' a w<=j:=by
  intro a w b;have:μ' a w=(f b.choose a w b.choose_spec).choose:=by simp only [μ',b,dite_true]
  rw [this];exact (f b.choose a w b.choose_spec).choose_spec
 refine wp_loop (fun a w=>∃ n,J a w n) μ' ⟨_,z0,h0,rfl,R,η,B⟩ fun a w b=>?_
 obtain ⟨⟨z,D,q,A,η',o⟩,_⟩:=x a w b;refine Code.wp_mono (fun e v u y=>?_) (round z D A η' a w o)
 cases e with
 | normal=>
  obtain ⟨z',⟨r,d⟩,G,F,p⟩:=y;have g:J v u (μ z'):=⟨z',r,rfl,G,F,p⟩
  exact ⟨⟨_,g⟩,Nat.lt_of_le_of_lt ((x v u ⟨_,g⟩).2 _ g) (by rw [<-q];exact d)⟩
 | _=>exact y
def W1y (L:Lay) (e:Env) (s:Sto):ResultVar->Option TV
 | .tmp t=>match e t with
  | .v x=>some x
  | _=>none
 | .cell a t=>match L t with
  | some ti=>match rd s ti.size (e a) with
   | some (cs,_)=>if Y4d (e a) then none else match mkT ti.kind.agg cs with
    | some (.v x)=>some x
    | _=>none
   | none=>none
  | none=>none
def Y2n (L:Lay) (e:Env) (s:Sto):List ResultVar->Option (List TV)
 | []=>some []
 | r::rs=>match W1y L e s r,Y2n L e s rs with
  | some x,some xs=>some (x::xs)
  | _,_=>none
def Y6R (L:Lay) (e:Env) (s:Sto) (rs:List ResultVar):Option AVal:=
 match rs,Y2n L e s rs with
 | [_],some [x]=>some (.v x)
 | [_],_=>none
 | _,some xs=>some (.t xs)
 | _,none=>none
def Y7O (tmps:Array Value):ResultVar->Sem Value
 | .tmp t=>pure (tmps.getD t undef)
 | .cell a t=>do loadVar t (<-asAddr (tmps.getD a undef))
theorem W1x (hL:LOk P L) {R:Nat->Prop} {η:Nat->Value} {e:Env} {s:Sto} {a:Act} {w:World} (h:Conc C nt R η e s a w) {r:ResultVar} {x:TV} (hr:W1y L e s r=some x) :
  ∃ v,(Y7O a.tmps r).run P w=.ok v w/\TRep w (XS C s η) η C v x:=by
 cases r with
 | tmp t=>
  simp only [W1y] at hr;split at hr
  ·rename_i y k
   cases hr
   have:=h.ev t
   rw [k] at this;refine ⟨a.tmps.getD t undef,rfl,?_⟩
   generalize a.tmps.getD t undef=u at this
   cases this with
   | v _ _ hv=>exact hv
  ·cases hr
 | cell a' t=>
  simp only [W1y] at hr;split at hr
  ·rename_i o N
   split at hr
   ·rename_i U c f
    split at hr
    ·cases hr
    ·rename_i q
     split at hr
     ·rename_i y k
      cases hr
      have O:c:=by
       unfold rd at f;split at f
       ·split at f
        ·split at f <;> first | (cases f;done) | (cases f;trivial)
        ·cases f
       ·split at f <;> first | (cases f;done) | (cases f;trivial)
       ·rename_i K;rw [K] at q;simp [Y4d] at q
       ·cases f
      obtain ⟨i,d,z,G⟩:=hL t o N;obtain ⟨b,m,B,W,V,I,J,T,D,A,M⟩:=W2r h f O (h.ev a')
      have H:o.kind.agg=false->o.size=1:=by
       intro n;rw [n] at k
       simp only [mkT] at k;split at k
       ·rw [<-D];rfl
       ·cases k
      have p:=Y0X (P:=P) G J T H;refine ⟨if o.kind.agg then .agg (Q8J B m o.size).toArray else B.getD m undef,?_,?_⟩
      ·simp only [Y7O,Sem.run_bind,I,asAddr,Sem.run_pure,Result.andThen_ok,p]
      ·unfold mkT at k
       split at k
       ·rename_i n
        cases k
        simp only [n,if_true];refine .g _ _ ⟨by simp [Q8J,D],fun j F=>?_⟩
        rw [D] at F;have:(Q8J B m o.size).toArray.getD j undef=B.getD (m+j) undef:=by simp [Q8J,F]
        rw [this];exact A j F
       ·rename_i n
        split at k
        ·cases k
         simp only [n,Bool.false_eq_true,if_false];have:=A 0 (by rw [H n];exact Nat.zero_lt_one)
         exact .c _ _ (by simpa using this)
        ·cases k
     ·cases hr
   ·cases hr
  ·cases hr
theorem Y9G (hL:LOk P L) {R:Nat->Prop} {η:Nat->Value} {e:Env} {s:Sto} {a:Act} {w:World} (h:Conc C nt R η e s a w):∀ (rs:List ResultVar) (xs:List TV),Y2n L e s rs=some xs ->
  ∃ vs:List Value,(rs.mapM (Y7O a.tmps)).run P w=.ok vs w/\vs.length=xs.length/\∀ j,j<xs.length->TRep w (XS C s η) η C (vs.getD j undef) (xs.getD j (.c (.d .any))):=by
 intro rs
 induction rs with
 | nil=>intro xs b;cases b;exact ⟨[],by simp,rfl,fun j g=>by simp at g⟩
 | cons r rs ih=>
  intro xs b;simp only [Y2n] at b
  split at b
  ·rename_i x f n i
   cases b
   obtain ⟨v,o,m⟩:=W1x hL h n;obtain ⟨vs,p,q,k⟩:=ih f i
   refine ⟨v::vs,?_,by simp [q],fun j g=>?_⟩
   ·simp only [List.mapM_cons,Sem.run_bind,o,p,Result.andThen_ok,Sem.run_pure]
   ·cases j with
    | zero=>exact m
    | succ j=>exact k j (by simpa using g)
  ·cases b
theorem W1z (hL:LOk P L) {R:Nat->Prop} {η:Nat->Value} {e:Env} {s:Sto} {a:Act} {w:World} (h:Conc C nt R η e s a w) {fn:Func} {x:AVal} (hr:Y6R L e s fn.results.toList=some x) :
  ∃ v,(results fn a.tmps).run P w=.ok v w/\ARep w (XS C s η) η C v x:=by
 have i:∀ g,Y2n L e s fn.results.toList=some g->∃ b:List Value,(results fn a.tmps).run P w=.ok (if h:b.toArray.size=1 then b.toArray[0] else .tuple b.toArray) w/\b.length=g.length/\∀ j,j<g.length->TRep w (XS C s η) η C (b.getD j undef) (g.getD j (.c (.d .any))):=by
  intro g f;obtain ⟨b,m,k,o⟩:=Y9G hL h _ _ f
  refine ⟨b,?_,k,o⟩;have q:results fn a.tmps=(do let b <-fn.results.mapM (Y7O a.tmps);pure (if h:b.size=1 then b[0] else .tuple b)):=by
   unfold results;congr 1
  rw [q];simp only [Sem.run_bind,Array.mapM_eq_mapM_toList,Sem.run_map,m,Result.andThen_ok,Sem.run_pure]
 unfold Y6R at hr;split at hr
 ·rename_i r I y f
  cases hr
  obtain ⟨b,m,k,o⟩:=i _ f;refine ⟨b.getD 0 undef,?_,.v _ _ (o 0 (by simp))⟩
  rw [m]
  cases b with
  | nil=>simp at k
  | cons v r=>cases r with
   | nil=>rfl
   | cons _ _=>simp at k
 ·cases hr
 ·skip
  rename_i g f _ u
  cases hr
  obtain ⟨b,m,k,o⟩:=i _ f;refine ⟨.tuple b.toArray,?_,.t _ _ (by simpa using k) (fun j D=>by simpa [List.getD_eq_getElem?_getD] using o j D)⟩
  rw [m];have p:∀ (n:List ResultVar) (g:List TV),Y2n L e s n=some g->n.length=g.length:=by
   intro n
   induction n with
   | nil=>intro g h;cases h;rfl
   | cons r n ih=>
    intro g h;simp only [Y2n] at h
    split at h
    ·rename_i J H G B;cases h;simp [ih _ B]
    ·cases h
  have A:¬ b.toArray.size=1:=by
   intro z;have F:b.length=1:=by simpa using z
   have:=p _ _ f
   rw [<-k,F] at this;obtain ⟨r,hr⟩:=List.length_eq_one_iff.1 this
   exact u r hr
  rw [dif_neg A]
 ·cases hr
end
end
section
def J7 (S:List (Nat×Obj)) (w:World) (X:Nat->Prop) (η:Nat->Value):Ctx where
 w0:=w
 D:=Own (ls S) η
 M:=fun b=>∃ i o,ls S i=some o/\o.ro=false/\b ∈ Y8 (η i)
 X:=X
 pin:=fun i=>if (S.lookup i).isSome then some (η i) else none
structure Behind (C:Ctx) (r:AVal) (S' : List (Nat×Obj)) (v:Value) (η' : Nat->Value) (w' : World):Prop where
 stp:Stp C.M C.w0 w'
 res:ARep w' (XS C (ls S') η') η' C v r
 objs:∀ i o,ls S' i=some o->ORep w' (XS C (ls S') η') η' C (η' i) o
 ds:∀ i j b,ls S' i≠none->ls S' j≠none->b ∈ Y8 (η' i)->b ∈ Y8 (η' j)->i=j
 ow:∀ i o b,ls S' i=some o->b ∈ Y8 (η' i)->(o.ro=true/\C.D b)\/C.M b\/C.w0.heap.size<=b
 pn:∀ i v,C.pin i=some v->η' i=v
def Q6 (P:Program) (f:Nat) (args:List AVal) (S:List (Nat×Obj)) (r:AVal) (S' : List (Nat×Obj)):Prop:=
 ∀ (w:World) (X:Nat->Prop) (η:Nat->Value) (vs:Array Value),(∀ b,X b->b<w.heap.size)->(∀ b,Own (ls S) η b->X b) ->
  (∀ i o,ls S i=some o->ORep w X η (J7 S w X η) (η i) o)->(∀ i j b,ls S i≠none->ls S j≠none->b ∈ Y8 (η i)->b ∈ Y8 (η j)->i=j) ->
  vs.size=args.length->(∀ j,j<args.length->ARep w X η (J7 S w X η) (vs.getD j undef) (args.getD j .any)) ->
  Calls P f vs w fun e w'=>∃ v η',e=.returned v/\Behind (J7 S w X η) r S' v η' w'
def Y6t (args:List AVal):List (Nat×AVal):=args.zipIdx.map fun p=>(p.2,p.1)
def Y5F (P:Program) (fn:Func) (C:Ctx) (r:AVal) (S' : List (Nat×Obj)):Exit->Act->World->Prop:=
 bodyPost P fn fun e w'=>∃ v η',e=.returned v/\Behind C r S' v η' w'
section
variable {P:Program} {L:Lay}
theorem Y1I {S:List (Nat×Obj)} {X:Nat->Prop} {η:Nat->Value} {w:World} (h:∀ b,Own (ls S) η b->X b):XS (J7 S w X η) (ls S) η=X:=by
 funext b
 apply propext;constructor
 ·rintro (⟨c,_⟩|c)
  ·exact c
  ·exact h b c
 ·intro c
  rcases Classical.em (Own (ls S) η b) with d|d
  ·exact .inr d
  ·exact .inl ⟨c,d⟩
theorem W0N (args:List AVal) (t:Nat):lk (Y6t args) t=args.getD t .any:=by
 unfold lk Y6t;have b:∀ (l:List AVal) (k t:Nat),(((l.zipIdx k).map fun p=>(p.2,p.1)).lookup t).getD .any=if t<k then .any else l.getD (t-k) .any:=by
  intro l
  induction l with
  | nil=>intro k t;simp
  | cons x l ih=>
   intro k t;simp only [List.zipIdx_cons,List.map_cons,List.lookup_cons]
   by_cases ht:t=k
   ·subst ht;simp
   ·have:(t==k)=false:=by simpa using ht
    simp only [this];rw [ih (k+1) t]
    by_cases h1:t<k
    ·rw [if_pos (by omega),if_pos h1]
    ·rw [if_neg (by omega),if_neg h1]
     have:t-k=(t-(k+1))+1:=by omega
     rw [this];simp
 have:=b args 0 t
 simpa using this
theorem Q6.intro (hm:P.follows .mixedOrders=true) (hL:LOk P L) {f:Nat} {fn:Func} {c:Code} (hf:P.funcs[f]?=some fn) (hb:fn.body=some c) {args:List AVal} {S:List (Nat×Obj)} {r:AVal} {S' : List (Nat×Obj)} (hn0:Nat.ble args.length fn.ntmps=true)
  (h:∀ C,Fr P L C (S.map (·.1))->AW P C fn.ntmps c (Y6t args) S (Y5F P fn C r S')):Q6 P f args S r S':=by
 have G:args.length<=fn.ntmps:=Nat.le_of_ble_eq_true hn0;intro w X η p B g n j x k
 have q:(J7 S w X η).Ok:=⟨fun b ⟨i,o,h1,_,h2⟩=>⟨i,o,h1,h2⟩,fun b hb=>g b hb,B⟩;refine calls_of_wp hf hb (h (J7 S w X η) ⟨hm,hL,fun i d=>?_⟩ (fun _=>True) η _ w ⟨q,rfl,?_,fun t=>?_,fun _ _ _=>trivial,fun i o d=>?_,fun _ _ _=>⟨trivial,fun _ _=>trivial⟩,j,fun i o b d m=>?_,Stp.refl _ _,fun i v d=>⟨?_,trivial⟩⟩)
 ·simp only [J7] at d
  split at d
  ·rename_i z
   obtain ⟨o,A⟩:=Option.isSome_iff_exists.1 z;obtain ⟨D,F,y,_⟩:=List.lookup_eq_some_iff.1 A
   rw [y];simp
  ·exact absurd rfl d
 ·simp;omega
 ·rw [Y1I g,W0N]
  by_cases ht:t<args.length
  ·have u:(p++Array.replicate (fn.ntmps-p.size) undef).getD t undef=p.getD t undef:=by
    have:t<p.size:=by omega
    simp [this,Array.getElem?_append,Array.getD_eq_getD_getElem?]
   simp only [u];exact k t ht
  ·rw [List.getD_eq_getElem?_getD,List.getElem?_eq_none (by omega)]
   exact .any _
 ·rw [Y1I g];exact n i o d
 ·cases hro:o.ro with
  | true=>exact .inl ⟨rfl,⟨i,o,d,m⟩⟩
  | false=>exact .inr (.inl ⟨i,o,d,hro,m⟩)
 ·simp only [J7] at d
  split at d
  ·cases d;rfl
  ·cases d
theorem Kn.done {C:Ctx} {nt:Nat} {pins:List Nat} (Fm:Fr P L C pins) {fn:Func} {E:List (Nat×AVal)} {S:List (Nat×Obj)} {r:AVal} {S' : List (Nat×Obj)} (hr:Y6R L (lk E) (ls S) fn.results.toList=some r)
  (hS:S'.map (fun p=>ls S p.1)=S'.map (fun p=>some p.2)):Kn C nt E S (Y5F P fn C r S' .ret):=by
 intro R η a w f;obtain ⟨v,y,t⟩:=W1z (P:=P) Fm.lay f hr
 have c:∀ i o,ls S' i=some o->ls S i=some o:=fun i o d=>Q1J hS (i,o) (U6 d)
 have m:Q7i w w (XS C (ls S) η) (XS C (ls S') η):=by
  intro b z x;refine ⟨rfl,fun k=>x ?_⟩
  rcases k with n|⟨i,o,d,h⟩
  ·exact .inl n
  ·exact .inr ⟨i,o,c i o d,h⟩
 have g:∀ i,ls S' i≠none->ls S i≠none:=by
  intro i d;obtain ⟨o,q⟩:=Option.ne_none_iff_exists'.1 d
  rw [c i o q];simp
 exact ⟨f.df,v,y,v,η,rfl,f.fr,t.mono m (fun _ _=>rfl),fun i o d=>(f.st i o (c i o d)).mono m (fun _ _=>rfl) (fun _ _=>rfl),
  fun i j b d u=>f.ds i j b (g i d) (g j u),fun i o b d=>f.ow i o b (c i o d),fun i v d=>(f.pn i v d).1⟩
end
end
section
def Y4v:Value->CV
 | .int k n=>.d (.int k n)
 | .bool b=>.d (.bool b)
 | .string s=>.d (.str s)
 | .slice none 0 0=>.fl 0 fun _=>[]
 | _=>.d .any
def W0a:TypeDesc->TK
 | .int k=>.int k
 | .bool=>.bool
 | .string=>.str
 | .slice e=>.slice e
 | .struct fs=>.struct (fs.toList.map fun f=>(f.offset,f.type))
 | .array n e=>.array n e
 | _=>.other
def Y7V (P:Program) (t:Nat):Option TI:=
 match P.info? t,P.underlying t with
 | some i,some d=>match i.zero with
  | some z=>if z.cells.toList.all Value.oneCell' then some ⟨W0a d,i.size,i.bytes,z.cells.toList.map Y4v⟩ else none
  | none=>none
 | _,_=>none
theorem Y3N {w:World} {X:Nat->Prop} {η:Nat->Value} {C:Ctx} {v:Value} (h:v.oneCell'=true):CRep w X η C v (Y4v v)/\(Y4v v).refs=[]:=by
 unfold Y4v;split
 ·exact ⟨.d _ _ (.int _ _),rfl⟩
 ·exact ⟨.d _ _ (.bool _),rfl⟩
 ·exact ⟨.d _ _ (.str _),rfl⟩
 ·exact ⟨.fl _ _ _ (.nil _ _ _),rfl⟩
 ·exact ⟨.d _ _ (.any _ h),rfl⟩
theorem Y9Z (P:Program):LOk P (Y7V P):=by
 intro t q h;unfold Y7V at h
 split at h
 ·rename_i i d m f
  split at h
  ·rename_i z n
   split at h
   ·rename_i b
    cases h
    rw [List.all_eq_true] at b;refine ⟨i,d,z,m,f,rfl,rfl,n,fun w X η C=>⟨by simp,fun j o=>?_⟩,?_,?_⟩
    ·have c : j<z.cells.size:=by simpa using o
     have p:z.cells[j] ∈ z.cells.toList:=by simp
     have:=(Y3N (w:=w) (X:=X) (η:=η) (C:=C) (b _ p)).1
     simpa [List.getD_eq_getElem?_getD,c] using this
    ·rw [List.flatMap_eq_nil_iff]
     intro x g;obtain ⟨v,k,rfl⟩:=List.mem_map.1 g
     exact (Y3N (w:=default) (X:=fun _=>False) (η:=fun _=>default) (C:=⟨default,fun _=>False,fun _=>False,fun _=>False,fun _=>none⟩) (b v k)).2
    ·cases d <;> simp [W0a,KOk]
   ·cases h
  ·cases h
 ·cases h
def Y5p (T:List (Nat×TI)):Lay:=fun t=>T.lookup t
theorem W2H {P:Program} {T:List (Nat×TI)} (h:T.map (fun p=>Y7V P p.1)=T.map (fun p=>some p.2)):LOk P (Y5p T):=by
 intro t b d;obtain ⟨g,f,c,_⟩:=List.lookup_eq_some_iff.1 d
 exact Y9Z P t b (Q1J h (t,b) (by rw [c];simp))
section
variable {P:Program} {C:Ctx} {nt:Nat} {L:Lay} {pins:List Nat}
end
end
end
end Go.Ab
