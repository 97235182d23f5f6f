/- The code that the statement reaches as plain programs, and what they compute: no condition on the program. -/
import Derived.Test.YtgfmopdbhjcpfaaGreatAbC
import Derived.Test.YtgfmopdbhjcpfaaGreatPuA
set_option linter.unusedVariables false
set_option linter.unusedSimpArgs false
section
namespace Go.Ab
set_option linter.unusedVariables false
set_option maxRecDepth 100000
noncomputable section
structure Term where
 op_:Int
 num_:Int
 more_:Int
 kids_:(List Term)
def Term.d0 (x:Term):DVal:=if x.op_=(2 ^ 64) then .any else .int .i64 x.op_
def Term.d1 (x:Term):DVal:=if x.op_=(2 ^ 64) then .any else .int .i64 x.num_
def Term.d2 (x:Term):DVal:=if x.op_=(2 ^ 64) then .any else .int .i64 x.more_
def Term.d3:Term→DVal
 | ⟨a0,a1,a2,a3⟩=>if a0=(2 ^ 64) then .any else .lst a3.length (fun i=>if h:i<a3.length then [Term.d0 a3[i],Term.d1 a3[i],Term.d2 a3[i],Term.d3 a3[i]] else [.any,.any,.any,.any])
decreasing_by
 have:=List.sizeOf_lt_of_mem (List.getElem_mem h)
 simp only [Term.mk.sizeOf_spec]
 omega
instance:Emb Term:=⟨fun x=>[x.d0,x.d1,x.d2,x.d3],4,⟨(2 ^ 64),0,0,[]⟩,fun _=>rfl⟩
theorem Term.cells_eq {x:Term} (h:I64 x.op_):Emb.cells x=[.int .i64 x.op_,.int .i64 x.num_,.int .i64 x.more_,DL x.kids_]:=by
 obtain ⟨a0,a1,a2,a3⟩:=x
 show [Term.d0 _,Term.d1 _,Term.d2 _,Term.d3 _]=_
 have h:I64 a0:=h
 have hm : ¬ a0=(2 ^ 64):=fun e=>by subst e; revert h; decide
 have hl : ∀ l:List Term,(.lst l.length (fun i=>if h:i<l.length then [Term.d0 l[i],Term.d1 l[i],Term.d2 l[i],Term.d3 l[i]] else [.any,.any,.any,.any]):DVal)=DL l:=by
  intro l
  unfold DL
  congr 1
  funext i
  unfold LF
  by_cases hi:i<l.length
  ·rw [dif_pos hi,List.getD_eq_getElem?_getD,List.getElem?_eq_getElem hi]; rfl
  ·rw [dif_neg hi,List.getD_eq_getElem?_getD,List.getElem?_eq_none (by omega)]; show _=[Term.d0 ⟨(2 ^ 64),0,0,[]⟩,Term.d1 ⟨(2 ^ 64),0,0,[]⟩,Term.d2 ⟨(2 ^ 64),0,0,[]⟩,Term.d3 ⟨(2 ^ 64),0,0,[]⟩]; unfold Term.d3; rfl
 have hk:Term.d3 ⟨a0,a1,a2,a3⟩=DL a3:=by
  unfold Term.d3
  rw [if_neg hm,hl]
 rw [hk]
 simp only [Term.d0,Term.d1,Term.d2,if_neg hm]
theorem Term.elm {l:List Term} {i:Nat} (h:I64 (gl l i).op_):AVal.v (.c (.elm (LF l i)))=.v (.c (.elm [.int .i64 (gl l i).op_,.int .i64 (gl l i).num_,.int .i64 (gl l i).more_,DL (gl l i).kids_])):=by
 have:=Term.cells_eq h
 unfold LF
 unfold gl at this ⊢
 rw [this]
structure Bracket where
 up_:Int
 rate_:Int
 deriving DecidableEq
instance:Emb Bracket:=⟨fun x=>[.int .i64 x.up_,.int .i64 x.rate_],2,⟨0,0⟩,fun _=>rfl⟩
structure Scheme where
 number_:Int
 name_:ByteArray
 cond_:Term
 brackets_:(List Bracket)
 least_:Int
 excludes_:Int
 needs_:Bool
instance:Emb Scheme:=⟨fun x=>[.int .i64 x.number_,.str x.name_,.int .i64 x.cond_.op_,.int .i64 x.cond_.num_,.int .i64 x.cond_.more_,DL (α:=Term) x.cond_.kids_,DL (α:=Bracket) x.brackets_,.int .i64 x.least_,.int .i64 x.excludes_,.bool x.needs_],10,⟨0,ByteArray.empty,(Emb.d:Term),[],0,0,false⟩,fun _=>rfl⟩
instance:Emb Rect:=⟨fun x=>[.int .i64 x.left_,.int .i64 x.low_,.int .i64 x.right_,.int .i64 x.high_],4,⟨0,0,0,0⟩,fun _=>rfl⟩
structure Region where
 rects_:(List Rect)
 deriving DecidableEq
instance:Emb Region:=⟨fun x=>[DL (α:=Rect) x.rects_],1,⟨[]⟩,fun _=>rfl⟩
structure Tape where
 l_:(List Int)
 at_:Int
 deriving DecidableEq
instance:Emb Tape:=⟨fun x=>[DL (α:=Int) x.l_,.int .i64 x.at_],2,⟨[],0⟩,fun _=>rfl⟩
instance:Emb Span:=⟨fun x=>[.int .i64 x.left_,.int .i64 x.right_],2,⟨0,0⟩,fun _=>rfl⟩
structure Band where
 low_:Int
 high_:Int
 spans_:(List Span)
 deriving DecidableEq
instance:Emb Band:=⟨fun x=>[.int .i64 x.low_,.int .i64 x.high_,DL (α:=Span) x.spans_],3,⟨0,0,[]⟩,fun _=>rfl⟩
def FR_Term_Bool (q:Term→Option Bool):List AVal→AVal→Prop:=fun args r=>∃ x0 y,q x0=some y∧args=[.v (.g [ci x0.op_,ci x0.num_,ci x0.more_,.d (DL x0.kids_)])]∧r=vb y
def FR_Scheme_Bool (q:Scheme→Option Bool):List AVal→AVal→Prop:=fun args r=>∃ x0 y,q x0=some y∧args=[gE x0]∧r=vb y
def FR_Region_Bool (q:Region→Option Bool):List AVal→AVal→Prop:=fun args r=>∃ x0 y,q x0=some y∧args=[.v (.g [.d (DL x0.rects_)])]∧r=vb y
def FR_Rect_Bool (q:Rect→Option Bool):List AVal→AVal→Prop:=fun args r=>∃ x0 y,q x0=some y∧args=[gE x0]∧r=vb y
def FR_Span_Span_Int (q:Span→Span→Option Int):List AVal→AVal→Prop:=fun args r=>∃ x0 x1 y,q x0 x1=some y∧args=[gE x0,gE x1]∧r=vi y
def FR_Int_ListSpan (q:Int→Option (List Span)):List AVal→AVal→Prop:=fun args r=>∃ x0 y,q x0=some y∧args=[vi x0]∧r=AL (α:=Span) y
def FR_Span_Bool (q:Span→Option Bool):List AVal→AVal→Prop:=fun args r=>∃ x0 y,q x0=some y∧args=[gE x0]∧r=vb y
def FR_Bool_Bool_Bool (q:Bool→Bool→Option Bool):List AVal→AVal→Prop:=fun args r=>∃ x0 x1 y,q x0 x1=some y∧args=[vb x0,vb x1]∧r=vb y
def words_Name_k3 (F:Nat) (a:Int) (b:(Int)→Option (Bool)) (c:Bool):Option (Bool):=
 br c (some false) (gd (I64 (a+(1:Int))) <|
 b (a+(1:Int)))
def words_Name_k2 (F:Nat) (a:Int) (c:Bool) (b:(Int)→Option (Bool)) (d:Bool):Option (Bool):=
 br (!c) (br (a==(0:Int)) (words_Name_k3 F a b true) (words_Name_k3 F a b (!d))) (words_Name_k3 F a b false)
def words_Name_k1 (F:Nat) (x1:ByteArray) (a:Int) (b:(Int)→Option (Bool)) (c:Bool):Option (Bool):=
 gd (0≤a∧a<((x1.size:Nat):Int)) <|
 br (decide ((48:Int)≤(sAt x1 a))) (gd (0≤a∧a<((x1.size:Nat):Int)) <|
 words_Name_k2 F a c b (decide ((sAt x1 a)≤(57:Int)))) (words_Name_k2 F a c b false)
def words_Name_k5 (F:Nat) (a:Bool):Option (Bool):=
 some a
def words_Name_k4 (F:Nat) (x1:ByteArray):Option (Bool):=
 br (decide ((1:Int)≤((x1.size:Nat):Int))) (words_Name_k5 F (decide (((x1.size:Nat):Int)≤(12:Int)))) (words_Name_k5 F false)
def words_Name_b0 (F:Nat) (x1:ByteArray) (b:(Int)→Option (Bool)) (a:Int):Option (Bool):=
 br (decide (a<((x1.size:Nat):Int))) (gd (0≤a∧a<((x1.size:Nat):Int)) <|
 br (decide ((97:Int)≤(sAt x1 a))) (gd (0≤a∧a<((x1.size:Nat):Int)) <|
 words_Name_k1 F x1 a b (decide ((sAt x1 a)≤(122:Int)))) (words_Name_k1 F x1 a b false)) (words_Name_k4 F x1)
def words_Name (F:Nat) (x1:ByteArray):Option (Bool):=
 loopN (fun again (z:Int)=>words_Name_b0 F x1 again z) F (0:Int)
def term_count_k1 (F:Nat) (rc:Term→Int→Option (Int)) (a:Int):Option (Int):=
 some a
def term_count_b0 (F:Nat) (rc:Term→Int→Option (Int)) (c:Term) (d:Int) (i:(Int×Int)→Option (Int)) (a:Int) (b:Int):Option (Int):=
 br (decide (b<((List.length c.kids_:Nat):Int))) (gd (0≤b∧b<((List.length c.kids_:Nat):Int)) <|
 gd (I64 (gl c.kids_ b.toNat).op_) <|
 br (decide (d<a)) (term_count_k1 F rc a) (gd (I64 (d-a)) <|
 (rc (gl c.kids_ b.toNat) (d-a)).bind fun e=>
 gd (I64 (a+e)) <|
 gd (I64 (b+(1:Int))) <|
 i ((a+e),(b+(1:Int))))) (term_count_k1 F rc a)
def term_count_B (F:Nat) (rc:Term→Int→Option (Int)) (a:Term) (b:Int):Option (Int):=
 loopN (fun again (z:Int×Int)=>term_count_b0 F rc a b again z.1 z.2) F ((1:Int),(0:Int))
def term_count:Nat→Term→Int→Option (Int)
 | 0=>fun _ _=>none
 | F+1=>term_count_B F (term_count F)
def term_limits_k0 (F:Nat) (a:Bool):Option (Int×Int×Bool):=
 br a (some ((1:Int),(10:Int),true)) (some ((0:Int),(0:Int),false))
def term_limits (F:Nat) (a:Int):Option (Int×Int×Bool):=
 br (a==(2:Int)) (some ((0:Int),(39:Int),true)) (br (a==(3:Int)) (some ((0:Int),(40:Int),true)) (br (a==(4:Int)) (some ((1:Int),(16:Int),true)) (br (a==(5:Int)) (some ((0:Int),(15:Int),true)) (br (a==(6:Int)) (some ((2:Int),(10:Int),true)) (br (a==(7:Int)) (term_limits_k0 F (a==(7:Int))) (term_limits_k0 F (a==(8:Int))))))))
def term_kids_k0 (F:Nat) (b:Int) (a:Bool):Option (Int×Int):=
 br a (some ((1:Int),(40:Int))) (br (b==(11:Int)) (some ((1:Int),(1:Int))) (some ((0:Int),(0:Int))))
def term_kids (F:Nat) (a:Int):Option (Int×Int):=
 br (a==(9:Int)) (term_kids_k0 F a (a==(9:Int))) (term_kids_k0 F a (a==(10:Int)))
def math_bits_OnesCount64 (F:Nat) (a:Int):Option (Int):=
 gd (0≤(1:Int)) <|
 (some (band .u64 (a.fdiv (2 ^ (min ((1:Int)).toNat (IntKind.bits .u64)))) (6148914691236517205:Int))).bind fun l=>
 (some (IntKind.wrap .u64 (l+(band .u64 a (6148914691236517205:Int))))).bind fun e=>
 gd (0≤(2:Int)) <|
 (some (band .u64 (e.fdiv (2 ^ (min ((2:Int)).toNat (IntKind.bits .u64)))) (3689348814741910323:Int))).bind fun m=>
 (some (IntKind.wrap .u64 (m+(band .u64 e (3689348814741910323:Int))))).bind fun i=>
 gd (0≤(4:Int)) <|
 (some (IntKind.wrap .u64 ((i.fdiv (2 ^ (min ((4:Int)).toNat (IntKind.bits .u64))))+i))).bind fun j=>
 gd (0≤(8:Int)) <|
 (some ((band .u64 j (1085102592571150095:Int)).fdiv (2 ^ (min ((8:Int)).toNat (IntKind.bits .u64))))).bind fun k=>
 (some (IntKind.wrap .u64 ((band .u64 j (1085102592571150095:Int))+k))).bind fun b=>
 gd (0≤(16:Int)) <|
 (some (IntKind.wrap .u64 (b+(b.fdiv (2 ^ (min ((16:Int)).toNat (IntKind.bits .u64))))))).bind fun c=>
 gd (0≤(32:Int)) <|
 (some (IntKind.wrap .u64 (c+(c.fdiv (2 ^ (min ((32:Int)).toNat (IntKind.bits .u64))))))).bind fun d=>
 gd (I64 d) <|
 some (band .i64 d (127:Int))
def math_bits_OnesCount (F:Nat) (a:Int):Option (Int):=
 (math_bits_OnesCount64 F a).bind fun b=>
 some b
def term_single_k0 (F:Nat) (a:Bool):Option (Bool):=
 some a
def term_single (F:Nat) (a:Int):Option (Bool):=
 br (decide ((1:Int)≤a)) (br (decide (a≤(16:Int))) ((math_bits_OnesCount F (IntKind.wrap .u64 a)).bind fun b=>
 term_single_k0 F (b==(1:Int))) (term_single_k0 F false)) (term_single_k0 F false)
def slices_IndexFunc_Term_k1 (F:Nat):Option (Int):=
 some (-1:Int)
def slices_IndexFunc_Term_b0 (F:Nat) (b:(List Term)) (d:Term→Option Bool) (c:(Int)→Option (Int)) (a:Int):Option (Int):=
 br (decide (a<((List.length b:Nat):Int))) (gd (0≤a∧a<((List.length b:Nat):Int)) <|
 gd (I64 (gl b a.toNat).op_) <|
 (d (gl b a.toNat)).bind fun e=>
 br e (some a) (gd (I64 (a+(1:Int))) <|
 c (a+(1:Int)))) (slices_IndexFunc_Term_k1 F)
def slices_IndexFunc_Term (F:Nat) (a:(List Term)) (b:Term→Option Bool):Option (Int):=
 loopN (fun again (z:Int)=>slices_IndexFunc_Term_b0 F a b again z) F (0:Int)
def slices_ContainsFunc_Term (F:Nat) (a:(List Term)) (b:Term→Option Bool):Option (Bool):=
 (slices_IndexFunc_Term F a b).bind fun c=>
 some (decide ((0:Int)≤c))
def term_right_1 (F:Nat) (rc:Term→Int→Option (Bool)) (b:Term) (a:Int):Option (Bool):=
 gd (I64 (a-(1:Int))) <|
 (rc b (a-(1:Int))).bind fun c=>
 some (!c)
def term_right_k3 (F:Nat) (rc:Term→Int→Option (Bool)) (b:Term) (c:Int) (a:Bool):Option (Bool):=
 br a (some false) ((slices_ContainsFunc_Term F b.kids_ (fun y0=>term_right_1 F rc y0 c)).bind fun d=>
 some (!d))
def term_right_k2 (F:Nat) (rc:Term→Int→Option (Bool)) (a:Term) (b:Int) (c:Int×Int) (d:Bool):Option (Bool):=
 br d (some false) (br (decide (((List.length a.kids_:Nat):Int)<c.1)) (term_right_k3 F rc a b true) (term_right_k3 F rc a b (decide (c.2<((List.length a.kids_:Nat):Int)))))
def term_right_k1 (F:Nat) (rc:Term→Int→Option (Bool)) (a:Term) (b:Int) (c:Int×Int) (d:Bool):Option (Bool):=
 br d (some false) (br (a.op_==(4:Int)) ((term_single F a.num_).bind fun e=>
 br (!e) (term_right_k2 F rc a b c true) (br (a.op_==(7:Int)) ((term_single F a.more_).bind fun i=>
 br (!i) (term_right_k2 F rc a b c true) (br (a.op_ != (7:Int)) (term_right_k2 F rc a b c (a.more_ != (0:Int))) (term_right_k2 F rc a b c false))) (br (a.op_ != (7:Int)) (term_right_k2 F rc a b c (a.more_ != (0:Int))) (term_right_k2 F rc a b c false)))) (br (a.op_==(7:Int)) ((term_single F a.more_).bind fun j=>
 br (!j) (term_right_k2 F rc a b c true) (br (a.op_ != (7:Int)) (term_right_k2 F rc a b c (a.more_ != (0:Int))) (term_right_k2 F rc a b c false))) (br (a.op_ != (7:Int)) (term_right_k2 F rc a b c (a.more_ != (0:Int))) (term_right_k2 F rc a b c false))))
def term_right_k0 (F:Nat) (rc:Term→Int→Option (Bool)) (a:Term) (b:Int) (d:Int×Int×Bool) (c:Int×Int) (e:Bool):Option (Bool):=
 br e (some false) (br d.2.2 (br (decide (a.num_<d.1)) (term_right_k1 F rc a b c true) (br (decide (d.2.1<a.num_)) (term_right_k1 F rc a b c true) (br (!d.2.2) (term_right_k1 F rc a b c (a.num_ != (0:Int))) (term_right_k1 F rc a b c false)))) (br (!d.2.2) (term_right_k1 F rc a b c (a.num_ != (0:Int))) (term_right_k1 F rc a b c false)))
def term_right_B (F:Nat) (rc:Term→Int→Option (Bool)) (a:Term) (b:Int):Option (Bool):=
 (term_limits F a.op_).bind fun c=>
 (term_kids F a.op_).bind fun d=>
 br (decide (a.op_<(1:Int))) (term_right_k0 F rc a b c d true) (br (decide ((11:Int)<a.op_)) (term_right_k0 F rc a b c d true) (term_right_k0 F rc a b c d (b==(0:Int))))
def term_right:Nat→Term→Int→Option (Bool)
 | 0=>fun _ _=>none
 | F+1=>term_right_B F (term_right F)
def term_Check (F:Nat) (a:Term):Option (Int):=
 (term_count F a (40:Int)).bind fun b=>
 br (decide ((40:Int)<b)) (some (1:Int)) ((term_right F a (8:Int)).bind fun c=>
 br (!c) (some (16:Int)) (some (0:Int)))
def scheme_brackets_k1 (F:Nat) (a:Int) (b:(Int)→Option (Bool)) (c:Bool):Option (Bool):=
 br c (some false) (gd (I64 (a+(1:Int))) <|
 b (a+(1:Int)))
def scheme_brackets_k3 (F:Nat) (a:Bool):Option (Bool):=
 some a
def scheme_brackets_k2 (F:Nat) (a:(List Bracket)):Option (Bool):=
 br (decide ((1:Int)≤((List.length a:Nat):Int))) (scheme_brackets_k3 F (decide (((List.length a:Nat):Int)≤(6:Int)))) (scheme_brackets_k3 F false)
def scheme_brackets_b0 (F:Nat) (b:(List Bracket)) (c:(Int)→Option (Bool)) (a:Int):Option (Bool):=
 br (decide (a<((List.length b:Nat):Int))) (gd (0≤a∧a<((List.length b:Nat):Int)) <|
 br (decide (((gl b a.toNat).up_)<(1:Int))) (scheme_brackets_k1 F a c true) (br (decide ((268435456:Int)<((gl b a.toNat).up_))) (scheme_brackets_k1 F a c true) (br (decide (((gl b a.toNat).rate_)<(0:Int))) (scheme_brackets_k1 F a c true) (br (decide ((1048576:Int)<((gl b a.toNat).rate_))) (scheme_brackets_k1 F a c true) (br (decide ((0:Int)<a)) (gd (I64 (a-(1:Int))) <|
 gd (0≤(a-(1:Int))∧(a-(1:Int))<((List.length b:Nat):Int)) <|
 scheme_brackets_k1 F a c (decide (((gl b a.toNat).up_)≤((gl b (a-(1:Int)).toNat).up_)))) (scheme_brackets_k1 F a c false)))))) (scheme_brackets_k2 F b)
def scheme_brackets (F:Nat) (a:(List Bracket)):Option (Bool):=
 loopN (fun again (z:Int)=>scheme_brackets_b0 F a again z) F (0:Int)
def scheme_Valid_k1 (F:Nat) (a:Bool):Option (Int):=
 br a (some (3:Int)) (some (0:Int))
def scheme_Valid_k0 (F:Nat) (a:Scheme) (c:Bool):Option (Int):=
 br c (some (2:Int)) ((words_Name F a.name_).bind fun d=>
 br (!d) (some (5:Int)) ((term_Check F a.cond_).bind fun b=>
 br (b != (0:Int)) (some b) ((scheme_brackets F a.brackets_).bind fun e=>
 br (!e) (scheme_Valid_k1 F true) (br (decide (a.excludes_<(0:Int))) (scheme_Valid_k1 F true) (br (decide ((65536:Int)≤a.excludes_)) (scheme_Valid_k1 F true) (gd (0≤a.number_) <|
 scheme_Valid_k1 F ((band .i64 (a.excludes_.fdiv (2 ^ (min (a.number_).toNat (IntKind.bits .i64)))) (1:Int))==(1:Int))))))))
def scheme_Valid (F:Nat) (a:Scheme):Option (Int):=
 br (decide (a.number_<(0:Int))) (scheme_Valid_k0 F a true) (br (decide ((15:Int)<a.number_)) (scheme_Valid_k0 F a true) (br (decide (a.least_<(0:Int))) (scheme_Valid_k0 F a true) (scheme_Valid_k0 F a (decide ((268435456:Int)<a.least_)))))
def scheme_Check_1 (F:Nat) (a:Scheme) (b:Scheme):Option (Bool):=
 some (sEq a.name_ b.name_)
def slices_IndexFunc_Scheme_k1 (F:Nat):Option (Int):=
 some (-1:Int)
def slices_IndexFunc_Scheme_b0 (F:Nat) (b:(List Scheme)) (d:Scheme→Option Bool) (c:(Int)→Option (Int)) (a:Int):Option (Int):=
 br (decide (a<((List.length b:Nat):Int))) (gd (0≤a∧a<((List.length b:Nat):Int)) <|
 (d (gl b a.toNat)).bind fun e=>
 br e (some a) (gd (I64 (a+(1:Int))) <|
 c (a+(1:Int)))) (slices_IndexFunc_Scheme_k1 F)
def slices_IndexFunc_Scheme (F:Nat) (a:(List Scheme)) (b:Scheme→Option Bool):Option (Int):=
 loopN (fun again (z:Int)=>slices_IndexFunc_Scheme_b0 F a b again z) F (0:Int)
def slices_ContainsFunc_Scheme (F:Nat) (a:(List Scheme)) (b:Scheme→Option Bool):Option (Bool):=
 (slices_IndexFunc_Scheme F a b).bind fun c=>
 some (decide ((0:Int)≤c))
def scheme_Find_1 (F:Nat) (a:Scheme) (b:Int):Option (Bool):=
 some (a.number_==b)
def scheme_Find (F:Nat) (a:(List Scheme)) (b:Int):Option (Int):=
 (slices_IndexFunc_Scheme F a (fun y0=>scheme_Find_1 F y0 b)).bind fun c=>
 some c
def scheme_mutual_k2 (F:Nat) (a:Int) (b:(Int)→Option (Bool)):Option (Bool):=
 gd (I64 (a+(1:Int))) <|
 b (a+(1:Int))
def scheme_mutual_k1 (F:Nat) (b:Int) (a:(Int)→Option (Bool)) (c:Bool):Option (Bool):=
 br c (some false) (scheme_mutual_k2 F b a)
def scheme_mutual_k3 (F:Nat):Option (Bool):=
 some true
def scheme_mutual_b0 (F:Nat) (d:(List Scheme)) (e:Scheme) (c:(Int)→Option (Bool)) (a:Int):Option (Bool):=
 br (decide (a<(16:Int))) (gd (0≤a) <|
 br ((band .i64 (e.excludes_.fdiv (2 ^ (min (a).toNat (IntKind.bits .i64)))) (1:Int))==(0:Int)) (scheme_mutual_k2 F a c) ((scheme_Find F d a).bind fun b=>
 br (decide (b<(0:Int))) (scheme_mutual_k1 F a c true) (gd (0≤b∧b<((List.length d:Nat):Int)) <|
 gd (0≤e.number_) <|
 scheme_mutual_k1 F a c ((band .i64 (((gl d b.toNat).excludes_).fdiv (2 ^ (min (e.number_).toNat (IntKind.bits .i64)))) (1:Int))==(0:Int))))) (scheme_mutual_k3 F)
def scheme_mutual (F:Nat) (a:(List Scheme)) (b:Scheme):Option (Bool):=
 loopN (fun again (z:Int)=>scheme_mutual_b0 F a b again z) F (0:Int)
def scheme_Check_k1 (F:Nat) (a:Int) (b:(Int)→Option (Int×Int)) (c:Bool):Option (Int×Int):=
 br c (some (a,(6:Int))) (gd (I64 (a+(1:Int))) <|
 b (a+(1:Int)))
def scheme_Check_k4 (F:Nat):Option (Int×Int):=
 some ((-1:Int),(0:Int))
def scheme_Check_b3 (F:Nat) (b:(List Scheme)) (c:(Int)→Option (Int×Int)) (a:Int):Option (Int×Int):=
 br (decide (a<((List.length b:Nat):Int))) (gd (0≤a∧a<((List.length b:Nat):Int)) <|
 (scheme_mutual F b (gl b a.toNat)).bind fun d=>
 br (!d) (some (a,(17:Int))) (gd (I64 (a+(1:Int))) <|
 c (a+(1:Int)))) (scheme_Check_k4 F)
def scheme_Check_k2 (F:Nat) (a:(List Scheme)):Option (Int×Int):=
 loopN (fun again (z:Int)=>scheme_Check_b3 F a again z) F (0:Int)
def scheme_Check_b0 (F:Nat) (b:(List Scheme)) (c:(Int)→Option (Int×Int)) (a:Int):Option (Int×Int):=
 br (decide (a<((List.length b:Nat):Int))) (gd (0≤a∧a<((List.length b:Nat):Int)) <|
 (scheme_Valid F (gl b a.toNat)).bind fun d=>
 br (d != (0:Int)) (some (a,d)) (br (decide ((0:Int)<a)) (gd (I64 (a-(1:Int))) <|
 gd (0≤(a-(1:Int))∧(a-(1:Int))<((List.length b:Nat):Int)) <|
 br (decide (((gl b a.toNat).number_)≤((gl b (a-(1:Int)).toNat).number_))) (scheme_Check_k1 F a c true) (gd (0≤a∧a≤((List.length b:Nat):Int)) <|
 (slices_ContainsFunc_Scheme F (b.take a.toNat) (fun y0=>scheme_Check_1 F y0 (gl b a.toNat))).bind fun e=>
 scheme_Check_k1 F a c e)) (gd (0≤a∧a≤((List.length b:Nat):Int)) <|
 (slices_ContainsFunc_Scheme F (b.take a.toNat) (fun y0=>scheme_Check_1 F y0 (gl b a.toNat))).bind fun i=>
 scheme_Check_k1 F a c i))) (scheme_Check_k2 F b)
def scheme_Check (F:Nat) (a:(List Scheme)):Option (Int×Int):=
 br (decide ((16:Int)<((List.length a:Nat):Int))) (some ((0:Int),(1:Int))) (loopN (fun again (z:Int)=>scheme_Check_b0 F a again z) F (0:Int))
def slices_IndexFunc_Region_k1 (F:Nat):Option (Int):=
 some (-1:Int)
def slices_IndexFunc_Region_b0 (F:Nat) (b:(List Region)) (d:Region→Option Bool) (c:(Int)→Option (Int)) (a:Int):Option (Int):=
 br (decide (a<((List.length b:Nat):Int))) (gd (0≤a∧a<((List.length b:Nat):Int)) <|
 (d (gl b a.toNat)).bind fun e=>
 br e (some a) (gd (I64 (a+(1:Int))) <|
 c (a+(1:Int)))) (slices_IndexFunc_Region_k1 F)
def slices_IndexFunc_Region (F:Nat) (a:(List Region)) (b:Region→Option Bool):Option (Int):=
 loopN (fun again (z:Int)=>slices_IndexFunc_Region_b0 F a b again z) F (0:Int)
def slices_ContainsFunc_Region (F:Nat) (a:(List Region)) (b:Region→Option Bool):Option (Bool):=
 (slices_IndexFunc_Region F a b).bind fun c=>
 some (decide ((0:Int)≤c))
def slices_IndexFunc_Rect_k1 (F:Nat):Option (Int):=
 some (-1:Int)
def slices_IndexFunc_Rect_b0 (F:Nat) (b:(List Rect)) (d:Rect→Option Bool) (c:(Int)→Option (Int)) (a:Int):Option (Int):=
 br (decide (a<((List.length b:Nat):Int))) (gd (0≤a∧a<((List.length b:Nat):Int)) <|
 (d (gl b a.toNat)).bind fun e=>
 br e (some a) (gd (I64 (a+(1:Int))) <|
 c (a+(1:Int)))) (slices_IndexFunc_Rect_k1 F)
def slices_IndexFunc_Rect (F:Nat) (a:(List Rect)) (b:Rect→Option Bool):Option (Int):=
 loopN (fun again (z:Int)=>slices_IndexFunc_Rect_b0 F a b again z) F (0:Int)
def slices_ContainsFunc_Rect (F:Nat) (a:(List Rect)) (b:Rect→Option Bool):Option (Bool):=
 (slices_IndexFunc_Rect F a b).bind fun c=>
 some (decide ((0:Int)≤c))
def region_proper_k0 (F:Nat) (a:Bool):Option (Bool):=
 some a
def region_proper (F:Nat) (a:Rect):Option (Bool):=
 br (decide ((0:Int)≤a.left_)) (br (decide (a.left_<a.right_)) (br (decide (a.right_≤(16384:Int))) (br (decide ((0:Int)≤a.low_)) (br (decide (a.low_<a.high_)) (region_proper_k0 F (decide (a.high_≤(16384:Int)))) (region_proper_k0 F false)) (region_proper_k0 F false)) (region_proper_k0 F false)) (region_proper_k0 F false)) (region_proper_k0 F false)
def region_Valid_1 (F:Nat) (a:Rect):Option (Bool):=
 (region_proper F a).bind fun b=>
 some (!b)
def slices_Compact_int_k2 (F:Nat) (a:Int) (b:(Int×Int×(List Int))→Option ((List Int))) (c:Int) (d:(List Int)):Option ((List Int)):=
 gd (I64 (a+(1:Int))) <|
 b (c,(a+(1:Int)),d)
def slices_Compact_int_k3 (F:Nat) (a:Int) (b:(List Int)):Option ((List Int)):=
 gd (0≤a∧a≤(((List.length (α:=Int) b):Nat):Int)∧((0:Nat):Int)+(((List.length (α:=Int) b):Nat):Int)≤((List.length (α:=Int) b:Nat):Int)) <|
 gd (0≤a∧a≤((List.length (clr b (0+(a).toNat) ((List.length (α:=Int) b)-(a).toNat)):Nat):Int)) <|
 some ((clr b (0+(a).toNat) ((List.length (α:=Int) b)-(a).toNat)).take (a).toNat)
def slices_Compact_int_b1 (F:Nat) (e:(List Int)) (b:Int) (i:(Int×Int×(List Int))→Option ((List Int))) (d:Int) (a:Int) (c:(List Int)):Option ((List Int)):=
 br (decide (a<((((List.length (α:=Int) e)-(b).toNat):Nat):Int))) (gd (0≤a∧a<((((List.length (α:=Int) e)-(b).toNat):Nat):Int)) <|
 gd (((0+(b).toNat)+(a).toNat)<List.length c) <|
 gd (I64 (a-(1:Int))) <|
 gd (0≤(a-(1:Int))∧(a-(1:Int))<((((List.length (α:=Int) e)-(b).toNat):Nat):Int)) <|
 gd (((0+(b).toNat)+((a-(1:Int))).toNat)<List.length c) <|
 br ((gl c ((0+(b).toNat)+(a).toNat)) != (gl c ((0+(b).toNat)+((a-(1:Int))).toNat))) (gd (0≤a∧a<((((List.length (α:=Int) e)-(b).toNat):Nat):Int)) <|
 gd (((0+(b).toNat)+(a).toNat)<List.length c) <|
 gd (0≤d∧d<((List.length c:Nat):Int)) <|
 gd (I64 (d+(1:Int))) <|
 slices_Compact_int_k2 F a i (d+(1:Int)) (List.set c d.toNat (gl c ((0+(b).toNat)+(a).toNat)))) (slices_Compact_int_k2 F a i d c)) (slices_Compact_int_k3 F d c)
def slices_Compact_int_k4 (F:Nat) (a:Int) (b:(Int)→Option ((List Int))):Option ((List Int)):=
 gd (I64 (a+(1:Int))) <|
 b (a+(1:Int))
def slices_Compact_int_k5 (F:Nat) (a:(List Int)):Option ((List Int)):=
 some a
def slices_Compact_int_b0 (F:Nat) (b:(List Int)) (c:(Int)→Option ((List Int))) (a:Int):Option ((List Int)):=
 br (decide (a<((List.length b:Nat):Int))) (gd (0≤a∧a<((List.length b:Nat):Int)) <|
 gd (I64 (a-(1:Int))) <|
 gd (0≤(a-(1:Int))∧(a-(1:Int))<((List.length b:Nat):Int)) <|
 br ((gl b a.toNat)==(gl b (a-(1:Int)).toNat)) (gd (0≤a∧a≤(((List.length (α:=Int) b):Nat):Int)∧((0:Nat):Int)+(((List.length (α:=Int) b):Nat):Int)≤((List.length (α:=Int) b:Nat):Int)) <|
 loopN (fun again (z:Int×Int×(List Int))=>slices_Compact_int_b1 F b a again z.1 z.2.1 z.2.2) F (a,(1:Int),b)) (slices_Compact_int_k4 F a c)) (slices_Compact_int_k5 F b)
def slices_Compact_int (F:Nat) (a:(List Int)):Option ((List Int)):=
 br (decide (((List.length a:Nat):Int)<(2:Int))) (some a) (loopN (fun again (z:Int)=>slices_Compact_int_b0 F a again z) F (1:Int))
def region_Cuts_k2 (F:Nat) (a:Int) (b:(Int×(List Int))→Option ((List Int))) (c:(List Int)):Option ((List Int)):=
 gd (I64 (a+(1:Int))) <|
 b ((a+(1:Int)),c)
def region_Cuts_b1 (F:Nat) (c:(List (List Rect))) (b:Int) (e:(Int×(List Int))→Option ((List Int))) (i:(Int×(List Int))→Option ((List Int))) (a:Int) (d:(List Int)):Option ((List Int)):=
 br (decide (a<((List.length (gl c b.toNat):Nat):Int))) (gd (0≤a∧a<((List.length (gl c b.toNat):Nat):Int)) <|
 gd ((List.length (α:=Int) d)+(List.length (α:=Int) ([(gl (gl c b.toNat) a.toNat).low_,(gl (gl c b.toNat) a.toNat).high_]:List Int))≤LIM) <|
 gd (I64 (a+(1:Int))) <|
 i ((a+(1:Int)),(d++([(gl (gl c b.toNat) a.toNat).low_,(gl (gl c b.toNat) a.toNat).high_]:List Int)))) (region_Cuts_k2 F b e d)
def region_Cuts_k3 (F:Nat) (a:(List Int)):Option ((List Int)):=
 (sortI a).bind fun b=>
 (slices_Compact_int F b).bind fun c=>
 some c
def region_Cuts_b0 (F:Nat) (b:(List (List Rect))) (d:(Int×(List Int))→Option ((List Int))) (a:Int) (c:(List Int)):Option ((List Int)):=
 br (decide (a<((List.length b:Nat):Int))) (gd (0≤a∧a<((List.length b:Nat):Int)) <|
 loopN (fun again (z:Int×(List Int))=>region_Cuts_b1 F b a d again z.1 z.2) F ((0:Int),c)) (region_Cuts_k3 F c)
def region_Cuts (F:Nat) (a:(List (List Rect))):Option ((List Int)):=
 loopN (fun again (z:Int×(List Int))=>region_Cuts_b0 F a again z.1 z.2) F ((0:Int),([]:List Int))
def cmp_isNaN_int (F:Nat) (a:Int):Option (Bool):=
 some (a != a)
def cmp_Compare_int (F:Nat) (a:Int) (b:Int):Option (Int):=
 (cmp_isNaN_int F a).bind fun d=>
 (cmp_isNaN_int F b).bind fun c=>
 br d (br c (some (0:Int)) (some (-1:Int))) (br c (some (1:Int)) (br (decide (a<b)) (some (-1:Int)) (br (decide (b<a)) (some (1:Int)) (some (0:Int)))))
def region_Row_1 (F:Nat) (a:Span) (b:Span):Option (Int):=
 (cmp_Compare_int F a.left_ b.left_).bind fun c=>
 some c
def region_Row_k2 (F:Nat) (a:Int) (b:(Int×(List Span))→Option ((List Span))) (c:(List Span)):Option ((List Span)):=
 gd (I64 (a+(1:Int))) <|
 b ((a+(1:Int)),c)
def region_Row_k1 (F:Nat) (b:(List Rect)) (a:Int) (c:(List Span)) (d:(Int×(List Span))→Option ((List Span))) (e:Bool):Option ((List Span)):=
 br e (gd ((List.length (α:=Span) c)+(List.length (α:=Span) ([(⟨(gl b a.toNat).left_,(gl b a.toNat).right_⟩ : Span)]:List Span))≤LIM) <|
 region_Row_k2 F a d (c++([(⟨(gl b a.toNat).left_,(gl b a.toNat).right_⟩ : Span)]:List Span))) (region_Row_k2 F a d c)
def region_Row_k6 (F:Nat) (a:Int) (b:(Int×(List Span))→Option ((List Span))) (c:(List Span)):Option ((List Span)):=
 gd (I64 (a+(1:Int))) <|
 b ((a+(1:Int)),c)
def region_Row_k5 (F:Nat) (c:(List Span)) (b:Int) (a:(List Span)) (d:(Int×(List Span))→Option ((List Span))) (e:Bool):Option ((List Span)):=
 br e (gd (I64 (((List.length a:Nat):Int)-(1:Int))) <|
 gd (I64 (((List.length a:Nat):Int)-(1:Int))) <|
 gd (0≤(((List.length a:Nat):Int)-(1:Int))∧(((List.length a:Nat):Int)-(1:Int))<((List.length a:Nat):Int)) <|
 gd (0≤(((List.length a:Nat):Int)-(1:Int))∧(((List.length a:Nat):Int)-(1:Int))<((List.length a:Nat):Int)) <|
 region_Row_k6 F b d (List.set a (((List.length a:Nat):Int)-(1:Int)).toNat (⟨(gl a (((List.length a:Nat):Int)-(1:Int)).toNat).left_,(gmax ((gl a (((List.length a:Nat):Int)-(1:Int)).toNat).right_) ((gl c b.toNat).right_))⟩ : Span))) (gd ((List.length (α:=Span) a)+(List.length (α:=Span) ([(gl c b.toNat)]:List Span))≤LIM) <|
 region_Row_k6 F b d (a++([(gl c b.toNat)]:List Span)))
def region_Row_k7 (F:Nat) (a:(List Span)):Option ((List Span)):=
 some a
def region_Row_b4 (F:Nat) (c:(List Span)) (d:(Int×(List Span))→Option ((List Span))) (b:Int) (a:(List Span)):Option ((List Span)):=
 br (decide (b<((List.length c:Nat):Int))) (gd (0≤b∧b<((List.length c:Nat):Int)) <|
 br (decide ((0:Int)<((List.length a:Nat):Int))) (gd (I64 (((List.length a:Nat):Int)-(1:Int))) <|
 gd (0≤(((List.length a:Nat):Int)-(1:Int))∧(((List.length a:Nat):Int)-(1:Int))<((List.length a:Nat):Int)) <|
 region_Row_k5 F c b a d (decide (((gl c b.toNat).left_)≤((gl a (((List.length a:Nat):Int)-(1:Int)).toNat).right_)))) (region_Row_k5 F c b a d false)) (region_Row_k7 F a)
def region_Row_k3 (F:Nat) (a:(List Span)):Option ((List Span)):=
 (sortF a (fun y0 y1=>region_Row_1 F y0 y1)).bind fun b=>
 loopN (fun again (z:Int×(List Span))=>region_Row_b4 F b again z.1 z.2) F ((0:Int),([]:List Span))
def region_Row_b0 (F:Nat) (b:(List Rect)) (e:Int) (d:(Int×(List Span))→Option ((List Span))) (a:Int) (c:(List Span)):Option ((List Span)):=
 br (decide (a<((List.length b:Nat):Int))) (gd (0≤a∧a<((List.length b:Nat):Int)) <|
 br (decide (((gl b a.toNat).low_)≤e)) (region_Row_k1 F b a c d (decide (e<((gl b a.toNat).high_)))) (region_Row_k1 F b a c d false)) (region_Row_k3 F c)
def region_Row (F:Nat) (a:(List Rect)) (b:Int):Option ((List Span)):=
 loopN (fun again (z:Int×(List Span))=>region_Row_b0 F a b again z.1 z.2) F ((0:Int),([]:List Span))
def region_canonical_1 (F:Nat) (a:Int) (b:(List Rect)):Option ((List Span)):=
 (region_Row F b a).bind fun c=>
 some c
def slices_Equal_Span_k1 (F:Nat):Option (Bool):=
 some true
def slices_Equal_Span_b0 (F:Nat) (b:(List Span)) (c:(List Span)) (d:(Int)→Option (Bool)) (a:Int):Option (Bool):=
 br (decide (a<((List.length b:Nat):Int))) (gd (0≤a∧a<((List.length b:Nat):Int)) <|
 gd (0≤a∧a<((List.length c:Nat):Int)) <|
 br (!((((gl b a.toNat).left_)==((gl c a.toNat).left_))&&((((gl b a.toNat).right_)==((gl c a.toNat).right_))&&true))) (some false) (gd (I64 (a+(1:Int))) <|
 d (a+(1:Int)))) (slices_Equal_Span_k1 F)
def slices_Equal_Span (F:Nat) (a:(List Span)) (b:(List Span)):Option (Bool):=
 br (((List.length a:Nat):Int) != ((List.length b:Nat):Int)) (some false) (loopN (fun again (z:Int)=>slices_Equal_Span_b0 F a b again z) F (0:Int))
def region_rects_k2 (F:Nat) (a:Int) (b:(Int×(List Rect))→Option ((List Rect))) (c:(List Rect)):Option ((List Rect)):=
 gd (I64 (a+(1:Int))) <|
 b ((a+(1:Int)),c)
def region_rects_b1 (F:Nat) (b:(List Band)) (a:Int) (e:(Int×(List Rect))→Option ((List Rect))) (i:(Int×(List Rect))→Option ((List Rect))) (c:Int) (d:(List Rect)):Option ((List Rect)):=
 br (decide (c<((List.length ((gl b a.toNat).spans_):Nat):Int))) (gd (0≤c∧c<((List.length ((gl b a.toNat).spans_):Nat):Int)) <|
 gd ((List.length (α:=Rect) d)+(List.length (α:=Rect) ([(⟨(gl ((gl b a.toNat).spans_) c.toNat).left_,(gl b a.toNat).low_,(gl ((gl b a.toNat).spans_) c.toNat).right_,(gl b a.toNat).high_⟩ : Rect)]:List Rect))≤LIM) <|
 gd (I64 (c+(1:Int))) <|
 i ((c+(1:Int)),(d++([(⟨(gl ((gl b a.toNat).spans_) c.toNat).left_,(gl b a.toNat).low_,(gl ((gl b a.toNat).spans_) c.toNat).right_,(gl b a.toNat).high_⟩ : Rect)]:List Rect)))) (region_rects_k2 F a e d)
def region_rects_k3 (F:Nat) (a:(List Rect)):Option ((List Rect)):=
 some a
def region_rects_b0 (F:Nat) (b:(List Band)) (d:(Int×(List Rect))→Option ((List Rect))) (a:Int) (c:(List Rect)):Option ((List Rect)):=
 br (decide (a<((List.length b:Nat):Int))) (gd (0≤a∧a<((List.length b:Nat):Int)) <|
 loopN (fun again (z:Int×(List Rect))=>region_rects_b1 F b a d again z.1 z.2) F ((0:Int),c)) (region_rects_k3 F c)
def region_rects (F:Nat) (a:(List Band)):Option ((List Rect)):=
 loopN (fun again (z:Int×(List Rect))=>region_rects_b0 F a again z.1 z.2) F ((0:Int),([]:List Rect))
def region_Build_k2 (F:Nat) (a:Int) (b:(Int×(List Band))→Option ((List Rect))) (c:(List Band)):Option ((List Rect)):=
 gd (I64 (a+(1:Int))) <|
 b ((a+(1:Int)),c)
def region_Build_k1 (F:Nat) (c:(List Int)) (b:Int) (a:(List Band)) (e:(List Span)) (d:(Int×(List Band))→Option ((List Rect))) (i:Bool):Option ((List Rect)):=
 br i (gd (I64 (((List.length a:Nat):Int)-(1:Int))) <|
 gd (0≤(((List.length a:Nat):Int)-(1:Int))∧(((List.length a:Nat):Int)-(1:Int))<((List.length a:Nat):Int)) <|
 region_Build_k2 F b d (List.set a (((List.length a:Nat):Int)-(1:Int)).toNat (⟨(gl a (((List.length a:Nat):Int)-(1:Int)).toNat).low_,(gl c b.toNat),(gl a (((List.length a:Nat):Int)-(1:Int)).toNat).spans_⟩ : Band))) (gd ((List.length (α:=Band) a)+(List.length (α:=Band) ([(⟨(gl c (b-(1:Int)).toNat),(gl c b.toNat),e⟩ : Band)]:List Band))≤LIM) <|
 region_Build_k2 F b d (a++([(⟨(gl c (b-(1:Int)).toNat),(gl c b.toNat),e⟩ : Band)]:List Band)))
def region_Build_k3 (F:Nat) (a:(List Band)):Option ((List Rect)):=
 (region_rects F a).bind fun b=>
 some b
def region_Build_b0 (F:Nat) (c:(List Int)) (i:Int→Option (List Span)) (e:(Int×(List Band))→Option ((List Rect))) (b:Int) (a:(List Band)):Option ((List Rect)):=
 br (decide (b<((List.length c:Nat):Int))) (gd (I64 (b-(1:Int))) <|
 gd (0≤(b-(1:Int))∧(b-(1:Int))<((List.length c:Nat):Int)) <|
 gd (0≤b∧b<((List.length c:Nat):Int)) <|
 gd (I64 (b-(1:Int))) <|
 gd (0≤(b-(1:Int))∧(b-(1:Int))<((List.length c:Nat):Int)) <|
 (i (gl c (b-(1:Int)).toNat)).bind fun d=>
 br (decide ((0:Int)<((List.length a:Nat):Int))) (gd (I64 (((List.length a:Nat):Int)-(1:Int))) <|
 gd (0≤(((List.length a:Nat):Int)-(1:Int))∧(((List.length a:Nat):Int)-(1:Int))<((List.length a:Nat):Int)) <|
 br (((gl a (((List.length a:Nat):Int)-(1:Int)).toNat).high_)==(gl c (b-(1:Int)).toNat)) (gd (I64 (((List.length a:Nat):Int)-(1:Int))) <|
 gd (0≤(((List.length a:Nat):Int)-(1:Int))∧(((List.length a:Nat):Int)-(1:Int))<((List.length a:Nat):Int)) <|
 (slices_Equal_Span F ((gl a (((List.length a:Nat):Int)-(1:Int)).toNat).spans_) d).bind fun j=>
 region_Build_k1 F c b a d e j) (region_Build_k1 F c b a d e false)) (region_Build_k1 F c b a d e false)) (region_Build_k3 F a)
def region_Build (F:Nat) (a:(List Int)) (b:Int→Option (List Span)):Option ((List Rect)):=
 loopN (fun again (z:Int×(List Band))=>region_Build_b0 F a b again z.1 z.2) F ((1:Int),([]:List Band))
def region_canonical (F:Nat) (a:(List Rect)):Option ((List Rect)):=
 (region_Cuts F ([a]:List (List Rect))).bind fun b=>
 (region_Build F b (fun y0=>region_canonical_1 F y0 a)).bind fun c=>
 some c
def slices_Equal_Rect_k1 (F:Nat):Option (Bool):=
 some true
def slices_Equal_Rect_b0 (F:Nat) (b:(List Rect)) (c:(List Rect)) (d:(Int)→Option (Bool)) (a:Int):Option (Bool):=
 br (decide (a<((List.length b:Nat):Int))) (gd (0≤a∧a<((List.length b:Nat):Int)) <|
 gd (0≤a∧a<((List.length c:Nat):Int)) <|
 br (!((((gl b a.toNat).left_)==((gl c a.toNat).left_))&&((((gl b a.toNat).low_)==((gl c a.toNat).low_))&&((((gl b a.toNat).right_)==((gl c a.toNat).right_))&&((((gl b a.toNat).high_)==((gl c a.toNat).high_))&&true))))) (some false) (gd (I64 (a+(1:Int))) <|
 d (a+(1:Int)))) (slices_Equal_Rect_k1 F)
def slices_Equal_Rect (F:Nat) (a:(List Rect)) (b:(List Rect)):Option (Bool):=
 br (((List.length a:Nat):Int) != ((List.length b:Nat):Int)) (some false) (loopN (fun again (z:Int)=>slices_Equal_Rect_b0 F a b again z) F (0:Int))
def region_Valid_k0 (F:Nat) (a:Region) (b:Bool):Option (Bool):=
 br b (some false) ((region_canonical F a.rects_).bind fun c=>
 (slices_Equal_Rect F c a.rects_).bind fun d=>
 some d)
def region_Valid (F:Nat) (a:Region):Option (Bool):=
 br (decide ((120:Int)<((List.length a.rects_:Nat):Int))) (region_Valid_k0 F a true) ((slices_ContainsFunc_Rect F a.rects_ (fun y0=>region_Valid_1 F y0)).bind fun b=>
 region_Valid_k0 F a b)
def exclusion_check_1 (F:Nat) (a:Region):Option (Bool):=
 (region_Valid F a).bind fun b=>
 some (!b)
def exclusion_check (F:Nat) (a:(List Scheme)) (b:(List Region)):Option (Int):=
 (scheme_Check F a).bind fun c=>
 br (c.2 != (0:Int)) (some c.2) (br (((List.length a:Nat):Int) != ((List.length b:Nat):Int)) (some (3:Int)) ((slices_ContainsFunc_Region F b (fun y0=>exclusion_check_1 F y0)).bind fun d=>
 br d (some (7:Int)) (some (0:Int))))
def slices_Clone_Rect (F:Nat) (a:(List Rect)):Option ((List Rect)):=
 brN (List.length a) (some ([])) (gd ((0)+(List.length (α:=Rect) a)≤LIM) <|
 some (([]:List Rect)++a))
def exclusion_clone (F:Nat) (a:Region):Option (Region):=
 (slices_Clone_Rect F a.rects_).bind fun b=>
 some (⟨b⟩ : Region)
def exclusion_excludes (F:Nat) (b:Scheme) (a:Scheme):Option (Bool):=
 gd (0≤a.number_) <|
 some ((band .i64 (b.excludes_.fdiv (2 ^ (min (a.number_).toNat (IntKind.bits .i64)))) (1:Int))==(1:Int))
def slices_Concat_Span_k3 (F:Nat) (a:(List Span)):Option ((List Span)):=
 some a
def slices_Concat_Span_b2 (F:Nat) (b:(List (List Span))) (d:(Int×(List Span))→Option ((List Span))) (a:Int) (c:(List Span)):Option ((List Span)):=
 br (decide (a<((List.length b:Nat):Int))) (gd (0≤a∧a<((List.length b:Nat):Int)) <|
 gd ((List.length (α:=Span) c)+(List.length (α:=Span) (gl b a.toNat))≤LIM) <|
 gd (I64 (a+(1:Int))) <|
 d ((a+(1:Int)),(c++(gl b a.toNat)))) (slices_Concat_Span_k3 F c)
def slices_Concat_Span_k1 (F:Nat) (b:(List (List Span))) (a:Int):Option ((List Span)):=
 (growN a).bind fun c=>
 loopN (fun again (z:Int×(List Span))=>slices_Concat_Span_b2 F b again z.1 z.2) F ((0:Int),c)
def slices_Concat_Span_b0 (F:Nat) (b:(List (List Span))) (d:(Int×Int)→Option ((List Span))) (c:Int) (a:Int):Option ((List Span)):=
 br (decide (a<((List.length b:Nat):Int))) (gd (0≤a∧a<((List.length b:Nat):Int)) <|
 gd (I64 (c+((List.length (gl b a.toNat):Nat):Int))) <|
 br (decide ((c+((List.length (gl b a.toNat):Nat):Int))<(0:Int))) (none) (gd (I64 (a+(1:Int))) <|
 d ((c+((List.length (gl b a.toNat):Nat):Int)),(a+(1:Int))))) (slices_Concat_Span_k1 F b c)
def slices_Concat_Span (F:Nat) (a:(List (List Span))):Option ((List Span)):=
 loopN (fun again (z:Int×Int)=>slices_Concat_Span_b0 F a again z.1 z.2) F ((0:Int),(0:Int))
def region_inside_1_k0 (F:Nat) (a:Bool):Option (Bool):=
 some a
def region_inside_1 (F:Nat) (a:Span) (b:Int):Option (Bool):=
 br (decide (a.left_≤b)) (region_inside_1_k0 F (decide (b<a.right_))) (region_inside_1_k0 F false)
def slices_IndexFunc_Span_k1 (F:Nat):Option (Int):=
 some (-1:Int)
def slices_IndexFunc_Span_b0 (F:Nat) (b:(List Span)) (d:Span→Option Bool) (c:(Int)→Option (Int)) (a:Int):Option (Int):=
 br (decide (a<((List.length b:Nat):Int))) (gd (0≤a∧a<((List.length b:Nat):Int)) <|
 (d (gl b a.toNat)).bind fun e=>
 br e (some a) (gd (I64 (a+(1:Int))) <|
 c (a+(1:Int)))) (slices_IndexFunc_Span_k1 F)
def slices_IndexFunc_Span (F:Nat) (a:(List Span)) (b:Span→Option Bool):Option (Int):=
 loopN (fun again (z:Int)=>slices_IndexFunc_Span_b0 F a b again z) F (0:Int)
def slices_ContainsFunc_Span (F:Nat) (a:(List Span)) (b:Span→Option Bool):Option (Bool):=
 (slices_IndexFunc_Span F a b).bind fun c=>
 some (decide ((0:Int)≤c))
def region_inside (F:Nat) (a:(List Span)) (b:Int):Option (Bool):=
 (slices_ContainsFunc_Span F a (fun y0=>region_inside_1 F y0 b)).bind fun c=>
 some c
def region_merge_k4 (F:Nat) (a:Int) (b:(Int×(List Span))→Option ((List Span))) (c:(List Span)):Option ((List Span)):=
 gd (I64 (a+(1:Int))) <|
 b ((a+(1:Int)),c)
def region_merge_k3 (F:Nat) (c:(List Int)) (a:Int) (b:(List Span)) (d:(Int×(List Span))→Option ((List Span))) (e:Bool):Option ((List Span)):=
 br e (gd (I64 (((List.length b:Nat):Int)-(1:Int))) <|
 gd (0≤a∧a<((List.length c:Nat):Int)) <|
 gd (0≤(((List.length b:Nat):Int)-(1:Int))∧(((List.length b:Nat):Int)-(1:Int))<((List.length b:Nat):Int)) <|
 region_merge_k4 F a d (List.set b (((List.length b:Nat):Int)-(1:Int)).toNat (⟨(gl b (((List.length b:Nat):Int)-(1:Int)).toNat).left_,(gl c a.toNat)⟩ : Span))) (gd (0≤a∧a<((List.length c:Nat):Int)) <|
 gd ((List.length (α:=Span) b)+(List.length (α:=Span) ([(⟨(gl c (a-(1:Int)).toNat),(gl c a.toNat)⟩ : Span)]:List Span))≤LIM) <|
 region_merge_k4 F a d (b++([(⟨(gl c (a-(1:Int)).toNat),(gl c a.toNat)⟩ : Span)]:List Span)))
def region_merge_k5 (F:Nat) (a:(List Span)):Option ((List Span)):=
 some a
def region_merge_b2 (F:Nat) (e:(List Span)) (i:(List Span)) (j:Bool→Bool→Option Bool) (c:(List Int)) (d:(Int×(List Span))→Option ((List Span))) (b:Int) (a:(List Span)):Option ((List Span)):=
 br (decide (b<((List.length c:Nat):Int))) (gd (I64 (b-(1:Int))) <|
 gd (0≤(b-(1:Int))∧(b-(1:Int))<((List.length c:Nat):Int)) <|
 (region_inside F e (gl c (b-(1:Int)).toNat)).bind fun k=>
 (region_inside F i (gl c (b-(1:Int)).toNat)).bind fun l=>
 (j k l).bind fun m=>
 br (!m) (region_merge_k4 F b d a) (br (decide ((0:Int)<((List.length a:Nat):Int))) (gd (I64 (((List.length a:Nat):Int)-(1:Int))) <|
 gd (0≤(((List.length a:Nat):Int)-(1:Int))∧(((List.length a:Nat):Int)-(1:Int))<((List.length a:Nat):Int)) <|
 region_merge_k3 F c b a d (((gl a (((List.length a:Nat):Int)-(1:Int)).toNat).right_)==(gl c (b-(1:Int)).toNat))) (region_merge_k3 F c b a d false))) (region_merge_k5 F a)
def region_merge_k1 (F:Nat) (b:(List Span)) (c:(List Span)) (d:Bool→Bool→Option Bool) (a:(List Int)):Option ((List Span)):=
 (sortI a).bind fun e=>
 (slices_Compact_int F e).bind fun i=>
 loopN (fun again (z:Int×(List Span))=>region_merge_b2 F b c d i again z.1 z.2) F ((1:Int),([]:List Span))
def region_merge_b0 (F:Nat) (e:(List Span)) (i:(List Span)) (j:Bool→Bool→Option Bool) (b:(List Span)) (d:(Int×(List Int))→Option ((List Span))) (a:Int) (c:(List Int)):Option ((List Span)):=
 br (decide (a<((List.length b:Nat):Int))) (gd (0≤a∧a<((List.length b:Nat):Int)) <|
 gd ((List.length (α:=Int) c)+(List.length (α:=Int) ([(gl b a.toNat).left_,(gl b a.toNat).right_]:List Int))≤LIM) <|
 gd (I64 (a+(1:Int))) <|
 d ((a+(1:Int)),(c++([(gl b a.toNat).left_,(gl b a.toNat).right_]:List Int)))) (region_merge_k1 F e i j c)
def region_merge (F:Nat) (a:(List Span)) (b:(List Span)) (c:Bool→Bool→Option Bool):Option ((List Span)):=
 (slices_Concat_Span F ([a,b]:List (List Span))).bind fun d=>
 loopN (fun again (z:Int×(List Int))=>region_merge_b0 F a b c d again z.1 z.2) F ((0:Int),([]:List Int))
def region_Choose_1 (F:Nat) (a:Int) (b:(List Rect)) (c:(List Rect)) (d:Bool→Bool→Option Bool):Option ((List Span)):=
 (region_Row F b a).bind fun e=>
 (region_Row F c a).bind fun i=>
 (region_merge F e i d).bind fun j=>
 some j
def region_Choose (F:Nat) (a:(List Rect)) (b:(List Rect)) (c:Bool→Bool→Option Bool):Option ((List Rect)):=
 (region_Cuts F ([a,b]:List (List Rect))).bind fun d=>
 (region_Build F d (fun y0=>region_Choose_1 F y0 a b c)).bind fun e=>
 some e
def region_Limited (F:Nat) (a:(List Rect)):Option (Region×Int):=
 br (decide ((120:Int)<((List.length a:Nat):Int))) (some ((⟨[]⟩ : Region),(1:Int))) (some ((⟨a⟩ : Region),(0:Int)))
def region_combine_k0 (F:Nat) (c:Region) (d:Region) (e:Bool→Bool→Option Bool) (b:Bool):Option (Region×Int):=
 br b (some ((⟨[]⟩ : Region),(7:Int))) ((region_Choose F c.rects_ d.rects_ e).bind fun i=>
 (region_Limited F i).bind fun a=>
 some (a.1,a.2))
def region_combine (F:Nat) (a:Region) (b:Region) (c:Bool→Bool→Option Bool):Option (Region×Int):=
 (region_Valid F a).bind fun d=>
 br (!d) (region_combine_k0 F a b c true) ((region_Valid F b).bind fun e=>
 region_combine_k0 F a b c (!e))
def region_Without_1_k0 (F:Nat) (a:Bool):Option (Bool):=
 some a
def region_Without_1 (F:Nat) (a:Bool) (b:Bool):Option (Bool):=
 br a (region_Without_1_k0 F (!b)) (region_Without_1_k0 F false)
def region_Without (F:Nat) (b:Region) (c:Region):Option (Region×Int):=
 (region_combine F b c (fun y0 y1=>region_Without_1 F y0 y1)).bind fun a=>
 some (a.1,a.2)
def exclusion_Assign_k2 (F:Nat) (a:Int) (b:(Int×(List Rect))→Option ((List Region)×Int)) (c:(List Rect)):Option ((List Region)×Int):=
 gd (I64 (a+(1:Int))) <|
 b ((a+(1:Int)),c)
def exclusion_Assign_k4 (F:Nat) (a:Int) (b:(Int×(List Region))→Option ((List Region)×Int)) (c:(List Region)):Option ((List Region)×Int):=
 gd (I64 (a+(1:Int))) <|
 b ((a+(1:Int)),c)
def exclusion_Assign_k3 (F:Nat) (d:Int) (a:(List Region)) (c:(Int×(List Region))→Option ((List Region)×Int)) (b:(List Rect)):Option ((List Region)×Int):=
 gd ((List.length (α:=Region) a)+(List.length (α:=Region) ([(⟨b⟩ : Region)]:List Region))≤LIM) <|
 exclusion_Assign_k4 F d c (a++([(⟨b⟩ : Region)]:List Region))
def exclusion_Assign_b1 (F:Nat) (d:(List Scheme)) (j:Int) (b:(List Region)) (k:(Int×(List Region))→Option ((List Region)×Int)) (i:(Int×(List Rect))→Option ((List Region)×Int)) (a:Int) (c:(List Rect)):Option ((List Region)×Int):=
 br (decide (a<((List.length b:Nat):Int))) (gd (0≤a∧a<((List.length b:Nat):Int)) <|
 gd (0≤a∧a<((List.length d:Nat):Int)) <|
 (exclusion_excludes F (gl d j.toNat) (gl d a.toNat)).bind fun l=>
 br (!l) (exclusion_Assign_k2 F a i c) ((region_Without F (⟨c⟩ : Region) (gl b a.toNat)).bind fun e=>
 br (e.2 != (0:Int)) (some ([],e.2)) (exclusion_Assign_k2 F a i e.1.rects_))) (exclusion_Assign_k3 F j b k c)
def exclusion_Assign_k5 (F:Nat) (a:(List Region)):Option ((List Region)×Int):=
 some (a,(0:Int))
def exclusion_Assign_b0 (F:Nat) (b:(List Scheme)) (d:(List Region)) (e:(Int×(List Region))→Option ((List Region)×Int)) (a:Int) (c:(List Region)):Option ((List Region)×Int):=
 br (decide (a<((List.length b:Nat):Int))) (gd (0≤a∧a<((List.length b:Nat):Int)) <|
 gd (0≤a∧a<((List.length d:Nat):Int)) <|
 (exclusion_clone F (gl d a.toNat)).bind fun i=>
 loopN (fun again (z:Int×(List Rect))=>exclusion_Assign_b1 F b a c e again z.1 z.2) F ((0:Int),i.rects_)) (exclusion_Assign_k5 F c)
def exclusion_Assign (F:Nat) (a:(List Scheme)) (b:(List Region)):Option ((List Region)×Int):=
 (exclusion_check F a b).bind fun c=>
 br (c != (0:Int)) (some ([],c)) (loopN (fun again (z:Int×(List Region))=>exclusion_Assign_b0 F a b again z.1 z.2) F ((0:Int),([]:List Region)))
def region_Size_k1 (F:Nat) (a:Int):Option (Int):=
 some a
def region_Size_b0 (F:Nat) (b:(List Rect)) (d:(Int×Int)→Option (Int)) (c:Int) (a:Int):Option (Int):=
 br (decide (a<((List.length b:Nat):Int))) (gd (0≤a∧a<((List.length b:Nat):Int)) <|
 gd (I64 (((gl b a.toNat).right_)-((gl b a.toNat).left_))) <|
 gd (I64 (((gl b a.toNat).high_)-((gl b a.toNat).low_))) <|
 gd (I64 ((((gl b a.toNat).right_)-((gl b a.toNat).left_))*(((gl b a.toNat).high_)-((gl b a.toNat).low_)))) <|
 gd (I64 (c+((((gl b a.toNat).right_)-((gl b a.toNat).left_))*(((gl b a.toNat).high_)-((gl b a.toNat).low_))))) <|
 gd (I64 (a+(1:Int))) <|
 d ((c+((((gl b a.toNat).right_)-((gl b a.toNat).left_))*(((gl b a.toNat).high_)-((gl b a.toNat).low_)))),(a+(1:Int)))) (region_Size_k1 F c)
def region_Size (F:Nat) (a:(List Rect)):Option (Int):=
 loopN (fun again (z:Int×Int)=>region_Size_b0 F a again z.1 z.2) F ((0:Int),(0:Int))
def region_Area (F:Nat) (a:Region):Option (Int):=
 (region_Valid F a).bind fun b=>
 br (!b) (some (0:Int)) ((region_Size F a.rects_).bind fun c=>
 some c)
def exclusion_Lost_k1 (F:Nat) (a:(List Int)):Option ((List Int)×Int):=
 some (a,(0:Int))
def exclusion_Lost_b0 (F:Nat) (c:(List Region)) (i:(List Region)×Int) (j:(Int×(List Int))→Option ((List Int)×Int)) (a:Int) (b:(List Int)):Option ((List Int)×Int):=
 br (decide (a<((List.length c:Nat):Int))) (gd (0≤a∧a<((List.length c:Nat):Int)) <|
 (region_Area F (gl c a.toNat)).bind fun d=>
 gd (0≤a∧a<((List.length i.1:Nat):Int)) <|
 (region_Area F (gl i.1 a.toNat)).bind fun e=>
 gd (I64 (d-e)) <|
 gd ((List.length (α:=Int) b)+(List.length (α:=Int) ([(d-e)]:List Int))≤LIM) <|
 gd (I64 (a+(1:Int))) <|
 j ((a+(1:Int)),(b++([(d-e)]:List Int)))) (exclusion_Lost_k1 F b)
def exclusion_Lost (F:Nat) (c:(List Scheme)) (b:(List Region)):Option ((List Int)×Int):=
 (exclusion_Assign F c b).bind fun a=>
 br (a.2 != (0:Int)) (some ([],a.2)) (loopN (fun again (z:Int×(List Int))=>exclusion_Lost_b0 F b a again z.1 z.2) F ((0:Int),([]:List Int)))
def region_overlap_k0 (F:Nat) (a:Bool):Option (Bool):=
 some a
def region_overlap (F:Nat) (a:Rect) (b:Rect):Option (Bool):=
 br (decide (a.left_<b.right_)) (br (decide (b.left_<a.right_)) (br (decide (a.low_<b.high_)) (region_overlap_k0 F (decide (b.low_<a.high_))) (region_overlap_k0 F false)) (region_overlap_k0 F false)) (region_overlap_k0 F false)
def region_Meets_1_1 (F:Nat) (a:Rect) (b:Rect):Option (Bool):=
 (region_overlap F b a).bind fun c=>
 some c
def region_Meets_1 (F:Nat) (a:Rect) (b:Region):Option (Bool):=
 (slices_ContainsFunc_Rect F b.rects_ (fun y0=>region_Meets_1_1 F y0 a)).bind fun c=>
 some c
def region_Meets_k0 (F:Nat) (a:Bool):Option (Bool):=
 some a
def region_Meets (F:Nat) (a:Region) (b:Region):Option (Bool):=
 (region_Valid F a).bind fun c=>
 br c ((region_Valid F b).bind fun d=>
 br d ((slices_ContainsFunc_Rect F a.rects_ (fun y0=>region_Meets_1 F y0 b)).bind fun e=>
 region_Meets_k0 F e) (region_Meets_k0 F false)) (region_Meets_k0 F false)
def exclusion_Once_k2 (F:Nat) (c:Int) (a:Int) (b:(Int)→Option (Int×Int×Bool×Int)) (d:Bool):Option (Int×Int×Bool×Int):=
 br d (some (c,a,false,(0:Int))) (gd (I64 (a+(1:Int))) <|
 b (a+(1:Int)))
def exclusion_Once_k3 (F:Nat) (a:Int) (b:(Int)→Option (Int×Int×Bool×Int)):Option (Int×Int×Bool×Int):=
 gd (I64 (a+(1:Int))) <|
 b (a+(1:Int))
def exclusion_Once_b1 (F:Nat) (c:(List Scheme)) (d:(List Region)) (b:Int) (i:(Int)→Option (Int×Int×Bool×Int)) (e:(Int)→Option (Int×Int×Bool×Int)) (a:Int):Option (Int×Int×Bool×Int):=
 br (decide (a<((List.length c:Nat):Int))) (gd (0≤a∧a<((List.length c:Nat):Int)) <|
 (exclusion_excludes F (gl c b.toNat) (gl c a.toNat)).bind fun j=>
 br j (gd (0≤b∧b<((List.length d:Nat):Int)) <|
 gd (0≤a∧a<((List.length d:Nat):Int)) <|
 (region_Meets F (gl d b.toNat) (gl d a.toNat)).bind fun k=>
 exclusion_Once_k2 F b a e k) (exclusion_Once_k2 F b a e false)) (exclusion_Once_k3 F b i)
def exclusion_Once_k4 (F:Nat):Option (Int×Int×Bool×Int):=
 some ((0:Int),(0:Int),true,(0:Int))
def exclusion_Once_b0 (F:Nat) (b:(List Scheme)) (d:(List Region)) (c:(Int)→Option (Int×Int×Bool×Int)) (a:Int):Option (Int×Int×Bool×Int):=
 br (decide (a<((List.length b:Nat):Int))) (gd (0≤a∧a<((List.length b:Nat):Int)) <|
 gd (I64 (a+(1:Int))) <|
 loopN (fun again (z:Int)=>exclusion_Once_b1 F b d a c again z) F (a+(1:Int))) (exclusion_Once_k4 F)
def exclusion_Once (F:Nat) (a:(List Scheme)) (b:(List Region)):Option (Int×Int×Bool×Int):=
 (exclusion_check F a b).bind fun c=>
 br (c != (0:Int)) (some ((0:Int),(0:Int),false,c)) (loopN (fun again (z:Int)=>exclusion_Once_b0 F a b again z) F (0:Int))
def ref04_Rects_k1 (F:Nat):Option (Bool):=
 some true
def ref04_Rects_b0 (F:Nat) (b:(List Rect)) (c:(List Rect)) (d:(Int)→Option (Bool)) (a:Int):Option (Bool):=
 br (decide (a<((List.length b:Nat):Int))) (gd (0≤a∧a<((List.length b:Nat):Int)) <|
 gd (0≤a∧a<((List.length c:Nat):Int)) <|
 br (!((((gl b a.toNat).left_)==((gl c a.toNat).left_))&&((((gl b a.toNat).low_)==((gl c a.toNat).low_))&&((((gl b a.toNat).right_)==((gl c a.toNat).right_))&&((((gl b a.toNat).high_)==((gl c a.toNat).high_))&&true))))) (some false) (gd (I64 (a+(1:Int))) <|
 d (a+(1:Int)))) (ref04_Rects_k1 F)
def ref04_Rects (F:Nat) (a:(List Rect)) (b:(List Rect)):Option (Bool):=
 br (((List.length a:Nat):Int) != ((List.length b:Nat):Int)) (some false) (loopN (fun again (z:Int)=>ref04_Rects_b0 F a b again z) F (0:Int))
def ref04_Same (F:Nat) (a:Region) (b:Region):Option (Bool):=
 (ref04_Rects F a.rects_ b.rects_).bind fun c=>
 some c
def ref24_Ints_k1 (F:Nat):Option (Bool):=
 some true
def ref24_Ints_b0 (F:Nat) (b:(List Int)) (c:(List Int)) (d:(Int)→Option (Bool)) (a:Int):Option (Bool):=
 br (decide (a<((List.length b:Nat):Int))) (gd (0≤a∧a<((List.length b:Nat):Int)) <|
 gd (0≤a∧a<((List.length c:Nat):Int)) <|
 br ((gl b a.toNat) != (gl c a.toNat)) (some false) (gd (I64 (a+(1:Int))) <|
 d (a+(1:Int)))) (ref24_Ints_k1 F)
def ref24_Ints (F:Nat) (a:(List Int)) (b:(List Int)):Option (Bool):=
 br (((List.length a:Nat):Int) != ((List.length b:Nat):Int)) (some false) (loopN (fun again (z:Int)=>ref24_Ints_b0 F a b again z) F (0:Int))
def law31_awake_k0 (F:Nat) (a:Bool):Option (Bool):=
 some a
def law31_awake (F:Nat):Option (Bool):=
 (exclusion_Assign F ([(⟨(1:Int),(ByteArray.mk #[97]),(⟨(1:Int),0,0,[]⟩ : Term),([(⟨(9:Int),(1:Int)⟩ : Bracket)]:List Bracket),0,(4:Int),false⟩ : Scheme),(⟨(2:Int),(ByteArray.mk #[98]),(⟨(1:Int),0,0,[]⟩ : Term),([(⟨(9:Int),(1:Int)⟩ : Bracket)]:List Bracket),0,(2:Int),false⟩ : Scheme)]:List Scheme) ([(⟨([(⟨0,0,(5:Int),(2:Int)⟩ : Rect)]:List Rect)⟩ : Region),(⟨([(⟨0,0,(5:Int),(2:Int)⟩ : Rect)]:List Rect)⟩ : Region)]:List Region)).bind fun a=>
 (exclusion_Lost F ([(⟨(1:Int),(ByteArray.mk #[97]),(⟨(1:Int),0,0,[]⟩ : Term),([(⟨(9:Int),(1:Int)⟩ : Bracket)]:List Bracket),0,(4:Int),false⟩ : Scheme),(⟨(2:Int),(ByteArray.mk #[98]),(⟨(1:Int),0,0,[]⟩ : Term),([(⟨(9:Int),(1:Int)⟩ : Bracket)]:List Bracket),0,(2:Int),false⟩ : Scheme)]:List Scheme) ([(⟨([(⟨0,0,(5:Int),(2:Int)⟩ : Rect)]:List Rect)⟩ : Region),(⟨([(⟨0,0,(5:Int),(2:Int)⟩ : Rect)]:List Rect)⟩ : Region)]:List Region)).bind fun b=>
 (exclusion_Once F ([(⟨(1:Int),(ByteArray.mk #[97]),(⟨(1:Int),0,0,[]⟩ : Term),([(⟨(9:Int),(1:Int)⟩ : Bracket)]:List Bracket),0,(4:Int),false⟩ : Scheme),(⟨(2:Int),(ByteArray.mk #[98]),(⟨(1:Int),0,0,[]⟩ : Term),([(⟨(9:Int),(1:Int)⟩ : Bracket)]:List Bracket),0,(2:Int),false⟩ : Scheme)]:List Scheme) ([(⟨([(⟨0,0,(5:Int),(2:Int)⟩ : Rect)]:List Rect)⟩ : Region),(⟨([(⟨0,0,(5:Int),(2:Int)⟩ : Rect)]:List Rect)⟩ : Region)]:List Region)).bind fun c=>
 br (a.2==(0:Int)) (br (((List.length a.1:Nat):Int)==(2:Int)) (gd (0≤(0:Int)∧(0:Int)<((List.length a.1:Nat):Int)) <|
 (ref04_Same F (gl a.1 (0:Int).toNat) (⟨([(⟨0,0,(5:Int),(2:Int)⟩ : Rect)]:List Rect)⟩ : Region)).bind fun d=>
 br d (gd (0≤(0:Int)∧(0:Int)<((List.length a.1:Nat):Int)) <|
 (region_Area F (gl a.1 (0:Int).toNat)).bind fun e=>
 br (e==(10:Int)) (gd (0≤(1:Int)∧(1:Int)<((List.length a.1:Nat):Int)) <|
 br (((List.length ((gl a.1 (1:Int).toNat).rects_):Nat):Int)==(0:Int)) (br (b.2==(0:Int)) ((ref24_Ints F b.1 ([(0:Int),(10:Int)]:List Int)).bind fun i=>
 br i (br (c.2.2.2==(0:Int)) (law31_awake_k0 F (!c.2.2.1)) (law31_awake_k0 F false)) (law31_awake_k0 F false)) (law31_awake_k0 F false)) (law31_awake_k0 F false)) (law31_awake_k0 F false)) (law31_awake_k0 F false)) (law31_awake_k0 F false)) (law31_awake_k0 F false)
def keep_New (F:Nat) (a:(List Int)):Option (Tape):=
 gd (0≤(gmin ((List.length a:Nat):Int) (400:Int))∧(gmin ((List.length a:Nat):Int) (400:Int))≤((List.length a:Nat):Int)) <|
 some (⟨(a.take (gmin ((List.length a:Nat):Int) (400:Int)).toNat),0⟩ : Tape)
def keep_Mod_k0 (F:Nat) (a:Int):Option (Int):=
 some a
def keep_Mod (F:Nat) (b:Int) (a:Int):Option (Int):=
 br (decide (a<(1:Int))) (some (0:Int)) (gd (a≠0) <|
 br (decide ((b.tmod a)<(0:Int))) (gd (I64 ((b.tmod a)+a)) <|
 keep_Mod_k0 F ((b.tmod a)+a)) (keep_Mod_k0 F (b.tmod a)))
def keep_Tape_Next (F:Nat) (a:Tape) (b:Int):Option (Tape×Int):=
 br (decide (((List.length a.l_:Nat):Int)≤a.at_)) (some (a,(0:Int))) (gd (I64 (a.at_+(1:Int))) <|
 gd (I64 ((a.at_+(1:Int))-(1:Int))) <|
 gd (0≤((a.at_+(1:Int))-(1:Int))∧((a.at_+(1:Int))-(1:Int))<((List.length a.l_:Nat):Int)) <|
 (keep_Mod F (gl a.l_ ((a.at_+(1:Int))-(1:Int)).toNat) b).bind fun c=>
 some ((⟨a.l_,(a.at_+(1:Int))⟩ : Tape),c))
def ref02_Decimal_B (F:Nat) (rc:Int→Option (ByteArray)) (a:Int):Option (ByteArray):=
 br (decide (a<(0:Int))) (gd ((10:Int)≠0) <|
 gd (I64 (0-(a.tmod (10:Int)))) <|
 br (decide ((-10:Int)<a)) (gd (I64 ((48:Int)+(0-(a.tmod (10:Int))))) <|
 gd (ByteArray.size (ByteArray.mk #[45])+ByteArray.size (bOf (IntKind.wrap .u8 ((48:Int)+(0-(a.tmod (10:Int))))))≤LIM) <|
 some ((ByteArray.mk #[45])++(bOf (IntKind.wrap .u8 ((48:Int)+(0-(a.tmod (10:Int)))))))) (gd (I64 (a.tdiv (10:Int))∧(10:Int)≠0) <|
 (rc (a.tdiv (10:Int))).bind fun b=>
 gd (I64 ((48:Int)+(0-(a.tmod (10:Int))))) <|
 gd (ByteArray.size b+ByteArray.size (bOf (IntKind.wrap .u8 ((48:Int)+(0-(a.tmod (10:Int))))))≤LIM) <|
 some (b++(bOf (IntKind.wrap .u8 ((48:Int)+(0-(a.tmod (10:Int))))))))) (br (decide (a<(10:Int))) (gd (I64 ((48:Int)+a)) <|
 some (bOf (IntKind.wrap .u8 ((48:Int)+a)))) (gd (I64 (a.tdiv (10:Int))∧(10:Int)≠0) <|
 (rc (a.tdiv (10:Int))).bind fun c=>
 gd ((10:Int)≠0) <|
 gd (I64 ((48:Int)+(a.tmod (10:Int)))) <|
 gd (ByteArray.size c+ByteArray.size (bOf (IntKind.wrap .u8 ((48:Int)+(a.tmod (10:Int)))))≤LIM) <|
 some (c++(bOf (IntKind.wrap .u8 ((48:Int)+(a.tmod (10:Int))))))))
def ref02_Decimal:Nat→Int→Option (ByteArray)
 | 0=>fun _=>none
 | F+1=>ref02_Decimal_B F (ref02_Decimal F)
def keep_Tape_One (F:Nat) (c:Tape) (a:Int):Option (Tape×Bool):=
 (keep_Tape_Next F c a).bind fun b=>
 gd (I64 (a-(1:Int))) <|
 some (b.1,(b.2==(a-(1:Int))))
def keep_Tape_Range (F:Nat) (d:Tape) (a:Int) (b:Int):Option (Tape×Int):=
 gd (I64 (b-a)) <|
 gd (I64 ((b-a)+(1:Int))) <|
 (keep_Tape_Next F d ((b-a)+(1:Int))).bind fun c=>
 gd (I64 (a+c.2)) <|
 some (c.1,(a+c.2))
def keep_Tape_Term_k2 (F:Nat) (rc:Tape→Int→Option (Tape×Term)) (e:Tape×Int) (a:Int) (b:Int) (c:(List Int)) (d:Int):Option (Tape×Term):=
 some ((⟨c,d⟩ : Tape),(⟨e.2,a,b,[]⟩ : Term))
def keep_Tape_Term_k1 (F:Nat) (rc:Tape→Int→Option (Tape×Term)) (a:Tape×Int) (l:Bool):Option (Tape×Term):=
 br l ((keep_Tape_Next F a.1 (4:Int)).bind fun d=>
 keep_Tape_Term_k2 F rc a d.2 0 d.1.l_ d.1.at_) (br (a.2==(4:Int)) ((keep_Tape_Next F a.1 (5:Int)).bind fun b=>
 gd (I64 ((1:Int)*2 ^ (min (b.2).toNat (IntKind.bits .i64)))∧0≤b.2) <|
 keep_Tape_Term_k2 F rc a ((1:Int)*2 ^ (min (b.2).toNat (IntKind.bits .i64))) 0 b.1.l_ b.1.at_) (br (a.2==(5:Int)) ((keep_Tape_Next F a.1 (16:Int)).bind fun e=>
 keep_Tape_Term_k2 F rc a e.2 0 e.1.l_ e.1.at_) (br (a.2==(6:Int)) ((keep_Tape_Range F a.1 (2:Int) (3:Int)).bind fun i=>
 keep_Tape_Term_k2 F rc a i.2 0 i.1.l_ i.1.at_) (br (a.2==(7:Int)) ((keep_Tape_Range F a.1 (1:Int) (2:Int)).bind fun k=>
 (keep_Tape_Next F k.1 (5:Int)).bind fun c=>
 gd (I64 ((1:Int)*2 ^ (min (c.2).toNat (IntKind.bits .i64)))∧0≤c.2) <|
 keep_Tape_Term_k2 F rc a k.2 ((1:Int)*2 ^ (min (c.2).toNat (IntKind.bits .i64))) c.1.l_ c.1.at_) (br (a.2==(8:Int)) ((keep_Tape_Range F a.1 (1:Int) (3:Int)).bind fun j=>
 keep_Tape_Term_k2 F rc a j.2 0 j.1.l_ j.1.at_) (keep_Tape_Term_k2 F rc a 0 0 a.1.l_ a.1.at_))))))
def keep_Tape_Term_k0 (F:Nat) (rc:Tape→Int→Option (Tape×Term)) (a:Int) (n:Bool) (l:(List Int)) (m:Int):Option (Tape×Term):=
 br n ((keep_Tape_Next F (⟨l,m⟩ : Tape) (3:Int)).bind fun b=>
 br (b.2==(0:Int)) (gd (I64 (a-(1:Int))) <|
 (rc b.1 (a-(1:Int))).bind fun d=>
 gd (I64 d.2.op_) <|
 some (d.1,(⟨(11:Int),0,0,([d.2]:List Term)⟩ : Term))) (br (b.2==(1:Int)) (gd (I64 (a-(1:Int))) <|
 (rc b.1 (a-(1:Int))).bind fun e=>
 gd (I64 (a-(1:Int))) <|
 (rc e.1 (a-(1:Int))).bind fun i=>
 gd (I64 e.2.op_) <|
 gd (I64 i.2.op_) <|
 some (i.1,(⟨(9:Int),0,0,([e.2,i.2]:List Term)⟩ : Term))) (gd (I64 (a-(1:Int))) <|
 (rc b.1 (a-(1:Int))).bind fun j=>
 gd (I64 (a-(1:Int))) <|
 (rc j.1 (a-(1:Int))).bind fun k=>
 gd (I64 j.2.op_) <|
 gd (I64 k.2.op_) <|
 some (k.1,(⟨(10:Int),0,0,([j.2,k.2]:List Term)⟩ : Term))))) ((keep_Tape_Range F (⟨l,m⟩ : Tape) (1:Int) (8:Int)).bind fun c=>
 br (c.2==(2:Int)) (keep_Tape_Term_k1 F rc c (c.2==(2:Int))) (keep_Tape_Term_k1 F rc c (c.2==(3:Int))))
def keep_Tape_Term_B (F:Nat) (rc:Tape→Int→Option (Tape×Term)) (a:Tape) (b:Int):Option (Tape×Term):=
 br (decide ((0:Int)<b)) ((keep_Tape_One F a (2:Int)).bind fun c=>
 keep_Tape_Term_k0 F rc b c.2 c.1.l_ c.1.at_) (keep_Tape_Term_k0 F rc b false a.l_ a.at_)
def keep_Tape_Term:Nat→Tape→Int→Option (Tape×Term)
 | 0=>fun _ _=>none
 | F+1=>keep_Tape_Term_B F (keep_Tape_Term F)
def ref02_Name_k2 (F:Nat) (a:Int) (b:(Int)→Option (Bool)) (c:Bool):Option (Bool):=
 br c (some false) (gd (I64 (a+(1:Int))) <|
 b (a+(1:Int)))
def ref02_Name_k3 (F:Nat):Option (Bool):=
 some true
def ref02_Name_b1 (F:Nat) (b:ByteArray) (c:(Int)→Option (Bool)) (a:Int):Option (Bool):=
 br (decide (a<((b.size:Nat):Int))) (gd (0≤a∧a<((b.size:Nat):Int)) <|
 br (decide ((sAt b a)<(97:Int))) (gd (0≤a∧a<((b.size:Nat):Int)) <|
 br (decide ((sAt b a)<(48:Int))) (ref02_Name_k2 F a c true) (gd (0≤a∧a<((b.size:Nat):Int)) <|
 ref02_Name_k2 F a c (decide ((57:Int)<(sAt b a))))) (gd (0≤a∧a<((b.size:Nat):Int)) <|
 br (decide ((122:Int)<(sAt b a))) (gd (0≤a∧a<((b.size:Nat):Int)) <|
 br (decide ((sAt b a)<(48:Int))) (ref02_Name_k2 F a c true) (gd (0≤a∧a<((b.size:Nat):Int)) <|
 ref02_Name_k2 F a c (decide ((57:Int)<(sAt b a))))) (ref02_Name_k2 F a c false))) (ref02_Name_k3 F)
def ref02_Name_k0 (F:Nat) (b:ByteArray) (a:Bool):Option (Bool):=
 br a (some false) (loopN (fun again (z:Int)=>ref02_Name_b1 F b again z) F (0:Int))
def ref02_Name (F:Nat) (a:ByteArray):Option (Bool):=
 br (decide (((a.size:Nat):Int)<(1:Int))) (ref02_Name_k0 F a true) (br (decide ((12:Int)<((a.size:Nat):Int))) (ref02_Name_k0 F a true) (gd (0≤(0:Int)∧(0:Int)<((a.size:Nat):Int)) <|
 br (decide ((sAt a (0:Int))<(97:Int))) (ref02_Name_k0 F a true) (gd (0≤(0:Int)∧(0:Int)<((a.size:Nat):Int)) <|
 ref02_Name_k0 F a (decide ((122:Int)<(sAt a (0:Int)))))))
def ref16_count_k1 (F:Nat) (rc:Term→Option (Int)) (a:Int) (b:(Int×Int)→Option (Int)) (c:Int):Option (Int):=
 gd (I64 (a+(1:Int))) <|
 b (c,(a+(1:Int)))
def ref16_count_k2 (F:Nat) (rc:Term→Option (Int)) (a:Int):Option (Int):=
 some a
def ref16_count_b0 (F:Nat) (rc:Term→Option (Int)) (c:Term) (d:(Int×Int)→Option (Int)) (b:Int) (a:Int):Option (Int):=
 br (decide (a<((List.length c.kids_:Nat):Int))) (gd (0≤a∧a<((List.length c.kids_:Nat):Int)) <|
 gd (I64 (gl c.kids_ a.toNat).op_) <|
 br (decide (b≤(40:Int))) ((rc (gl c.kids_ a.toNat)).bind fun e=>
 gd (I64 (b+e)) <|
 ref16_count_k1 F rc a d (b+e)) (ref16_count_k1 F rc a d b)) (ref16_count_k2 F rc b)
def ref16_count_B (F:Nat) (rc:Term→Option (Int)) (a:Term):Option (Int):=
 loopN (fun again (z:Int×Int)=>ref16_count_b0 F rc a again z.1 z.2) F ((1:Int),(0:Int))
def ref16_count:Nat→Term→Option (Int)
 | 0=>fun _=>none
 | F+1=>ref16_count_B F (ref16_count F)
def ref16_depth_k1 (F:Nat) (rc:Term→Option (Int)) (a:Int):Option (Int):=
 gd (I64 (a+(1:Int))) <|
 some (a+(1:Int))
def ref16_depth_b0 (F:Nat) (rc:Term→Option (Int)) (b:Term) (d:(Int×Int)→Option (Int)) (c:Int) (a:Int):Option (Int):=
 br (decide (a<((List.length b.kids_:Nat):Int))) (gd (0≤a∧a<((List.length b.kids_:Nat):Int)) <|
 gd (I64 (gl b.kids_ a.toNat).op_) <|
 (rc (gl b.kids_ a.toNat)).bind fun e=>
 gd (I64 (a+(1:Int))) <|
 d ((gmax c e),(a+(1:Int)))) (ref16_depth_k1 F rc c)
def ref16_depth_B (F:Nat) (rc:Term→Option (Int)) (a:Term):Option (Int):=
 loopN (fun again (z:Int×Int)=>ref16_depth_b0 F rc a again z.1 z.2) F ((0:Int),(0:Int))
def ref16_depth:Nat→Term→Option (Int)
 | 0=>fun _=>none
 | F+1=>ref16_depth_B F (ref16_depth F)
def ref16_single_k0 (F:Nat) (a:Bool):Option (Bool):=
 some a
def ref16_single (F:Nat) (a:Int):Option (Bool):=
 br (a==(1:Int)) (ref16_single_k0 F true) (br (a==(2:Int)) (ref16_single_k0 F true) (br (a==(4:Int)) (ref16_single_k0 F true) (br (a==(8:Int)) (ref16_single_k0 F true) (ref16_single_k0 F (a==(16:Int))))))
def ref16_form_k4 (F:Nat) (rc:Term→Option (Bool)):Option (Bool):=
 some true
def ref16_form_b3 (F:Nat) (rc:Term→Option (Bool)) (b:Term) (c:(Int)→Option (Bool)) (a:Int):Option (Bool):=
 br (decide (a<((List.length b.kids_:Nat):Int))) (gd (0≤a∧a<((List.length b.kids_:Nat):Int)) <|
 gd (I64 (gl b.kids_ a.toNat).op_) <|
 (rc (gl b.kids_ a.toNat)).bind fun d=>
 br (!d) (some false) (gd (I64 (a+(1:Int))) <|
 c (a+(1:Int)))) (ref16_form_k4 F rc)
def ref16_form_k2 (F:Nat) (rc:Term→Option (Bool)) (b:Term) (a:Bool):Option (Bool):=
 br a (some false) (loopN (fun again (z:Int)=>ref16_form_b3 F rc b again z) F (0:Int))
def ref16_form_k1 (F:Nat) (rc:Term→Option (Bool)) (a:Term) (b:Int) (c:Bool) (d:Bool):Option (Bool):=
 br (!d) (ref16_form_k2 F rc a true) (br (!c) (ref16_form_k2 F rc a true) (ref16_form_k2 F rc a (((List.length a.kids_:Nat):Int) != b)))
def ref16_form_k0 (F:Nat) (rc:Term→Option (Bool)) (a:Term) (b:Bool):Option (Bool):=
 br b (br (a.num_==(0:Int)) (ref16_form_k1 F rc a ((List.length a.kids_:Nat):Int) (a.more_==(0:Int)) (decide ((0:Int)<((List.length a.kids_:Nat):Int)))) (ref16_form_k1 F rc a ((List.length a.kids_:Nat):Int) (a.more_==(0:Int)) false)) (br (a.op_==(11:Int)) (ref16_form_k1 F rc a (1:Int) (a.more_==(0:Int)) (a.num_==(0:Int))) (ref16_form_k1 F rc a (0:Int) (a.more_==(0:Int)) false))
def ref16_form_B (F:Nat) (rc:Term→Option (Bool)) (a:Term):Option (Bool):=
 br (a.op_==(1:Int)) (ref16_form_k1 F rc a (0:Int) (a.more_==(0:Int)) (a.num_==(0:Int))) (br (a.op_==(2:Int)) (br (decide ((0:Int)≤a.num_)) (ref16_form_k1 F rc a (0:Int) (a.more_==(0:Int)) (decide (a.num_<(40:Int)))) (ref16_form_k1 F rc a (0:Int) (a.more_==(0:Int)) false)) (br (a.op_==(3:Int)) (br (decide ((0:Int)≤a.num_)) (ref16_form_k1 F rc a (0:Int) (a.more_==(0:Int)) (decide (a.num_≤(40:Int)))) (ref16_form_k1 F rc a (0:Int) (a.more_==(0:Int)) false)) (br (a.op_==(4:Int)) ((ref16_single F a.num_).bind fun b=>
 ref16_form_k1 F rc a (0:Int) (a.more_==(0:Int)) b) (br (a.op_==(5:Int)) (br (decide ((0:Int)≤a.num_)) (ref16_form_k1 F rc a (0:Int) (a.more_==(0:Int)) (decide (a.num_≤(15:Int)))) (ref16_form_k1 F rc a (0:Int) (a.more_==(0:Int)) false)) (br (a.op_==(6:Int)) (br (decide ((2:Int)≤a.num_)) (ref16_form_k1 F rc a (0:Int) (a.more_==(0:Int)) (decide (a.num_≤(10:Int)))) (ref16_form_k1 F rc a (0:Int) (a.more_==(0:Int)) false)) (br (a.op_==(7:Int)) (br (decide ((1:Int)≤a.num_)) ((ref16_single F a.more_).bind fun c=>
 ref16_form_k1 F rc a (0:Int) c (decide (a.num_≤(10:Int)))) ((ref16_single F a.more_).bind fun d=>
 ref16_form_k1 F rc a (0:Int) d false)) (br (a.op_==(8:Int)) (br (decide ((1:Int)≤a.num_)) (ref16_form_k1 F rc a (0:Int) (a.more_==(0:Int)) (decide (a.num_≤(10:Int)))) (ref16_form_k1 F rc a (0:Int) (a.more_==(0:Int)) false)) (br (a.op_==(9:Int)) (ref16_form_k0 F rc a (a.op_==(9:Int))) (ref16_form_k0 F rc a (a.op_==(10:Int)))))))))))
def ref16_form:Nat→Term→Option (Bool)
 | 0=>fun _=>none
 | F+1=>ref16_form_B F (ref16_form F)
def ref16_Check_k0 (F:Nat) (a:Bool):Option (Int):=
 br a (some (16:Int)) (some (0:Int))
def ref16_Check (F:Nat) (a:Term):Option (Int):=
 (ref16_count F a).bind fun b=>
 br (decide ((40:Int)<b)) (some (1:Int)) ((ref16_depth F a).bind fun c=>
 br (decide ((8:Int)<c)) (ref16_Check_k0 F true) ((ref16_form F a).bind fun d=>
 ref16_Check_k0 F (!d)))
def ref17_brackets_k2 (F:Nat) (d:(List Bracket)) (a:Int) (b:(Int×Int)→Option (Bool)) (c:Bool):Option (Bool):=
 br c (some false) (gd (I64 (a+(1:Int))) <|
 b ((gl d a.toNat).up_,(a+(1:Int))))
def ref17_brackets_k3 (F:Nat):Option (Bool):=
 some true
def ref17_brackets_b1 (F:Nat) (b:(List Bracket)) (c:(Int×Int)→Option (Bool)) (d:Int) (a:Int):Option (Bool):=
 br (decide (a<((List.length b:Nat):Int))) (gd (0≤a∧a<((List.length b:Nat):Int)) <|
 br (decide (((gl b a.toNat).up_)≤d)) (ref17_brackets_k2 F b a c true) (br (decide ((268435456:Int)<((gl b a.toNat).up_))) (ref17_brackets_k2 F b a c true) (br (decide (((gl b a.toNat).rate_)<(0:Int))) (ref17_brackets_k2 F b a c true) (ref17_brackets_k2 F b a c (decide ((1048576:Int)<((gl b a.toNat).rate_))))))) (ref17_brackets_k3 F)
def ref17_brackets_k0 (F:Nat) (b:(List Bracket)) (a:Bool):Option (Bool):=
 br a (some false) (loopN (fun again (z:Int×Int)=>ref17_brackets_b1 F b again z.1 z.2) F ((0:Int),(0:Int)))
def ref17_brackets (F:Nat) (a:(List Bracket)):Option (Bool):=
 br (decide (((List.length a:Nat):Int)<(1:Int))) (ref17_brackets_k0 F a true) (ref17_brackets_k0 F a (decide ((6:Int)<((List.length a:Nat):Int))))
def ref17_One_k1 (F:Nat) (a:Bool):Option (Int):=
 br a (some (3:Int)) (some (0:Int))
def ref17_One_k0 (F:Nat) (a:Scheme) (c:Bool):Option (Int):=
 br c (some (2:Int)) ((ref02_Name F a.name_).bind fun d=>
 br (!d) (some (5:Int)) ((ref16_Check F a.cond_).bind fun b=>
 br (b != (0:Int)) (some b) ((ref17_brackets F a.brackets_).bind fun e=>
 br (!e) (ref17_One_k1 F true) (br (decide (a.excludes_<(0:Int))) (ref17_One_k1 F true) (br (decide ((65536:Int)≤a.excludes_)) (ref17_One_k1 F true) (gd (0≤a.number_) <|
 ref17_One_k1 F ((band .i64 (a.excludes_.fdiv (2 ^ (min (a.number_).toNat (IntKind.bits .i64)))) (1:Int))==(1:Int))))))))
def ref17_One (F:Nat) (a:Scheme):Option (Int):=
 br (decide (a.number_<(0:Int))) (ref17_One_k0 F a true) (br (decide ((15:Int)<a.number_)) (ref17_One_k0 F a true) (br (decide (a.least_<(0:Int))) (ref17_One_k0 F a true) (ref17_One_k0 F a (decide ((268435456:Int)<a.least_)))))
def ref17_Find_k1 (F:Nat):Option (Int):=
 some (-1:Int)
def ref17_Find_b0 (F:Nat) (b:(List Scheme)) (d:Int) (c:(Int)→Option (Int)) (a:Int):Option (Int):=
 br (decide (a<((List.length b:Nat):Int))) (gd (0≤a∧a<((List.length b:Nat):Int)) <|
 br (((gl b a.toNat).number_)==d) (some a) (gd (I64 (a+(1:Int))) <|
 c (a+(1:Int)))) (ref17_Find_k1 F)
def ref17_Find (F:Nat) (a:(List Scheme)) (b:Int):Option (Int):=
 loopN (fun again (z:Int)=>ref17_Find_b0 F a b again z) F (0:Int)
def ref17_Check_k2 (F:Nat) (c:Int) (a:Int) (b:(Int)→Option (Int×Int)) (d:Bool):Option (Int×Int):=
 br d (some (c,(6:Int))) (gd (I64 (a+(1:Int))) <|
 b (a+(1:Int)))
def ref17_Check_k3 (F:Nat) (a:Int) (b:(Int)→Option (Int×Int)):Option (Int×Int):=
 gd (I64 (a+(1:Int))) <|
 b (a+(1:Int))
def ref17_Check_b1 (F:Nat) (c:(List Scheme)) (a:Int) (e:(Int)→Option (Int×Int)) (d:(Int)→Option (Int×Int)) (b:Int):Option (Int×Int):=
 br (decide (b<((List.length (c.take a.toNat):Nat):Int))) (gd (0≤b∧b<((List.length (c.take a.toNat):Nat):Int)) <|
 br (sEq ((gl (c.take a.toNat) b.toNat).name_) ((gl c a.toNat).name_)) (ref17_Check_k2 F a b d true) (gd (I64 (a-(1:Int))) <|
 br (b==(a-(1:Int))) (ref17_Check_k2 F a b d (decide (((gl c a.toNat).number_)≤((gl (c.take a.toNat) b.toNat).number_)))) (ref17_Check_k2 F a b d false))) (ref17_Check_k3 F a e)
def ref17_Check_k8 (F:Nat) (a:Int) (b:(Int)→Option (Int×Int)):Option (Int×Int):=
 gd (I64 (a+(1:Int))) <|
 b (a+(1:Int))
def ref17_Check_k7 (F:Nat) (b:Int) (c:Int) (a:(Int)→Option (Int×Int)) (d:Bool):Option (Int×Int):=
 br d (some (b,(17:Int))) (ref17_Check_k8 F c a)
def ref17_Check_k9 (F:Nat) (a:Int) (b:(Int)→Option (Int×Int)):Option (Int×Int):=
 gd (I64 (a+(1:Int))) <|
 b (a+(1:Int))
def ref17_Check_b6 (F:Nat) (c:(List Scheme)) (b:Int) (i:(Int)→Option (Int×Int)) (e:(Int)→Option (Int×Int)) (a:Int):Option (Int×Int):=
 br (decide (a≤(15:Int))) (gd (0≤a) <|
 br ((band .i64 (((gl c b.toNat).excludes_).fdiv (2 ^ (min (a).toNat (IntKind.bits .i64)))) (1:Int))==(0:Int)) (ref17_Check_k8 F a e) ((ref17_Find F c a).bind fun d=>
 br (decide (d<(0:Int))) (ref17_Check_k7 F b a e true) (gd (0≤d∧d<((List.length c:Nat):Int)) <|
 gd (0≤((gl c b.toNat).number_)) <|
 ref17_Check_k7 F b a e ((band .i64 (((gl c d.toNat).excludes_).fdiv (2 ^ (min (((gl c b.toNat).number_)).toNat (IntKind.bits .i64)))) (1:Int))==(0:Int))))) (ref17_Check_k9 F b i)
def ref17_Check_k10 (F:Nat):Option (Int×Int):=
 some ((-1:Int),(0:Int))
def ref17_Check_b5 (F:Nat) (b:(List Scheme)) (c:(Int)→Option (Int×Int)) (a:Int):Option (Int×Int):=
 br (decide (a<((List.length b:Nat):Int))) (gd (0≤a∧a<((List.length b:Nat):Int)) <|
 loopN (fun again (z:Int)=>ref17_Check_b6 F b a c again z) F (0:Int)) (ref17_Check_k10 F)
def ref17_Check_k4 (F:Nat) (a:(List Scheme)):Option (Int×Int):=
 loopN (fun again (z:Int)=>ref17_Check_b5 F a again z) F (0:Int)
def ref17_Check_b0 (F:Nat) (b:(List Scheme)) (d:(Int)→Option (Int×Int)) (a:Int):Option (Int×Int):=
 br (decide (a<((List.length b:Nat):Int))) (gd (0≤a∧a<((List.length b:Nat):Int)) <|
 (ref17_One F (gl b a.toNat)).bind fun c=>
 br (c != (0:Int)) (some (a,c)) (gd (0≤a∧a≤((List.length b:Nat):Int)) <|
 loopN (fun again (z:Int)=>ref17_Check_b1 F b a d again z) F (0:Int))) (ref17_Check_k4 F b)
def ref17_Check (F:Nat) (a:(List Scheme)):Option (Int×Int):=
 br (decide ((16:Int)<((List.length a:Nat):Int))) (some ((0:Int),(1:Int))) (loopN (fun again (z:Int)=>ref17_Check_b0 F a again z) F (0:Int))
def keep_Tape_Law_k4 (F:Nat) (a:Int) (b:(Int×Int×(List Int)×Int×(List Scheme))→Option (Tape×(List Scheme))) (c:Int) (d:(List Int)) (e:Int) (i:(List Scheme)):Option (Tape×(List Scheme)):=
 gd (I64 (a-(1:Int))) <|
 b (c,(a-(1:Int)),d,e,i)
def keep_Tape_Law_k3 (F:Nat) (a:Int) (m:Int) (c:(List Scheme)) (e:ByteArray) (i:Tape×Term) (j:Tape×Int) (k:Tape×Bool) (l:(Int×Int×(List Int)×Int×(List Scheme))→Option (Tape×(List Scheme))) (n:(List Int)) (o:Int) (d:(List Bracket)):Option (Tape×(List Scheme)):=
 gd ((List.length (α:=Scheme) c)+(List.length (α:=Scheme) ([(⟨a,((ByteArray.mk #[115])++e),i.2,d,j.2,0,k.2⟩ : Scheme)]:List Scheme))≤LIM) <|
 (keep_Tape_Range F (⟨n,o⟩ : Tape) (1:Int) (2:Int)).bind fun b=>
 gd (I64 (a+b.2)) <|
 keep_Tape_Law_k4 F m l (a+b.2) b.1.l_ b.1.at_ (c++([(⟨a,((ByteArray.mk #[115])++e),i.2,d,j.2,0,k.2⟩ : Scheme)]:List Scheme))
def keep_Tape_Law_b2 (F:Nat) (m:Int) (n:Int) (o:(List Scheme)) (p:ByteArray) (q:Tape×Term) (s:Tape×Int) (t:Tape×Bool) (k:(Int×Int×(List Int)×Int×(List Scheme))→Option (Tape×(List Scheme))) (l:(Int×Int×(List Int)×Int×(List Bracket))→Option (Tape×(List Scheme))) (b:Int) (d:Int) (i:(List Int)) (j:Int) (e:(List Bracket)):Option (Tape×(List Scheme)):=
 br (decide ((0:Int)<d)) ((keep_Tape_Range F (⟨i,j⟩ : Tape) (1:Int) (40:Int)).bind fun a=>
 gd (I64 (b+a.2)) <|
 (keep_Tape_Next F a.1 (3000:Int)).bind fun c=>
 gd ((List.length (α:=Bracket) e)+(List.length (α:=Bracket) ([(⟨(b+a.2),c.2⟩ : Bracket)]:List Bracket))≤LIM) <|
 gd (I64 (d-(1:Int))) <|
 l ((b+a.2),(d-(1:Int)),c.1.l_,c.1.at_,(e++([(⟨(b+a.2),c.2⟩ : Bracket)]:List Bracket)))) (keep_Tape_Law_k3 F m n o p q s t k i j e)
def keep_Tape_Law_k8 (F:Nat) (a:Int) (b:(Int×(List Int)×Int×(List Scheme))→Option (Tape×(List Scheme))) (c:(List Int)) (d:Int) (e:(List Scheme)):Option (Tape×(List Scheme)):=
 gd (I64 (a+(1:Int))) <|
 b ((a+(1:Int)),c,d,e)
def keep_Tape_Law_k9 (F:Nat) (a:Int) (b:(Int×(List Int)×Int×(List Scheme))→Option (Tape×(List Scheme))) (c:(List Int)) (d:Int) (e:(List Scheme)):Option (Tape×(List Scheme)):=
 gd (I64 (a+(1:Int))) <|
 b ((a+(1:Int)),c,d,e)
def keep_Tape_Law_b7 (F:Nat) (b:Int) (k:(Int×(List Int)×Int×(List Scheme))→Option (Tape×(List Scheme))) (e:(Int×(List Int)×Int×(List Scheme))→Option (Tape×(List Scheme))) (c:Int) (i:(List Int)) (j:Int) (a:(List Scheme)):Option (Tape×(List Scheme)):=
 br (decide (c<((((b).toNat):Nat):Int))) ((keep_Tape_One F (⟨i,j⟩ : Tape) (3:Int)).bind fun d=>
 br d.2 (gd (0≤b∧b<((List.length a:Nat):Int)) <|
 gd (0≤c∧c<((List.length a:Nat):Int)) <|
 gd (I64 ((1:Int)*2 ^ (min (((gl a c.toNat).number_)).toNat (IntKind.bits .i64)))∧0≤((gl a c.toNat).number_)) <|
 gd (0≤b∧b<((List.length a:Nat):Int)) <|
 gd (0≤c∧c<((List.length (List.set a b.toNat (⟨(gl a b.toNat).number_,(gl a b.toNat).name_,(gl a b.toNat).cond_,(gl a b.toNat).brackets_,(gl a b.toNat).least_,(bor .i64 ((gl a b.toNat).excludes_) ((1:Int)*2 ^ (min (((gl a c.toNat).number_)).toNat (IntKind.bits .i64)))),(gl a b.toNat).needs_⟩ : Scheme)):Nat):Int)) <|
 gd (0≤b∧b<((List.length (List.set a b.toNat (⟨(gl a b.toNat).number_,(gl a b.toNat).name_,(gl a b.toNat).cond_,(gl a b.toNat).brackets_,(gl a b.toNat).least_,(bor .i64 ((gl a b.toNat).excludes_) ((1:Int)*2 ^ (min (((gl a c.toNat).number_)).toNat (IntKind.bits .i64)))),(gl a b.toNat).needs_⟩ : Scheme)):Nat):Int)) <|
 gd (I64 ((1:Int)*2 ^ (min (((gl (List.set a b.toNat (⟨(gl a b.toNat).number_,(gl a b.toNat).name_,(gl a b.toNat).cond_,(gl a b.toNat).brackets_,(gl a b.toNat).least_,(bor .i64 ((gl a b.toNat).excludes_) ((1:Int)*2 ^ (min (((gl a c.toNat).number_)).toNat (IntKind.bits .i64)))),(gl a b.toNat).needs_⟩ : Scheme)) b.toNat).number_)).toNat (IntKind.bits .i64)))∧0≤((gl (List.set a b.toNat (⟨(gl a b.toNat).number_,(gl a b.toNat).name_,(gl a b.toNat).cond_,(gl a b.toNat).brackets_,(gl a b.toNat).least_,(bor .i64 ((gl a b.toNat).excludes_) ((1:Int)*2 ^ (min (((gl a c.toNat).number_)).toNat (IntKind.bits .i64)))),(gl a b.toNat).needs_⟩ : Scheme)) b.toNat).number_)) <|
 gd (0≤c∧c<((List.length (List.set a b.toNat (⟨(gl a b.toNat).number_,(gl a b.toNat).name_,(gl a b.toNat).cond_,(gl a b.toNat).brackets_,(gl a b.toNat).least_,(bor .i64 ((gl a b.toNat).excludes_) ((1:Int)*2 ^ (min (((gl a c.toNat).number_)).toNat (IntKind.bits .i64)))),(gl a b.toNat).needs_⟩ : Scheme)):Nat):Int)) <|
 keep_Tape_Law_k8 F c e d.1.l_ d.1.at_ (List.set (List.set a b.toNat (⟨(gl a b.toNat).number_,(gl a b.toNat).name_,(gl a b.toNat).cond_,(gl a b.toNat).brackets_,(gl a b.toNat).least_,(bor .i64 ((gl a b.toNat).excludes_) ((1:Int)*2 ^ (min (((gl a c.toNat).number_)).toNat (IntKind.bits .i64)))),(gl a b.toNat).needs_⟩ : Scheme)) c.toNat (⟨(gl (List.set a b.toNat (⟨(gl a b.toNat).number_,(gl a b.toNat).name_,(gl a b.toNat).cond_,(gl a b.toNat).brackets_,(gl a b.toNat).least_,(bor .i64 ((gl a b.toNat).excludes_) ((1:Int)*2 ^ (min (((gl a c.toNat).number_)).toNat (IntKind.bits .i64)))),(gl a b.toNat).needs_⟩ : Scheme)) c.toNat).number_,(gl (List.set a b.toNat (⟨(gl a b.toNat).number_,(gl a b.toNat).name_,(gl a b.toNat).cond_,(gl a b.toNat).brackets_,(gl a b.toNat).least_,(bor .i64 ((gl a b.toNat).excludes_) ((1:Int)*2 ^ (min (((gl a c.toNat).number_)).toNat (IntKind.bits .i64)))),(gl a b.toNat).needs_⟩ : Scheme)) c.toNat).name_,(gl (List.set a b.toNat (⟨(gl a b.toNat).number_,(gl a b.toNat).name_,(gl a b.toNat).cond_,(gl a b.toNat).brackets_,(gl a b.toNat).least_,(bor .i64 ((gl a b.toNat).excludes_) ((1:Int)*2 ^ (min (((gl a c.toNat).number_)).toNat (IntKind.bits .i64)))),(gl a b.toNat).needs_⟩ : Scheme)) c.toNat).cond_,(gl (List.set a b.toNat (⟨(gl a b.toNat).number_,(gl a b.toNat).name_,(gl a b.toNat).cond_,(gl a b.toNat).brackets_,(gl a b.toNat).least_,(bor .i64 ((gl a b.toNat).excludes_) ((1:Int)*2 ^ (min (((gl a c.toNat).number_)).toNat (IntKind.bits .i64)))),(gl a b.toNat).needs_⟩ : Scheme)) c.toNat).brackets_,(gl (List.set a b.toNat (⟨(gl a b.toNat).number_,(gl a b.toNat).name_,(gl a b.toNat).cond_,(gl a b.toNat).brackets_,(gl a b.toNat).least_,(bor .i64 ((gl a b.toNat).excludes_) ((1:Int)*2 ^ (min (((gl a c.toNat).number_)).toNat (IntKind.bits .i64)))),(gl a b.toNat).needs_⟩ : Scheme)) c.toNat).least_,(bor .i64 ((gl (List.set a b.toNat (⟨(gl a b.toNat).number_,(gl a b.toNat).name_,(gl a b.toNat).cond_,(gl a b.toNat).brackets_,(gl a b.toNat).least_,(bor .i64 ((gl a b.toNat).excludes_) ((1:Int)*2 ^ (min (((gl a c.toNat).number_)).toNat (IntKind.bits .i64)))),(gl a b.toNat).needs_⟩ : Scheme)) c.toNat).excludes_) ((1:Int)*2 ^ (min (((gl (List.set a b.toNat (⟨(gl a b.toNat).number_,(gl a b.toNat).name_,(gl a b.toNat).cond_,(gl a b.toNat).brackets_,(gl a b.toNat).least_,(bor .i64 ((gl a b.toNat).excludes_) ((1:Int)*2 ^ (min (((gl a c.toNat).number_)).toNat (IntKind.bits .i64)))),(gl a b.toNat).needs_⟩ : Scheme)) b.toNat).number_)).toNat (IntKind.bits .i64)))),(gl (List.set a b.toNat (⟨(gl a b.toNat).number_,(gl a b.toNat).name_,(gl a b.toNat).cond_,(gl a b.toNat).brackets_,(gl a b.toNat).least_,(bor .i64 ((gl a b.toNat).excludes_) ((1:Int)*2 ^ (min (((gl a c.toNat).number_)).toNat (IntKind.bits .i64)))),(gl a b.toNat).needs_⟩ : Scheme)) c.toNat).needs_⟩ : Scheme))) (keep_Tape_Law_k8 F c e d.1.l_ d.1.at_ a)) (keep_Tape_Law_k9 F b k i j a)
def keep_Tape_Law_k10 (F:Nat) (a:(List Scheme)) (b:(List Int)) (c:Int):Option (Tape×(List Scheme)):=
 (ref17_Check F a).bind fun d=>
 br (d.2 != (0:Int)) (some ((⟨b,c⟩ : Tape),([]:List Scheme))) (some ((⟨b,c⟩ : Tape),a))
def keep_Tape_Law_b6 (F:Nat) (i:(List Scheme)) (e:(Int×(List Int)×Int×(List Scheme))→Option (Tape×(List Scheme))) (a:Int) (c:(List Int)) (d:Int) (b:(List Scheme)):Option (Tape×(List Scheme)):=
 br (decide (a<((List.length i:Nat):Int))) (gd (0≤(0:Int)∧(0:Int)≤a∧((0:Nat):Int)+a≤((List.length (α:=Scheme) b:Nat):Int)) <|
 loopN (fun again (z:Int×(List Int)×Int×(List Scheme))=>keep_Tape_Law_b7 F a e again z.1 z.2.1 z.2.2.1 z.2.2.2) F ((0:Int),c,d,b)) (keep_Tape_Law_k10 F b c d)
def keep_Tape_Law_k5 (F:Nat) (b:(List Int)) (c:Int) (a:(List Scheme)):Option (Tape×(List Scheme)):=
 loopN (fun again (z:Int×(List Int)×Int×(List Scheme))=>keep_Tape_Law_b6 F a again z.1 z.2.1 z.2.2.1 z.2.2.2) F ((0:Int),b,c,a)
def keep_Tape_Law_k1 (F:Nat) (b:Int) (n:Int) (c:(List Int)) (d:Int) (e:(List Scheme)) (m:(Int×Int×(List Int)×Int×(List Scheme))→Option (Tape×(List Scheme))) (o:Bool):Option (Tape×(List Scheme)):=
 br o ((ref02_Decimal F b).bind fun i=>
 gd (ByteArray.size (ByteArray.mk #[115])+ByteArray.size i≤LIM) <|
 (keep_Tape_Term F (⟨c,d⟩ : Tape) (2:Int)).bind fun j=>
 (keep_Tape_Next F j.1 (4:Int)).bind fun k=>
 (keep_Tape_One F k.1 (2:Int)).bind fun l=>
 (keep_Tape_Range F l.1 (1:Int) (3:Int)).bind fun a=>
 loopN (fun again (z:Int×Int×(List Int)×Int×(List Bracket))=>keep_Tape_Law_b2 F b n e i j k l m again z.1 z.2.1 z.2.2.1 z.2.2.2.1 z.2.2.2.2) F ((0:Int),a.2,a.1.l_,a.1.at_,([]:List Bracket))) (keep_Tape_Law_k5 F c d e)
def keep_Tape_Law_b0 (F:Nat) (c:(Int×Int×(List Int)×Int×(List Scheme))→Option (Tape×(List Scheme))) (a:Int) (b:Int) (d:(List Int)) (e:Int) (i:(List Scheme)):Option (Tape×(List Scheme)):=
 br (decide ((0:Int)<b)) (keep_Tape_Law_k1 F a b d e i c (decide (a≤(3:Int)))) (keep_Tape_Law_k1 F a b d e i c false)
def keep_Tape_Law (F:Nat) (d:Tape) (b:Int):Option (Tape×(List Scheme)):=
 (keep_Tape_Next F d (2:Int)).bind fun c=>
 gd (I64 (b+(1:Int))) <|
 (keep_Tape_Next F c.1 (b+(1:Int))).bind fun a=>
 loopN (fun again (z:Int×Int×(List Int)×Int×(List Scheme))=>keep_Tape_Law_b0 F again z.1 z.2.1 z.2.2.1 z.2.2.2.1 z.2.2.2.2) F (c.2,a.2,a.1.l_,a.1.at_,([]:List Scheme))
def second_Schemes_k2 (F:Nat) (a:Int) (b:(Int×(List Int)×Int×(List Scheme))→Option (Tape×(List Scheme))) (c:(List Int)) (d:Int) (e:(List Scheme)):Option (Tape×(List Scheme)):=
 gd (I64 (a+(1:Int))) <|
 b ((a+(1:Int)),c,d,e)
def second_Schemes_k3 (F:Nat) (a:(List Scheme)) (b:(List Int)) (c:Int):Option (Tape×(List Scheme)):=
 some ((⟨b,c⟩ : Tape),a)
def second_Schemes_b1 (F:Nat) (j:(List Scheme)) (d:(Int×(List Int)×Int×(List Scheme))→Option (Tape×(List Scheme))) (a:Int) (e:(List Int)) (i:Int) (b:(List Scheme)):Option (Tape×(List Scheme)):=
 br (decide (a<((List.length j:Nat):Int))) ((keep_Tape_Next F (⟨e,i⟩ : Tape) (3:Int)).bind fun c=>
 br (decide ((0:Int)<c.2)) (gd (0≤a∧a<((List.length b:Nat):Int)) <|
 second_Schemes_k2 F a d c.1.l_ c.1.at_ (List.set b a.toNat (⟨(gl b a.toNat).number_,(gl b a.toNat).name_,(⟨(1:Int),0,0,[]⟩ : Term),(gl b a.toNat).brackets_,(gl b a.toNat).least_,(gl b a.toNat).excludes_,(gl b a.toNat).needs_⟩ : Scheme))) (second_Schemes_k2 F a d c.1.l_ c.1.at_ b)) (second_Schemes_k3 F b e i)
def second_Schemes_k0 (F:Nat) (b:(List Int)) (c:Int) (a:(List Scheme)):Option (Tape×(List Scheme)):=
 loopN (fun again (z:Int×(List Int)×Int×(List Scheme))=>second_Schemes_b1 F a again z.1 z.2.1 z.2.2.1 z.2.2.2) F ((0:Int),b,c,a)
def second_Schemes (F:Nat) (c:Tape):Option (Tape×(List Scheme)):=
 (keep_Tape_Law F c (3:Int)).bind fun a=>
 br (((List.length a.2:Nat):Int)==(0:Int)) ((keep_Tape_Next F a.1 (900:Int)).bind fun b=>
 gd (I64 ((100:Int)+b.2)) <|
 second_Schemes_k0 F b.1.l_ b.1.at_ ([(⟨(0:Int),(ByteArray.mk #[115,48]),(⟨(1:Int),0,0,[]⟩ : Term),([(⟨(500:Int),((100:Int)+b.2)⟩ : Bracket)]:List Bracket),0,0,false⟩ : Scheme)]:List Scheme)) (second_Schemes_k0 F a.1.l_ a.1.at_ a.2)
def keep_Tape_Rect (F:Nat) (i:Tape) (c:Int):Option (Tape×Rect):=
 (keep_Tape_Next F i c).bind fun a=>
 (keep_Tape_Next F a.1 c).bind fun b=>
 gd (I64 (a.2+(1:Int))) <|
 gd (I64 (c-a.2)) <|
 (keep_Tape_Next F b.1 (c-a.2)).bind fun d=>
 gd (I64 ((a.2+(1:Int))+d.2)) <|
 gd (I64 (b.2+(1:Int))) <|
 gd (I64 (c-b.2)) <|
 (keep_Tape_Next F d.1 (c-b.2)).bind fun e=>
 gd (I64 ((b.2+(1:Int))+e.2)) <|
 some (e.1,(⟨a.2,b.2,((a.2+(1:Int))+d.2),((b.2+(1:Int))+e.2)⟩ : Rect))
def ref04_proper_k0 (F:Nat) (a:Bool):Option (Bool):=
 some a
def ref04_proper (F:Nat) (a:Rect):Option (Bool):=
 br (decide ((0:Int)≤a.left_)) (br (decide (a.left_<a.right_)) (br (decide (a.right_≤(16384:Int))) (br (decide ((0:Int)≤a.low_)) (br (decide (a.low_<a.high_)) (ref04_proper_k0 F (decide (a.high_≤(16384:Int)))) (ref04_proper_k0 F false)) (ref04_proper_k0 F false)) (ref04_proper_k0 F false)) (ref04_proper_k0 F false)) (ref04_proper_k0 F false)
def ref01_Put_k3 (F:Nat) (b:(List Int)) (c:Int) (a:Int) (d:Bool):Option ((List Int)):=
 br d (some b) (gd (0≤a∧a≤((List.length b:Nat):Int)) <|
 gd ((0)+(List.length (α:=Int) (b.take a.toNat))≤LIM) <|
 gd (((0)+(List.length (α:=Int) (b.take a.toNat)))+(List.length (α:=Int) ([c]:List Int))≤LIM) <|
 gd (0≤a∧a≤((List.length b:Nat):Int)) <|
 gd ((((0)+(List.length (α:=Int) (b.take a.toNat)))+(List.length (α:=Int) ([c]:List Int)))+(List.length (α:=Int) (b.drop a.toNat))≤LIM) <|
 some (((([]:List Int)++(b.take a.toNat))++([c]:List Int))++(b.drop a.toNat)))
def ref01_Put_k2 (F:Nat) (b:(List Int)) (c:Int) (a:Int):Option ((List Int)):=
 br (decide (a<((List.length b:Nat):Int))) (gd (0≤a∧a<((List.length b:Nat):Int)) <|
 ref01_Put_k3 F b c a ((gl b a.toNat)==c)) (ref01_Put_k3 F b c a false)
def ref01_Put_k1 (F:Nat) (d:(List Int)) (e:Int) (a:Int) (b:(Int)→Option ((List Int))) (c:Bool):Option ((List Int)):=
 br c (gd (I64 (a+(1:Int))) <|
 b (a+(1:Int))) (ref01_Put_k2 F d e a)
def ref01_Put_b0 (F:Nat) (b:(List Int)) (c:Int) (d:(Int)→Option ((List Int))) (a:Int):Option ((List Int)):=
 br (decide (a<((List.length b:Nat):Int))) (gd (0≤a∧a<((List.length b:Nat):Int)) <|
 ref01_Put_k1 F b c a d (decide ((gl b a.toNat)<c))) (ref01_Put_k1 F b c a d false)
def ref01_Put (F:Nat) (a:(List Int)) (b:Int):Option ((List Int)):=
 loopN (fun again (z:Int)=>ref01_Put_b0 F a b again z) F (0:Int)
def ref04_inside_k1 (F:Nat) (a:Int) (b:(Int)→Option (Bool)) (c:Bool):Option (Bool):=
 br c (some true) (gd (I64 (a+(1:Int))) <|
 b (a+(1:Int)))
def ref04_inside_k2 (F:Nat):Option (Bool):=
 some false
def ref04_inside_b0 (F:Nat) (b:(List Rect)) (d:Int) (e:Int) (c:(Int)→Option (Bool)) (a:Int):Option (Bool):=
 br (decide (a<((List.length b:Nat):Int))) (gd (0≤a∧a<((List.length b:Nat):Int)) <|
 br (decide (((gl b a.toNat).left_)≤d)) (br (decide (d<((gl b a.toNat).right_))) (br (decide (((gl b a.toNat).low_)≤e)) (ref04_inside_k1 F a c (decide (e<((gl b a.toNat).high_)))) (ref04_inside_k1 F a c false)) (ref04_inside_k1 F a c false)) (ref04_inside_k1 F a c false)) (ref04_inside_k2 F)
def ref04_inside (F:Nat) (a:(List Rect)) (b:Int) (c:Int):Option (Bool):=
 loopN (fun again (z:Int)=>ref04_inside_b0 F a b c again z) F (0:Int)
def ref04_keep_k0 (F:Nat) (a:Bool):Option (Bool):=
 some a
def ref04_keep_k1 (F:Nat) (a:Bool):Option (Bool):=
 some a
def ref04_keep_k2 (F:Nat) (a:Bool):Option (Bool):=
 some a
def ref04_keep (F:Nat) (a:Bool) (b:Bool) (c:Int):Option (Bool):=
 br (c==(1:Int)) (br a (ref04_keep_k0 F true) (ref04_keep_k0 F b)) (br (c==(2:Int)) (br a (ref04_keep_k1 F b) (ref04_keep_k1 F false)) (br a (ref04_keep_k2 F (!b)) (ref04_keep_k2 F false)))
def ref04_same_k1 (F:Nat) (a:Int) (b:(Int)→Option (Bool)) (c:Bool):Option (Bool):=
 br c (some false) (gd (I64 (a+(1:Int))) <|
 b (a+(1:Int)))
def ref04_same_k2 (F:Nat):Option (Bool):=
 some true
def ref04_same_b0 (F:Nat) (b:(List Rect)) (c:(List Rect)) (d:(Int)→Option (Bool)) (a:Int):Option (Bool):=
 br (decide (a<((List.length b:Nat):Int))) (gd (0≤a∧a<((List.length b:Nat):Int)) <|
 gd (0≤a∧a<((List.length c:Nat):Int)) <|
 br (((gl b a.toNat).left_) != ((gl c a.toNat).left_)) (ref04_same_k1 F a d true) (gd (0≤a∧a<((List.length b:Nat):Int)) <|
 gd (0≤a∧a<((List.length c:Nat):Int)) <|
 ref04_same_k1 F a d (((gl b a.toNat).right_) != ((gl c a.toNat).right_)))) (ref04_same_k2 F)
def ref04_same (F:Nat) (a:(List Rect)) (b:(List Rect)):Option (Bool):=
 br (((List.length a:Nat):Int) != ((List.length b:Nat):Int)) (some false) (loopN (fun again (z:Int)=>ref04_same_b0 F a b again z) F (0:Int))
def ref04_Combine_k2 (F:Nat) (a:Int) (b:((List Int)×(List Int)×Int)→Option ((List Rect))) (c:(List Int)) (d:(List Int)):Option ((List Rect)):=
 gd (I64 (a+(1:Int))) <|
 b (c,d,(a+(1:Int)))
def ref04_Combine_b1 (F:Nat) (c:(List Rect)) (d:(List Rect)) (b:Int) (j:((List Int)×(List Int)×Int)→Option ((List Rect))) (k:((List Int)×(List Int)×Int)→Option ((List Rect))) (e:(List Int)) (i:(List Int)) (a:Int):Option ((List Rect)):=
 br (decide (a<((List.length (gl ([c,d]:List (List Rect)) b.toNat):Nat):Int))) (gd (0≤a∧a<((List.length (gl ([c,d]:List (List Rect)) b.toNat):Nat):Int)) <|
 (ref01_Put F e ((gl (gl ([c,d]:List (List Rect)) b.toNat) a.toNat).left_)).bind fun l=>
 (ref01_Put F l ((gl (gl ([c,d]:List (List Rect)) b.toNat) a.toNat).right_)).bind fun m=>
 (ref01_Put F i ((gl (gl ([c,d]:List (List Rect)) b.toNat) a.toNat).low_)).bind fun n=>
 (ref01_Put F n ((gl (gl ([c,d]:List (List Rect)) b.toNat) a.toNat).high_)).bind fun o=>
 gd (I64 (a+(1:Int))) <|
 k (m,o,(a+(1:Int)))) (ref04_Combine_k2 F b j e i)
def ref04_Combine_k7 (F:Nat) (a:Int) (b:(Int×(List Rect))→Option ((List Rect))) (c:(List Rect)):Option ((List Rect)):=
 gd (I64 (a+(1:Int))) <|
 b ((a+(1:Int)),c)
def ref04_Combine_k6 (F:Nat) (d:(List Int)) (e:(List Int)) (c:Int) (a:Int) (b:(List Rect)) (i:(Int×(List Rect))→Option ((List Rect))) (j:Bool):Option ((List Rect)):=
 br j (gd (I64 (((List.length b:Nat):Int)-(1:Int))) <|
 gd (I64 (a+(1:Int))) <|
 gd (0≤(a+(1:Int))∧(a+(1:Int))<((List.length d:Nat):Int)) <|
 gd (0≤(((List.length b:Nat):Int)-(1:Int))∧(((List.length b:Nat):Int)-(1:Int))<((List.length b:Nat):Int)) <|
 ref04_Combine_k7 F a i (List.set b (((List.length b:Nat):Int)-(1:Int)).toNat (⟨(gl b (((List.length b:Nat):Int)-(1:Int)).toNat).left_,(gl b (((List.length b:Nat):Int)-(1:Int)).toNat).low_,(gl d (a+(1:Int)).toNat),(gl b (((List.length b:Nat):Int)-(1:Int)).toNat).high_⟩ : Rect))) (gd (0≤a∧a<((List.length d:Nat):Int)) <|
 gd (0≤c∧c<((List.length e:Nat):Int)) <|
 gd (I64 (a+(1:Int))) <|
 gd (0≤(a+(1:Int))∧(a+(1:Int))<((List.length d:Nat):Int)) <|
 gd (I64 (c+(1:Int))) <|
 gd (0≤(c+(1:Int))∧(c+(1:Int))<((List.length e:Nat):Int)) <|
 gd ((List.length (α:=Rect) b)+(List.length (α:=Rect) ([(⟨(gl d a.toNat),(gl e c.toNat),(gl d (a+(1:Int)).toNat),(gl e (c+(1:Int)).toNat)⟩ : Rect)]:List Rect))≤LIM) <|
 ref04_Combine_k7 F a i (b++([(⟨(gl d a.toNat),(gl e c.toNat),(gl d (a+(1:Int)).toNat),(gl e (c+(1:Int)).toNat)⟩ : Rect)]:List Rect)))
def ref04_Combine_k13 (F:Nat) (a:Int) (b:(Int×(List Rect)×(List Rect))→Option ((List Rect))) (c:(List Rect)) (d:(List Rect)):Option ((List Rect)):=
 gd (I64 (a+(1:Int))) <|
 b ((a+(1:Int)),c,d)
def ref04_Combine_k11 (F:Nat) (b:Int) (c:(List Rect)) (a:(Int×(List Rect)×(List Rect))→Option ((List Rect))) (d:(List Rect)):Option ((List Rect)):=
 ref04_Combine_k13 F b a c d
def ref04_Combine_b10 (F:Nat) (d:(List Int)) (c:Int) (j:(List Rect)) (k:(List Rect)) (i:(Int×(List Rect)×(List Rect))→Option ((List Rect))) (e:(Int×(List Rect))→Option ((List Rect))) (a:Int) (b:(List Rect)):Option ((List Rect)):=
 br (decide (a<((List.length k:Nat):Int))) (gd (I64 (c+(1:Int))) <|
 gd (0≤(c+(1:Int))∧(c+(1:Int))<((List.length d:Nat):Int)) <|
 gd (0≤a∧a<((List.length b:Nat):Int)) <|
 gd (I64 (a+(1:Int))) <|
 e ((a+(1:Int)),(List.set b a.toNat (⟨(gl b a.toNat).left_,(gl b a.toNat).low_,(gl b a.toNat).right_,(gl d (c+(1:Int)).toNat)⟩ : Rect)))) (ref04_Combine_k11 F c j i b)
def ref04_Combine_k12 (F:Nat) (d:Int) (a:(List Rect)) (b:(List Rect)) (e:(List Rect)) (c:(Int×(List Rect)×(List Rect))→Option ((List Rect))):Option ((List Rect)):=
 gd ((List.length (α:=Rect) a)+(List.length (α:=Rect) b)≤LIM) <|
 ref04_Combine_k13 F d c (a++b) e
def ref04_Combine_k9 (F:Nat) (e:(List Int)) (c:Int) (d:(List Rect)) (a:(List Rect)) (i:(List Rect)) (b:(Int×(List Rect)×(List Rect))→Option ((List Rect))) (j:Bool):Option ((List Rect)):=
 br j (loopN (fun again (z:Int×(List Rect))=>ref04_Combine_b10 F e c d a b again z.1 z.2) F ((0:Int),a)) (ref04_Combine_k12 F c d a i b)
def ref04_Combine_k8 (F:Nat) (c:(List Int)) (b:Int) (i:(List Rect)) (a:(List Rect)) (e:(Int×(List Rect)×(List Rect))→Option ((List Rect))) (d:(List Rect)):Option ((List Rect)):=
 br (decide ((0:Int)<((List.length a:Nat):Int))) ((ref04_same F a d).bind fun j=>
 br j (gd (0≤(0:Int)∧(0:Int)<((List.length a:Nat):Int)) <|
 gd (0≤b∧b<((List.length c:Nat):Int)) <|
 ref04_Combine_k9 F c b i a d e (((gl a (0:Int).toNat).high_)==(gl c b.toNat))) (ref04_Combine_k9 F c b i a d e false)) (ref04_Combine_k9 F c b i a d e false)
def ref04_Combine_b5 (F:Nat) (m:(List Rect)) (n:(List Rect)) (o:Int) (c:(List Int)) (e:(List Int)) (d:Int) (k:(List Rect)) (l:(List Rect)) (j:(Int×(List Rect)×(List Rect))→Option ((List Rect))) (i:(Int×(List Rect))→Option ((List Rect))) (a:Int) (b:(List Rect)):Option ((List Rect)):=
 gd (I64 (a+(1:Int))) <|
 br (decide ((a+(1:Int))<((List.length c:Nat):Int))) (gd (0≤a∧a<((List.length c:Nat):Int)) <|
 gd (0≤d∧d<((List.length e:Nat):Int)) <|
 (ref04_inside F m (gl c a.toNat) (gl e d.toNat)).bind fun p=>
 gd (0≤a∧a<((List.length c:Nat):Int)) <|
 gd (0≤d∧d<((List.length e:Nat):Int)) <|
 (ref04_inside F n (gl c a.toNat) (gl e d.toNat)).bind fun q=>
 (ref04_keep F p q o).bind fun s=>
 br (!s) (ref04_Combine_k7 F a i b) (br (decide ((0:Int)<((List.length b:Nat):Int))) (gd (I64 (((List.length b:Nat):Int)-(1:Int))) <|
 gd (0≤(((List.length b:Nat):Int)-(1:Int))∧(((List.length b:Nat):Int)-(1:Int))<((List.length b:Nat):Int)) <|
 gd (0≤a∧a<((List.length c:Nat):Int)) <|
 ref04_Combine_k6 F c e d a b i (((gl b (((List.length b:Nat):Int)-(1:Int)).toNat).right_)==(gl c a.toNat))) (ref04_Combine_k6 F c e d a b i false))) (ref04_Combine_k8 F e d k l j b)
def ref04_Combine_k14 (F:Nat) (a:(List Rect)) (b:(List Rect)):Option ((List Rect)):=
 gd ((List.length (α:=Rect) a)+(List.length (α:=Rect) b)≤LIM) <|
 some (a++b)
def ref04_Combine_b4 (F:Nat) (j:(List Rect)) (k:(List Rect)) (l:Int) (i:(List Int)) (b:(List Int)) (e:(Int×(List Rect)×(List Rect))→Option ((List Rect))) (a:Int) (c:(List Rect)) (d:(List Rect)):Option ((List Rect)):=
 gd (I64 (a+(1:Int))) <|
 br (decide ((a+(1:Int))<((List.length b:Nat):Int))) (loopN (fun again (z:Int×(List Rect))=>ref04_Combine_b5 F j k l i b a c d e again z.1 z.2) F ((0:Int),([]:List Rect))) (ref04_Combine_k14 F c d)
def ref04_Combine_k3 (F:Nat) (c:(List Rect)) (d:(List Rect)) (e:Int) (a:(List Int)) (b:(List Int)):Option ((List Rect)):=
 loopN (fun again (z:Int×(List Rect)×(List Rect))=>ref04_Combine_b4 F c d e a b again z.1 z.2.1 z.2.2) F ((0:Int),([]:List Rect),([]:List Rect))
def ref04_Combine_b0 (F:Nat) (b:(List Rect)) (c:(List Rect)) (j:Int) (i:((List Int)×(List Int)×Int)→Option ((List Rect))) (d:(List Int)) (e:(List Int)) (a:Int):Option ((List Rect)):=
 br (decide (a<((List.length ([b,c]:List (List Rect)):Nat):Int))) (gd (0≤a∧a<((List.length ([b,c]:List (List Rect)):Nat):Int)) <|
 loopN (fun again (z:(List Int)×(List Int)×Int)=>ref04_Combine_b1 F b c a i again z.1 z.2.1 z.2.2) F (d,e,(0:Int))) (ref04_Combine_k3 F b c j d e)
def ref04_Combine (F:Nat) (a:(List Rect)) (b:(List Rect)) (c:Int):Option ((List Rect)):=
 loopN (fun again (z:(List Int)×(List Int)×Int)=>ref04_Combine_b0 F a b c again z.1 z.2.1 z.2.2) F (([]:List Int),([]:List Int),(0:Int))
def ref04_Bound (F:Nat) (a:(List Rect)):Option (Region×Int):=
 br (decide ((120:Int)<((List.length a:Nat):Int))) (some ((⟨[]⟩ : Region),(1:Int))) (some ((⟨a⟩ : Region),(0:Int)))
def ref04_Of_k1 (F:Nat) (b:(List Rect)):Option (Region×Int):=
 (ref04_Combine F b ([]) (1:Int)).bind fun c=>
 (ref04_Bound F c).bind fun a=>
 some (a.1,a.2)
def ref04_Of_b0 (F:Nat) (b:(List Rect)) (c:(Int)→Option (Region×Int)) (a:Int):Option (Region×Int):=
 br (decide (a<((List.length b:Nat):Int))) (gd (0≤a∧a<((List.length b:Nat):Int)) <|
 (ref04_proper F (gl b a.toNat)).bind fun d=>
 br (!d) (some ((⟨[]⟩ : Region),(2:Int))) (gd (I64 (a+(1:Int))) <|
 c (a+(1:Int)))) (ref04_Of_k1 F b)
def ref04_Of (F:Nat) (a:(List Rect)):Option (Region×Int):=
 br (decide ((120:Int)<((List.length a:Nat):Int))) (some ((⟨[]⟩ : Region),(1:Int))) (loopN (fun again (z:Int)=>ref04_Of_b0 F a again z) F (0:Int))
def keep_Tape_Region_k1 (F:Nat) (a:(List Rect)) (b:(List Int)) (c:Int):Option (Tape×Region):=
 (ref04_Of F a).bind fun d=>
 some ((⟨b,c⟩ : Tape),d.1)
def keep_Tape_Region_b0 (F:Nat) (j:Int) (i:(Int×(List Int)×Int×(List Rect))→Option (Tape×Region)) (b:Int) (d:(List Int)) (e:Int) (c:(List Rect)):Option (Tape×Region):=
 br (decide ((0:Int)<b)) ((keep_Tape_Rect F (⟨d,e⟩ : Tape) j).bind fun a=>
 gd ((List.length (α:=Rect) c)+(List.length (α:=Rect) ([a.2]:List Rect))≤LIM) <|
 gd (I64 (b-(1:Int))) <|
 i ((b-(1:Int)),a.1.l_,a.1.at_,(c++([a.2]:List Rect)))) (keep_Tape_Region_k1 F c d e)
def keep_Tape_Region (F:Nat) (c:Tape) (d:Int) (b:Int):Option (Tape×Region):=
 gd (I64 (b+(1:Int))) <|
 (keep_Tape_Next F c (b+(1:Int))).bind fun a=>
 loopN (fun again (z:Int×(List Int)×Int×(List Rect))=>keep_Tape_Region_b0 F d again z.1 z.2.1 z.2.2.1 z.2.2.2) F (a.2,a.1.l_,a.1.at_,([]:List Rect))
def law31_regions_k1 (F:Nat) (a:(List Region)) (b:(List Int)) (c:Int):Option (Tape×(List Region)):=
 some ((⟨b,c⟩ : Tape),a)
def law31_regions_b0 (F:Nat) (j:(List Scheme)) (i:(Int×(List Int)×Int×(List Region))→Option (Tape×(List Region))) (b:Int) (d:(List Int)) (e:Int) (c:(List Region)):Option (Tape×(List Region)):=
 br (decide (b<((List.length j:Nat):Int))) ((keep_Tape_Region F (⟨d,e⟩ : Tape) (8:Int) (3:Int)).bind fun a=>
 gd ((List.length (α:=Region) c)+(List.length (α:=Region) ([a.2]:List Region))≤LIM) <|
 gd (I64 (b+(1:Int))) <|
 i ((b+(1:Int)),a.1.l_,a.1.at_,(c++([a.2]:List Region)))) (law31_regions_k1 F c d e)
def law31_regions (F:Nat) (a:Tape) (b:(List Scheme)):Option (Tape×(List Region)):=
 loopN (fun again (z:Int×(List Int)×Int×(List Region))=>law31_regions_b0 F b again z.1 z.2.1 z.2.2.1 z.2.2.2) F ((0:Int),a.l_,a.at_,([]:List Region))
def keep_Tape_Broken_k1 (F:Nat) (a:(List Rect)) (b:(List Int)) (c:Int):Option (Tape×Region):=
 some ((⟨b,c⟩ : Tape),(⟨a⟩ : Region))
def keep_Tape_Broken_k0 (F:Nat) (b:Tape×Region) (i:Bool) (d:(List Int)) (e:Int):Option (Tape×Region):=
 br i (some ((⟨d,e⟩ : Tape),b.2)) (gd ((0)+(List.length (α:=Rect) b.2.rects_)≤LIM) <|
 (keep_Tape_Next F (⟨d,e⟩ : Tape) ((List.length (([]:List Rect)++b.2.rects_):Nat):Int)).bind fun a=>
 (keep_Tape_Next F a.1 (5:Int)).bind fun c=>
 br (c.2==(0:Int)) (gd (0≤a.2∧a.2<((List.length (([]:List Rect)++b.2.rects_):Nat):Int)) <|
 gd (I64 (((gl (([]:List Rect)++b.2.rects_) a.2.toNat).right_)+(1:Int))) <|
 gd (0≤a.2∧a.2<((List.length (([]:List Rect)++b.2.rects_):Nat):Int)) <|
 keep_Tape_Broken_k1 F (List.set (([]:List Rect)++b.2.rects_) a.2.toNat (⟨(gl (([]:List Rect)++b.2.rects_) a.2.toNat).left_,(gl (([]:List Rect)++b.2.rects_) a.2.toNat).low_,(((gl (([]:List Rect)++b.2.rects_) a.2.toNat).right_)+(1:Int)),(gl (([]:List Rect)++b.2.rects_) a.2.toNat).high_⟩ : Rect)) c.1.l_ c.1.at_) (br (c.2==(1:Int)) (gd (0≤a.2∧a.2<((List.length (([]:List Rect)++b.2.rects_):Nat):Int)) <|
 keep_Tape_Broken_k1 F (List.set (([]:List Rect)++b.2.rects_) a.2.toNat (⟨(-1:Int),(gl (([]:List Rect)++b.2.rects_) a.2.toNat).low_,(gl (([]:List Rect)++b.2.rects_) a.2.toNat).right_,(gl (([]:List Rect)++b.2.rects_) a.2.toNat).high_⟩ : Rect)) c.1.l_ c.1.at_) (br (c.2==(2:Int)) (gd (0≤a.2∧a.2<((List.length (([]:List Rect)++b.2.rects_):Nat):Int)) <|
 gd ((List.length (α:=Rect) (([]:List Rect)++b.2.rects_))+(List.length (α:=Rect) ([(gl (([]:List Rect)++b.2.rects_) a.2.toNat)]:List Rect))≤LIM) <|
 keep_Tape_Broken_k1 F ((([]:List Rect)++b.2.rects_)++([(gl (([]:List Rect)++b.2.rects_) a.2.toNat)]:List Rect)) c.1.l_ c.1.at_) (br (c.2==(3:Int)) (gd (0≤a.2∧a.2<((List.length (([]:List Rect)++b.2.rects_):Nat):Int)) <|
 gd (0≤(0:Int)∧(0:Int)<((List.length (([]:List Rect)++b.2.rects_):Nat):Int)) <|
 gd (0≤(0:Int)∧(0:Int)<((List.length (([]:List Rect)++b.2.rects_):Nat):Int)) <|
 gd (0≤a.2∧a.2<((List.length (List.set (([]:List Rect)++b.2.rects_) (0:Int).toNat (gl (([]:List Rect)++b.2.rects_) a.2.toNat)):Nat):Int)) <|
 keep_Tape_Broken_k1 F (List.set (List.set (([]:List Rect)++b.2.rects_) (0:Int).toNat (gl (([]:List Rect)++b.2.rects_) a.2.toNat)) a.2.toNat (gl (([]:List Rect)++b.2.rects_) (0:Int).toNat)) c.1.l_ c.1.at_) (gd (0≤a.2∧a.2<((List.length (([]:List Rect)++b.2.rects_):Nat):Int)) <|
 gd (0≤a.2∧a.2<((List.length (([]:List Rect)++b.2.rects_):Nat):Int)) <|
 keep_Tape_Broken_k1 F (List.set (([]:List Rect)++b.2.rects_) a.2.toNat (⟨(gl (([]:List Rect)++b.2.rects_) a.2.toNat).left_,(gl (([]:List Rect)++b.2.rects_) a.2.toNat).low_,(gl (([]:List Rect)++b.2.rects_) a.2.toNat).right_,(gl (([]:List Rect)++b.2.rects_) a.2.toNat).low_⟩ : Rect)) c.1.l_ c.1.at_)))))
def keep_Tape_Broken (F:Nat) (c:Tape) (d:Int) (e:Int):Option (Tape×Region):=
 (keep_Tape_Region F c d e).bind fun a=>
 br (((List.length a.2.rects_:Nat):Int)==(0:Int)) (keep_Tape_Broken_k0 F a true a.1.l_ a.1.at_) ((keep_Tape_One F a.1 (6:Int)).bind fun b=>
 keep_Tape_Broken_k0 F a (!b.2) b.1.l_ b.1.at_)
def ref04_Valid_k1 (F:Nat) (a:Region):Option (Bool):=
 (ref04_Combine F a.rects_ ([]) (1:Int)).bind fun b=>
 (ref04_Rects F b a.rects_).bind fun c=>
 some c
def ref04_Valid_b0 (F:Nat) (b:Region) (c:(Int)→Option (Bool)) (a:Int):Option (Bool):=
 br (decide (a<((List.length b.rects_:Nat):Int))) (gd (0≤a∧a<((List.length b.rects_:Nat):Int)) <|
 (ref04_proper F (gl b.rects_ a.toNat)).bind fun d=>
 br (!d) (some false) (gd (I64 (a+(1:Int))) <|
 c (a+(1:Int)))) (ref04_Valid_k1 F b)
def ref04_Valid (F:Nat) (a:Region):Option (Bool):=
 br (decide ((120:Int)<((List.length a.rects_:Nat):Int))) (some false) (loopN (fun again (z:Int)=>ref04_Valid_b0 F a again z) F (0:Int))
def ref31_check_k1 (F:Nat):Option (Int):=
 some (0:Int)
def ref31_check_b0 (F:Nat) (b:(List Region)) (c:(Int)→Option (Int)) (a:Int):Option (Int):=
 br (decide (a<((List.length b:Nat):Int))) (gd (0≤a∧a<((List.length b:Nat):Int)) <|
 (ref04_Valid F (gl b a.toNat)).bind fun d=>
 br (!d) (some (7:Int)) (gd (I64 (a+(1:Int))) <|
 c (a+(1:Int)))) (ref31_check_k1 F)
def ref31_check (F:Nat) (a:(List Scheme)) (b:(List Region)):Option (Int):=
 (ref17_Check F a).bind fun c=>
 br (c.2 != (0:Int)) (some c.2) (br (((List.length b:Nat):Int) != ((List.length a:Nat):Int)) (some (3:Int)) (loopN (fun again (z:Int)=>ref31_check_b0 F b again z) F (0:Int)))
def ref31_Excludes (F:Nat) (b:Scheme) (a:Scheme):Option (Bool):=
 gd (0≤(IntKind.wrap .u64 a.number_)) <|
 some ((band .i64 (b.excludes_.fdiv (2 ^ (min ((IntKind.wrap .u64 a.number_)).toNat (IntKind.bits .i64)))) (1:Int))==(1:Int))
def ref04_combine_k0 (F:Nat) (c:Region) (d:Region) (e:Int) (b:Bool):Option (Region×Int):=
 br b (some ((⟨[]⟩ : Region),(7:Int))) ((ref04_Combine F c.rects_ d.rects_ e).bind fun i=>
 (ref04_Bound F i).bind fun a=>
 some (a.1,a.2))
def ref04_combine (F:Nat) (a:Region) (b:Region) (c:Int):Option (Region×Int):=
 (ref04_Valid F a).bind fun d=>
 br (!d) (ref04_combine_k0 F a b c true) ((ref04_Valid F b).bind fun e=>
 ref04_combine_k0 F a b c (!e))
def ref04_Without (F:Nat) (b:Region) (c:Region):Option (Region×Int):=
 (ref04_combine F b c (3:Int)).bind fun a=>
 some (a.1,a.2)
def ref31_Assign_k2 (F:Nat) (a:Int) (b:(Int×(List Rect))→Option ((List Region)×Int)) (c:(List Rect)):Option ((List Region)×Int):=
 gd (I64 (a+(1:Int))) <|
 b ((a+(1:Int)),c)
def ref31_Assign_k4 (F:Nat) (a:Int) (b:(Int×(List Region))→Option ((List Region)×Int)) (c:(List Region)):Option ((List Region)×Int):=
 gd (I64 (a+(1:Int))) <|
 b ((a+(1:Int)),c)
def ref31_Assign_k3 (F:Nat) (d:Int) (a:(List Region)) (c:(Int×(List Region))→Option ((List Region)×Int)) (b:(List Rect)):Option ((List Region)×Int):=
 gd ((List.length (α:=Region) a)+(List.length (α:=Region) ([(⟨b⟩ : Region)]:List Region))≤LIM) <|
 ref31_Assign_k4 F d c (a++([(⟨b⟩ : Region)]:List Region))
def ref31_Assign_b1 (F:Nat) (c:(List Scheme)) (b:Int) (d:(List Region)) (k:(Int×(List Region))→Option ((List Region)×Int)) (j:(Int×(List Rect))→Option ((List Region)×Int)) (a:Int) (e:(List Rect)):Option ((List Region)×Int):=
 br (decide (a<b)) (gd (0≤a∧a<((List.length c:Nat):Int)) <|
 gd (0≤b∧b<((List.length c:Nat):Int)) <|
 (ref31_Excludes F (gl c a.toNat) (gl c b.toNat)).bind fun l=>
 br (!l) (ref31_Assign_k2 F a j e) (gd (0≤a∧a<((List.length d:Nat):Int)) <|
 (ref04_Without F (⟨e⟩ : Region) (gl d a.toNat)).bind fun i=>
 br (i.2 != (0:Int)) (some ([],i.2)) (ref31_Assign_k2 F a j i.1.rects_))) (ref31_Assign_k3 F b d k e)
def ref31_Assign_k5 (F:Nat) (a:(List Region)):Option ((List Region)×Int):=
 some (a,(0:Int))
def ref31_Assign_b0 (F:Nat) (c:(List Scheme)) (d:(List Region)) (e:(Int×(List Region))→Option ((List Region)×Int)) (a:Int) (b:(List Region)):Option ((List Region)×Int):=
 br (decide (a<((List.length c:Nat):Int))) (gd (0≤a∧a<((List.length d:Nat):Int)) <|
 loopN (fun again (z:Int×(List Rect))=>ref31_Assign_b1 F c a b e again z.1 z.2) F ((0:Int),(gl d a.toNat).rects_)) (ref31_Assign_k5 F b)
def ref31_Assign (F:Nat) (a:(List Scheme)) (b:(List Region)):Option ((List Region)×Int):=
 (ref31_check F a b).bind fun c=>
 br (c != (0:Int)) (some ([],c)) (loopN (fun again (z:Int×(List Region))=>ref31_Assign_b0 F a b again z.1 z.2) F ((0:Int),([]:List Region)))
def ref04_All_k1 (F:Nat):Option (Bool):=
 some true
def ref04_All_b0 (F:Nat) (b:(List Region)) (c:(List Region)) (d:(Int)→Option (Bool)) (a:Int):Option (Bool):=
 br (decide (a<((List.length b:Nat):Int))) (gd (0≤a∧a<((List.length b:Nat):Int)) <|
 gd (0≤a∧a<((List.length c:Nat):Int)) <|
 (ref04_Same F (gl b a.toNat) (gl c a.toNat)).bind fun e=>
 br (!e) (some false) (gd (I64 (a+(1:Int))) <|
 d (a+(1:Int)))) (ref04_All_k1 F)
def ref04_All (F:Nat) (a:(List Region)) (b:(List Region)):Option (Bool):=
 br (((List.length a:Nat):Int) != ((List.length b:Nat):Int)) (some false) (loopN (fun again (z:Int)=>ref04_All_b0 F a b again z) F (0:Int))
def ref04_Meets_k0 (F:Nat) (a:Bool):Option (Bool):=
 some a
def ref04_Meets (F:Nat) (a:Region) (b:Region):Option (Bool):=
 (ref04_Valid F a).bind fun c=>
 br c ((ref04_Valid F b).bind fun d=>
 br d ((ref04_Combine F a.rects_ b.rects_ (2:Int)).bind fun e=>
 ref04_Meets_k0 F (decide ((0:Int)<((List.length e:Nat):Int)))) (ref04_Meets_k0 F false)) (ref04_Meets_k0 F false)
def ref31_Once_k2 (F:Nat) (c:Int) (a:Int) (b:(Int)→Option (Int×Int×Bool×Int)) (d:Bool):Option (Int×Int×Bool×Int):=
 br d (some (c,a,false,(0:Int))) (gd (I64 (a+(1:Int))) <|
 b (a+(1:Int)))
def ref31_Once_k3 (F:Nat) (a:Int) (b:(Int)→Option (Int×Int×Bool×Int)):Option (Int×Int×Bool×Int):=
 gd (I64 (a+(1:Int))) <|
 b (a+(1:Int))
def ref31_Once_b1 (F:Nat) (c:(List Scheme)) (d:(List Region)) (a:Int) (i:(Int)→Option (Int×Int×Bool×Int)) (e:(Int)→Option (Int×Int×Bool×Int)) (b:Int):Option (Int×Int×Bool×Int):=
 br (decide (b<((List.length c:Nat):Int))) (gd (0≤a∧a<((List.length c:Nat):Int)) <|
 gd (0≤b∧b<((List.length c:Nat):Int)) <|
 (ref31_Excludes F (gl c a.toNat) (gl c b.toNat)).bind fun j=>
 br j (gd (0≤a∧a<((List.length d:Nat):Int)) <|
 gd (0≤b∧b<((List.length d:Nat):Int)) <|
 (ref04_Meets F (gl d a.toNat) (gl d b.toNat)).bind fun k=>
 ref31_Once_k2 F a b e k) (ref31_Once_k2 F a b e false)) (ref31_Once_k3 F a i)
def ref31_Once_k4 (F:Nat):Option (Int×Int×Bool×Int):=
 some ((0:Int),(0:Int),true,(0:Int))
def ref31_Once_b0 (F:Nat) (b:(List Scheme)) (d:(List Region)) (c:(Int)→Option (Int×Int×Bool×Int)) (a:Int):Option (Int×Int×Bool×Int):=
 br (decide (a<((List.length b:Nat):Int))) (gd (I64 (a+(1:Int))) <|
 loopN (fun again (z:Int)=>ref31_Once_b1 F b d a c again z) F (a+(1:Int))) (ref31_Once_k4 F)
def ref31_Once (F:Nat) (a:(List Scheme)) (b:(List Region)):Option (Int×Int×Bool×Int):=
 (ref31_check F a b).bind fun c=>
 br (c != (0:Int)) (some ((0:Int),(0:Int),false,c)) (loopN (fun again (z:Int)=>ref31_Once_b0 F a b again z) F (0:Int))
def ref04_Size_k1 (F:Nat) (a:Int):Option (Int):=
 some a
def ref04_Size_b0 (F:Nat) (b:(List Rect)) (d:(Int×Int)→Option (Int)) (c:Int) (a:Int):Option (Int):=
 br (decide (a<((List.length b:Nat):Int))) (gd (0≤a∧a<((List.length b:Nat):Int)) <|
 gd (I64 (((gl b a.toNat).right_)-((gl b a.toNat).left_))) <|
 gd (I64 (((gl b a.toNat).high_)-((gl b a.toNat).low_))) <|
 gd (I64 ((((gl b a.toNat).right_)-((gl b a.toNat).left_))*(((gl b a.toNat).high_)-((gl b a.toNat).low_)))) <|
 gd (I64 (c+((((gl b a.toNat).right_)-((gl b a.toNat).left_))*(((gl b a.toNat).high_)-((gl b a.toNat).low_))))) <|
 gd (I64 (a+(1:Int))) <|
 d ((c+((((gl b a.toNat).right_)-((gl b a.toNat).left_))*(((gl b a.toNat).high_)-((gl b a.toNat).low_)))),(a+(1:Int)))) (ref04_Size_k1 F c)
def ref04_Size (F:Nat) (a:(List Rect)):Option (Int):=
 loopN (fun again (z:Int×Int)=>ref04_Size_b0 F a again z.1 z.2) F ((0:Int),(0:Int))
def ref04_Area (F:Nat) (a:Region):Option (Int):=
 (ref04_Valid F a).bind fun b=>
 br (!b) (some (0:Int)) ((ref04_Size F a.rects_).bind fun c=>
 some c)
def ref31_Lost_k1 (F:Nat) (a:(List Int)):Option ((List Int)×Int):=
 some (a,(0:Int))
def ref31_Lost_b0 (F:Nat) (k:(List Scheme)) (e:(List Region)) (i:(List Region)×Int) (j:(Int×(List Int))→Option ((List Int)×Int)) (a:Int) (b:(List Int)):Option ((List Int)×Int):=
 br (decide (a<((List.length k:Nat):Int))) (gd (0≤a∧a<((List.length e:Nat):Int)) <|
 (ref04_Area F (gl e a.toNat)).bind fun c=>
 gd (0≤a∧a<((List.length i.1:Nat):Int)) <|
 (ref04_Area F (gl i.1 a.toNat)).bind fun d=>
 gd (I64 (c-d)) <|
 gd ((List.length (α:=Int) b)+(List.length (α:=Int) ([(c-d)]:List Int))≤LIM) <|
 gd (I64 (a+(1:Int))) <|
 j ((a+(1:Int)),(b++([(c-d)]:List Int)))) (ref31_Lost_k1 F b)
def ref31_Lost (F:Nat) (b:(List Scheme)) (c:(List Region)):Option ((List Int)×Int):=
 (ref31_Assign F b c).bind fun a=>
 br (a.2 != (0:Int)) (some ([],a.2)) (loopN (fun again (z:Int×(List Int))=>ref31_Lost_b0 F b c a again z.1 z.2) F ((0:Int),([]:List Int)))
def law31_ExclusionAnswers_k5 (F:Nat) (a:Int) (b:(Int)→Option (Bool)) (c:Bool):Option (Bool):=
 br c (some false) (gd (I64 (a+(1:Int))) <|
 b (a+(1:Int)))
def law31_ExclusionAnswers_k4 (F:Nat) (e:(List Scheme)) (i:(List Region)) (j:Tape×(List Scheme)) (b:Tape×(List Region)) (k:Tape×Int) (l:Tape×Region) (d:Int) (a:Int) (c:(Int)→Option (Bool)) (o:Bool):Option (Bool):=
 br o (some false) ((exclusion_Lost F (gl ([j.2,e]:List (List Scheme)) a.toNat) (gl ([b.2,(List.set (([]:List Region)++b.2) k.2.toNat l.2),i]:List (List Region)) d.toNat)).bind fun m=>
 (ref31_Lost F (gl ([j.2,e]:List (List Scheme)) a.toNat) (gl ([b.2,(List.set (([]:List Region)++b.2) k.2.toNat l.2),i]:List (List Region)) d.toNat)).bind fun n=>
 br (m.2 != n.2) (law31_ExclusionAnswers_k5 F a c true) ((ref24_Ints F m.1 n.1).bind fun p=>
 law31_ExclusionAnswers_k5 F a c (!p)))
def law31_ExclusionAnswers_k3 (F:Nat) (d:(List Scheme)) (e:(List Region)) (i:Tape×(List Scheme)) (a:Tape×(List Region)) (j:Tape×Int) (k:Tape×Region) (b:Int) (c:Int) (l:(Int)→Option (Bool)) (o:Bool):Option (Bool):=
 br o (some false) ((exclusion_Once F (gl ([i.2,d]:List (List Scheme)) c.toNat) (gl ([a.2,(List.set (([]:List Region)++a.2) j.2.toNat k.2),e]:List (List Region)) b.toNat)).bind fun m=>
 (ref31_Once F (gl ([i.2,d]:List (List Scheme)) c.toNat) (gl ([a.2,(List.set (([]:List Region)++a.2) j.2.toNat k.2),e]:List (List Region)) b.toNat)).bind fun n=>
 br (m.1 != n.1) (law31_ExclusionAnswers_k4 F d e i a j k b c l true) (br (m.2.1 != n.2.1) (law31_ExclusionAnswers_k4 F d e i a j k b c l true) (br (!(m.2.2.1==n.2.2.1)) (law31_ExclusionAnswers_k4 F d e i a j k b c l true) (law31_ExclusionAnswers_k4 F d e i a j k b c l (m.2.2.2 != n.2.2.2)))))
def law31_ExclusionAnswers_k6 (F:Nat) (a:Int) (b:(Int)→Option (Bool)):Option (Bool):=
 gd (I64 (a+(1:Int))) <|
 b (a+(1:Int))
def law31_ExclusionAnswers_b2 (F:Nat) (b:(List Scheme)) (i:(List Region)) (c:Tape×(List Scheme)) (d:Tape×(List Region)) (j:Tape×Int) (k:Tape×Region) (e:Int) (o:(Int)→Option (Bool)) (l:(Int)→Option (Bool)) (a:Int):Option (Bool):=
 br (decide (a<((List.length ([c.2,b]:List (List Scheme)):Nat):Int))) (gd (0≤a∧a<((List.length ([c.2,b]:List (List Scheme)):Nat):Int)) <|
 (exclusion_Assign F (gl ([c.2,b]:List (List Scheme)) a.toNat) (gl ([d.2,(List.set (([]:List Region)++d.2) j.2.toNat k.2),i]:List (List Region)) e.toNat)).bind fun m=>
 (ref31_Assign F (gl ([c.2,b]:List (List Scheme)) a.toNat) (gl ([d.2,(List.set (([]:List Region)++d.2) j.2.toNat k.2),i]:List (List Region)) e.toNat)).bind fun n=>
 br (m.2 != n.2) (law31_ExclusionAnswers_k3 F b i c d j k e a l true) ((ref04_All F m.1 n.1).bind fun p=>
 law31_ExclusionAnswers_k3 F b i c d j k e a l (!p))) (law31_ExclusionAnswers_k6 F e o)
def law31_ExclusionAnswers_k7 (F:Nat):Option (Bool):=
 (law31_awake F).bind fun a=>
 some a
def law31_ExclusionAnswers_b1 (F:Nat) (j:(List Scheme)) (c:(List Region)) (k:Tape×(List Scheme)) (a:Tape×(List Region)) (d:Tape×Int) (e:Tape×Region) (i:(Int)→Option (Bool)) (b:Int):Option (Bool):=
 br (decide (b<((List.length ([a.2,(List.set (([]:List Region)++a.2) d.2.toNat e.2),c]:List (List Region)):Nat):Int))) (gd (0≤b∧b<((List.length ([a.2,(List.set (([]:List Region)++a.2) d.2.toNat e.2),c]:List (List Region)):Nat):Int)) <|
 loopN (fun again (z:Int)=>law31_ExclusionAnswers_b2 F j c k a d e b i again z) F (0:Int)) (law31_ExclusionAnswers_k7 F)
def law31_ExclusionAnswers_k0 (F:Nat) (e:(List Int)) (i:(List Scheme)) (j:(List Region)) (d:Bool):Option (Bool):=
 br d ((law31_awake F).bind fun k=>
 some k) ((keep_New F e).bind fun l=>
 (second_Schemes F l).bind fun c=>
 (law31_regions F c.1 c.2).bind fun a=>
 gd ((0)+(List.length (α:=Region) a.2)≤LIM) <|
 (keep_Tape_Next F a.1 ((List.length (([]:List Region)++a.2):Nat):Int)).bind fun b=>
 (keep_Tape_Broken F b.1 (8:Int) (3:Int)).bind fun m=>
 gd (0≤b.2∧b.2<((List.length (([]:List Region)++a.2):Nat):Int)) <|
 loopN (fun again (z:Int)=>law31_ExclusionAnswers_b1 F i j c a b m again z) F (0:Int))
def law31_ExclusionAnswers (F:Nat) (c:(List Int)) (a:(List Scheme)) (b:(List Region)):Option (Bool):=
 br (decide ((10:Int)<((List.length a:Nat):Int))) (law31_ExclusionAnswers_k0 F c a b true) (law31_ExclusionAnswers_k0 F c a b (decide ((10:Int)<((List.length b:Nat):Int))))
end
end Go.Ab
end

section

end

section

end

section

end

section

end

section

end

section
namespace Go.Ab
def BIG:Nat:=1099511627776
theorem gd_ok {R:Type} {p:Prop} [Decidable p] {x:Option R} {y:Option R} (h:p) (k:x=y):gd p x=y:=by unfold gd; rw [if_pos h]; exact k
theorem bd_ok {α R:Type} {x:Option α} {f:α→Option R} {a:α} {y:Option R} (h:x=some a) (k:f a=y):x.bind f=y:=by rw [h]; exact k
theorem br_ok {R:Type} {b:Bool} {x y z:Option R} (ht:b=true→x=z) (hf:b=false→y=z):br b x y=z:=by cases b; exact hf rfl; exact ht rfl
theorem br_tt {R:Type} {b:Bool} {x y z:Option R} (h:b=true) (k:x=z):br b x y=z:=by subst h; exact k
theorem br_ff {R:Type} {b:Bool} {x y z:Option R} (h:b=false) (k:y=z):br b x y=z:=by subst h; exact k
theorem br_ite {R:Type} (b:Bool) (x y:Option R):br b x y=if b=true then x else y:=by cases b <;> rfl
theorem loopN_ok {σ R:Type} {body:(σ→Option R)→σ→Option R} {y:Option R} (I:σ→Prop) (μ:σ→Nat)
  (round : ∀ again z,I z→(∀ z',I z' → μ z' < μ z→again z' = y)→body again z=y) : ∀ {n:Nat} {z:σ},I z→μ z<n→loopN body n z=y:=by
 intro n
 induction n with
 | zero=>intro z _ h; omega
 | succ n ih=>
  intro z hz hμ
  exact round (loopN body n) z hz fun z' hz' hlt=>ih hz' (by omega)
section
variable {α:Type} [Emb α]
theorem gl_lt {l:List α} {i:Nat} (h:i<l.length):gl l i=l[i]:=by simp [gl,List.getD_eq_getElem?_getD,h]
theorem gl_mem {l:List α} {i:Nat} (h:i<l.length):gl l i ∈ l:=by rw [gl_lt h]; exact List.getElem_mem h
theorem drop_gl {l:List α} {i:Nat} (h:i<l.length):l.drop i=gl l i::l.drop (i+1):=by rw [gl_lt h]; exact List.drop_eq_getElem_cons h
theorem take_gl {l:List α} {i:Nat} (h:i<l.length):l.take (i+1)=l.take i++[gl l i]:=by rw [gl_lt h]; exact List.take_succ_eq_append_getElem h
end
theorem i64_of {n:Int} (h1 : -4611686018427387904≤n) (h2:n≤4611686018427387904):I64 n:=⟨by omega,by omega⟩
theorem range_ok {α R:Type} [Emb α] {l:List α} {body:(Int→Option R)→Int→Option R} (y:List α→Option R)
  (step : ∀ again (i:Nat),i<l.length→again ((i:Int)+1)=y (l.drop (i+1))→body again (i:Int)=y (gl l i::l.drop (i+1)))
  (stop : ∀ again,body again (l.length:Int)=y []) {F:Nat} (hF:l.length<F):loopN body F 0=y l:=by
 have key : ∀ (n:Nat) (i:Nat),i≤l.length→l.length-i<n→loopN body n (i:Int)=y (l.drop i):=by
  intro n
  induction n with
  | zero=>intro i _ h; omega
  | succ n ih=>
   intro i hi hn
   show body (loopN body n) (i:Int)=_
   by_cases h:i<l.length
   ·rw [drop_gl h]
    refine step _ i h ?_
    have:=ih (i+1) h (by omega)
    rw [← this]; congr 1
   ·have:i=l.length:=by omega
    subst this
    rw [List.drop_length]; exact stop _
 have:=key F 0 (Nat.zero_le _) (by omega)
 rw [List.drop_zero] at this
 exact this
theorem range_st {α σ R:Type} [Emb α] {l:List α} {body:(Int×σ→Option R)→Int×σ→Option R} (I:List α→σ→Prop) (y:List α→σ→Option R)
  (step : ∀ again (i:Nat) (s:σ),i<l.length→I (gl l i::l.drop (i+1)) s→(∀ s',I (l.drop (i+1)) s' → again ((i:Int)+1,s')=y (l.drop (i+1)) s')→body again ((i:Int),s)=y (gl l i::l.drop (i+1)) s)
  (stop : ∀ again (s:σ),I [] s→body again ((l.length:Int),s)=y [] s) {F:Nat} (hF:l.length<F) {s0:σ} (h0:I l s0):loopN body F (0,s0)=y l s0:=by
 have key : ∀ (n:Nat) (i:Nat) (s:σ),i≤l.length→l.length-i<n→I (l.drop i) s→loopN body n ((i:Int),s)=y (l.drop i) s:=by
  intro n
  induction n with
  | zero=>intro i _ _ h; omega
  | succ n ih=>
   intro i s hi hn hI
   show body (loopN body n) ((i:Int),s)=_
   by_cases h:i<l.length
   ·rw [drop_gl h] at hI ⊢
    refine step _ i s h hI fun s' hs' => ?_
    have:=ih (i+1) s' h (by omega) hs'
    rw [← this]; congr 1
   ·have:i=l.length:=by omega
    subst this
    rw [List.drop_length] at hI ⊢; exact stop _ s hI
 have:=key F 0 s0 (Nat.zero_le _) (by omega) (by rwa [List.drop_zero])
 rw [List.drop_zero] at this
 exact this
theorem and_br {R:Type} (K:Bool→Option R) (b x:Bool):br b (K x) (K false)=K (b&&x):=by cases b <;> rfl
theorem or_br {R:Type} (K:Bool→Option R) (b x:Bool):br b (K true) (K x)=K (b||x):=by cases b <;> rfl
theorem any_drop {α:Type} [Emb α] {l:List α} {i:Nat} (h:i<l.length) (p:α→Bool):(l.drop i).any p=(p (gl l i)||(l.drop (i+1)).any p):=by rw [drop_gl h]; rfl
theorem lt_dec {a b:Nat} (h:a<b):decide ((a:Int)<((b:Nat):Int))=true:=by simpa using h
theorem not_lt_dec (a:Nat):decide ((a:Int)<((a:Nat):Int))=false:=by simp
theorem gd_G {R:Type} {p:Prop} [Decidable p] {x:Option R} {y:Option R} (h:p:=by first | omega | exact i64_of (by omega) (by omega) | (simp only [LIM,BIG,List.length_append,List.length_cons,List.length_nil,List.length_map,List.length_take,List.length_drop,List.length_set] at *; omega)) (k:x=y):gd p x=y:=gd_ok h k
end Go.Ab
end

section
namespace Go.Ab
def Asc (l:List Int):Prop:=l.Pairwise (· < ·)
theorem Asc.at_lt {l:List Int} (h:Asc l) {i j:Nat} (hij:i<j) (hj:j<l.length):gl l i<gl l j:=by
 rw [gl_lt (by omega),gl_lt hj]
 exact List.pairwise_iff_getElem.1 h i j (by omega) hj hij
theorem mem_gl {l:List Int} {v:Int} (h:v ∈ l) : ∃ j,j<l.length∧gl l j=v:=by
 obtain ⟨j,hj,e⟩:=List.getElem_of_mem h
 exact ⟨j,hj,by rw [gl_lt hj]; exact e⟩
theorem Asc.gap {c:List Int} (h:Asc c) {i:Nat} (hi:i+1<c.length) {t v:Int} (h1:gl c i≤t) (h2:t<gl c (i+1)) (hv:v ∈ c):(v≤t↔v≤gl c i):=by
 obtain ⟨j,hj,rfl⟩:=mem_gl hv
 rcases Nat.lt_or_ge i j with hij | hij
 ·rcases Nat.lt_or_ge (i+1) j with h3 | h3
  ·have:=h.at_lt h3 hj
   have:=h.at_lt (show i<i+1 by omega) hi
   omega
  ·have:j=i+1:=by omega
   subst this
   have:=h.at_lt (show i<i+1 by omega) hi
   omega
 ·rcases Nat.lt_or_ge j i with h3 | h3
  ·have:=h.at_lt h3 (by omega)
   omega
  ·have:j=i:=by omega
   subst this; omega
def CovX (c:List Int) (l:List Rect):Prop:=∀ r ∈ l,r.left_ ∈ c∧r.right_ ∈ c
def CovY (c:List Int) (l:List Rect):Prop:=∀ r ∈ l,r.low_ ∈ c∧r.high_ ∈ c
theorem inR_congr {l:List Rect} {x y x' y' : Int} (h : ∀ r ∈ l,r.has x y=r.has x' y'):inR l x y=inR l x' y' := by
 induction l with
 | nil=>rfl
 | cons r l ih=>
  simp only [inR,List.any_cons] at ih ⊢
  rw [h r (by simp),ih fun q hq=>h q (by simp [hq])]
theorem inR_false {l:List Rect} {x y:Int} (h : ∀ r ∈ l,r.has x y=false):inR l x y=false:=by
 induction l with
 | nil=>rfl
 | cons r l ih=>
  simp only [inR,List.any_cons] at ih ⊢
  rw [h r (by simp),ih fun q hq=>h q (by simp [hq])]; rfl
theorem has_iff (r:Rect) (x y:Int):r.has x y=true↔r.left_≤x∧x<r.right_∧r.low_≤y∧y<r.high_:=by simp [Rect.has,and_assoc]
theorem has_eq {r:Rect} {x y x' y' : Int} (h:(r.left_≤x∧x<r.right_∧r.low_≤y∧y<r.high_)↔(r.left_≤x' ∧ x' < r.right_∧r.low_≤y' ∧ y' < r.high_)):r.has x y=r.has x' y' := by
 rw [Bool.eq_iff_iff,has_iff,has_iff]; exact h
theorem has_ff {r:Rect} {x y:Int} (h : ¬ (r.left_≤x∧x<r.right_∧r.low_≤y∧y<r.high_)):r.has x y=false:=by
 rw [← Bool.not_eq_true,has_iff]; exact h
theorem CovX.gap {c:List Int} {l:List Rect} (hc:Asc c) (h:CovX c l) {i:Nat} (hi:i+1<c.length) {t:Int} (h1:gl c i≤t) (h2:t<gl c (i+1)) (y:Int):inR l t y=inR l (gl c i) y:=
 inR_congr fun r hr=>has_eq (by
  have a:=hc.gap hi h1 h2 (h r hr).1
  have b:=hc.gap hi h1 h2 (h r hr).2
  omega)
theorem CovY.gap {c:List Int} {l:List Rect} (hc:Asc c) (h:CovY c l) {i:Nat} (hi:i+1<c.length) {t:Int} (h1:gl c i≤t) (h2:t<gl c (i+1)) (x:Int):inR l x t=inR l x (gl c i):=
 inR_congr fun r hr=>has_eq (by
  have a:=hc.gap hi h1 h2 (h r hr).1
  have b:=hc.gap hi h1 h2 (h r hr).2
  omega)
theorem CovX.before {c:List Int} {l:List Rect} (h:CovX c l) {t:Int} (ht : ∀ v ∈ c,t<v) (y:Int):inR l t y=false:=
 inR_false fun r hr=>has_ff (by have:=ht _ (h r hr).1; omega)
theorem CovX.after {c:List Int} {l:List Rect} (h:CovX c l) {t:Int} (ht : ∀ v ∈ c,v≤t) (y:Int):inR l t y=false:=
 inR_false fun r hr=>has_ff (by have:=ht _ (h r hr).2; omega)
theorem CovY.before {c:List Int} {l:List Rect} (h:CovY c l) {t:Int} (ht : ∀ v ∈ c,t<v) (x:Int):inR l x t=false:=
 inR_false fun r hr=>has_ff (by have:=ht _ (h r hr).1; omega)
theorem CovY.after {c:List Int} {l:List Rect} (h:CovY c l) {t:Int} (ht : ∀ v ∈ c,v≤t) (x:Int):inR l x t=false:=
 inR_false fun r hr=>has_ff (by have:=ht _ (h r hr).2; omega)
theorem Asc.first {c:List Int} (h:Asc c) {t:Int} (ht:t<gl c 0) : ∀ v ∈ c,t<v:=by
 intro v hv
 obtain ⟨j,hj,rfl⟩:=mem_gl hv
 rcases Nat.eq_zero_or_pos j with rfl | hp
 ·exact ht
 ·have:=h.at_lt hp hj; omega
theorem Asc.last {c:List Int} (h:Asc c) {t:Int} {i:Nat} (hi:i+1=c.length) (ht:gl c i≤t) : ∀ v ∈ c,v≤t:=by
 intro v hv
 obtain ⟨j,hj,rfl⟩:=mem_gl hv
 rcases Nat.lt_or_ge j i with h1 | h1
 ·have:=h.at_lt h1 (by omega); omega
 ·have:j=i:=by omega
  subst this; exact ht
structure Step {α:Type} (d:α) (c:List Int) (f:Int→α):Prop where
 asc:Asc c
 gap : ∀ i,i+1<c.length→∀ t,gl c i≤t→t<gl c (i+1)→f t=f (gl c i)
 before : ∀ t,(∀ v ∈ c,t<v)→f t=d
 after : ∀ t,(∀ v ∈ c,v≤t)→f t=d
theorem Step.start {α:Type} {d:α} {c:List Int} {f:Int→α} (h:Step d c f) (_:0<c.length):Bst d f [] (gl c 0):=.start fun t ht=>h.before t (h.asc.first ht)
theorem Step.empty {α:Type} {d:α} {c:List Int} {f:Int→α} (h:Step d c f) (hc:c.length=0) (t:Int):f t=d:=h.before t fun v hv=>by
 rw [List.eq_nil_of_length_eq_zero hc] at hv; cases hv
theorem Step.done {α:Type} {d:α} {c:List Int} {f:Int→α} (h:Step d c f) {i:Nat} (hi:i+1=c.length) {acc:List (Rn α)} (hb:Bst d f acc (gl c i)) (t:Int):atR d acc t=f t:=by
 rcases Int.lt_or_le t (gl c i) with h1 | h1
 ·exact hb.val t h1
 ·rw [hb.out t h1,h.after t (h.asc.last hi h1)]
open Classical in
noncomputable def spn (f:Int→Bool):List Span:=if h : ∃ l,SpOk l∧∀ x,inS l x=f x then h.choose else []
theorem spn_eq {f:Int→Bool} {l:List Span} (hl:SpOk l) (h : ∀ x,inS l x=f x):spn f=l:=by
 have he : ∃ l,SpOk l∧∀ x,inS l x=f x:=⟨l,hl,h⟩
 unfold spn
 rw [dif_pos he]
 exact he.choose_spec.1.unique hl fun x=>(he.choose_spec.2 x).trans (h x).symm
theorem SpOk.nil:SpOk []:=⟨fun s hs=>(List.not_mem_nil hs).elim,List.Pairwise.nil⟩
theorem spn_false {f:Int→Bool} (h : ∀ x,f x=false):spn f=[]:=spn_eq .nil fun x=>(h x).symm
def RowsOk (S:Int→Int→Bool):Prop:=∀ y,∃ l,SpOk l∧∀ x,inS l x=S x y
theorem RowsOk.sp {S:Int→Int→Bool} (h:RowsOk S) (y:Int):SpOk (spn fun x=>S x y)∧∀ x,inS (spn fun x=>S x y) x=S x y:=by
 obtain ⟨l,h1,h2⟩:=h y
 rw [spn_eq h1 h2]; exact ⟨h1,h2⟩
theorem Step.cn {S:Int→Int→Bool} (hr:RowsOk S) {c:List Int} (h:Step [] c fun y=>spn fun x=>S x y) {acc:List (Rn (List Span))} (hacc:Runs acc) (hval : ∀ t,atR [] acc t=spn fun x=>S x t) (hne : ∀ b ∈ acc,b.v≠[]):cn S=flat acc∧Fin S:=by
 have hv : ∀ b ∈ acc,b.v=spn fun x=>S x b.lo:=by
  intro b hb
  have hat : ∀ (l:List (Rn (List Span))),Runs l→b ∈ l→atR [] l b.lo=b.v:=by
   intro l
   induction l with
   | nil=>intro _ hb; cases hb
   | cons a l ih=>
    intro hl hb
    rcases List.mem_cons.1 hb with rfl | hb
    ·have:=hl.pos b (by simp)
     rw [atR,if_pos ⟨by omega,this⟩]
    ·have h1:=(hl.head b hb).1
     rw [atR,if_neg (by omega)]; exact ih hl.tail hb
  rw [← hval,hat acc hacc hb]
 have hB:Bands acc:=⟨hacc,fun b hb=>by rw [hv b hb]; exact (hr.sp _).1,hne⟩
 have hS : ∀ x y,inS (atR [] acc y) x=S x y:=fun x y=>by rw [hval]; exact (hr.sp y).2 x
 exact ⟨cn_eq hB hS,acc,hB,hS⟩
structure Grid (xs ys:List Int) (S:Int→Int→Bool):Prop where
 x : ∀ y,Step false xs fun x=>S x y
 y : ∀ x,Step false ys fun y=>S x y
theorem Step.spansL {xs:List Int} {f:Int→Bool} (h:Step false xs f) : ∃ l,SpOk l∧(∀ x,inS l x=f x)∧l.length≤xs.length:=by
 by_cases h0:xs.length=0
 ·exact ⟨[],.nil,fun x=>(h.empty h0 x).symm,by simp⟩
 ·have key : ∀ i,i+1≤xs.length→∃ l:List Span,Bst false f (l.map Span.rn) (gl xs i)∧l.length≤i:=by
   intro i
   induction i with
   | zero=>intro hi; exact ⟨[],h.start (by omega),by simp⟩
   | succ i ih=>
    intro hi
    obtain ⟨l,hl,hll⟩:=ih (by omega)
    have hlt:=h.asc.at_lt (show i<i+1 by omega) (by omega)
    cases hf:f (gl xs i) with
    | false=>exact ⟨l,hl.skip (by omega) fun t h1 h2=>(h.gap i (by omega) t h1 h2).trans hf,by omega⟩
    | true=>
     rcases List.eq_nil_or_concat l with rfl | ⟨l',s,hls⟩
     ·refine ⟨[⟨gl xs i,gl xs (i+1)⟩], ?_,by simp⟩
      have:=hl.add hlt (h.gap i (by omega)) (fun a ha=>by simp at ha)
      rw [hf] at this; exact this
     ·rw [List.concat_eq_append] at hls
      subst hls
      by_cases hs:s.right_=gl xs i
      ·refine ⟨l' ++ [⟨s.left_,gl xs (i+1)⟩], ?_,by simp at hll ⊢; omega⟩
       rw [List.map_append] at hl
       have:=hl.grow (a:=s.rn) hs hlt fun t h1 h2=>(h.gap i (by omega) t h1 h2).trans hf
       rw [List.map_append]; exact this
      ·refine ⟨(l' ++ [s])++[⟨gl xs i,gl xs (i+1)⟩], ?_,by simp at hll ⊢; omega⟩
       have:=hl.add hlt (h.gap i (by omega)) (fun a ha he=>by
        rw [List.map_append] at ha
        simp at ha
        subst ha
        exact absurd he hs)
       rw [hf] at this
       rw [List.map_append]; exact this
  obtain ⟨l,hl,hll⟩:=key (xs.length-1) (by omega)
  refine ⟨l,.of_runs hl.runs,fun x=>?_,by omega⟩
  rw [inS_atR]; exact h.done (by omega) hl x
theorem Step.spans {xs:List Int} {f:Int→Bool} (h:Step false xs f) : ∃ l,SpOk l∧∀ x,inS l x=f x:=by
 obtain ⟨l,h1,h2,_⟩:=h.spansL; exact ⟨l,h1,h2⟩
theorem Step.spn_len {xs:List Int} {f:Int→Bool} (h:Step false xs f):(spn f).length≤xs.length:=by
 obtain ⟨l,h1,h2,h3⟩:=h.spansL; rw [spn_eq h1 h2]; exact h3
theorem Grid.rows {xs ys:List Int} {S:Int→Int→Bool} (h:Grid xs ys S):RowsOk S:=fun y=>(h.x y).spans
theorem Grid.step {xs ys:List Int} {S:Int→Int→Bool} (h:Grid xs ys S):Step [] ys fun y=>spn fun x=>S x y:=by
 refine ⟨(h.y 0).asc,fun i hi t h1 h2=>?_,fun t ht=>?_,fun t ht=>?_⟩
 ·congr 1; funext x; exact (h.y x).gap i hi t h1 h2
 ·exact spn_false fun x=>(h.y x).before t ht
 ·exact spn_false fun x=>(h.y x).after t ht
theorem Grid.of {xs ys:List Int} {a b:List Rect} (hx:Asc xs) (hy:Asc ys) (ax:CovX xs a) (bx:CovX xs b) (ay:CovY ys a) (by' : CovY ys b) {k:Bool→Bool→Bool} (hk:k false false=false) :
  Grid xs ys fun x y=>k (inR a x y) (inR b x y):=by
 refine ⟨fun y=>⟨hx,fun i hi t h1 h2=>?_,fun t ht=>?_,fun t ht=>?_⟩,fun x=>⟨hy,fun i hi t h1 h2=>?_,fun t ht=>?_,fun t ht=>?_⟩⟩
 ·simp only [ax.gap hx hi h1 h2,bx.gap hx hi h1 h2]
 ·simp only [ax.before ht,bx.before ht,hk]
 ·simp only [ax.after ht,bx.after ht,hk]
 ·simp only [ay.gap hy hi h1 h2,by'.gap hy hi h1 h2]
 ·simp only [ay.before ht,by'.before ht,hk]
 ·simp only [ay.after ht,by'.after ht,hk]
end Go.Ab
end
