/- The code that the statement reaches as plain programs, and what they compute: no condition on the program. -/
import Derived.Test.YtdghfppocejhjaaGreatAbC
import Derived.Test.YtdghfppocejhjaaGreatPuA
set_option linter.unusedVariables false
set_option linter.unusedSimpArgs false
section
namespace Go.Ab
set_option linter.unusedVariables false
set_option maxRecDepth 100000
noncomputable section
instance:Emb Rect:=⟨fun x=>[.int .i64 x.left_,.int .i64 x.low_,.int .i64 x.right_,.int .i64 x.high_],4,⟨0,0,0,0⟩,fun _=>rfl⟩
structure Region where
 rects_:(List Rect)
 deriving DecidableEq
instance:Emb Region:=⟨fun x=>[DL (α:=Rect) x.rects_],1,⟨[]⟩,fun _=>rfl⟩
structure Crop where
 name_:ByteArray
 family_:Int
 marks_:Int
 deriving DecidableEq
instance:Emb Crop:=⟨fun x=>[.str x.name_,.int .i64 x.family_,.int .i64 x.marks_],3,⟨ByteArray.empty,0,0⟩,fun _=>rfl⟩
structure Record where
 year_:Int
 crop_:Int
 region_:Region
 deriving DecidableEq
instance:Emb Record:=⟨fun x=>[.int .i64 x.year_,.int .i64 x.crop_,DL (α:=Rect) x.region_.rects_],3,⟨0,0,⟨[]⟩⟩,fun _=>rfl⟩
structure Arr2Int where
 e0_:Int
 e1_:Int
 deriving DecidableEq
instance:Emb Arr2Int:=⟨fun x=>[.int .i64 x.e0_,.int .i64 x.e1_],2,⟨0,0⟩,fun _=>rfl⟩
structure Tape where
 l_:(List Int)
 at_:Int
 deriving DecidableEq
instance:Emb Tape:=⟨fun x=>[DL (α:=Int) x.l_,.int .i64 x.at_],2,⟨[],0⟩,fun _=>rfl⟩
structure Records where
 l_:(List Record)
 crops_:(List Crop)
 deriving DecidableEq
instance:Emb Records:=⟨fun x=>[DL (α:=Record) x.l_,DL (α:=Crop) x.crops_],2,⟨[],[]⟩,fun _=>rfl⟩
instance:Emb Span:=⟨fun x=>[.int .i64 x.left_,.int .i64 x.right_],2,⟨0,0⟩,fun _=>rfl⟩
structure Wide where
 high_:Int
 low_:Int
 deriving DecidableEq
instance:Emb Wide:=⟨fun x=>[.int .u64 x.high_,.int .u64 x.low_],2,⟨0,0⟩,fun _=>rfl⟩
structure Band where
 low_:Int
 high_:Int
 spans_:(List Span)
 deriving DecidableEq
instance:Emb Band:=⟨fun x=>[.int .i64 x.low_,.int .i64 x.high_,DL (α:=Span) x.spans_],3,⟨0,0,[]⟩,fun _=>rfl⟩
def FR_Rect_Bool (q:Rect→Option Bool):List AVal→AVal→Prop:=fun args r=>∃ x0 y,q x0=some y∧args=[gE x0]∧r=vb y
def FR_Span_Span_Int (q:Span→Span→Option Int):List AVal→AVal→Prop:=fun args r=>∃ x0 x1 y,q x0 x1=some y∧args=[gE x0,gE x1]∧r=vi y
def FR_Int_ListSpan (q:Int→Option (List Span)):List AVal→AVal→Prop:=fun args r=>∃ x0 y,q x0=some y∧args=[vi x0]∧r=AL (α:=Span) y
def FR_Int_Bool (q:Int→Option Bool):List AVal→AVal→Prop:=fun args r=>∃ x0 y,q x0=some y∧args=[vi x0]∧r=vb y
def FR_Record_Bool (q:Record→Option Bool):List AVal→AVal→Prop:=fun args r=>∃ x0 y,q x0=some y∧args=[gE x0]∧r=vb y
def FR_Region_Bool (q:Region→Option Bool):List AVal→AVal→Prop:=fun args r=>∃ x0 y,q x0=some y∧args=[.v (.g [.d (DL x0.rects_)])]∧r=vb y
def FR_Span_Bool (q:Span→Option Bool):List AVal→AVal→Prop:=fun args r=>∃ x0 y,q x0=some y∧args=[gE x0]∧r=vb y
def FR_Bool_Bool_Bool (q:Bool→Bool→Option Bool):List AVal→AVal→Prop:=fun args r=>∃ x0 x1 y,q x0 x1=some y∧args=[vb x0,vb x1]∧r=vb y
def FR_Int_Int_Int (q:Int→Int→Option Int):List AVal→AVal→Prop:=fun args r=>∃ x0 x1 y,q x0 x1=some y∧args=[vi x0,vi x1]∧r=vi y
def slices_IndexFunc_Rect_k1 (F:Nat):Option (Int):=
 some (-1:Int)
def slices_IndexFunc_Rect_b0 (F:Nat) (x1:(List Rect)) (x2:Rect→Option Bool) (b:(Int)→Option (Int)) (a:Int):Option (Int):=
 br (decide (a<((List.length x1:Nat):Int))) (gd (0≤a∧a<((List.length x1:Nat):Int)) <|
 (x2 (gl x1 a.toNat)).bind fun c=>
 br c (some a) (gd (I64 (a+(1:Int))) <|
 b (a+(1:Int)))) (slices_IndexFunc_Rect_k1 F)
def slices_IndexFunc_Rect (F:Nat) (x1:(List Rect)) (x2:Rect→Option Bool):Option (Int):=
 loopN (fun again (z:Int)=>slices_IndexFunc_Rect_b0 F x1 x2 again z) F (0:Int)
def slices_ContainsFunc_Rect (F:Nat) (a:(List Rect)) (b:Rect→Option Bool):Option (Bool):=
 (slices_IndexFunc_Rect F a b).bind fun c=>
 some (decide ((0:Int)≤c))
def region_proper_k0 (F:Nat) (a:Bool):Option (Bool):=
 some a
def region_proper (F:Nat) (a:Rect):Option (Bool):=
 br (decide ((0:Int)≤a.left_)) (br (decide (a.left_<a.right_)) (br (decide (a.right_≤(16384:Int))) (br (decide ((0:Int)≤a.low_)) (br (decide (a.low_<a.high_)) (region_proper_k0 F (decide (a.high_≤(16384:Int)))) (region_proper_k0 F false)) (region_proper_k0 F false)) (region_proper_k0 F false)) (region_proper_k0 F false)) (region_proper_k0 F false)
def region_Valid_1 (F:Nat) (a:Rect):Option (Bool):=
 (region_proper F a).bind fun b=>
 some (!b)
def slices_Compact_int_k2 (F:Nat) (a:Int) (b:(Int×Int×(List Int))→Option ((List Int))) (c:Int) (d:(List Int)):Option ((List Int)):=
 gd (I64 (a+(1:Int))) <|
 b (c,(a+(1:Int)),d)
def slices_Compact_int_k3 (F:Nat) (a:Int) (b:(List Int)):Option ((List Int)):=
 gd (0≤a∧a≤(((List.length (α:=Int) b):Nat):Int)∧((0:Nat):Int)+(((List.length (α:=Int) b):Nat):Int)≤((List.length (α:=Int) b:Nat):Int)) <|
 gd (0≤a∧a≤((List.length (clr b (0+(a).toNat) ((List.length (α:=Int) b)-(a).toNat)):Nat):Int)) <|
 some ((clr b (0+(a).toNat) ((List.length (α:=Int) b)-(a).toNat)).take (a).toNat)
def slices_Compact_int_b1 (F:Nat) (e:(List Int)) (c:Int) (i:(Int×Int×(List Int))→Option ((List Int))) (d:Int) (a:Int) (b:(List Int)):Option ((List Int)):=
 br (decide (a<((((List.length (α:=Int) e)-(c).toNat):Nat):Int))) (gd (0≤a∧a<((((List.length (α:=Int) e)-(c).toNat):Nat):Int)) <|
 gd (((0+(c).toNat)+(a).toNat)<List.length b) <|
 gd (I64 (a-(1:Int))) <|
 gd (0≤(a-(1:Int))∧(a-(1:Int))<((((List.length (α:=Int) e)-(c).toNat):Nat):Int)) <|
 gd (((0+(c).toNat)+((a-(1:Int))).toNat)<List.length b) <|
 br ((gl b ((0+(c).toNat)+(a).toNat)) != (gl b ((0+(c).toNat)+((a-(1:Int))).toNat))) (gd (0≤a∧a<((((List.length (α:=Int) e)-(c).toNat):Nat):Int)) <|
 gd (((0+(c).toNat)+(a).toNat)<List.length b) <|
 gd (0≤d∧d<((List.length b:Nat):Int)) <|
 gd (I64 (d+(1:Int))) <|
 slices_Compact_int_k2 F a i (d+(1:Int)) (List.set b d.toNat (gl b ((0+(c).toNat)+(a).toNat)))) (slices_Compact_int_k2 F a i d b)) (slices_Compact_int_k3 F d b)
def slices_Compact_int_k4 (F:Nat) (a:Int) (b:(Int)→Option ((List Int))):Option ((List Int)):=
 gd (I64 (a+(1:Int))) <|
 b (a+(1:Int))
def slices_Compact_int_k5 (F:Nat) (a:(List Int)):Option ((List Int)):=
 some a
def slices_Compact_int_b0 (F:Nat) (b:(List Int)) (c:(Int)→Option ((List Int))) (a:Int):Option ((List Int)):=
 br (decide (a<((List.length b:Nat):Int))) (gd (0≤a∧a<((List.length b:Nat):Int)) <|
 gd (I64 (a-(1:Int))) <|
 gd (0≤(a-(1:Int))∧(a-(1:Int))<((List.length b:Nat):Int)) <|
 br ((gl b a.toNat)==(gl b (a-(1:Int)).toNat)) (gd (0≤a∧a≤(((List.length (α:=Int) b):Nat):Int)∧((0:Nat):Int)+(((List.length (α:=Int) b):Nat):Int)≤((List.length (α:=Int) b:Nat):Int)) <|
 loopN (fun again (z:Int×Int×(List Int))=>slices_Compact_int_b1 F b a again z.1 z.2.1 z.2.2) F (a,(1:Int),b)) (slices_Compact_int_k4 F a c)) (slices_Compact_int_k5 F b)
def slices_Compact_int (F:Nat) (a:(List Int)):Option ((List Int)):=
 br (decide (((List.length a:Nat):Int)<(2:Int))) (some a) (loopN (fun again (z:Int)=>slices_Compact_int_b0 F a again z) F (1:Int))
def region_Cuts_k2 (F:Nat) (a:Int) (b:(Int×(List Int))→Option ((List Int))) (c:(List Int)):Option ((List Int)):=
 gd (I64 (a+(1:Int))) <|
 b ((a+(1:Int)),c)
def region_Cuts_b1 (F:Nat) (c:(List (List Rect))) (b:Int) (e:(Int×(List Int))→Option ((List Int))) (i:(Int×(List Int))→Option ((List Int))) (a:Int) (d:(List Int)):Option ((List Int)):=
 br (decide (a<((List.length (gl c b.toNat):Nat):Int))) (gd (0≤a∧a<((List.length (gl c b.toNat):Nat):Int)) <|
 gd ((List.length (α:=Int) d)+(List.length (α:=Int) ([(gl (gl c b.toNat) a.toNat).low_,(gl (gl c b.toNat) a.toNat).high_]:List Int))≤LIM) <|
 gd (I64 (a+(1:Int))) <|
 i ((a+(1:Int)),(d++([(gl (gl c b.toNat) a.toNat).low_,(gl (gl c b.toNat) a.toNat).high_]:List Int)))) (region_Cuts_k2 F b e d)
def region_Cuts_k3 (F:Nat) (a:(List Int)):Option ((List Int)):=
 (sortI a).bind fun b=>
 (slices_Compact_int F b).bind fun c=>
 some c
def region_Cuts_b0 (F:Nat) (b:(List (List Rect))) (d:(Int×(List Int))→Option ((List Int))) (a:Int) (c:(List Int)):Option ((List Int)):=
 br (decide (a<((List.length b:Nat):Int))) (gd (0≤a∧a<((List.length b:Nat):Int)) <|
 loopN (fun again (z:Int×(List Int))=>region_Cuts_b1 F b a d again z.1 z.2) F ((0:Int),c)) (region_Cuts_k3 F c)
def region_Cuts (F:Nat) (a:(List (List Rect))):Option ((List Int)):=
 loopN (fun again (z:Int×(List Int))=>region_Cuts_b0 F a again z.1 z.2) F ((0:Int),([]:List Int))
def cmp_isNaN_int (F:Nat) (a:Int):Option (Bool):=
 some (a != a)
def cmp_Compare_int (F:Nat) (a:Int) (b:Int):Option (Int):=
 (cmp_isNaN_int F a).bind fun d=>
 (cmp_isNaN_int F b).bind fun c=>
 br d (br c (some (0:Int)) (some (-1:Int))) (br c (some (1:Int)) (br (decide (a<b)) (some (-1:Int)) (br (decide (b<a)) (some (1:Int)) (some (0:Int)))))
def region_Row_1 (F:Nat) (a:Span) (b:Span):Option (Int):=
 (cmp_Compare_int F a.left_ b.left_).bind fun c=>
 some c
def region_Row_k2 (F:Nat) (a:Int) (b:(Int×(List Span))→Option ((List Span))) (c:(List Span)):Option ((List Span)):=
 gd (I64 (a+(1:Int))) <|
 b ((a+(1:Int)),c)
def region_Row_k1 (F:Nat) (b:(List Rect)) (a:Int) (c:(List Span)) (d:(Int×(List Span))→Option ((List Span))) (e:Bool):Option ((List Span)):=
 br e (gd ((List.length (α:=Span) c)+(List.length (α:=Span) ([(⟨(gl b a.toNat).left_,(gl b a.toNat).right_⟩ : Span)]:List Span))≤LIM) <|
 region_Row_k2 F a d (c++([(⟨(gl b a.toNat).left_,(gl b a.toNat).right_⟩ : Span)]:List Span))) (region_Row_k2 F a d c)
def region_Row_k6 (F:Nat) (a:Int) (b:(Int×(List Span))→Option ((List Span))) (c:(List Span)):Option ((List Span)):=
 gd (I64 (a+(1:Int))) <|
 b ((a+(1:Int)),c)
def region_Row_k5 (F:Nat) (c:(List Span)) (b:Int) (a:(List Span)) (d:(Int×(List Span))→Option ((List Span))) (e:Bool):Option ((List Span)):=
 br e (gd (I64 (((List.length a:Nat):Int)-(1:Int))) <|
 gd (I64 (((List.length a:Nat):Int)-(1:Int))) <|
 gd (0≤(((List.length a:Nat):Int)-(1:Int))∧(((List.length a:Nat):Int)-(1:Int))<((List.length a:Nat):Int)) <|
 gd (0≤(((List.length a:Nat):Int)-(1:Int))∧(((List.length a:Nat):Int)-(1:Int))<((List.length a:Nat):Int)) <|
 region_Row_k6 F b d (List.set a (((List.length a:Nat):Int)-(1:Int)).toNat (⟨(gl a (((List.length a:Nat):Int)-(1:Int)).toNat).left_,(gmax ((gl a (((List.length a:Nat):Int)-(1:Int)).toNat).right_) ((gl c b.toNat).right_))⟩ : Span))) (gd ((List.length (α:=Span) a)+(List.length (α:=Span) ([(gl c b.toNat)]:List Span))≤LIM) <|
 region_Row_k6 F b d (a++([(gl c b.toNat)]:List Span)))
def region_Row_k7 (F:Nat) (a:(List Span)):Option ((List Span)):=
 some a
def region_Row_b4 (F:Nat) (c:(List Span)) (d:(Int×(List Span))→Option ((List Span))) (b:Int) (a:(List Span)):Option ((List Span)):=
 br (decide (b<((List.length c:Nat):Int))) (gd (0≤b∧b<((List.length c:Nat):Int)) <|
 br (decide ((0:Int)<((List.length a:Nat):Int))) (gd (I64 (((List.length a:Nat):Int)-(1:Int))) <|
 gd (0≤(((List.length a:Nat):Int)-(1:Int))∧(((List.length a:Nat):Int)-(1:Int))<((List.length a:Nat):Int)) <|
 region_Row_k5 F c b a d (decide (((gl c b.toNat).left_)≤((gl a (((List.length a:Nat):Int)-(1:Int)).toNat).right_)))) (region_Row_k5 F c b a d false)) (region_Row_k7 F a)
def region_Row_k3 (F:Nat) (a:(List Span)):Option ((List Span)):=
 (sortF a (fun y0 y1=>region_Row_1 F y0 y1)).bind fun b=>
 loopN (fun again (z:Int×(List Span))=>region_Row_b4 F b again z.1 z.2) F ((0:Int),([]:List Span))
def region_Row_b0 (F:Nat) (b:(List Rect)) (e:Int) (d:(Int×(List Span))→Option ((List Span))) (a:Int) (c:(List Span)):Option ((List Span)):=
 br (decide (a<((List.length b:Nat):Int))) (gd (0≤a∧a<((List.length b:Nat):Int)) <|
 br (decide (((gl b a.toNat).low_)≤e)) (region_Row_k1 F b a c d (decide (e<((gl b a.toNat).high_)))) (region_Row_k1 F b a c d false)) (region_Row_k3 F c)
def region_Row (F:Nat) (a:(List Rect)) (b:Int):Option ((List Span)):=
 loopN (fun again (z:Int×(List Span))=>region_Row_b0 F a b again z.1 z.2) F ((0:Int),([]:List Span))
def region_canonical_1 (F:Nat) (a:Int) (b:(List Rect)):Option ((List Span)):=
 (region_Row F b a).bind fun c=>
 some c
def slices_Equal_Span_k1 (F:Nat):Option (Bool):=
 some true
def slices_Equal_Span_b0 (F:Nat) (b:(List Span)) (c:(List Span)) (d:(Int)→Option (Bool)) (a:Int):Option (Bool):=
 br (decide (a<((List.length b:Nat):Int))) (gd (0≤a∧a<((List.length b:Nat):Int)) <|
 gd (0≤a∧a<((List.length c:Nat):Int)) <|
 br (!((((gl b a.toNat).left_)==((gl c a.toNat).left_))&&((((gl b a.toNat).right_)==((gl c a.toNat).right_))&&true))) (some false) (gd (I64 (a+(1:Int))) <|
 d (a+(1:Int)))) (slices_Equal_Span_k1 F)
def slices_Equal_Span (F:Nat) (a:(List Span)) (b:(List Span)):Option (Bool):=
 br (((List.length a:Nat):Int) != ((List.length b:Nat):Int)) (some false) (loopN (fun again (z:Int)=>slices_Equal_Span_b0 F a b again z) F (0:Int))
def region_rects_k2 (F:Nat) (a:Int) (b:(Int×(List Rect))→Option ((List Rect))) (c:(List Rect)):Option ((List Rect)):=
 gd (I64 (a+(1:Int))) <|
 b ((a+(1:Int)),c)
def region_rects_b1 (F:Nat) (b:(List Band)) (a:Int) (e:(Int×(List Rect))→Option ((List Rect))) (i:(Int×(List Rect))→Option ((List Rect))) (c:Int) (d:(List Rect)):Option ((List Rect)):=
 br (decide (c<((List.length ((gl b a.toNat).spans_):Nat):Int))) (gd (0≤c∧c<((List.length ((gl b a.toNat).spans_):Nat):Int)) <|
 gd ((List.length (α:=Rect) d)+(List.length (α:=Rect) ([(⟨(gl ((gl b a.toNat).spans_) c.toNat).left_,(gl b a.toNat).low_,(gl ((gl b a.toNat).spans_) c.toNat).right_,(gl b a.toNat).high_⟩ : Rect)]:List Rect))≤LIM) <|
 gd (I64 (c+(1:Int))) <|
 i ((c+(1:Int)),(d++([(⟨(gl ((gl b a.toNat).spans_) c.toNat).left_,(gl b a.toNat).low_,(gl ((gl b a.toNat).spans_) c.toNat).right_,(gl b a.toNat).high_⟩ : Rect)]:List Rect)))) (region_rects_k2 F a e d)
def region_rects_k3 (F:Nat) (a:(List Rect)):Option ((List Rect)):=
 some a
def region_rects_b0 (F:Nat) (b:(List Band)) (d:(Int×(List Rect))→Option ((List Rect))) (a:Int) (c:(List Rect)):Option ((List Rect)):=
 br (decide (a<((List.length b:Nat):Int))) (gd (0≤a∧a<((List.length b:Nat):Int)) <|
 loopN (fun again (z:Int×(List Rect))=>region_rects_b1 F b a d again z.1 z.2) F ((0:Int),c)) (region_rects_k3 F c)
def region_rects (F:Nat) (a:(List Band)):Option ((List Rect)):=
 loopN (fun again (z:Int×(List Rect))=>region_rects_b0 F a again z.1 z.2) F ((0:Int),([]:List Rect))
def region_Build_k2 (F:Nat) (a:Int) (b:(Int×(List Band))→Option ((List Rect))) (c:(List Band)):Option ((List Rect)):=
 gd (I64 (a+(1:Int))) <|
 b ((a+(1:Int)),c)
def region_Build_k1 (F:Nat) (c:(List Int)) (b:Int) (a:(List Band)) (e:(List Span)) (d:(Int×(List Band))→Option ((List Rect))) (i:Bool):Option ((List Rect)):=
 br i (gd (I64 (((List.length a:Nat):Int)-(1:Int))) <|
 gd (0≤(((List.length a:Nat):Int)-(1:Int))∧(((List.length a:Nat):Int)-(1:Int))<((List.length a:Nat):Int)) <|
 region_Build_k2 F b d (List.set a (((List.length a:Nat):Int)-(1:Int)).toNat (⟨(gl a (((List.length a:Nat):Int)-(1:Int)).toNat).low_,(gl c b.toNat),(gl a (((List.length a:Nat):Int)-(1:Int)).toNat).spans_⟩ : Band))) (gd ((List.length (α:=Band) a)+(List.length (α:=Band) ([(⟨(gl c (b-(1:Int)).toNat),(gl c b.toNat),e⟩ : Band)]:List Band))≤LIM) <|
 region_Build_k2 F b d (a++([(⟨(gl c (b-(1:Int)).toNat),(gl c b.toNat),e⟩ : Band)]:List Band)))
def region_Build_k3 (F:Nat) (a:(List Band)):Option ((List Rect)):=
 (region_rects F a).bind fun b=>
 some b
def region_Build_b0 (F:Nat) (c:(List Int)) (i:Int→Option (List Span)) (e:(Int×(List Band))→Option ((List Rect))) (b:Int) (a:(List Band)):Option ((List Rect)):=
 br (decide (b<((List.length c:Nat):Int))) (gd (I64 (b-(1:Int))) <|
 gd (0≤(b-(1:Int))∧(b-(1:Int))<((List.length c:Nat):Int)) <|
 gd (0≤b∧b<((List.length c:Nat):Int)) <|
 gd (I64 (b-(1:Int))) <|
 gd (0≤(b-(1:Int))∧(b-(1:Int))<((List.length c:Nat):Int)) <|
 (i (gl c (b-(1:Int)).toNat)).bind fun d=>
 br (decide ((0:Int)<((List.length a:Nat):Int))) (gd (I64 (((List.length a:Nat):Int)-(1:Int))) <|
 gd (0≤(((List.length a:Nat):Int)-(1:Int))∧(((List.length a:Nat):Int)-(1:Int))<((List.length a:Nat):Int)) <|
 br (((gl a (((List.length a:Nat):Int)-(1:Int)).toNat).high_)==(gl c (b-(1:Int)).toNat)) (gd (I64 (((List.length a:Nat):Int)-(1:Int))) <|
 gd (0≤(((List.length a:Nat):Int)-(1:Int))∧(((List.length a:Nat):Int)-(1:Int))<((List.length a:Nat):Int)) <|
 (slices_Equal_Span F ((gl a (((List.length a:Nat):Int)-(1:Int)).toNat).spans_) d).bind fun j=>
 region_Build_k1 F c b a d e j) (region_Build_k1 F c b a d e false)) (region_Build_k1 F c b a d e false)) (region_Build_k3 F a)
def region_Build (F:Nat) (a:(List Int)) (b:Int→Option (List Span)):Option ((List Rect)):=
 loopN (fun again (z:Int×(List Band))=>region_Build_b0 F a b again z.1 z.2) F ((1:Int),([]:List Band))
def region_canonical (F:Nat) (a:(List Rect)):Option ((List Rect)):=
 (region_Cuts F ([a]:List (List Rect))).bind fun b=>
 (region_Build F b (fun y0=>region_canonical_1 F y0 a)).bind fun c=>
 some c
def slices_Equal_Rect_k1 (F:Nat):Option (Bool):=
 some true
def slices_Equal_Rect_b0 (F:Nat) (b:(List Rect)) (c:(List Rect)) (d:(Int)→Option (Bool)) (a:Int):Option (Bool):=
 br (decide (a<((List.length b:Nat):Int))) (gd (0≤a∧a<((List.length b:Nat):Int)) <|
 gd (0≤a∧a<((List.length c:Nat):Int)) <|
 br (!((((gl b a.toNat).left_)==((gl c a.toNat).left_))&&((((gl b a.toNat).low_)==((gl c a.toNat).low_))&&((((gl b a.toNat).right_)==((gl c a.toNat).right_))&&((((gl b a.toNat).high_)==((gl c a.toNat).high_))&&true))))) (some false) (gd (I64 (a+(1:Int))) <|
 d (a+(1:Int)))) (slices_Equal_Rect_k1 F)
def slices_Equal_Rect (F:Nat) (a:(List Rect)) (b:(List Rect)):Option (Bool):=
 br (((List.length a:Nat):Int) != ((List.length b:Nat):Int)) (some false) (loopN (fun again (z:Int)=>slices_Equal_Rect_b0 F a b again z) F (0:Int))
def region_Valid_k0 (F:Nat) (a:Region) (b:Bool):Option (Bool):=
 br b (some false) ((region_canonical F a.rects_).bind fun c=>
 (slices_Equal_Rect F c a.rects_).bind fun d=>
 some d)
def region_Valid (F:Nat) (a:Region):Option (Bool):=
 br (decide ((120:Int)<((List.length a.rects_:Nat):Int))) (region_Valid_k0 F a true) ((slices_ContainsFunc_Rect F a.rects_ (fun y0=>region_Valid_1 F y0)).bind fun b=>
 region_Valid_k0 F a b)
def keep_New (F:Nat) (a:(List Int)):Option (Tape):=
 gd (0≤(gmin ((List.length a:Nat):Int) (400:Int))∧(gmin ((List.length a:Nat):Int) (400:Int))≤((List.length a:Nat):Int)) <|
 some (⟨(a.take (gmin ((List.length a:Nat):Int) (400:Int)).toNat),0⟩ : Tape)
def keep_Mod_k0 (F:Nat) (a:Int):Option (Int):=
 some a
def keep_Mod (F:Nat) (b:Int) (a:Int):Option (Int):=
 br (decide (a<(1:Int))) (some (0:Int)) (gd (a≠0) <|
 br (decide ((b.tmod a)<(0:Int))) (gd (I64 ((b.tmod a)+a)) <|
 keep_Mod_k0 F ((b.tmod a)+a)) (keep_Mod_k0 F (b.tmod a)))
def keep_Tape_Next (F:Nat) (a:Tape) (b:Int):Option (Tape×Int):=
 br (decide (((List.length a.l_:Nat):Int)≤a.at_)) (some (a,(0:Int))) (gd (I64 (a.at_+(1:Int))) <|
 gd (I64 ((a.at_+(1:Int))-(1:Int))) <|
 gd (0≤((a.at_+(1:Int))-(1:Int))∧((a.at_+(1:Int))-(1:Int))<((List.length a.l_:Nat):Int)) <|
 (keep_Mod F (gl a.l_ ((a.at_+(1:Int))-(1:Int)).toNat) b).bind fun c=>
 some ((⟨a.l_,(a.at_+(1:Int))⟩ : Tape),c))
def keep_Tape_Rect (F:Nat) (i:Tape) (c:Int):Option (Tape×Rect):=
 (keep_Tape_Next F i c).bind fun a=>
 (keep_Tape_Next F a.1 c).bind fun b=>
 gd (I64 (a.2+(1:Int))) <|
 gd (I64 (c-a.2)) <|
 (keep_Tape_Next F b.1 (c-a.2)).bind fun d=>
 gd (I64 ((a.2+(1:Int))+d.2)) <|
 gd (I64 (b.2+(1:Int))) <|
 gd (I64 (c-b.2)) <|
 (keep_Tape_Next F d.1 (c-b.2)).bind fun e=>
 gd (I64 ((b.2+(1:Int))+e.2)) <|
 some (e.1,(⟨a.2,b.2,((a.2+(1:Int))+d.2),((b.2+(1:Int))+e.2)⟩ : Rect))
def ref04_proper_k0 (F:Nat) (a:Bool):Option (Bool):=
 some a
def ref04_proper (F:Nat) (a:Rect):Option (Bool):=
 br (decide ((0:Int)≤a.left_)) (br (decide (a.left_<a.right_)) (br (decide (a.right_≤(16384:Int))) (br (decide ((0:Int)≤a.low_)) (br (decide (a.low_<a.high_)) (ref04_proper_k0 F (decide (a.high_≤(16384:Int)))) (ref04_proper_k0 F false)) (ref04_proper_k0 F false)) (ref04_proper_k0 F false)) (ref04_proper_k0 F false)) (ref04_proper_k0 F false)
def ref01_Put_k3 (F:Nat) (b:(List Int)) (c:Int) (a:Int) (d:Bool):Option ((List Int)):=
 br d (some b) (gd (0≤a∧a≤((List.length b:Nat):Int)) <|
 gd ((0)+(List.length (α:=Int) (b.take a.toNat))≤LIM) <|
 gd (((0)+(List.length (α:=Int) (b.take a.toNat)))+(List.length (α:=Int) ([c]:List Int))≤LIM) <|
 gd (0≤a∧a≤((List.length b:Nat):Int)) <|
 gd ((((0)+(List.length (α:=Int) (b.take a.toNat)))+(List.length (α:=Int) ([c]:List Int)))+(List.length (α:=Int) (b.drop a.toNat))≤LIM) <|
 some (((([]:List Int)++(b.take a.toNat))++([c]:List Int))++(b.drop a.toNat)))
def ref01_Put_k2 (F:Nat) (b:(List Int)) (c:Int) (a:Int):Option ((List Int)):=
 br (decide (a<((List.length b:Nat):Int))) (gd (0≤a∧a<((List.length b:Nat):Int)) <|
 ref01_Put_k3 F b c a ((gl b a.toNat)==c)) (ref01_Put_k3 F b c a false)
def ref01_Put_k1 (F:Nat) (d:(List Int)) (e:Int) (a:Int) (b:(Int)→Option ((List Int))) (c:Bool):Option ((List Int)):=
 br c (gd (I64 (a+(1:Int))) <|
 b (a+(1:Int))) (ref01_Put_k2 F d e a)
def ref01_Put_b0 (F:Nat) (b:(List Int)) (c:Int) (d:(Int)→Option ((List Int))) (a:Int):Option ((List Int)):=
 br (decide (a<((List.length b:Nat):Int))) (gd (0≤a∧a<((List.length b:Nat):Int)) <|
 ref01_Put_k1 F b c a d (decide ((gl b a.toNat)<c))) (ref01_Put_k1 F b c a d false)
def ref01_Put (F:Nat) (a:(List Int)) (b:Int):Option ((List Int)):=
 loopN (fun again (z:Int)=>ref01_Put_b0 F a b again z) F (0:Int)
def ref04_inside_k1 (F:Nat) (a:Int) (b:(Int)→Option (Bool)) (c:Bool):Option (Bool):=
 br c (some true) (gd (I64 (a+(1:Int))) <|
 b (a+(1:Int)))
def ref04_inside_k2 (F:Nat):Option (Bool):=
 some false
def ref04_inside_b0 (F:Nat) (b:(List Rect)) (d:Int) (e:Int) (c:(Int)→Option (Bool)) (a:Int):Option (Bool):=
 br (decide (a<((List.length b:Nat):Int))) (gd (0≤a∧a<((List.length b:Nat):Int)) <|
 br (decide (((gl b a.toNat).left_)≤d)) (br (decide (d<((gl b a.toNat).right_))) (br (decide (((gl b a.toNat).low_)≤e)) (ref04_inside_k1 F a c (decide (e<((gl b a.toNat).high_)))) (ref04_inside_k1 F a c false)) (ref04_inside_k1 F a c false)) (ref04_inside_k1 F a c false)) (ref04_inside_k2 F)
def ref04_inside (F:Nat) (a:(List Rect)) (b:Int) (c:Int):Option (Bool):=
 loopN (fun again (z:Int)=>ref04_inside_b0 F a b c again z) F (0:Int)
def ref04_keep_k0 (F:Nat) (a:Bool):Option (Bool):=
 some a
def ref04_keep_k1 (F:Nat) (a:Bool):Option (Bool):=
 some a
def ref04_keep_k2 (F:Nat) (a:Bool):Option (Bool):=
 some a
def ref04_keep (F:Nat) (a:Bool) (b:Bool) (c:Int):Option (Bool):=
 br (c==(1:Int)) (br a (ref04_keep_k0 F true) (ref04_keep_k0 F b)) (br (c==(2:Int)) (br a (ref04_keep_k1 F b) (ref04_keep_k1 F false)) (br a (ref04_keep_k2 F (!b)) (ref04_keep_k2 F false)))
def ref04_same_k1 (F:Nat) (a:Int) (b:(Int)→Option (Bool)) (c:Bool):Option (Bool):=
 br c (some false) (gd (I64 (a+(1:Int))) <|
 b (a+(1:Int)))
def ref04_same_k2 (F:Nat):Option (Bool):=
 some true
def ref04_same_b0 (F:Nat) (b:(List Rect)) (c:(List Rect)) (d:(Int)→Option (Bool)) (a:Int):Option (Bool):=
 br (decide (a<((List.length b:Nat):Int))) (gd (0≤a∧a<((List.length b:Nat):Int)) <|
 gd (0≤a∧a<((List.length c:Nat):Int)) <|
 br (((gl b a.toNat).left_) != ((gl c a.toNat).left_)) (ref04_same_k1 F a d true) (gd (0≤a∧a<((List.length b:Nat):Int)) <|
 gd (0≤a∧a<((List.length c:Nat):Int)) <|
 ref04_same_k1 F a d (((gl b a.toNat).right_) != ((gl c a.toNat).right_)))) (ref04_same_k2 F)
def ref04_same (F:Nat) (a:(List Rect)) (b:(List Rect)):Option (Bool):=
 br (((List.length a:Nat):Int) != ((List.length b:Nat):Int)) (some false) (loopN (fun again (z:Int)=>ref04_same_b0 F a b again z) F (0:Int))
def ref04_Combine_k2 (F:Nat) (a:Int) (b:((List Int)×(List Int)×Int)→Option ((List Rect))) (c:(List Int)) (d:(List Int)):Option ((List Rect)):=
 gd (I64 (a+(1:Int))) <|
 b (c,d,(a+(1:Int)))
def ref04_Combine_b1 (F:Nat) (c:(List Rect)) (d:(List Rect)) (b:Int) (j:((List Int)×(List Int)×Int)→Option ((List Rect))) (k:((List Int)×(List Int)×Int)→Option ((List Rect))) (e:(List Int)) (i:(List Int)) (a:Int):Option ((List Rect)):=
 br (decide (a<((List.length (gl ([c,d]:List (List Rect)) b.toNat):Nat):Int))) (gd (0≤a∧a<((List.length (gl ([c,d]:List (List Rect)) b.toNat):Nat):Int)) <|
 (ref01_Put F e ((gl (gl ([c,d]:List (List Rect)) b.toNat) a.toNat).left_)).bind fun l=>
 (ref01_Put F l ((gl (gl ([c,d]:List (List Rect)) b.toNat) a.toNat).right_)).bind fun m=>
 (ref01_Put F i ((gl (gl ([c,d]:List (List Rect)) b.toNat) a.toNat).low_)).bind fun n=>
 (ref01_Put F n ((gl (gl ([c,d]:List (List Rect)) b.toNat) a.toNat).high_)).bind fun o=>
 gd (I64 (a+(1:Int))) <|
 k (m,o,(a+(1:Int)))) (ref04_Combine_k2 F b j e i)
def ref04_Combine_k7 (F:Nat) (a:Int) (b:(Int×(List Rect))→Option ((List Rect))) (c:(List Rect)):Option ((List Rect)):=
 gd (I64 (a+(1:Int))) <|
 b ((a+(1:Int)),c)
def ref04_Combine_k6 (F:Nat) (d:(List Int)) (e:(List Int)) (c:Int) (a:Int) (b:(List Rect)) (i:(Int×(List Rect))→Option ((List Rect))) (j:Bool):Option ((List Rect)):=
 br j (gd (I64 (((List.length b:Nat):Int)-(1:Int))) <|
 gd (I64 (a+(1:Int))) <|
 gd (0≤(a+(1:Int))∧(a+(1:Int))<((List.length d:Nat):Int)) <|
 gd (0≤(((List.length b:Nat):Int)-(1:Int))∧(((List.length b:Nat):Int)-(1:Int))<((List.length b:Nat):Int)) <|
 ref04_Combine_k7 F a i (List.set b (((List.length b:Nat):Int)-(1:Int)).toNat (⟨(gl b (((List.length b:Nat):Int)-(1:Int)).toNat).left_,(gl b (((List.length b:Nat):Int)-(1:Int)).toNat).low_,(gl d (a+(1:Int)).toNat),(gl b (((List.length b:Nat):Int)-(1:Int)).toNat).high_⟩ : Rect))) (gd (0≤a∧a<((List.length d:Nat):Int)) <|
 gd (0≤c∧c<((List.length e:Nat):Int)) <|
 gd (I64 (a+(1:Int))) <|
 gd (0≤(a+(1:Int))∧(a+(1:Int))<((List.length d:Nat):Int)) <|
 gd (I64 (c+(1:Int))) <|
 gd (0≤(c+(1:Int))∧(c+(1:Int))<((List.length e:Nat):Int)) <|
 gd ((List.length (α:=Rect) b)+(List.length (α:=Rect) ([(⟨(gl d a.toNat),(gl e c.toNat),(gl d (a+(1:Int)).toNat),(gl e (c+(1:Int)).toNat)⟩ : Rect)]:List Rect))≤LIM) <|
 ref04_Combine_k7 F a i (b++([(⟨(gl d a.toNat),(gl e c.toNat),(gl d (a+(1:Int)).toNat),(gl e (c+(1:Int)).toNat)⟩ : Rect)]:List Rect)))
def ref04_Combine_k13 (F:Nat) (a:Int) (b:(Int×(List Rect)×(List Rect))→Option ((List Rect))) (c:(List Rect)) (d:(List Rect)):Option ((List Rect)):=
 gd (I64 (a+(1:Int))) <|
 b ((a+(1:Int)),c,d)
def ref04_Combine_k11 (F:Nat) (b:Int) (c:(List Rect)) (a:(Int×(List Rect)×(List Rect))→Option ((List Rect))) (d:(List Rect)):Option ((List Rect)):=
 ref04_Combine_k13 F b a c d
def ref04_Combine_b10 (F:Nat) (d:(List Int)) (c:Int) (j:(List Rect)) (k:(List Rect)) (i:(Int×(List Rect)×(List Rect))→Option ((List Rect))) (e:(Int×(List Rect))→Option ((List Rect))) (a:Int) (b:(List Rect)):Option ((List Rect)):=
 br (decide (a<((List.length k:Nat):Int))) (gd (I64 (c+(1:Int))) <|
 gd (0≤(c+(1:Int))∧(c+(1:Int))<((List.length d:Nat):Int)) <|
 gd (0≤a∧a<((List.length b:Nat):Int)) <|
 gd (I64 (a+(1:Int))) <|
 e ((a+(1:Int)),(List.set b a.toNat (⟨(gl b a.toNat).left_,(gl b a.toNat).low_,(gl b a.toNat).right_,(gl d (c+(1:Int)).toNat)⟩ : Rect)))) (ref04_Combine_k11 F c j i b)
def ref04_Combine_k12 (F:Nat) (d:Int) (a:(List Rect)) (b:(List Rect)) (e:(List Rect)) (c:(Int×(List Rect)×(List Rect))→Option ((List Rect))):Option ((List Rect)):=
 gd ((List.length (α:=Rect) a)+(List.length (α:=Rect) b)≤LIM) <|
 ref04_Combine_k13 F d c (a++b) e
def ref04_Combine_k9 (F:Nat) (e:(List Int)) (c:Int) (d:(List Rect)) (a:(List Rect)) (i:(List Rect)) (b:(Int×(List Rect)×(List Rect))→Option ((List Rect))) (j:Bool):Option ((List Rect)):=
 br j (loopN (fun again (z:Int×(List Rect))=>ref04_Combine_b10 F e c d a b again z.1 z.2) F ((0:Int),a)) (ref04_Combine_k12 F c d a i b)
def ref04_Combine_k8 (F:Nat) (c:(List Int)) (b:Int) (i:(List Rect)) (a:(List Rect)) (e:(Int×(List Rect)×(List Rect))→Option ((List Rect))) (d:(List Rect)):Option ((List Rect)):=
 br (decide ((0:Int)<((List.length a:Nat):Int))) ((ref04_same F a d).bind fun j=>
 br j (gd (0≤(0:Int)∧(0:Int)<((List.length a:Nat):Int)) <|
 gd (0≤b∧b<((List.length c:Nat):Int)) <|
 ref04_Combine_k9 F c b i a d e (((gl a (0:Int).toNat).high_)==(gl c b.toNat))) (ref04_Combine_k9 F c b i a d e false)) (ref04_Combine_k9 F c b i a d e false)
def ref04_Combine_b5 (F:Nat) (m:(List Rect)) (n:(List Rect)) (o:Int) (c:(List Int)) (e:(List Int)) (d:Int) (k:(List Rect)) (l:(List Rect)) (j:(Int×(List Rect)×(List Rect))→Option ((List Rect))) (i:(Int×(List Rect))→Option ((List Rect))) (a:Int) (b:(List Rect)):Option ((List Rect)):=
 gd (I64 (a+(1:Int))) <|
 br (decide ((a+(1:Int))<((List.length c:Nat):Int))) (gd (0≤a∧a<((List.length c:Nat):Int)) <|
 gd (0≤d∧d<((List.length e:Nat):Int)) <|
 (ref04_inside F m (gl c a.toNat) (gl e d.toNat)).bind fun p=>
 gd (0≤a∧a<((List.length c:Nat):Int)) <|
 gd (0≤d∧d<((List.length e:Nat):Int)) <|
 (ref04_inside F n (gl c a.toNat) (gl e d.toNat)).bind fun q=>
 (ref04_keep F p q o).bind fun s=>
 br (!s) (ref04_Combine_k7 F a i b) (br (decide ((0:Int)<((List.length b:Nat):Int))) (gd (I64 (((List.length b:Nat):Int)-(1:Int))) <|
 gd (0≤(((List.length b:Nat):Int)-(1:Int))∧(((List.length b:Nat):Int)-(1:Int))<((List.length b:Nat):Int)) <|
 gd (0≤a∧a<((List.length c:Nat):Int)) <|
 ref04_Combine_k6 F c e d a b i (((gl b (((List.length b:Nat):Int)-(1:Int)).toNat).right_)==(gl c a.toNat))) (ref04_Combine_k6 F c e d a b i false))) (ref04_Combine_k8 F e d k l j b)
def ref04_Combine_k14 (F:Nat) (a:(List Rect)) (b:(List Rect)):Option ((List Rect)):=
 gd ((List.length (α:=Rect) a)+(List.length (α:=Rect) b)≤LIM) <|
 some (a++b)
def ref04_Combine_b4 (F:Nat) (j:(List Rect)) (k:(List Rect)) (l:Int) (i:(List Int)) (b:(List Int)) (e:(Int×(List Rect)×(List Rect))→Option ((List Rect))) (a:Int) (c:(List Rect)) (d:(List Rect)):Option ((List Rect)):=
 gd (I64 (a+(1:Int))) <|
 br (decide ((a+(1:Int))<((List.length b:Nat):Int))) (loopN (fun again (z:Int×(List Rect))=>ref04_Combine_b5 F j k l i b a c d e again z.1 z.2) F ((0:Int),([]:List Rect))) (ref04_Combine_k14 F c d)
def ref04_Combine_k3 (F:Nat) (c:(List Rect)) (d:(List Rect)) (e:Int) (a:(List Int)) (b:(List Int)):Option ((List Rect)):=
 loopN (fun again (z:Int×(List Rect)×(List Rect))=>ref04_Combine_b4 F c d e a b again z.1 z.2.1 z.2.2) F ((0:Int),([]:List Rect),([]:List Rect))
def ref04_Combine_b0 (F:Nat) (b:(List Rect)) (c:(List Rect)) (j:Int) (i:((List Int)×(List Int)×Int)→Option ((List Rect))) (d:(List Int)) (e:(List Int)) (a:Int):Option ((List Rect)):=
 br (decide (a<((List.length ([b,c]:List (List Rect)):Nat):Int))) (gd (0≤a∧a<((List.length ([b,c]:List (List Rect)):Nat):Int)) <|
 loopN (fun again (z:(List Int)×(List Int)×Int)=>ref04_Combine_b1 F b c a i again z.1 z.2.1 z.2.2) F (d,e,(0:Int))) (ref04_Combine_k3 F b c j d e)
def ref04_Combine (F:Nat) (a:(List Rect)) (b:(List Rect)) (c:Int):Option ((List Rect)):=
 loopN (fun again (z:(List Int)×(List Int)×Int)=>ref04_Combine_b0 F a b c again z.1 z.2.1 z.2.2) F (([]:List Int),([]:List Int),(0:Int))
def ref04_Bound (F:Nat) (a:(List Rect)):Option (Region×Int):=
 br (decide ((120:Int)<((List.length a:Nat):Int))) (some ((⟨[]⟩ : Region),(1:Int))) (some ((⟨a⟩ : Region),(0:Int)))
def ref04_Of_k1 (F:Nat) (b:(List Rect)):Option (Region×Int):=
 (ref04_Combine F b ([]) (1:Int)).bind fun c=>
 (ref04_Bound F c).bind fun a=>
 some (a.1,a.2)
def ref04_Of_b0 (F:Nat) (b:(List Rect)) (c:(Int)→Option (Region×Int)) (a:Int):Option (Region×Int):=
 br (decide (a<((List.length b:Nat):Int))) (gd (0≤a∧a<((List.length b:Nat):Int)) <|
 (ref04_proper F (gl b a.toNat)).bind fun d=>
 br (!d) (some ((⟨[]⟩ : Region),(2:Int))) (gd (I64 (a+(1:Int))) <|
 c (a+(1:Int)))) (ref04_Of_k1 F b)
def ref04_Of (F:Nat) (a:(List Rect)):Option (Region×Int):=
 br (decide ((120:Int)<((List.length a:Nat):Int))) (some ((⟨[]⟩ : Region),(1:Int))) (loopN (fun again (z:Int)=>ref04_Of_b0 F a again z) F (0:Int))
def keep_Tape_Region_k1 (F:Nat) (a:(List Rect)) (b:(List Int)) (c:Int):Option (Tape×Region):=
 (ref04_Of F a).bind fun d=>
 some ((⟨b,c⟩ : Tape),d.1)
def keep_Tape_Region_b0 (F:Nat) (j:Int) (i:(Int×(List Int)×Int×(List Rect))→Option (Tape×Region)) (b:Int) (d:(List Int)) (e:Int) (c:(List Rect)):Option (Tape×Region):=
 br (decide ((0:Int)<b)) ((keep_Tape_Rect F (⟨d,e⟩ : Tape) j).bind fun a=>
 gd ((List.length (α:=Rect) c)+(List.length (α:=Rect) ([a.2]:List Rect))≤LIM) <|
 gd (I64 (b-(1:Int))) <|
 i ((b-(1:Int)),a.1.l_,a.1.at_,(c++([a.2]:List Rect)))) (keep_Tape_Region_k1 F c d e)
def keep_Tape_Region (F:Nat) (c:Tape) (d:Int) (b:Int):Option (Tape×Region):=
 gd (I64 (b+(1:Int))) <|
 (keep_Tape_Next F c (b+(1:Int))).bind fun a=>
 loopN (fun again (z:Int×(List Int)×Int×(List Rect))=>keep_Tape_Region_b0 F d again z.1 z.2.1 z.2.2.1 z.2.2.2) F (a.2,a.1.l_,a.1.at_,([]:List Rect))
def ref04_Rects_k1 (F:Nat):Option (Bool):=
 some true
def ref04_Rects_b0 (F:Nat) (b:(List Rect)) (c:(List Rect)) (d:(Int)→Option (Bool)) (a:Int):Option (Bool):=
 br (decide (a<((List.length b:Nat):Int))) (gd (0≤a∧a<((List.length b:Nat):Int)) <|
 gd (0≤a∧a<((List.length c:Nat):Int)) <|
 br (!((((gl b a.toNat).left_)==((gl c a.toNat).left_))&&((((gl b a.toNat).low_)==((gl c a.toNat).low_))&&((((gl b a.toNat).right_)==((gl c a.toNat).right_))&&((((gl b a.toNat).high_)==((gl c a.toNat).high_))&&true))))) (some false) (gd (I64 (a+(1:Int))) <|
 d (a+(1:Int)))) (ref04_Rects_k1 F)
def ref04_Rects (F:Nat) (a:(List Rect)) (b:(List Rect)):Option (Bool):=
 br (((List.length a:Nat):Int) != ((List.length b:Nat):Int)) (some false) (loopN (fun again (z:Int)=>ref04_Rects_b0 F a b again z) F (0:Int))
def ref04_Valid_k1 (F:Nat) (a:Region):Option (Bool):=
 (ref04_Combine F a.rects_ ([]) (1:Int)).bind fun b=>
 (ref04_Rects F b a.rects_).bind fun c=>
 some c
def ref04_Valid_b0 (F:Nat) (b:Region) (c:(Int)→Option (Bool)) (a:Int):Option (Bool):=
 br (decide (a<((List.length b.rects_:Nat):Int))) (gd (0≤a∧a<((List.length b.rects_:Nat):Int)) <|
 (ref04_proper F (gl b.rects_ a.toNat)).bind fun d=>
 br (!d) (some false) (gd (I64 (a+(1:Int))) <|
 c (a+(1:Int)))) (ref04_Valid_k1 F b)
def ref04_Valid (F:Nat) (a:Region):Option (Bool):=
 br (decide ((120:Int)<((List.length a.rects_:Nat):Int))) (some false) (loopN (fun again (z:Int)=>ref04_Valid_b0 F a again z) F (0:Int))
def keep_Tape_One (F:Nat) (c:Tape) (a:Int):Option (Tape×Bool):=
 (keep_Tape_Next F c a).bind fun b=>
 gd (I64 (a-(1:Int))) <|
 some (b.1,(b.2==(a-(1:Int))))
def keep_Tape_Broken_k1 (F:Nat) (a:(List Rect)) (b:(List Int)) (c:Int):Option (Tape×Region):=
 some ((⟨b,c⟩ : Tape),(⟨a⟩ : Region))
def keep_Tape_Broken_k0 (F:Nat) (b:Tape×Region) (i:Bool) (d:(List Int)) (e:Int):Option (Tape×Region):=
 br i (some ((⟨d,e⟩ : Tape),b.2)) (gd ((0)+(List.length (α:=Rect) b.2.rects_)≤LIM) <|
 (keep_Tape_Next F (⟨d,e⟩ : Tape) ((List.length (([]:List Rect)++b.2.rects_):Nat):Int)).bind fun a=>
 (keep_Tape_Next F a.1 (5:Int)).bind fun c=>
 br (c.2==(0:Int)) (gd (0≤a.2∧a.2<((List.length (([]:List Rect)++b.2.rects_):Nat):Int)) <|
 gd (I64 (((gl (([]:List Rect)++b.2.rects_) a.2.toNat).right_)+(1:Int))) <|
 gd (0≤a.2∧a.2<((List.length (([]:List Rect)++b.2.rects_):Nat):Int)) <|
 keep_Tape_Broken_k1 F (List.set (([]:List Rect)++b.2.rects_) a.2.toNat (⟨(gl (([]:List Rect)++b.2.rects_) a.2.toNat).left_,(gl (([]:List Rect)++b.2.rects_) a.2.toNat).low_,(((gl (([]:List Rect)++b.2.rects_) a.2.toNat).right_)+(1:Int)),(gl (([]:List Rect)++b.2.rects_) a.2.toNat).high_⟩ : Rect)) c.1.l_ c.1.at_) (br (c.2==(1:Int)) (gd (0≤a.2∧a.2<((List.length (([]:List Rect)++b.2.rects_):Nat):Int)) <|
 keep_Tape_Broken_k1 F (List.set (([]:List Rect)++b.2.rects_) a.2.toNat (⟨(-1:Int),(gl (([]:List Rect)++b.2.rects_) a.2.toNat).low_,(gl (([]:List Rect)++b.2.rects_) a.2.toNat).right_,(gl (([]:List Rect)++b.2.rects_) a.2.toNat).high_⟩ : Rect)) c.1.l_ c.1.at_) (br (c.2==(2:Int)) (gd (0≤a.2∧a.2<((List.length (([]:List Rect)++b.2.rects_):Nat):Int)) <|
 gd ((List.length (α:=Rect) (([]:List Rect)++b.2.rects_))+(List.length (α:=Rect) ([(gl (([]:List Rect)++b.2.rects_) a.2.toNat)]:List Rect))≤LIM) <|
 keep_Tape_Broken_k1 F ((([]:List Rect)++b.2.rects_)++([(gl (([]:List Rect)++b.2.rects_) a.2.toNat)]:List Rect)) c.1.l_ c.1.at_) (br (c.2==(3:Int)) (gd (0≤a.2∧a.2<((List.length (([]:List Rect)++b.2.rects_):Nat):Int)) <|
 gd (0≤(0:Int)∧(0:Int)<((List.length (([]:List Rect)++b.2.rects_):Nat):Int)) <|
 gd (0≤(0:Int)∧(0:Int)<((List.length (([]:List Rect)++b.2.rects_):Nat):Int)) <|
 gd (0≤a.2∧a.2<((List.length (List.set (([]:List Rect)++b.2.rects_) (0:Int).toNat (gl (([]:List Rect)++b.2.rects_) a.2.toNat)):Nat):Int)) <|
 keep_Tape_Broken_k1 F (List.set (List.set (([]:List Rect)++b.2.rects_) (0:Int).toNat (gl (([]:List Rect)++b.2.rects_) a.2.toNat)) a.2.toNat (gl (([]:List Rect)++b.2.rects_) (0:Int).toNat)) c.1.l_ c.1.at_) (gd (0≤a.2∧a.2<((List.length (([]:List Rect)++b.2.rects_):Nat):Int)) <|
 gd (0≤a.2∧a.2<((List.length (([]:List Rect)++b.2.rects_):Nat):Int)) <|
 keep_Tape_Broken_k1 F (List.set (([]:List Rect)++b.2.rects_) a.2.toNat (⟨(gl (([]:List Rect)++b.2.rects_) a.2.toNat).left_,(gl (([]:List Rect)++b.2.rects_) a.2.toNat).low_,(gl (([]:List Rect)++b.2.rects_) a.2.toNat).right_,(gl (([]:List Rect)++b.2.rects_) a.2.toNat).low_⟩ : Rect)) c.1.l_ c.1.at_)))))
def keep_Tape_Broken (F:Nat) (c:Tape) (d:Int) (e:Int):Option (Tape×Region):=
 (keep_Tape_Region F c d e).bind fun a=>
 br (((List.length a.2.rects_:Nat):Int)==(0:Int)) (keep_Tape_Broken_k0 F a true a.1.l_ a.1.at_) ((keep_Tape_One F a.1 (6:Int)).bind fun b=>
 keep_Tape_Broken_k0 F a (!b.2) b.1.l_ b.1.at_)
def ref04_Same (F:Nat) (a:Region) (b:Region):Option (Bool):=
 (ref04_Rects F a.rects_ b.rects_).bind fun c=>
 some c
def region_Limited (F:Nat) (a:(List Rect)):Option (Region×Int):=
 br (decide ((120:Int)<((List.length a:Nat):Int))) (some ((⟨[]⟩ : Region),(1:Int))) (some ((⟨a⟩ : Region),(0:Int)))
def region_Joined (F:Nat) (b:(List Rect)):Option (Region×Int):=
 (region_canonical F b).bind fun c=>
 (region_Limited F c).bind fun a=>
 some (a.1,a.2)
def region_overlap_k0 (F:Nat) (a:Bool):Option (Bool):=
 some a
def region_overlap (F:Nat) (a:Rect) (b:Rect):Option (Bool):=
 br (decide (a.left_<b.right_)) (br (decide (b.left_<a.right_)) (br (decide (a.low_<b.high_)) (region_overlap_k0 F (decide (b.low_<a.high_))) (region_overlap_k0 F false)) (region_overlap_k0 F false)) (region_overlap_k0 F false)
def region_Meets_1_1 (F:Nat) (a:Rect) (b:Rect):Option (Bool):=
 (region_overlap F b a).bind fun c=>
 some c
def region_Meets_1 (F:Nat) (a:Rect) (b:Region):Option (Bool):=
 (slices_ContainsFunc_Rect F b.rects_ (fun y0=>region_Meets_1_1 F y0 a)).bind fun c=>
 some c
def region_Meets_k0 (F:Nat) (a:Bool):Option (Bool):=
 some a
def region_Meets (F:Nat) (a:Region) (b:Region):Option (Bool):=
 (region_Valid F a).bind fun c=>
 br c ((region_Valid F b).bind fun d=>
 br d ((slices_ContainsFunc_Rect F a.rects_ (fun y0=>region_Meets_1 F y0 b)).bind fun e=>
 region_Meets_k0 F e) (region_Meets_k0 F false)) (region_Meets_k0 F false)
def ref04_Meets_k0 (F:Nat) (a:Bool):Option (Bool):=
 some a
def ref04_Meets (F:Nat) (a:Region) (b:Region):Option (Bool):=
 (ref04_Valid F a).bind fun c=>
 br c ((ref04_Valid F b).bind fun d=>
 br d ((ref04_Combine F a.rects_ b.rects_ (2:Int)).bind fun e=>
 ref04_Meets_k0 F (decide ((0:Int)<((List.length e:Nat):Int)))) (ref04_Meets_k0 F false)) (ref04_Meets_k0 F false)
def ref15_Check_k4 (F:Nat) (a:Int) (b:(Int)→Option (Int)) (c:Bool):Option (Int):=
 br c (some (3:Int)) (gd (I64 (a+(1:Int))) <|
 b (a+(1:Int)))
def ref15_Check_k3 (F:Nat) (b:(List Record)) (a:Int) (c:(Int)→Option (Int)) (d:Bool):Option (Int):=
 br d (some (7:Int)) (br (decide ((0:Int)<a)) (gd (I64 (a-(1:Int))) <|
 gd (0≤(a-(1:Int))∧(a-(1:Int))<((List.length b:Nat):Int)) <|
 br (decide (((gl b a.toNat).year_)<((gl b (a-(1:Int)).toNat).year_))) (ref15_Check_k4 F a c true) (gd (I64 (a-(1:Int))) <|
 gd (0≤(a-(1:Int))∧(a-(1:Int))<((List.length b:Nat):Int)) <|
 br (((gl b a.toNat).year_)==((gl b (a-(1:Int)).toNat).year_)) (gd (I64 (a-(1:Int))) <|
 gd (0≤(a-(1:Int))∧(a-(1:Int))<((List.length b:Nat):Int)) <|
 ref15_Check_k4 F a c (decide (((gl b a.toNat).crop_)≤((gl b (a-(1:Int)).toNat).crop_)))) (ref15_Check_k4 F a c false))) (ref15_Check_k4 F a c false))
def ref15_Check_k2 (F:Nat) (b:(List Record)) (a:Int) (c:(Int)→Option (Int)) (d:Bool):Option (Int):=
 br d (some (13:Int)) ((ref04_Valid F ((gl b a.toNat).region_)).bind fun e=>
 br (!e) (ref15_Check_k3 F b a c true) (ref15_Check_k3 F b a c (((List.length ((gl b a.toNat).region_.rects_):Nat):Int)==(0:Int))))
def ref15_Check_k1 (F:Nat) (b:(List Record)) (a:Int) (c:(Int)→Option (Int)) (d:Bool):Option (Int):=
 br d (some (18:Int)) (br (decide (((gl b a.toNat).crop_)<(0:Int))) (ref15_Check_k2 F b a c true) (ref15_Check_k2 F b a c (decide ((40:Int)≤((gl b a.toNat).crop_)))))
def ref15_Check_k8 (F:Nat) (a:Int) (b:(Int)→Option (Int)) (c:Bool):Option (Int):=
 br c (some (11:Int)) (gd (I64 (a+(1:Int))) <|
 b (a+(1:Int)))
def ref15_Check_k9 (F:Nat) (a:Int) (b:(Int)→Option (Int)):Option (Int):=
 gd (I64 (a+(1:Int))) <|
 b (a+(1:Int))
def ref15_Check_b7 (F:Nat) (c:(List Record)) (a:Int) (e:(Int)→Option (Int)) (d:(Int)→Option (Int)) (b:Int):Option (Int):=
 br (decide (b<((List.length (c.take a.toNat):Nat):Int))) (gd (0≤b∧b<((List.length (c.take a.toNat):Nat):Int)) <|
 br (((gl (c.take a.toNat) b.toNat).year_)==((gl c a.toNat).year_)) ((ref04_Meets F ((gl (c.take a.toNat) b.toNat).region_) ((gl c a.toNat).region_)).bind fun i=>
 ref15_Check_k8 F b d i) (ref15_Check_k8 F b d false)) (ref15_Check_k9 F a e)
def ref15_Check_k10 (F:Nat):Option (Int):=
 some (0:Int)
def ref15_Check_b6 (F:Nat) (b:(List Record)) (c:(Int)→Option (Int)) (a:Int):Option (Int):=
 br (decide (a<((List.length b:Nat):Int))) (gd (0≤a∧a<((List.length b:Nat):Int)) <|
 gd (0≤a∧a≤((List.length b:Nat):Int)) <|
 loopN (fun again (z:Int)=>ref15_Check_b7 F b a c again z) F (0:Int)) (ref15_Check_k10 F)
def ref15_Check_k5 (F:Nat) (a:(List Record)):Option (Int):=
 loopN (fun again (z:Int)=>ref15_Check_b6 F a again z) F (0:Int)
def ref15_Check_b0 (F:Nat) (b:(List Record)) (c:(Int)→Option (Int)) (a:Int):Option (Int):=
 br (decide (a<((List.length b:Nat):Int))) (gd (0≤a∧a<((List.length b:Nat):Int)) <|
 br (decide (((gl b a.toNat).year_)<(0:Int))) (ref15_Check_k1 F b a c true) (ref15_Check_k1 F b a c (decide ((100:Int)<((gl b a.toNat).year_))))) (ref15_Check_k5 F b)
def ref15_Check (F:Nat) (a:(List Record)):Option (Int):=
 br (decide ((200:Int)<((List.length a:Nat):Int))) (some (1:Int)) (loopN (fun again (z:Int)=>ref15_Check_b0 F a again z) F (0:Int))
def ref15_Add_k5 (F:Nat) (a:Int) (b:((List Rect)×Int×(List Record))→Option ((List Record)×Int)) (c:(List Rect)) (d:(List Record)):Option ((List Record)×Int):=
 gd (I64 (a+(1:Int))) <|
 b (c,(a+(1:Int)),d)
def ref15_Add_k4 (F:Nat) (b:(List Record)) (i:(List Rect)) (a:Int) (c:(List Record)) (e:((List Rect)×Int×(List Record))→Option ((List Record)×Int)) (d:(List Rect)):Option ((List Record)×Int):=
 br (decide ((0:Int)<((List.length d:Nat):Int))) (gd ((List.length (α:=Record) c)+(List.length (α:=Record) ([(⟨(gl b a.toNat).year_,(gl b a.toNat).crop_,(⟨d⟩ : Region)⟩ : Record)]:List Record))≤LIM) <|
 ref15_Add_k5 F a e i (c++([(⟨(gl b a.toNat).year_,(gl b a.toNat).crop_,(⟨d⟩ : Region)⟩ : Record)]:List Record))) (ref15_Add_k5 F a e i c)
def ref15_Add_k3 (F:Nat) (b:(List Record)) (j:Int) (k:Region) (d:(List Rect)) (a:Int) (e:(List Record)) (c:((List Rect)×Int×(List Record))→Option ((List Record)×Int)) (i:Bool):Option ((List Record)×Int):=
 br i ((ref04_Combine F d ((gl b a.toNat).region_.rects_) (1:Int)).bind fun l=>
 ref15_Add_k5 F a c l e) (br (((gl b a.toNat).year_)==j) ((ref04_Combine F ((gl b a.toNat).region_.rects_) k.rects_ (3:Int)).bind fun m=>
 ref15_Add_k4 F b d a e c m) (ref15_Add_k4 F b d a e c ((gl b a.toNat).region_.rects_)))
def ref15_Add_k12 (F:Nat) (a:(List Record)):Option ((List Record)×Int):=
 some (a,(0:Int))
def ref15_Add_b11 (F:Nat) (b:(List Record)) (c:(Int)→Option ((List Record)×Int)) (a:Int):Option ((List Record)×Int):=
 br (decide (a<((List.length b:Nat):Int))) (gd (0≤a∧a<((List.length b:Nat):Int)) <|
 br (decide ((120:Int)<((List.length ((gl b a.toNat).region_.rects_):Nat):Int))) (some ([],(1:Int))) (gd (I64 (a+(1:Int))) <|
 c (a+(1:Int)))) (ref15_Add_k12 F b)
def ref15_Add_k10 (F:Nat) (a:(List Record)):Option ((List Record)×Int):=
 br (decide ((200:Int)<((List.length a:Nat):Int))) (some ([],(1:Int))) (loopN (fun again (z:Int)=>ref15_Add_b11 F a again z) F (0:Int))
def ref15_Add_k9 (F:Nat) (d:Int) (e:Int) (c:(List Rect)) (b:(List Record)) (a:Int):Option ((List Record)×Int):=
 gd (0≤(0:Int)∧(0:Int)≤a∧((0:Nat):Int)+a≤((List.length (α:=Record) b:Nat):Int)) <|
 gd (0+((a).toNat)≤List.length (α:=Record) b) <|
 gd ((0)+(((a).toNat))≤LIM) <|
 gd (((0)+(((a).toNat)))+(List.length (α:=Record) ([(⟨d,e,(⟨c⟩ : Region)⟩ : Record)]:List Record))≤LIM) <|
 gd (0≤a∧a≤(((List.length (α:=Record) b):Nat):Int)∧((0:Nat):Int)+(((List.length (α:=Record) b):Nat):Int)≤((List.length (α:=Record) b:Nat):Int)) <|
 gd ((0+(a).toNat)+((List.length (α:=Record) b)-(a).toNat)≤List.length (α:=Record) b) <|
 gd ((((0)+(((a).toNat)))+(List.length (α:=Record) ([(⟨d,e,(⟨c⟩ : Region)⟩ : Record)]:List Record)))+(((List.length (α:=Record) b)-(a).toNat))≤LIM) <|
 ref15_Add_k10 F (((([]:List Record)++((b.drop 0).take ((a).toNat)))++([(⟨d,e,(⟨c⟩ : Region)⟩ : Record)]:List Record))++((b.drop (0+(a).toNat)).take ((List.length (α:=Record) b)-(a).toNat)))
def ref15_Add_k8 (F:Nat) (i:Int) (j:Int) (c:(List Rect)) (d:(List Record)) (a:Int) (b:(Int)→Option ((List Record)×Int)) (e:Bool):Option ((List Record)×Int):=
 br e (gd (I64 (a+(1:Int))) <|
 b (a+(1:Int))) (ref15_Add_k9 F i j c d a)
def ref15_Add_b7 (F:Nat) (c:Int) (d:Int) (i:(List Rect)) (b:(List Record)) (e:(Int)→Option ((List Record)×Int)) (a:Int):Option ((List Record)×Int):=
 br (decide (a<((List.length b:Nat):Int))) (gd (0≤a∧a<((List.length b:Nat):Int)) <|
 br (decide (((gl b a.toNat).year_)<c)) (ref15_Add_k8 F c d i b a e true) (gd (0≤a∧a<((List.length b:Nat):Int)) <|
 br (((gl b a.toNat).year_)==c) (gd (0≤a∧a<((List.length b:Nat):Int)) <|
 ref15_Add_k8 F c d i b a e (decide (((gl b a.toNat).crop_)<d))) (ref15_Add_k8 F c d i b a e false))) (ref15_Add_k8 F c d i b a e false)
def ref15_Add_k6 (F:Nat) (c:Int) (d:Int) (a:(List Rect)) (b:(List Record)):Option ((List Record)×Int):=
 br (decide ((0:Int)<((List.length a:Nat):Int))) (loopN (fun again (z:Int)=>ref15_Add_b7 F c d a b again z) F (0:Int)) (ref15_Add_k10 F b)
def ref15_Add_b2 (F:Nat) (b:(List Record)) (c:Int) (j:Int) (k:Region) (i:((List Rect)×Int×(List Record))→Option ((List Record)×Int)) (d:(List Rect)) (a:Int) (e:(List Record)):Option ((List Record)×Int):=
 br (decide (a<((List.length b:Nat):Int))) (gd (0≤a∧a<((List.length b:Nat):Int)) <|
 br (((gl b a.toNat).year_)==c) (ref15_Add_k3 F b c k d a e i (((gl b a.toNat).crop_)==j)) (ref15_Add_k3 F b c k d a e i false)) (ref15_Add_k6 F c j d e)
def ref15_Add_k1 (F:Nat) (c:(List Record)) (d:Int) (e:Int) (a:Region) (b:Bool):Option ((List Record)×Int):=
 br b (some ([],(13:Int))) ((ref04_Valid F a).bind fun i=>
 br (!i) (some ([],(7:Int))) (loopN (fun again (z:(List Rect)×Int×(List Record))=>ref15_Add_b2 F c d e a again z.1 z.2.1 z.2.2) F (a.rects_,(0:Int),([]:List Record))))
def ref15_Add_k0 (F:Nat) (b:(List Record)) (c:Int) (a:Int) (d:Region) (e:Bool):Option ((List Record)×Int):=
 br e (some ([],(18:Int))) (br (decide (a<(0:Int))) (ref15_Add_k1 F b c a d true) (ref15_Add_k1 F b c a d (decide ((40:Int)≤a))))
def ref15_Add (F:Nat) (b:(List Record)) (a:Int) (c:Int) (d:Region):Option ((List Record)×Int):=
 (ref15_Check F b).bind fun e=>
 br (e != (0:Int)) (some ([],e)) (br (decide (a<(0:Int))) (ref15_Add_k0 F b a c d true) (ref15_Add_k0 F b a c d (decide ((100:Int)<a))))
def history_single_k2 (F:Nat) (a:Bool):Option (Int):=
 br a (some (7:Int)) (some (0:Int))
def history_single_k1 (F:Nat) (a:Record) (b:Bool):Option (Int):=
 br b (some (13:Int)) (br (((List.length a.region_.rects_:Nat):Int)==(0:Int)) (history_single_k2 F true) ((region_Valid F a.region_).bind fun c=>
 history_single_k2 F (!c)))
def history_single_k0 (F:Nat) (a:Record) (b:Bool):Option (Int):=
 br b (some (18:Int)) (br (decide (a.crop_<(0:Int))) (history_single_k1 F a true) (history_single_k1 F a (decide ((40:Int)≤a.crop_))))
def history_single (F:Nat) (a:Record):Option (Int):=
 br (decide (a.year_<(0:Int))) (history_single_k0 F a true) (history_single_k0 F a (decide ((100:Int)<a.year_)))
def cmp_Or_int_k1 (F:Nat):Option (Int):=
 some (0:Int)
def cmp_Or_int_b0 (F:Nat) (b:(List Int)) (c:(Int)→Option (Int)) (a:Int):Option (Int):=
 br (decide (a<((List.length b:Nat):Int))) (gd (0≤a∧a<((List.length b:Nat):Int)) <|
 br ((gl b a.toNat) != (0:Int)) (some (gl b a.toNat)) (gd (I64 (a+(1:Int))) <|
 c (a+(1:Int)))) (cmp_Or_int_k1 F)
def cmp_Or_int (F:Nat) (a:(List Int)):Option (Int):=
 loopN (fun again (z:Int)=>cmp_Or_int_b0 F a again z) F (0:Int)
def history_compare (F:Nat) (a:Record) (b:Record):Option (Int):=
 (cmp_Compare_int F a.year_ b.year_).bind fun c=>
 (cmp_Compare_int F a.crop_ b.crop_).bind fun d=>
 (cmp_Or_int F ([c,d]:List Int)).bind fun e=>
 some e
def history_years_k1 (F:Nat) (a:(List (Int×(List Record)))):Option ((List (Int×(List Record)))):=
 some a
def history_years_b0 (F:Nat) (b:(List Record)) (d:(Int×(List (Int×(List Record))))→Option ((List (Int×(List Record))))) (a:Int) (c:(List (Int×(List Record)))):Option ((List (Int×(List Record)))):=
 br (decide (a<((List.length b:Nat):Int))) (gd (0≤a∧a<((List.length b:Nat):Int)) <|
 gd ((gRow ((gl b a.toNat).year_) c).length+List.length ([(gl b a.toNat)]:List Record)≤LIM) <|
 gd (I64 (a+(1:Int))) <|
 d ((a+(1:Int)),(gApp ((gl b a.toNat).year_) ([(gl b a.toNat)]:List Record) c))) (history_years_k1 F c)
def history_years (F:Nat) (a:(List Record)):Option ((List (Int×(List Record)))):=
 loopN (fun again (z:Int×(List (Int×(List Record))))=>history_years_b0 F a again z.1 z.2) F ((0:Int),([]:List (Int×(List Record))))
def history_Check_1 (F:Nat) (a:Record) (b:Record):Option (Bool):=
 (region_Meets F a.region_ b.region_).bind fun c=>
 some c
def slices_IndexFunc_Record_k1 (F:Nat):Option (Int):=
 some (-1:Int)
def slices_IndexFunc_Record_b0 (F:Nat) (b:(List Record)) (d:Record→Option Bool) (c:(Int)→Option (Int)) (a:Int):Option (Int):=
 br (decide (a<((List.length b:Nat):Int))) (gd (0≤a∧a<((List.length b:Nat):Int)) <|
 (d (gl b a.toNat)).bind fun e=>
 br e (some a) (gd (I64 (a+(1:Int))) <|
 c (a+(1:Int)))) (slices_IndexFunc_Record_k1 F)
def slices_IndexFunc_Record (F:Nat) (a:(List Record)) (b:Record→Option Bool):Option (Int):=
 loopN (fun again (z:Int)=>slices_IndexFunc_Record_b0 F a b again z) F (0:Int)
def slices_ContainsFunc_Record (F:Nat) (a:(List Record)) (b:Record→Option Bool):Option (Bool):=
 (slices_IndexFunc_Record F a b).bind fun c=>
 some (decide ((0:Int)≤c))
def history_Check_k1 (F:Nat) (a:Int) (b:(Int)→Option (Int)) (c:Bool):Option (Int):=
 br c (some (3:Int)) (gd (I64 (a+(1:Int))) <|
 b (a+(1:Int)))
def history_Check_k5 (F:Nat):Option (Int):=
 some (0:Int)
def history_Check_b4 (F:Nat) (b:(Int×(List Record))) (e:(List (Int×(List Record)))) (c:((List (Int×(List Record))))→Option (Int)) (d:(Int)→Option (Int)) (a:Int):Option (Int):=
 br (decide (a<((List.length b.2:Nat):Int))) (gd (0≤a∧a<((List.length b.2:Nat):Int)) <|
 gd (0≤a∧a≤((List.length b.2:Nat):Int)) <|
 (slices_ContainsFunc_Record F (b.2.take a.toNat) (fun y0=>history_Check_1 F y0 (gl b.2 a.toNat))).bind fun i=>
 br i (some (11:Int)) (gd (I64 (a+(1:Int))) <|
 d (a+(1:Int)))) (c e)
def history_Check_b3 (F:Nat) (a:((List (Int×(List Record))))→Option (Int)) (b:(List (Int×(List Record)))):Option (Int):=
 nextM b (history_Check_k5 F) (fun c d=>
 loopN (fun again (z:Int)=>history_Check_b4 F c d a again z) F (0:Int))
def history_Check_k2 (F:Nat) (a:(List Record)):Option (Int):=
 (history_years F a).bind fun b=>
 loopN (fun again (z:(List (Int×(List Record))))=>history_Check_b3 F again z) F b
def history_Check_b0 (F:Nat) (b:(List Record)) (c:(Int)→Option (Int)) (a:Int):Option (Int):=
 br (decide (a<((List.length b:Nat):Int))) (gd (0≤a∧a<((List.length b:Nat):Int)) <|
 (history_single F (gl b a.toNat)).bind fun d=>
 br (d != (0:Int)) (some d) (br (decide ((0:Int)<a)) (gd (I64 (a-(1:Int))) <|
 gd (0≤(a-(1:Int))∧(a-(1:Int))<((List.length b:Nat):Int)) <|
 (history_compare F (gl b (a-(1:Int)).toNat) (gl b a.toNat)).bind fun e=>
 history_Check_k1 F a c (decide ((0:Int)≤e))) (history_Check_k1 F a c false))) (history_Check_k2 F b)
def history_Check (F:Nat) (a:(List Record)):Option (Int):=
 br (decide ((200:Int)<((List.length a:Nat):Int))) (some (1:Int)) (loopN (fun again (z:Int)=>history_Check_b0 F a again z) F (0:Int))
def words_Name_k3 (F:Nat) (a:Int) (b:(Int)→Option (Bool)) (c:Bool):Option (Bool):=
 br c (some false) (gd (I64 (a+(1:Int))) <|
 b (a+(1:Int)))
def words_Name_k2 (F:Nat) (a:Int) (c:Bool) (b:(Int)→Option (Bool)) (d:Bool):Option (Bool):=
 br (!c) (br (a==(0:Int)) (words_Name_k3 F a b true) (words_Name_k3 F a b (!d))) (words_Name_k3 F a b false)
def words_Name_k1 (F:Nat) (b:ByteArray) (a:Int) (c:(Int)→Option (Bool)) (d:Bool):Option (Bool):=
 gd (0≤a∧a<((b.size:Nat):Int)) <|
 br (decide ((48:Int)≤(sAt b a))) (gd (0≤a∧a<((b.size:Nat):Int)) <|
 words_Name_k2 F a d c (decide ((sAt b a)≤(57:Int)))) (words_Name_k2 F a d c false)
def words_Name_k5 (F:Nat) (a:Bool):Option (Bool):=
 some a
def words_Name_k4 (F:Nat) (a:ByteArray):Option (Bool):=
 br (decide ((1:Int)≤((a.size:Nat):Int))) (words_Name_k5 F (decide (((a.size:Nat):Int)≤(12:Int)))) (words_Name_k5 F false)
def words_Name_b0 (F:Nat) (b:ByteArray) (c:(Int)→Option (Bool)) (a:Int):Option (Bool):=
 br (decide (a<((b.size:Nat):Int))) (gd (0≤a∧a<((b.size:Nat):Int)) <|
 br (decide ((97:Int)≤(sAt b a))) (gd (0≤a∧a<((b.size:Nat):Int)) <|
 words_Name_k1 F b a c (decide ((sAt b a)≤(122:Int)))) (words_Name_k1 F b a c false)) (words_Name_k4 F b)
def words_Name (F:Nat) (a:ByteArray):Option (Bool):=
 loopN (fun again (z:Int)=>words_Name_b0 F a again z) F (0:Int)
def crop_Check_k3 (F:Nat) (a:Int) (b:(Int)→Option (Int)) (c:Bool):Option (Int):=
 br c (some (6:Int)) (gd (I64 (a+(1:Int))) <|
 b (a+(1:Int)))
def crop_Check_k2 (F:Nat) (b:(List Crop)) (a:Int) (c:(Int)→Option (Int)) (d:Bool):Option (Int):=
 br d (some (14:Int)) (br (decide ((0:Int)<a)) (gd (I64 (a-(1:Int))) <|
 gd (0≤(a-(1:Int))∧(a-(1:Int))<((List.length b:Nat):Int)) <|
 crop_Check_k3 F a c (sLt ((gl b a.toNat).name_) ((gl b (a-(1:Int)).toNat).name_)||sEq ((gl b a.toNat).name_) ((gl b (a-(1:Int)).toNat).name_))) (crop_Check_k3 F a c false))
def crop_Check_k1 (F:Nat) (b:(List Crop)) (a:Int) (c:(Int)→Option (Int)) (d:Bool):Option (Int):=
 br d (some (2:Int)) (br (decide (((gl b a.toNat).marks_)<(0:Int))) (crop_Check_k2 F b a c true) (crop_Check_k2 F b a c (decide ((31:Int)<((gl b a.toNat).marks_)))))
def crop_Check_k4 (F:Nat):Option (Int):=
 some (0:Int)
def crop_Check_b0 (F:Nat) (b:(List Crop)) (c:(Int)→Option (Int)) (a:Int):Option (Int):=
 br (decide (a<((List.length b:Nat):Int))) (gd (0≤a∧a<((List.length b:Nat):Int)) <|
 (words_Name F ((gl b a.toNat).name_)).bind fun d=>
 br (!d) (some (5:Int)) (br (decide (((gl b a.toNat).family_)<(0:Int))) (crop_Check_k1 F b a c true) (crop_Check_k1 F b a c (decide ((40:Int)<((gl b a.toNat).family_)))))) (crop_Check_k4 F)
def crop_Check (F:Nat) (a:(List Crop)):Option (Int):=
 br (decide ((40:Int)<((List.length a:Nat):Int))) (some (1:Int)) (loopN (fun again (z:Int)=>crop_Check_b0 F a again z) F (0:Int))
def history_Listed_1 (F:Nat) (a:Record) (b:(List Crop)):Option (Bool):=
 some (decide (((List.length b:Nat):Int)≤a.crop_))
def history_Listed (F:Nat) (a:(List Record)) (b:(List Crop)):Option (Int):=
 (history_Check F a).bind fun c=>
 br (c != (0:Int)) (some c) ((crop_Check F b).bind fun d=>
 br (d != (0:Int)) (some d) ((slices_ContainsFunc_Record F a (fun y0=>history_Listed_1 F y0 b)).bind fun e=>
 br e (some (13:Int)) (some (0:Int))))
def slices_IndexFunc_int_k1 (F:Nat):Option (Int):=
 some (-1:Int)
def slices_IndexFunc_int_b0 (F:Nat) (b:(List Int)) (d:Int→Option Bool) (c:(Int)→Option (Int)) (a:Int):Option (Int):=
 br (decide (a<((List.length b:Nat):Int))) (gd (0≤a∧a<((List.length b:Nat):Int)) <|
 (d (gl b a.toNat)).bind fun e=>
 br e (some a) (gd (I64 (a+(1:Int))) <|
 c (a+(1:Int)))) (slices_IndexFunc_int_k1 F)
def slices_IndexFunc_int (F:Nat) (a:(List Int)) (b:Int→Option Bool):Option (Int):=
 loopN (fun again (z:Int)=>slices_IndexFunc_int_b0 F a b again z) F (0:Int)
def slices_ContainsFunc_int (F:Nat) (a:(List Int)) (b:Int→Option Bool):Option (Bool):=
 (slices_IndexFunc_int F a b).bind fun c=>
 some (decide ((0:Int)≤c))
def grassland_records_check_1_k0 (F:Nat) (a:Bool):Option (Bool):=
 some a
def grassland_records_check_1 (F:Nat) (a:Int):Option (Bool):=
 br (decide (a<(0:Int))) (grassland_records_check_1_k0 F true) (grassland_records_check_1_k0 F (decide ((100:Int)<a)))
def slices_IndexFunc_Region_k1 (F:Nat):Option (Int):=
 some (-1:Int)
def slices_IndexFunc_Region_b0 (F:Nat) (b:(List Region)) (d:Region→Option Bool) (c:(Int)→Option (Int)) (a:Int):Option (Int):=
 br (decide (a<((List.length b:Nat):Int))) (gd (0≤a∧a<((List.length b:Nat):Int)) <|
 (d (gl b a.toNat)).bind fun e=>
 br e (some a) (gd (I64 (a+(1:Int))) <|
 c (a+(1:Int)))) (slices_IndexFunc_Region_k1 F)
def slices_IndexFunc_Region (F:Nat) (a:(List Region)) (b:Region→Option Bool):Option (Int):=
 loopN (fun again (z:Int)=>slices_IndexFunc_Region_b0 F a b again z) F (0:Int)
def slices_ContainsFunc_Region (F:Nat) (a:(List Region)) (b:Region→Option Bool):Option (Bool):=
 (slices_IndexFunc_Region F a b).bind fun c=>
 some (decide ((0:Int)≤c))
def grassland_records_check_2 (F:Nat) (a:Region):Option (Bool):=
 (region_Valid F a).bind fun b=>
 some (!b)
def grassland_records_check (F:Nat) (a:Records) (d:(List Region)) (e:(List Int)):Option (Int):=
 (history_Check F a.l_).bind fun b=>
 br (b != (0:Int)) (some b) ((history_Listed F a.l_ a.crops_).bind fun c=>
 br (c != (0:Int)) (some c) ((slices_ContainsFunc_int F e (fun y0=>grassland_records_check_1 F y0)).bind fun i=>
 br i (some (18:Int)) ((slices_ContainsFunc_Region F d (fun y0=>grassland_records_check_2 F y0)).bind fun j=>
 br j (some (7:Int)) (some (0:Int)))))
def crop_Has_k0 (F:Nat) (a:Bool):Option (Bool):=
 some a
def crop_Has (F:Nat) (b:(List Crop)) (a:Int) (c:Int):Option (Bool):=
 br (decide ((0:Int)≤a)) (br (decide (a<((List.length b:Nat):Int))) (br (c != (0:Int)) (gd (0≤a∧a<((List.length b:Nat):Int)) <|
 crop_Has_k0 F ((band .i64 ((gl b a.toNat).marks_) c)==c)) (crop_Has_k0 F false)) (crop_Has_k0 F false)) (crop_Has_k0 F false)
def grassland_records_grass (F:Nat) (a:Records) (b:Int):Option (Bool):=
 (crop_Has F a.crops_ b (2:Int)).bind fun c=>
 some c
def history_Rects_k2 (F:Nat) (a:Int) (b:(Int×(List Rect))→Option ((List Rect))) (c:(List Rect)):Option ((List Rect)):=
 gd (I64 (a+(1:Int))) <|
 b ((a+(1:Int)),c)
def history_Rects_k1 (F:Nat) (d:(List Record)) (a:Int) (b:(List Rect)) (c:(Int×(List Rect))→Option ((List Rect))) (e:Bool):Option ((List Rect)):=
 br e (gd ((List.length (α:=Rect) b)+(List.length (α:=Rect) ((gl d a.toNat).region_.rects_))≤LIM) <|
 history_Rects_k2 F a c (b++((gl d a.toNat).region_.rects_))) (history_Rects_k2 F a c b)
def history_Rects_k3 (F:Nat) (a:(List Rect)):Option ((List Rect)):=
 some a
def history_Rects_b0 (F:Nat) (b:(List Record)) (e:Int) (i:Int→Option Bool) (d:(Int×(List Rect))→Option ((List Rect))) (a:Int) (c:(List Rect)):Option ((List Rect)):=
 br (decide (a<((List.length b:Nat):Int))) (gd (0≤a∧a<((List.length b:Nat):Int)) <|
 br (((gl b a.toNat).year_)==e) ((i ((gl b a.toNat).crop_)).bind fun j=>
 history_Rects_k1 F b a c d j) (history_Rects_k1 F b a c d false)) (history_Rects_k3 F c)
def history_Rects (F:Nat) (a:(List Record)) (b:Int) (c:Int→Option Bool):Option ((List Rect)):=
 loopN (fun again (z:Int×(List Rect))=>history_Rects_b0 F a b c again z.1 z.2) F ((0:Int),([]:List Rect))
def slices_Concat_Span_k3 (F:Nat) (a:(List Span)):Option ((List Span)):=
 some a
def slices_Concat_Span_b2 (F:Nat) (b:(List (List Span))) (d:(Int×(List Span))→Option ((List Span))) (a:Int) (c:(List Span)):Option ((List Span)):=
 br (decide (a<((List.length b:Nat):Int))) (gd (0≤a∧a<((List.length b:Nat):Int)) <|
 gd ((List.length (α:=Span) c)+(List.length (α:=Span) (gl b a.toNat))≤LIM) <|
 gd (I64 (a+(1:Int))) <|
 d ((a+(1:Int)),(c++(gl b a.toNat)))) (slices_Concat_Span_k3 F c)
def slices_Concat_Span_k1 (F:Nat) (b:(List (List Span))) (a:Int):Option ((List Span)):=
 (growN a).bind fun c=>
 loopN (fun again (z:Int×(List Span))=>slices_Concat_Span_b2 F b again z.1 z.2) F ((0:Int),c)
def slices_Concat_Span_b0 (F:Nat) (b:(List (List Span))) (d:(Int×Int)→Option ((List Span))) (c:Int) (a:Int):Option ((List Span)):=
 br (decide (a<((List.length b:Nat):Int))) (gd (0≤a∧a<((List.length b:Nat):Int)) <|
 gd (I64 (c+((List.length (gl b a.toNat):Nat):Int))) <|
 br (decide ((c+((List.length (gl b a.toNat):Nat):Int))<(0:Int))) (none) (gd (I64 (a+(1:Int))) <|
 d ((c+((List.length (gl b a.toNat):Nat):Int)),(a+(1:Int))))) (slices_Concat_Span_k1 F b c)
def slices_Concat_Span (F:Nat) (a:(List (List Span))):Option ((List Span)):=
 loopN (fun again (z:Int×Int)=>slices_Concat_Span_b0 F a again z.1 z.2) F ((0:Int),(0:Int))
def region_inside_1_k0 (F:Nat) (a:Bool):Option (Bool):=
 some a
def region_inside_1 (F:Nat) (a:Span) (b:Int):Option (Bool):=
 br (decide (a.left_≤b)) (region_inside_1_k0 F (decide (b<a.right_))) (region_inside_1_k0 F false)
def slices_IndexFunc_Span_k1 (F:Nat):Option (Int):=
 some (-1:Int)
def slices_IndexFunc_Span_b0 (F:Nat) (b:(List Span)) (d:Span→Option Bool) (c:(Int)→Option (Int)) (a:Int):Option (Int):=
 br (decide (a<((List.length b:Nat):Int))) (gd (0≤a∧a<((List.length b:Nat):Int)) <|
 (d (gl b a.toNat)).bind fun e=>
 br e (some a) (gd (I64 (a+(1:Int))) <|
 c (a+(1:Int)))) (slices_IndexFunc_Span_k1 F)
def slices_IndexFunc_Span (F:Nat) (a:(List Span)) (b:Span→Option Bool):Option (Int):=
 loopN (fun again (z:Int)=>slices_IndexFunc_Span_b0 F a b again z) F (0:Int)
def slices_ContainsFunc_Span (F:Nat) (a:(List Span)) (b:Span→Option Bool):Option (Bool):=
 (slices_IndexFunc_Span F a b).bind fun c=>
 some (decide ((0:Int)≤c))
def region_inside (F:Nat) (a:(List Span)) (b:Int):Option (Bool):=
 (slices_ContainsFunc_Span F a (fun y0=>region_inside_1 F y0 b)).bind fun c=>
 some c
def region_merge_k4 (F:Nat) (a:Int) (b:(Int×(List Span))→Option ((List Span))) (c:(List Span)):Option ((List Span)):=
 gd (I64 (a+(1:Int))) <|
 b ((a+(1:Int)),c)
def region_merge_k3 (F:Nat) (c:(List Int)) (a:Int) (b:(List Span)) (d:(Int×(List Span))→Option ((List Span))) (e:Bool):Option ((List Span)):=
 br e (gd (I64 (((List.length b:Nat):Int)-(1:Int))) <|
 gd (0≤a∧a<((List.length c:Nat):Int)) <|
 gd (0≤(((List.length b:Nat):Int)-(1:Int))∧(((List.length b:Nat):Int)-(1:Int))<((List.length b:Nat):Int)) <|
 region_merge_k4 F a d (List.set b (((List.length b:Nat):Int)-(1:Int)).toNat (⟨(gl b (((List.length b:Nat):Int)-(1:Int)).toNat).left_,(gl c a.toNat)⟩ : Span))) (gd (0≤a∧a<((List.length c:Nat):Int)) <|
 gd ((List.length (α:=Span) b)+(List.length (α:=Span) ([(⟨(gl c (a-(1:Int)).toNat),(gl c a.toNat)⟩ : Span)]:List Span))≤LIM) <|
 region_merge_k4 F a d (b++([(⟨(gl c (a-(1:Int)).toNat),(gl c a.toNat)⟩ : Span)]:List Span)))
def region_merge_k5 (F:Nat) (a:(List Span)):Option ((List Span)):=
 some a
def region_merge_b2 (F:Nat) (e:(List Span)) (i:(List Span)) (j:Bool→Bool→Option Bool) (c:(List Int)) (d:(Int×(List Span))→Option ((List Span))) (b:Int) (a:(List Span)):Option ((List Span)):=
 br (decide (b<((List.length c:Nat):Int))) (gd (I64 (b-(1:Int))) <|
 gd (0≤(b-(1:Int))∧(b-(1:Int))<((List.length c:Nat):Int)) <|
 (region_inside F e (gl c (b-(1:Int)).toNat)).bind fun k=>
 (region_inside F i (gl c (b-(1:Int)).toNat)).bind fun l=>
 (j k l).bind fun m=>
 br (!m) (region_merge_k4 F b d a) (br (decide ((0:Int)<((List.length a:Nat):Int))) (gd (I64 (((List.length a:Nat):Int)-(1:Int))) <|
 gd (0≤(((List.length a:Nat):Int)-(1:Int))∧(((List.length a:Nat):Int)-(1:Int))<((List.length a:Nat):Int)) <|
 region_merge_k3 F c b a d (((gl a (((List.length a:Nat):Int)-(1:Int)).toNat).right_)==(gl c (b-(1:Int)).toNat))) (region_merge_k3 F c b a d false))) (region_merge_k5 F a)
def region_merge_k1 (F:Nat) (b:(List Span)) (c:(List Span)) (d:Bool→Bool→Option Bool) (a:(List Int)):Option ((List Span)):=
 (sortI a).bind fun e=>
 (slices_Compact_int F e).bind fun i=>
 loopN (fun again (z:Int×(List Span))=>region_merge_b2 F b c d i again z.1 z.2) F ((1:Int),([]:List Span))
def region_merge_b0 (F:Nat) (e:(List Span)) (i:(List Span)) (j:Bool→Bool→Option Bool) (b:(List Span)) (d:(Int×(List Int))→Option ((List Span))) (a:Int) (c:(List Int)):Option ((List Span)):=
 br (decide (a<((List.length b:Nat):Int))) (gd (0≤a∧a<((List.length b:Nat):Int)) <|
 gd ((List.length (α:=Int) c)+(List.length (α:=Int) ([(gl b a.toNat).left_,(gl b a.toNat).right_]:List Int))≤LIM) <|
 gd (I64 (a+(1:Int))) <|
 d ((a+(1:Int)),(c++([(gl b a.toNat).left_,(gl b a.toNat).right_]:List Int)))) (region_merge_k1 F e i j c)
def region_merge (F:Nat) (a:(List Span)) (b:(List Span)) (c:Bool→Bool→Option Bool):Option ((List Span)):=
 (slices_Concat_Span F ([a,b]:List (List Span))).bind fun d=>
 loopN (fun again (z:Int×(List Int))=>region_merge_b0 F a b c d again z.1 z.2) F ((0:Int),([]:List Int))
def region_Choose_1 (F:Nat) (a:Int) (b:(List Rect)) (c:(List Rect)) (d:Bool→Bool→Option Bool):Option ((List Span)):=
 (region_Row F b a).bind fun e=>
 (region_Row F c a).bind fun i=>
 (region_merge F e i d).bind fun j=>
 some j
def region_Choose (F:Nat) (a:(List Rect)) (b:(List Rect)) (c:Bool→Bool→Option Bool):Option ((List Rect)):=
 (region_Cuts F ([a,b]:List (List Rect))).bind fun d=>
 (region_Build F d (fun y0=>region_Choose_1 F y0 a b c)).bind fun e=>
 some e
def grassland_shared_1_k0 (F:Nat) (a:Bool):Option (Bool):=
 some a
def grassland_shared_1 (F:Nat) (a:Bool) (b:Bool):Option (Bool):=
 br a (grassland_shared_1_k0 F b) (grassland_shared_1_k0 F false)
def grassland_shared (F:Nat) (a:(List Rect)) (b:(List Rect)):Option ((List Rect)):=
 (region_Choose F a b (fun y0 y1=>grassland_shared_1 F y0 y1)).bind fun c=>
 some c
def history_Rects_B_k2 (F:Nat) (a:Int) (b:(Int×(List Rect))→Option ((List Rect))) (c:(List Rect)):Option ((List Rect)):=
 gd (I64 (a+(1:Int))) <|
 b ((a+(1:Int)),c)
def history_Rects_B_k1 (F:Nat) (d:(List Record)) (a:Int) (b:(List Rect)) (c:(Int×(List Rect))→Option ((List Rect))) (e:Bool):Option ((List Rect)):=
 br e (gd ((List.length (α:=Rect) b)+(List.length (α:=Rect) ((gl d a.toNat).region_.rects_))≤LIM) <|
 history_Rects_B_k2 F a c (b++((gl d a.toNat).region_.rects_))) (history_Rects_B_k2 F a c b)
def history_Rects_B_k3 (F:Nat) (a:(List Rect)):Option ((List Rect)):=
 some a
def history_Rects_B_b0 (F:Nat) (b:(List Record)) (e:Int) (i:Records) (d:(Int×(List Rect))→Option ((List Rect))) (a:Int) (c:(List Rect)):Option ((List Rect)):=
 br (decide (a<((List.length b:Nat):Int))) (gd (0≤a∧a<((List.length b:Nat):Int)) <|
 br (((gl b a.toNat).year_)==e) ((grassland_records_grass F i ((gl b a.toNat).crop_)).bind fun j=>
 history_Rects_B_k1 F b a c d j) (history_Rects_B_k1 F b a c d false)) (history_Rects_B_k3 F c)
def history_Rects_B (F:Nat) (a:(List Record)) (b:Int) (c:Records):Option ((List Rect)):=
 loopN (fun again (z:Int×(List Rect))=>history_Rects_B_b0 F a b c again z.1 z.2) F ((0:Int),([]:List Rect))
def grassland_records_permanent_k1 (F:Nat) (a:(List Rect)):Option ((List Rect)):=
 some a
def grassland_records_permanent_b0 (F:Nat) (c:Records) (d:Int) (e:((List Rect)×Int)→Option ((List Rect))) (b:(List Rect)) (a:Int):Option ((List Rect)):=
 br (decide (a<(5:Int))) (gd (I64 (d-a)) <|
 (history_Rects_B F c.l_ (d-a) c).bind fun i=>
 (grassland_shared F b i).bind fun j=>
 gd (I64 (a+(1:Int))) <|
 e (j,(a+(1:Int)))) (grassland_records_permanent_k1 F b)
def grassland_records_permanent (F:Nat) (a:Records) (b:Int):Option ((List Rect)):=
 br (decide (b<(4:Int))) (some ([])) ((history_Rects_B F a.l_ b a).bind fun c=>
 loopN (fun again (z:(List Rect)×Int)=>grassland_records_permanent_b0 F a b again z.1 z.2) F (c,(1:Int)))
def grassland_records_ploughed_1 (F:Nat) (a:Int) (b:Records):Option (Bool):=
 (grassland_records_grass F b a).bind fun c=>
 some (!c)
def grassland_records_ploughed (F:Nat) (a:Records) (b:Int):Option ((List Rect)):=
 gd (I64 (b-(1:Int))) <|
 (grassland_records_permanent F a (b-(1:Int))).bind fun c=>
 (history_Rects F a.l_ b (fun y0=>grassland_records_ploughed_1 F y0 a)).bind fun d=>
 (grassland_shared F c d).bind fun e=>
 some e
def grassland_Ploughed (F:Nat) (a:(List Record)) (b:(List Crop)) (c:Int):Option (Region×Int):=
 (grassland_records_check F (⟨a,b⟩ : Records) ([]) ([c]:List Int)).bind fun d=>
 br (d != (0:Int)) (some ((⟨[]⟩ : Region),d)) ((grassland_records_ploughed F (⟨a,b⟩ : Records) c).bind fun i=>
 (region_Joined F i).bind fun e=>
 some (e.1,e.2))
def grassland_Permanent (F:Nat) (a:(List Record)) (b:(List Crop)) (c:Int):Option (Region×Int):=
 (grassland_records_check F (⟨a,b⟩ : Records) ([]) ([c]:List Int)).bind fun d=>
 br (d != (0:Int)) (some ((⟨[]⟩ : Region),d)) ((grassland_records_permanent F (⟨a,b⟩ : Records) c).bind fun i=>
 (region_Joined F i).bind fun e=>
 some (e.1,e.2))
def grassland_Restore_1 (F:Nat) (a:Region) (b:Region):Option (Bool):=
 (region_Meets F b a).bind fun c=>
 some c
def region_Size_k1 (F:Nat) (a:Int):Option (Int):=
 some a
def region_Size_b0 (F:Nat) (b:(List Rect)) (d:(Int×Int)→Option (Int)) (c:Int) (a:Int):Option (Int):=
 br (decide (a<((List.length b:Nat):Int))) (gd (0≤a∧a<((List.length b:Nat):Int)) <|
 gd (I64 (((gl b a.toNat).right_)-((gl b a.toNat).left_))) <|
 gd (I64 (((gl b a.toNat).high_)-((gl b a.toNat).low_))) <|
 gd (I64 ((((gl b a.toNat).right_)-((gl b a.toNat).left_))*(((gl b a.toNat).high_)-((gl b a.toNat).low_)))) <|
 gd (I64 (c+((((gl b a.toNat).right_)-((gl b a.toNat).left_))*(((gl b a.toNat).high_)-((gl b a.toNat).low_))))) <|
 gd (I64 (a+(1:Int))) <|
 d ((c+((((gl b a.toNat).right_)-((gl b a.toNat).left_))*(((gl b a.toNat).high_)-((gl b a.toNat).low_)))),(a+(1:Int)))) (region_Size_k1 F c)
def region_Size (F:Nat) (a:(List Rect)):Option (Int):=
 loopN (fun again (z:Int×Int)=>region_Size_b0 F a again z.1 z.2) F ((0:Int),(0:Int))
def grassland_common (F:Nat) (a:(List Rect)) (b:Region):Option (Int):=
 (grassland_shared F a b.rects_).bind fun c=>
 (region_Size F c).bind fun d=>
 some d
def exact_limited_k0 (F:Nat) (a:Bool):Option (Bool):=
 some a
def exact_limited (F:Nat) (a:Int):Option (Bool):=
 br (decide ((0:Int)≤a)) (exact_limited_k0 F (decide (a≤(1099511627776:Int)))) (exact_limited_k0 F false)
def math_bits_Mul64 (F:Nat) (a:Int) (b:Int):Option (Int×Int):=
 gd (0≤(32:Int)) <|
 gd (0≤(32:Int)) <|
 gd (0≤(32:Int)) <|
 gd (0≤(32:Int)) <|
 gd (0≤(32:Int)) <|
 some ((IntKind.wrap .u64 ((IntKind.wrap .u64 ((IntKind.wrap .u64 ((a.fdiv (2 ^ (min ((32:Int)).toNat (IntKind.bits .u64))))*(b.fdiv (2 ^ (min ((32:Int)).toNat (IntKind.bits .u64))))))+((IntKind.wrap .u64 ((IntKind.wrap .u64 ((a.fdiv (2 ^ (min ((32:Int)).toNat (IntKind.bits .u64))))*(band .u64 b (4294967295:Int))))+((IntKind.wrap .u64 ((band .u64 a (4294967295:Int))*(band .u64 b (4294967295:Int)))).fdiv (2 ^ (min ((32:Int)).toNat (IntKind.bits .u64)))))).fdiv (2 ^ (min ((32:Int)).toNat (IntKind.bits .u64))))))+((IntKind.wrap .u64 ((band .u64 (IntKind.wrap .u64 ((IntKind.wrap .u64 ((a.fdiv (2 ^ (min ((32:Int)).toNat (IntKind.bits .u64))))*(band .u64 b (4294967295:Int))))+((IntKind.wrap .u64 ((band .u64 a (4294967295:Int))*(band .u64 b (4294967295:Int)))).fdiv (2 ^ (min ((32:Int)).toNat (IntKind.bits .u64)))))) (4294967295:Int))+(IntKind.wrap .u64 ((band .u64 a (4294967295:Int))*(b.fdiv (2 ^ (min ((32:Int)).toNat (IntKind.bits .u64)))))))).fdiv (2 ^ (min ((32:Int)).toNat (IntKind.bits .u64)))))),(IntKind.wrap .u64 (a*b)))
def exact_product (F:Nat) (b:Int) (c:Int):Option (Wide):=
 (math_bits_Mul64 F (IntKind.wrap .u64 b) (IntKind.wrap .u64 c)).bind fun a=>
 some (⟨a.1,a.2⟩ : Wide)
def math_bits_Div64 (F:Nat) (b:Int) (c:Int) (a:Int):Option (Int×Int):=
 br (a==(0:Int)) (none) (br (decide (a≤b)) (none) (br (b==(0:Int)) (gd (a≠0) <|
 gd (a≠0) <|
 some ((IntKind.wrap .u64 (c.tdiv a)),(c.tmod a))) (none)))
def exact_divide (F:Nat) (d:Int) (e:Int) (c:Int):Option (Int×Int):=
 (exact_product F d e).bind fun b=>
 br (decide ((IntKind.wrap .u64 c)≤b.high_)) (some ((1125899906842625:Int),(0:Int))) ((math_bits_Div64 F b.high_ b.low_ (IntKind.wrap .u64 c)).bind fun a=>
 gd (I64 (gmin a.1 (1125899906842625:Int))) <|
 gd (I64 a.2) <|
 some ((gmin a.1 (1125899906842625:Int)),a.2))
def exact_Part_k0 (F:Nat) (c:Int) (d:Int) (e:Int) (b:Bool):Option (Int×Int):=
 br b (some ((0:Int),(2:Int))) ((exact_divide F c d e).bind fun a=>
 br (decide ((1125899906842624:Int)<a.1)) (some ((0:Int),(2:Int))) (some (a.1,(0:Int))))
def exact_Part (F:Nat) (b:Int) (c:Int) (a:Int):Option (Int×Int):=
 (exact_limited F b).bind fun d=>
 br (!d) (exact_Part_k0 F b c a true) ((exact_limited F c).bind fun e=>
 br (!e) (exact_Part_k0 F b c a true) (br (decide (a<(1:Int))) (exact_Part_k0 F b c a true) ((exact_limited F a).bind fun i=>
 exact_Part_k0 F b c a (!i))))
def exact_Shares_1 (F:Nat) (a:Int):Option (Bool):=
 (exact_limited F a).bind fun b=>
 some (!b)
def exact_Shares_2 (F:Nat) (a:Int) (b:Int) (c:(List Int)):Option (Int):=
 gd (0≤b∧b<((List.length c:Nat):Int)) <|
 gd (0≤a∧a<((List.length c:Nat):Int)) <|
 (cmp_Compare_int F (gl c b.toNat) (gl c a.toNat)).bind fun d=>
 (cmp_Compare_int F a b).bind fun e=>
 (cmp_Or_int F ([d,e]:List Int)).bind fun i=>
 some i
def exact_Shares_k6 (F:Nat) (a:(List Int)):Option ((List Int)×Int):=
 some (a,(0:Int))
def exact_Shares_b5 (F:Nat) (b:Int) (c:(List Int)) (e:(Int×(List Int))→Option ((List Int)×Int)) (a:Int) (d:(List Int)):Option ((List Int)×Int):=
 br (decide (a<(((b).toNat:Nat):Int))) (gd (0≤a∧a<((List.length (c.take (b).toNat):Nat):Int)) <|
 gd (0≤(gl (c.take (b).toNat) a.toNat)∧(gl (c.take (b).toNat) a.toNat)<((List.length d:Nat):Int)) <|
 gd (I64 ((gl d (gl (c.take (b).toNat) a.toNat).toNat)+(1:Int))) <|
 gd (0≤(gl (c.take (b).toNat) a.toNat)∧(gl (c.take (b).toNat) a.toNat)<((List.length d:Nat):Int)) <|
 gd (I64 (a+(1:Int))) <|
 e ((a+(1:Int)),(List.set d (gl (c.take (b).toNat) a.toNat).toNat ((gl d (gl (c.take (b).toNat) a.toNat).toNat)+(1:Int))))) (exact_Shares_k6 F d)
def exact_Shares_k4 (F:Nat) (a:Int) (c:(List Int)) (d:(List Int)) (e:(List Int)):Option ((List Int)×Int):=
 (sortG d (fun y0 y1=>exact_Shares_2 F y0 y1 e)).bind fun b=>
 gd (0≤a∧a≤((List.length b:Nat):Int)) <|
 loopN (fun again (z:Int×(List Int))=>exact_Shares_b5 F a b again z.1 z.2) F ((0:Int),c)
def exact_Shares_b3 (F:Nat) (m:Int) (j:(List Int)) (l:Int) (k:(Int×Int×(List Int)×(List Int)×(List Int))→Option ((List Int)×Int)) (d:Int) (a:Int) (b:(List Int)) (e:(List Int)) (i:(List Int)):Option ((List Int)×Int):=
 br (decide (a<((List.length j:Nat):Int))) (gd (0≤a∧a<((List.length j:Nat):Int)) <|
 (exact_divide F m (gl j a.toNat) l).bind fun c=>
 gd (0≤a∧a<((List.length b:Nat):Int)) <|
 gd (0≤a∧a<((List.length i:Nat):Int)) <|
 gd (0≤a∧a<((List.length e:Nat):Int)) <|
 gd (0≤a∧a<((List.length (List.set b a.toNat c.1):Nat):Int)) <|
 gd (I64 (d-(gl (List.set b a.toNat c.1) a.toNat))) <|
 gd (I64 (a+(1:Int))) <|
 k ((d-(gl (List.set b a.toNat c.1) a.toNat)),(a+(1:Int)),(List.set b a.toNat c.1),(List.set e a.toNat a),(List.set i a.toNat c.2))) (exact_Shares_k4 F d b e i)
def exact_Shares_k2 (F:Nat) (c:Int) (a:(List Int)) (b:Int):Option ((List Int)×Int):=
 gd (0≤((List.length a:Nat):Int)∧((List.length a:Nat):Int)≤((LIM:Nat):Int)) <|
 br (b==(0:Int)) (some ((List.replicate (((List.length a:Nat):Int)).toNat (0:Int)),(0:Int))) (gd (0≤((List.length a:Nat):Int)∧((List.length a:Nat):Int)≤((LIM:Nat):Int)) <|
 gd (0≤((List.length a:Nat):Int)∧((List.length a:Nat):Int)≤((LIM:Nat):Int)) <|
 loopN (fun again (z:Int×Int×(List Int)×(List Int)×(List Int))=>exact_Shares_b3 F c a b again z.1 z.2.1 z.2.2.1 z.2.2.2.1 z.2.2.2.2) F (c,(0:Int),(List.replicate (((List.length a:Nat):Int)).toNat (0:Int)),(List.replicate (((List.length a:Nat):Int)).toNat (0:Int)),(List.replicate (((List.length a:Nat):Int)).toNat (0:Int))))
def exact_Shares_b1 (F:Nat) (e:Int) (b:(List Int)) (d:(Int×Int)→Option ((List Int)×Int)) (c:Int) (a:Int):Option ((List Int)×Int):=
 br (decide (a<((List.length b:Nat):Int))) (gd (0≤a∧a<((List.length b:Nat):Int)) <|
 gd (I64 (c+(gl b a.toNat))) <|
 gd (I64 (a+(1:Int))) <|
 d ((c+(gl b a.toNat)),(a+(1:Int)))) (exact_Shares_k2 F e b c)
def exact_Shares_k0 (F:Nat) (b:Int) (c:(List Int)) (a:Bool):Option ((List Int)×Int):=
 br a (some ([],(2:Int))) (loopN (fun again (z:Int×Int)=>exact_Shares_b1 F b c again z.1 z.2) F ((0:Int),(0:Int)))
def exact_Shares (F:Nat) (b:Int) (a:(List Int)):Option ((List Int)×Int):=
 br (decide ((64:Int)<((List.length a:Nat):Int))) (some ([],(1:Int))) ((exact_limited F b).bind fun c=>
 br (!c) (exact_Shares_k0 F b a true) ((slices_ContainsFunc_int F a (fun y0=>exact_Shares_1 F y0)).bind fun d=>
 exact_Shares_k0 F b a d))
def grassland_Restore_k4 (F:Nat) (e:Int) (c:Int) (d:(List Int)):Option ((List Int)×Int):=
 (exact_Part F c e (1000000:Int)).bind fun a=>
 br (a.2 != (0:Int)) (some ([],a.2)) ((exact_Shares F a.1 d).bind fun b=>
 some (b.1,b.2))
def grassland_Restore_b3 (F:Nat) (e:(List Region)) (j:Int) (k:(List Rect)) (i:(Int×Int×(List Int))→Option ((List Int)×Int)) (c:Int) (a:Int) (d:(List Int)):Option ((List Int)×Int):=
 br (decide (a<((List.length e:Nat):Int))) (gd (0≤a∧a<((List.length e:Nat):Int)) <|
 (grassland_common F k (gl e a.toNat)).bind fun b=>
 gd ((List.length (α:=Int) d)+(List.length (α:=Int) ([b]:List Int))≤LIM) <|
 gd (I64 (c+b)) <|
 gd (I64 (a+(1:Int))) <|
 i ((c+b),(a+(1:Int)),(d++([b]:List Int)))) (grassland_Restore_k4 F j c d)
def grassland_Restore_k2 (F:Nat) (b:(List Record)) (c:(List Crop)) (d:Int) (e:(List Region)) (i:Int) (a:Bool):Option ((List Int)×Int):=
 br a (some ([],(2:Int))) ((grassland_records_ploughed F (⟨b,c⟩ : Records) d).bind fun j=>
 loopN (fun again (z:Int×Int×(List Int))=>grassland_Restore_b3 F e i j again z.1 z.2.1 z.2.2) F ((0:Int),(0:Int),([]:List Int)))
def grassland_Restore_k1 (F:Nat) (b:(List Record)) (c:(List Crop)) (d:Int) (e:(List Region)) (a:Int):Option ((List Int)×Int):=
 br (decide (a<(0:Int))) (grassland_Restore_k2 F b c d e a true) (grassland_Restore_k2 F b c d e a (decide ((1000000:Int)<a)))
def grassland_Restore_b0 (F:Nat) (d:(List Record)) (e:(List Crop)) (i:Int) (b:(List Region)) (j:Int) (c:(Int)→Option ((List Int)×Int)) (a:Int):Option ((List Int)×Int):=
 br (decide (a<((List.length b:Nat):Int))) (gd (0≤a∧a<((List.length b:Nat):Int)) <|
 gd (0≤a∧a≤((List.length b:Nat):Int)) <|
 (slices_ContainsFunc_Region F (b.take a.toNat) (fun y0=>grassland_Restore_1 F y0 (gl b a.toNat))).bind fun k=>
 br k (some ([],(11:Int))) (gd (I64 (a+(1:Int))) <|
 c (a+(1:Int)))) (grassland_Restore_k1 F d e i b j)
def grassland_Restore (F:Nat) (b:(List Record)) (c:(List Crop)) (d:Int) (a:(List Region)) (i:Int):Option ((List Int)×Int):=
 (grassland_records_check F (⟨b,c⟩ : Records) a ([d]:List Int)).bind fun e=>
 br (e != (0:Int)) (some ([],e)) (br (decide ((8:Int)<((List.length a:Nat):Int))) (some ([],(1:Int))) (loopN (fun again (z:Int)=>grassland_Restore_b0 F b c d a i again z) F (0:Int)))
def ref04_Size_k1 (F:Nat) (a:Int):Option (Int):=
 some a
def ref04_Size_b0 (F:Nat) (b:(List Rect)) (d:(Int×Int)→Option (Int)) (c:Int) (a:Int):Option (Int):=
 br (decide (a<((List.length b:Nat):Int))) (gd (0≤a∧a<((List.length b:Nat):Int)) <|
 gd (I64 (((gl b a.toNat).right_)-((gl b a.toNat).left_))) <|
 gd (I64 (((gl b a.toNat).high_)-((gl b a.toNat).low_))) <|
 gd (I64 ((((gl b a.toNat).right_)-((gl b a.toNat).left_))*(((gl b a.toNat).high_)-((gl b a.toNat).low_)))) <|
 gd (I64 (c+((((gl b a.toNat).right_)-((gl b a.toNat).left_))*(((gl b a.toNat).high_)-((gl b a.toNat).low_))))) <|
 gd (I64 (a+(1:Int))) <|
 d ((c+((((gl b a.toNat).right_)-((gl b a.toNat).left_))*(((gl b a.toNat).high_)-((gl b a.toNat).low_)))),(a+(1:Int)))) (ref04_Size_k1 F c)
def ref04_Size (F:Nat) (a:(List Rect)):Option (Int):=
 loopN (fun again (z:Int×Int)=>ref04_Size_b0 F a again z.1 z.2) F ((0:Int),(0:Int))
def law20_awake_k2 (F:Nat) (a:Bool):Option (Bool):=
 some a
def law20_awake_k1 (F:Nat) (a:(List Record)):Option (Bool):=
 (grassland_Permanent F a ([(⟨(ByteArray.mk #[103,114,97,115,115]),0,(2:Int)⟩ : Crop)]:List Crop) (4:Int)).bind fun b=>
 (grassland_Permanent F a ([(⟨(ByteArray.mk #[103,114,97,115,115]),0,(2:Int)⟩ : Crop)]:List Crop) (3:Int)).bind fun c=>
 br (b.2==(0:Int)) ((ref04_Same F b.1 (⟨([(⟨0,0,(3:Int),(1:Int)⟩ : Rect)]:List Rect)⟩ : Region)).bind fun d=>
 br d (br (c.2==(0:Int)) (law20_awake_k2 F (((List.length c.1.rects_:Nat):Int)==(0:Int))) (law20_awake_k2 F false)) (law20_awake_k2 F false)) (law20_awake_k2 F false)
def law20_awake_b0 (F:Nat) (c:(Int×(List Record))→Option (Bool)) (a:Int) (b:(List Record)):Option (Bool):=
 br (decide (a<(5:Int))) (gd ((List.length (α:=Record) b)+(List.length (α:=Record) ([(⟨a,0,(⟨([(⟨0,0,(3:Int),(1:Int)⟩ : Rect)]:List Rect)⟩ : Region)⟩ : Record)]:List Record))≤LIM) <|
 gd (I64 (a+(1:Int))) <|
 c ((a+(1:Int)),(b++([(⟨a,0,(⟨([(⟨0,0,(3:Int),(1:Int)⟩ : Rect)]:List Rect)⟩ : Region)⟩ : Record)]:List Record)))) (law20_awake_k1 F b)
def law20_awake (F:Nat):Option (Bool):=
 loopN (fun again (z:Int×(List Record))=>law20_awake_b0 F again z.1 z.2) F ((0:Int),([]:List Record))
def ref02_Name_k2 (F:Nat) (a:Int) (b:(Int)→Option (Bool)) (c:Bool):Option (Bool):=
 br c (some false) (gd (I64 (a+(1:Int))) <|
 b (a+(1:Int)))
def ref02_Name_k3 (F:Nat):Option (Bool):=
 some true
def ref02_Name_b1 (F:Nat) (b:ByteArray) (c:(Int)→Option (Bool)) (a:Int):Option (Bool):=
 br (decide (a<((b.size:Nat):Int))) (gd (0≤a∧a<((b.size:Nat):Int)) <|
 br (decide ((sAt b a)<(97:Int))) (gd (0≤a∧a<((b.size:Nat):Int)) <|
 br (decide ((sAt b a)<(48:Int))) (ref02_Name_k2 F a c true) (gd (0≤a∧a<((b.size:Nat):Int)) <|
 ref02_Name_k2 F a c (decide ((57:Int)<(sAt b a))))) (gd (0≤a∧a<((b.size:Nat):Int)) <|
 br (decide ((122:Int)<(sAt b a))) (gd (0≤a∧a<((b.size:Nat):Int)) <|
 br (decide ((sAt b a)<(48:Int))) (ref02_Name_k2 F a c true) (gd (0≤a∧a<((b.size:Nat):Int)) <|
 ref02_Name_k2 F a c (decide ((57:Int)<(sAt b a))))) (ref02_Name_k2 F a c false))) (ref02_Name_k3 F)
def ref02_Name_k0 (F:Nat) (b:ByteArray) (a:Bool):Option (Bool):=
 br a (some false) (loopN (fun again (z:Int)=>ref02_Name_b1 F b again z) F (0:Int))
def ref02_Name (F:Nat) (a:ByteArray):Option (Bool):=
 br (decide (((a.size:Nat):Int)<(1:Int))) (ref02_Name_k0 F a true) (br (decide ((12:Int)<((a.size:Nat):Int))) (ref02_Name_k0 F a true) (gd (0≤(0:Int)∧(0:Int)<((a.size:Nat):Int)) <|
 br (decide ((sAt a (0:Int))<(97:Int))) (ref02_Name_k0 F a true) (gd (0≤(0:Int)∧(0:Int)<((a.size:Nat):Int)) <|
 ref02_Name_k0 F a (decide ((122:Int)<(sAt a (0:Int)))))))
def ref12_one_k1 (F:Nat) (a:Bool):Option (Int):=
 br a (some (14:Int)) (some (0:Int))
def ref12_one_k0 (F:Nat) (a:Crop) (b:Bool):Option (Int):=
 br b (some (2:Int)) (br (decide (a.marks_<(0:Int))) (ref12_one_k1 F true) (ref12_one_k1 F (decide ((31:Int)<a.marks_))))
def ref12_one (F:Nat) (a:Crop):Option (Int):=
 (ref02_Name F a.name_).bind fun b=>
 br (!b) (some (5:Int)) (br (decide (a.family_<(0:Int))) (ref12_one_k0 F a true) (ref12_one_k0 F a (decide ((40:Int)<a.family_))))
def ref12_Check_k1 (F:Nat) (a:Int) (b:(Int)→Option (Int)) (c:Bool):Option (Int):=
 br c (some (6:Int)) (gd (I64 (a+(1:Int))) <|
 b (a+(1:Int)))
def ref12_Check_k2 (F:Nat):Option (Int):=
 some (0:Int)
def ref12_Check_b0 (F:Nat) (b:(List Crop)) (c:(Int)→Option (Int)) (a:Int):Option (Int):=
 br (decide (a<((List.length b:Nat):Int))) (gd (0≤a∧a<((List.length b:Nat):Int)) <|
 (ref12_one F (gl b a.toNat)).bind fun d=>
 br (d != (0:Int)) (some d) (br (decide ((0:Int)<a)) (gd (I64 (a-(1:Int))) <|
 gd (0≤(a-(1:Int))∧(a-(1:Int))<((List.length b:Nat):Int)) <|
 ref12_Check_k1 F a c (sLt ((gl b a.toNat).name_) ((gl b (a-(1:Int)).toNat).name_)||sEq ((gl b a.toNat).name_) ((gl b (a-(1:Int)).toNat).name_))) (ref12_Check_k1 F a c false))) (ref12_Check_k2 F)
def ref12_Check (F:Nat) (a:(List Crop)):Option (Int):=
 br (decide ((40:Int)<((List.length a:Nat):Int))) (some (1:Int)) (loopN (fun again (z:Int)=>ref12_Check_b0 F a again z) F (0:Int))
def ref15_With_k1 (F:Nat):Option (Int):=
 some (0:Int)
def ref15_With_b0 (F:Nat) (b:(List Record)) (d:(List Crop)) (c:(Int)→Option (Int)) (a:Int):Option (Int):=
 br (decide (a<((List.length b:Nat):Int))) (gd (0≤a∧a<((List.length b:Nat):Int)) <|
 br (decide (((List.length d:Nat):Int)≤((gl b a.toNat).crop_))) (some (13:Int)) (gd (I64 (a+(1:Int))) <|
 c (a+(1:Int)))) (ref15_With_k1 F)
def ref15_With (F:Nat) (a:(List Record)) (b:(List Crop)):Option (Int):=
 (ref15_Check F a).bind fun c=>
 br (c != (0:Int)) (some c) ((ref12_Check F b).bind fun d=>
 br (d != (0:Int)) (some d) (loopN (fun again (z:Int)=>ref15_With_b0 F a b again z) F (0:Int)))
def ref20_begin_k1 (F:Nat) (a:Int) (b:(Int)→Option (Int)) (c:Bool):Option (Int):=
 br c (some (18:Int)) (gd (I64 (a+(1:Int))) <|
 b (a+(1:Int)))
def ref20_begin_k2 (F:Nat):Option (Int):=
 some (0:Int)
def ref20_begin_b0 (F:Nat) (b:(List Int)) (c:(Int)→Option (Int)) (a:Int):Option (Int):=
 br (decide (a<((List.length b:Nat):Int))) (gd (0≤a∧a<((List.length b:Nat):Int)) <|
 br (decide ((gl b a.toNat)<(0:Int))) (ref20_begin_k1 F a c true) (ref20_begin_k1 F a c (decide ((100:Int)<(gl b a.toNat))))) (ref20_begin_k2 F)
def ref20_begin (F:Nat) (b:(List Record)) (c:(List Crop)) (d:(List Int)):Option (Int):=
 (ref15_With F b c).bind fun a=>
 br (a != (0:Int)) (some a) (loopN (fun again (z:Int)=>ref20_begin_b0 F d again z) F (0:Int))
def ref15_Squares_k2 (F:Nat) (a:Int) (b:((List Rect)×Int)→Option ((List Rect))) (c:(List Rect)):Option ((List Rect)):=
 gd (I64 (a+(1:Int))) <|
 b (c,(a+(1:Int)))
def ref15_Squares_k1 (F:Nat) (e:(List Record)) (c:(List Rect)) (a:Int) (b:((List Rect)×Int)→Option ((List Rect))) (d:Bool):Option ((List Rect)):=
 br d ((ref04_Combine F c ((gl e a.toNat).region_.rects_) (1:Int)).bind fun i=>
 ref15_Squares_k2 F a b i) (ref15_Squares_k2 F a b c)
def ref15_Squares_k3 (F:Nat) (a:(List Rect)):Option ((List Rect)):=
 some a
def ref15_Squares_b0 (F:Nat) (b:(List Record)) (e:(List Crop)) (k:Int) (j:Int) (i:Int) (d:((List Rect)×Int)→Option ((List Rect))) (c:(List Rect)) (a:Int):Option ((List Rect)):=
 br (decide (a<((List.length b:Nat):Int))) (gd (0≤a∧a<((List.length b:Nat):Int)) <|
 br (((gl b a.toNat).year_)==k) (br (decide (j<(0:Int))) (br (i==(0:Int)) (ref15_Squares_k1 F b c a d true) (gd (0≤((gl b a.toNat).crop_)∧((gl b a.toNat).crop_)<((List.length e:Nat):Int)) <|
 ref15_Squares_k1 F b c a d ((band .i64 ((gl e ((gl b a.toNat).crop_).toNat).marks_) i)==i))) (gd (0≤((gl b a.toNat).crop_)∧((gl b a.toNat).crop_)<((List.length e:Nat):Int)) <|
 br (((gl e ((gl b a.toNat).crop_).toNat).family_)==j) (br (i==(0:Int)) (ref15_Squares_k1 F b c a d true) (gd (0≤((gl b a.toNat).crop_)∧((gl b a.toNat).crop_)<((List.length e:Nat):Int)) <|
 ref15_Squares_k1 F b c a d ((band .i64 ((gl e ((gl b a.toNat).crop_).toNat).marks_) i)==i))) (ref15_Squares_k1 F b c a d false))) (ref15_Squares_k1 F b c a d false)) (ref15_Squares_k3 F c)
def ref15_Squares (F:Nat) (a:(List Record)) (b:(List Crop)) (c:Int) (d:Int) (e:Int):Option ((List Rect)):=
 loopN (fun again (z:(List Rect)×Int)=>ref15_Squares_b0 F a b c d e again z.1 z.2) F (([]:List Rect),(0:Int))
def ref20_grass (F:Nat) (a:(List Record)) (b:(List Crop)) (c:Int):Option ((List Rect)):=
 (ref15_Squares F a b c (-1:Int) (2:Int)).bind fun d=>
 some d
def ref20_permanent_k1 (F:Nat) (a:(List Rect)):Option ((List Rect)):=
 some a
def ref20_permanent_b0 (F:Nat) (d:(List Record)) (e:(List Crop)) (i:Int) (c:((List Rect)×Int)→Option ((List Rect))) (b:(List Rect)) (a:Int):Option ((List Rect)):=
 br (decide (a<i)) ((ref20_grass F d e a).bind fun j=>
 (ref04_Combine F b j (2:Int)).bind fun k=>
 gd (I64 (a+(1:Int))) <|
 c (k,(a+(1:Int)))) (ref20_permanent_k1 F b)
def ref20_permanent (F:Nat) (b:(List Record)) (c:(List Crop)) (a:Int):Option ((List Rect)):=
 br (decide (a<(4:Int))) (some ([])) ((ref20_grass F b c a).bind fun d=>
 gd (I64 (a-(4:Int))) <|
 loopN (fun again (z:(List Rect)×Int)=>ref20_permanent_b0 F b c a again z.1 z.2) F (d,(a-(4:Int))))
def ref20_Permanent (F:Nat) (a:(List Record)) (b:(List Crop)) (c:Int):Option (Region×Int):=
 (ref20_begin F a b ([c]:List Int)).bind fun d=>
 br (d != (0:Int)) (some ((⟨[]⟩ : Region),d)) ((ref20_permanent F a b c).bind fun i=>
 (ref04_Bound F i).bind fun e=>
 some (e.1,e.2))
def ref20_ploughed (F:Nat) (b:(List Record)) (c:(List Crop)) (a:Int):Option ((List Rect)):=
 (ref15_Squares F b c a (-1:Int) (0:Int)).bind fun d=>
 gd (I64 (a-(1:Int))) <|
 (ref20_permanent F b c (a-(1:Int))).bind fun e=>
 (ref04_Combine F e d (2:Int)).bind fun i=>
 (ref20_grass F b c a).bind fun j=>
 (ref04_Combine F i j (3:Int)).bind fun k=>
 some k
def ref20_Ploughed (F:Nat) (a:(List Record)) (b:(List Crop)) (c:Int):Option (Region×Int):=
 (ref20_begin F a b ([c]:List Int)).bind fun d=>
 br (d != (0:Int)) (some ((⟨[]⟩ : Region),d)) ((ref20_ploughed F a b c).bind fun i=>
 (ref04_Bound F i).bind fun e=>
 some (e.1,e.2))
def history_Any (F:Nat) (a:Int):Option (Bool):=
 some true
def grassland_records_ratio (F:Nat) (a:Records) (b:Int) (c:Region):Option (Int×Int):=
 (grassland_records_permanent F a b).bind fun d=>
 (grassland_common F d c).bind fun e=>
 (history_Rects F a.l_ b (fun y0=>history_Any F y0)).bind fun i=>
 (grassland_common F i c).bind fun j=>
 some (e,j)
def grassland_Ratio (F:Nat) (a:(List Record)) (b:(List Crop)) (c:Int) (d:Region):Option (Int×Int×Int):=
 (grassland_records_check F (⟨a,b⟩ : Records) ([d]:List Region) ([c]:List Int)).bind fun e=>
 br (e != (0:Int)) (some ((0:Int),(0:Int),e)) ((grassland_records_ratio F (⟨a,b⟩ : Records) c d).bind fun i=>
 some (i.1,i.2,(0:Int)))
def ref20_ratio (F:Nat) (a:(List Record)) (b:(List Crop)) (c:Int) (d:Region):Option (Int×Int):=
 (ref15_Squares F a b c (-1:Int) (0:Int)).bind fun e=>
 (ref20_permanent F a b c).bind fun i=>
 (ref04_Combine F i d.rects_ (2:Int)).bind fun j=>
 (ref04_Size F j).bind fun k=>
 (ref04_Combine F e d.rects_ (2:Int)).bind fun l=>
 (ref04_Size F l).bind fun m=>
 some (k,m)
def ref20_Ratio (F:Nat) (a:(List Record)) (b:(List Crop)) (c:Int) (d:Region):Option (Int×Int×Int):=
 (ref20_begin F a b ([c]:List Int)).bind fun e=>
 br (e != (0:Int)) (some ((0:Int),(0:Int),e)) ((ref04_Valid F d).bind fun j=>
 br (!j) (some ((0:Int),(0:Int),(7:Int))) ((ref20_ratio F a b c d).bind fun i=>
 some (i.1,i.2,(0:Int))))
def grassland_product (F:Nat) (b:Int) (c:Int):Option (Int×Int):=
 (math_bits_Mul64 F (IntKind.wrap .u64 b) (IntKind.wrap .u64 c)).bind fun a=>
 some (a.1,a.2)
def grassland_Fallen_k2 (F:Nat) (a:Bool):Option (Bool×Int):=
 some (a,(0:Int))
def grassland_Fallen_k1 (F:Nat) (a:Int) (b:Int×Int) (c:Int×Int) (i:Bool):Option (Bool×Int):=
 br i (some (false,(0:Int))) (gd (I64 (c.1*(1000000:Int))) <|
 (grassland_product F (c.1*(1000000:Int)) b.2).bind fun d=>
 gd (I64 ((1000000:Int)-a)) <|
 gd (I64 (b.1*((1000000:Int)-a))) <|
 (grassland_product F (b.1*((1000000:Int)-a)) c.2).bind fun e=>
 br (decide (d.1<e.1)) (grassland_Fallen_k2 F true) (br (d.1==e.1) (grassland_Fallen_k2 F (decide (d.2<e.2))) (grassland_Fallen_k2 F false)))
def grassland_Fallen_k0 (F:Nat) (c:(List Record)) (d:(List Crop)) (k:Int) (l:Int) (e:Region) (i:Int) (j:Bool):Option (Bool×Int):=
 br j (some (false,(2:Int))) ((grassland_records_ratio F (⟨c,d⟩ : Records) k e).bind fun a=>
 (grassland_records_ratio F (⟨c,d⟩ : Records) l e).bind fun b=>
 br (a.2==(0:Int)) (grassland_Fallen_k1 F i a b true) (grassland_Fallen_k1 F i a b (b.2==(0:Int))))
def grassland_Fallen (F:Nat) (b:(List Record)) (c:(List Crop)) (d:Int) (e:Int) (i:Region) (a:Int):Option (Bool×Int):=
 (grassland_records_check F (⟨b,c⟩ : Records) ([i]:List Region) ([d,e]:List Int)).bind fun j=>
 br (j != (0:Int)) (some (false,j)) (br (decide (a<(0:Int))) (grassland_Fallen_k0 F b c d e i a true) (grassland_Fallen_k0 F b c d e i a (decide ((1000000:Int)<a))))
def ref01_proper_k0 (F:Nat) (a:Bool):Option (Bool):=
 some a
def ref01_proper (F:Nat) (a:Int) (b:Int):Option (Bool):=
 br (decide ((-1125899906842624:Int)≤a)) (br (decide (a≤(1125899906842624:Int))) (br (decide ((1:Int)≤b)) (ref01_proper_k0 F (decide (b≤(1099511627776:Int)))) (ref01_proper_k0 F false)) (ref01_proper_k0 F false)) (ref01_proper_k0 F false)
def ref01_Less_k4 (F:Nat) (a:Bool):Option (Bool):=
 some a
def ref01_Less_k3 (F:Nat) (c:Int) (d:Int) (e:Int) (i:Int):Option (Bool):=
 (math_bits_Mul64 F (IntKind.wrap .u64 c) (IntKind.wrap .u64 i)).bind fun a=>
 (math_bits_Mul64 F (IntKind.wrap .u64 e) (IntKind.wrap .u64 d)).bind fun b=>
 br (decide (a.1<b.1)) (ref01_Less_k4 F true) (br (a.1==b.1) (ref01_Less_k4 F (decide (a.2<b.2))) (ref01_Less_k4 F false))
def ref01_Less_k2 (F:Nat) (a:Int) (c:Int) (b:Int) (d:Int) (e:Bool):Option (Bool):=
 br e (some false) (br (decide (a<(0:Int))) (gd (I64 (0-b)) <|
 gd (I64 (0-a)) <|
 ref01_Less_k3 F (0-b) d (0-a) c) (ref01_Less_k3 F a c b d))
def ref01_Less_k1 (F:Nat) (a:Int) (c:Int) (b:Int) (d:Int) (e:Bool):Option (Bool):=
 br e (some true) (br (decide ((0:Int)≤a)) (ref01_Less_k2 F a c b d (decide (b<(0:Int)))) (ref01_Less_k2 F a c b d false))
def ref01_Less_k0 (F:Nat) (a:Int) (c:Int) (b:Int) (d:Int) (e:Bool):Option (Bool):=
 br e (some false) (br (decide (a<(0:Int))) (ref01_Less_k1 F a c b d (decide ((0:Int)≤b))) (ref01_Less_k1 F a c b d false))
def ref01_Less (F:Nat) (a:Int) (b:Int) (c:Int) (d:Int):Option (Bool):=
 (ref01_proper F a b).bind fun e=>
 br (!e) (ref01_Less_k0 F a b c d true) ((ref01_proper F c d).bind fun i=>
 ref01_Less_k0 F a b c d (!i))
def ref20_Fallen_k1 (F:Nat) (a:Int) (b:Int×Int) (c:Int×Int) (d:Bool):Option (Bool×Int):=
 br d (some (false,(0:Int))) (gd (I64 (b.1*(1000000:Int))) <|
 gd (I64 ((1000000:Int)-a)) <|
 gd (I64 (c.1*((1000000:Int)-a))) <|
 (ref01_Less F (b.1*(1000000:Int)) b.2 (c.1*((1000000:Int)-a)) c.2).bind fun e=>
 some (e,(0:Int)))
def ref20_Fallen_k0 (F:Nat) (c:(List Record)) (d:(List Crop)) (k:Int) (l:Int) (e:Region) (i:Int) (j:Bool):Option (Bool×Int):=
 br j (some (false,(2:Int))) ((ref20_ratio F c d l e).bind fun a=>
 (ref20_ratio F c d k e).bind fun b=>
 br (a.2==(0:Int)) (ref20_Fallen_k1 F i a b true) (ref20_Fallen_k1 F i a b (b.2==(0:Int))))
def ref20_Fallen (F:Nat) (b:(List Record)) (c:(List Crop)) (d:Int) (e:Int) (i:Region) (a:Int):Option (Bool×Int):=
 (ref20_begin F b c ([d,e]:List Int)).bind fun j=>
 br (j != (0:Int)) (some (false,j)) ((ref04_Valid F i).bind fun k=>
 br (!k) (some (false,(7:Int))) (br (decide (a<(0:Int))) (ref20_Fallen_k0 F b c d e i a true) (ref20_Fallen_k0 F b c d e i a (decide ((1000000:Int)<a)))))
def ref01_divide (F:Nat) (d:Int) (e:Int) (c:Int):Option (Int×Int×Bool):=
 (math_bits_Mul64 F (IntKind.wrap .u64 d) (IntKind.wrap .u64 e)).bind fun b=>
 br (decide ((IntKind.wrap .u64 c)≤b.1)) (some ((0:Int),(0:Int),false)) ((math_bits_Div64 F b.1 b.2 (IntKind.wrap .u64 c)).bind fun a=>
 gd (I64 a.1) <|
 gd (I64 a.2) <|
 some (a.1,a.2,(decide (a.1<(9223372036854775808:Int)))))
def ref01_Part_k1 (F:Nat) (b:Int×Int×Bool) (a:Bool):Option (Int×Int):=
 br a (some ((0:Int),(2:Int))) (some (b.1,(0:Int)))
def ref01_Part_k0 (F:Nat) (c:Int) (d:Int) (e:Int) (b:Bool):Option (Int×Int):=
 br b (some ((0:Int),(2:Int))) ((ref01_divide F c d e).bind fun a=>
 br (!a.2.2) (ref01_Part_k1 F a true) (ref01_Part_k1 F a (decide ((1125899906842624:Int)<a.1))))
def ref01_Part (F:Nat) (a:Int) (b:Int) (c:Int):Option (Int×Int):=
 br (decide (a<(0:Int))) (ref01_Part_k0 F a b c true) (br (decide ((1099511627776:Int)<a)) (ref01_Part_k0 F a b c true) (br (decide (b<(0:Int))) (ref01_Part_k0 F a b c true) (br (decide ((1099511627776:Int)<b)) (ref01_Part_k0 F a b c true) (br (decide (c<(1:Int))) (ref01_Part_k0 F a b c true) (ref01_Part_k0 F a b c (decide ((1099511627776:Int)<c)))))))
def ref01_Shares_k2 (F:Nat) (a:Int) (b:(Bool×Int)→Option ((List Int)×Int)) (c:Bool):Option ((List Int)×Int):=
 gd (I64 (a+(1:Int))) <|
 b (c,(a+(1:Int)))
def ref01_Shares_k11 (F:Nat) (a:Int) (b:(Int×Int)→Option ((List Int)×Int)) (c:Int):Option ((List Int)×Int):=
 gd (I64 (a+(1:Int))) <|
 b (c,(a+(1:Int)))
def ref01_Shares_k10 (F:Nat) (c:Int) (a:Int) (b:(Int×Int)→Option ((List Int)×Int)) (d:Bool):Option ((List Int)×Int):=
 br d (ref01_Shares_k11 F a b a) (ref01_Shares_k11 F a b c)
def ref01_Shares_k13 (F:Nat) (a:Int) (b:(Int×(List Int)×(List Bool))→Option ((List Int)×Int)) (c:(List Int)) (d:(List Bool)):Option ((List Int)×Int):=
 gd (I64 (a-(1:Int))) <|
 b ((a-(1:Int)),c,d)
def ref01_Shares_k12 (F:Nat) (e:Int) (b:(List Int)) (c:(List Bool)) (d:(Int×(List Int)×(List Bool))→Option ((List Int)×Int)) (a:Int):Option ((List Int)×Int):=
 gd (0≤a∧a<((List.length c:Nat):Int)) <|
 gd (0≤a∧a<((List.length b:Nat):Int)) <|
 gd (I64 ((gl b a.toNat)+(1:Int))) <|
 gd (0≤a∧a<((List.length b:Nat):Int)) <|
 ref01_Shares_k13 F e d (List.set b a.toNat ((gl b a.toNat)+(1:Int))) (List.set c a.toNat true)
def ref01_Shares_b9 (F:Nat) (l:(List Int)) (c:(List Int)) (j:Int) (k:(List Int)) (e:(List Bool)) (i:(Int×(List Int)×(List Bool))→Option ((List Int)×Int)) (d:(Int×Int)→Option ((List Int)×Int)) (b:Int) (a:Int):Option ((List Int)×Int):=
 br (decide (a<((List.length l:Nat):Int))) (gd (0≤a∧a<((List.length e:Nat):Int)) <|
 br (!(gl e a.toNat)) (br (decide (b<(0:Int))) (ref01_Shares_k10 F b a d true) (gd (0≤a∧a<((List.length c:Nat):Int)) <|
 gd (0≤b∧b<((List.length c:Nat):Int)) <|
 ref01_Shares_k10 F b a d (decide ((gl c b.toNat)<(gl c a.toNat))))) (ref01_Shares_k10 F b a d false)) (ref01_Shares_k12 F j k e i b)
def ref01_Shares_k14 (F:Nat) (a:(List Int)):Option ((List Int)×Int):=
 some (a,(0:Int))
def ref01_Shares_b8 (F:Nat) (i:(List Int)) (d:(List Int)) (c:(Int×(List Int)×(List Bool))→Option ((List Int)×Int)) (a:Int) (b:(List Int)) (e:(List Bool)):Option ((List Int)×Int):=
 br (decide ((0:Int)<a)) (loopN (fun again (z:Int×Int)=>ref01_Shares_b9 F i d a b e c again z.1 z.2) F ((-1:Int),(0:Int))) (ref01_Shares_k14 F b)
def ref01_Shares_k7 (F:Nat) (a:(List Int)) (b:Int) (c:(List Int)) (e:(List Int)):Option ((List Int)×Int):=
 gd (0≤((List.length a:Nat):Int)∧((List.length a:Nat):Int)≤((LIM:Nat):Int)) <|
 loopN (fun again (z:Int×(List Int)×(List Bool))=>ref01_Shares_b8 F a e again z.1 z.2.1 z.2.2) F (b,c,(List.replicate (((List.length a:Nat):Int)).toNat (Emb.d:Bool)))
def ref01_Shares_b6 (F:Nat) (l:Int) (d:(List Int)) (k:Int) (j:(Int×Int×(List Int)×(List Int))→Option ((List Int)×Int)) (e:Int) (a:Int) (b:(List Int)) (i:(List Int)):Option ((List Int)×Int):=
 br (decide (a<((List.length d:Nat):Int))) (gd (0≤a∧a<((List.length d:Nat):Int)) <|
 (ref01_divide F l (gl d a.toNat) k).bind fun c=>
 gd (0≤a∧a<((List.length b:Nat):Int)) <|
 gd (0≤a∧a<((List.length i:Nat):Int)) <|
 gd (0≤a∧a<((List.length (List.set b a.toNat c.1):Nat):Int)) <|
 gd (I64 (e-(gl (List.set b a.toNat c.1) a.toNat))) <|
 gd (I64 (a+(1:Int))) <|
 j ((e-(gl (List.set b a.toNat c.1) a.toNat)),(a+(1:Int)),(List.set b a.toNat c.1),(List.set i a.toNat c.2.1))) (ref01_Shares_k7 F d e b i)
def ref01_Shares_k5 (F:Nat) (c:Int) (a:(List Int)) (b:Int):Option ((List Int)×Int):=
 gd (0≤((List.length a:Nat):Int)∧((List.length a:Nat):Int)≤((LIM:Nat):Int)) <|
 gd (0≤((List.length a:Nat):Int)∧((List.length a:Nat):Int)≤((LIM:Nat):Int)) <|
 br (b==(0:Int)) (some ((List.replicate (((List.length a:Nat):Int)).toNat (0:Int)),(0:Int))) (loopN (fun again (z:Int×Int×(List Int)×(List Int))=>ref01_Shares_b6 F c a b again z.1 z.2.1 z.2.2.1 z.2.2.2) F (c,(0:Int),(List.replicate (((List.length a:Nat):Int)).toNat (0:Int)),(List.replicate (((List.length a:Nat):Int)).toNat (0:Int))))
def ref01_Shares_b4 (F:Nat) (e:Int) (b:(List Int)) (d:(Int×Int)→Option ((List Int)×Int)) (c:Int) (a:Int):Option ((List Int)×Int):=
 br (decide (a<((List.length b:Nat):Int))) (gd (0≤a∧a<((List.length b:Nat):Int)) <|
 gd (I64 (c+(gl b a.toNat))) <|
 gd (I64 (a+(1:Int))) <|
 d ((c+(gl b a.toNat)),(a+(1:Int)))) (ref01_Shares_k5 F e b c)
def ref01_Shares_k3 (F:Nat) (b:Int) (c:(List Int)) (a:Bool):Option ((List Int)×Int):=
 br a (some ([],(2:Int))) (loopN (fun again (z:Int×Int)=>ref01_Shares_b4 F b c again z.1 z.2) F ((0:Int),(0:Int)))
def ref01_Shares_b1 (F:Nat) (e:Int) (b:(List Int)) (c:(Bool×Int)→Option ((List Int)×Int)) (d:Bool) (a:Int):Option ((List Int)×Int):=
 br (decide (a<((List.length b:Nat):Int))) (gd (0≤a∧a<((List.length b:Nat):Int)) <|
 br d (ref01_Shares_k2 F a c true) (br (decide ((gl b a.toNat)<(0:Int))) (ref01_Shares_k2 F a c true) (ref01_Shares_k2 F a c (decide ((1099511627776:Int)<(gl b a.toNat)))))) (ref01_Shares_k3 F e b d)
def ref01_Shares_k0 (F:Nat) (b:Int) (c:(List Int)) (a:Bool):Option ((List Int)×Int):=
 loopN (fun again (z:Bool×Int)=>ref01_Shares_b1 F b c again z.1 z.2) F (a,(0:Int))
def ref01_Shares (F:Nat) (a:Int) (b:(List Int)):Option ((List Int)×Int):=
 br (decide ((64:Int)<((List.length b:Nat):Int))) (some ([],(1:Int))) (br (decide (a<(0:Int))) (ref01_Shares_k0 F a b true) (ref01_Shares_k0 F a b (decide ((1099511627776:Int)<a))))
def ref20_Restore_k4 (F:Nat) (a:Int) (b:(Int)→Option ((List Int)×Int)):Option ((List Int)×Int):=
 gd (I64 (a+(1:Int))) <|
 b (a+(1:Int))
def ref20_Restore_b3 (F:Nat) (c:(List Region)) (b:Int) (d:(Int)→Option ((List Int)×Int)) (e:(Int)→Option ((List Int)×Int)) (a:Int):Option ((List Int)×Int):=
 br (decide (a<((List.length (c.take b.toNat):Nat):Int))) (gd (0≤b∧b<((List.length c:Nat):Int)) <|
 gd (0≤a∧a<((List.length c:Nat):Int)) <|
 (ref04_Meets F (gl c b.toNat) (gl c a.toNat)).bind fun i=>
 br i (some ([],(11:Int))) (gd (I64 (a+(1:Int))) <|
 e (a+(1:Int)))) (ref20_Restore_k4 F b d)
def ref20_Restore_k8 (F:Nat) (c:Int) (a:Int) (b:(List Int)):Option ((List Int)×Int):=
 (ref01_Part F a c (1000000:Int)).bind fun d=>
 (ref01_Shares F d.1 b).bind fun e=>
 some (e.1,(0:Int))
def ref20_Restore_b7 (F:Nat) (j:(List Record)) (k:(List Crop)) (l:Int) (e:(List Region)) (m:Int) (i:(Int×Int×(List Int))→Option ((List Int)×Int)) (c:Int) (a:Int) (d:(List Int)):Option ((List Int)×Int):=
 br (decide (a<((List.length e:Nat):Int))) (gd (0≤a∧a<((List.length e:Nat):Int)) <|
 (ref20_ploughed F j k l).bind fun n=>
 (ref04_Combine F n ((gl e a.toNat).rects_) (2:Int)).bind fun o=>
 (ref04_Size F o).bind fun b=>
 gd ((List.length (α:=Int) d)+(List.length (α:=Int) ([b]:List Int))≤LIM) <|
 gd (I64 (c+b)) <|
 gd (I64 (a+(1:Int))) <|
 i ((c+b),(a+(1:Int)),(d++([b]:List Int)))) (ref20_Restore_k8 F m c d)
def ref20_Restore_k6 (F:Nat) (b:(List Record)) (c:(List Crop)) (d:Int) (e:(List Region)) (i:Int) (a:Bool):Option ((List Int)×Int):=
 br a (some ([],(2:Int))) (loopN (fun again (z:Int×Int×(List Int))=>ref20_Restore_b7 F b c d e i again z.1 z.2.1 z.2.2) F ((0:Int),(0:Int),([]:List Int)))
def ref20_Restore_k5 (F:Nat) (b:(List Record)) (c:(List Crop)) (d:Int) (e:(List Region)) (a:Int):Option ((List Int)×Int):=
 br (decide (a<(0:Int))) (ref20_Restore_k6 F b c d e a true) (ref20_Restore_k6 F b c d e a (decide ((1000000:Int)<a)))
def ref20_Restore_b2 (F:Nat) (d:(List Record)) (e:(List Crop)) (i:Int) (b:(List Region)) (j:Int) (c:(Int)→Option ((List Int)×Int)) (a:Int):Option ((List Int)×Int):=
 br (decide (a<((List.length b:Nat):Int))) (gd (0≤a∧a≤((List.length b:Nat):Int)) <|
 loopN (fun again (z:Int)=>ref20_Restore_b3 F b a c again z) F (0:Int)) (ref20_Restore_k5 F d e i b j)
def ref20_Restore_k1 (F:Nat) (b:(List Record)) (c:(List Crop)) (d:Int) (a:(List Region)) (e:Int):Option ((List Int)×Int):=
 br (decide ((8:Int)<((List.length a:Nat):Int))) (some ([],(1:Int))) (loopN (fun again (z:Int)=>ref20_Restore_b2 F b c d a e again z) F (0:Int))
def ref20_Restore_b0 (F:Nat) (d:(List Record)) (e:(List Crop)) (i:Int) (b:(List Region)) (j:Int) (c:(Int)→Option ((List Int)×Int)) (a:Int):Option ((List Int)×Int):=
 br (decide (a<((List.length b:Nat):Int))) (gd (0≤a∧a<((List.length b:Nat):Int)) <|
 (ref04_Valid F (gl b a.toNat)).bind fun k=>
 br (!k) (some ([],(7:Int))) (gd (I64 (a+(1:Int))) <|
 c (a+(1:Int)))) (ref20_Restore_k1 F d e i b j)
def ref20_Restore (F:Nat) (a:(List Record)) (b:(List Crop)) (c:Int) (e:(List Region)) (i:Int):Option ((List Int)×Int):=
 (ref20_begin F a b ([c]:List Int)).bind fun d=>
 br (d != (0:Int)) (some ([],d)) (loopN (fun again (z:Int)=>ref20_Restore_b0 F a b c e i again z) F (0:Int))
def ref15_Add_O_k5 (F:Nat) (a:Int) (b:((List Rect)×Int×(List Record))→Option ((List Record)×(List Record)×Int)) (c:(List Rect)) (d:(List Record)):Option ((List Record)×(List Record)×Int):=
 gd (I64 (a+(1:Int))) <|
 b (c,(a+(1:Int)),d)
def ref15_Add_O_k4 (F:Nat) (b:(List Record)) (i:(List Rect)) (a:Int) (c:(List Record)) (e:((List Rect)×Int×(List Record))→Option ((List Record)×(List Record)×Int)) (d:(List Rect)):Option ((List Record)×(List Record)×Int):=
 br (decide ((0:Int)<((List.length d:Nat):Int))) (gd ((List.length (α:=Record) c)+(List.length (α:=Record) ([(⟨(gl b a.toNat).year_,(gl b a.toNat).crop_,(⟨d⟩ : Region)⟩ : Record)]:List Record))≤LIM) <|
 ref15_Add_O_k5 F a e i (c++([(⟨(gl b a.toNat).year_,(gl b a.toNat).crop_,(⟨d⟩ : Region)⟩ : Record)]:List Record))) (ref15_Add_O_k5 F a e i c)
def ref15_Add_O_k3 (F:Nat) (b:(List Record)) (j:Int) (k:Region) (d:(List Rect)) (a:Int) (e:(List Record)) (c:((List Rect)×Int×(List Record))→Option ((List Record)×(List Record)×Int)) (i:Bool):Option ((List Record)×(List Record)×Int):=
 br i ((ref04_Combine F d ((gl b a.toNat).region_.rects_) (1:Int)).bind fun l=>
 ref15_Add_O_k5 F a c l e) (br (((gl b a.toNat).year_)==j) ((ref04_Combine F ((gl b a.toNat).region_.rects_) k.rects_ (3:Int)).bind fun m=>
 ref15_Add_O_k4 F b d a e c m) (ref15_Add_O_k4 F b d a e c ((gl b a.toNat).region_.rects_)))
def ref15_Add_O_k12 (F:Nat) (b:(List Record)) (a:(List Record)):Option ((List Record)×(List Record)×Int):=
 some (b,a,(0:Int))
def ref15_Add_O_b11 (F:Nat) (c:(List Record)) (b:(List Record)) (d:(Int)→Option ((List Record)×(List Record)×Int)) (a:Int):Option ((List Record)×(List Record)×Int):=
 br (decide (a<((List.length b:Nat):Int))) (gd (0≤a∧a<((List.length b:Nat):Int)) <|
 br (decide ((120:Int)<((List.length ((gl b a.toNat).region_.rects_):Nat):Int))) (some (c,([]:List Record),(1:Int))) (gd (I64 (a+(1:Int))) <|
 d (a+(1:Int)))) (ref15_Add_O_k12 F c b)
def ref15_Add_O_k10 (F:Nat) (b:(List Record)) (a:(List Record)):Option ((List Record)×(List Record)×Int):=
 br (decide ((200:Int)<((List.length a:Nat):Int))) (some (b,([]:List Record),(1:Int))) (loopN (fun again (z:Int)=>ref15_Add_O_b11 F b a again z) F (0:Int))
def ref15_Add_O_k9 (F:Nat) (i:(List Record)) (d:Int) (e:Int) (c:(List Rect)) (b:(List Record)) (a:Int):Option ((List Record)×(List Record)×Int):=
 gd (0≤(0:Int)∧(0:Int)≤a∧((0:Nat):Int)+a≤((List.length (α:=Record) b:Nat):Int)) <|
 gd (0+((a).toNat)≤List.length (α:=Record) b) <|
 gd ((0)+(((a).toNat))≤LIM) <|
 gd (((0)+(((a).toNat)))+(List.length (α:=Record) ([(⟨d,e,(⟨c⟩ : Region)⟩ : Record)]:List Record))≤LIM) <|
 gd (0≤a∧a≤(((List.length (α:=Record) b):Nat):Int)∧((0:Nat):Int)+(((List.length (α:=Record) b):Nat):Int)≤((List.length (α:=Record) b:Nat):Int)) <|
 gd ((0+(a).toNat)+((List.length (α:=Record) b)-(a).toNat)≤List.length (α:=Record) b) <|
 gd ((((0)+(((a).toNat)))+(List.length (α:=Record) ([(⟨d,e,(⟨c⟩ : Region)⟩ : Record)]:List Record)))+(((List.length (α:=Record) b)-(a).toNat))≤LIM) <|
 ref15_Add_O_k10 F i (((([]:List Record)++((b.drop 0).take ((a).toNat)))++([(⟨d,e,(⟨c⟩ : Region)⟩ : Record)]:List Record))++((b.drop (0+(a).toNat)).take ((List.length (α:=Record) b)-(a).toNat)))
def ref15_Add_O_k8 (F:Nat) (i:(List Record)) (j:Int) (k:Int) (c:(List Rect)) (d:(List Record)) (a:Int) (b:(Int)→Option ((List Record)×(List Record)×Int)) (e:Bool):Option ((List Record)×(List Record)×Int):=
 br e (gd (I64 (a+(1:Int))) <|
 b (a+(1:Int))) (ref15_Add_O_k9 F i j k c d a)
def ref15_Add_O_b7 (F:Nat) (j:(List Record)) (c:Int) (d:Int) (i:(List Rect)) (b:(List Record)) (e:(Int)→Option ((List Record)×(List Record)×Int)) (a:Int):Option ((List Record)×(List Record)×Int):=
 br (decide (a<((List.length b:Nat):Int))) (gd (0≤a∧a<((List.length b:Nat):Int)) <|
 br (decide (((gl b a.toNat).year_)<c)) (ref15_Add_O_k8 F j c d i b a e true) (gd (0≤a∧a<((List.length b:Nat):Int)) <|
 br (((gl b a.toNat).year_)==c) (gd (0≤a∧a<((List.length b:Nat):Int)) <|
 ref15_Add_O_k8 F j c d i b a e (decide (((gl b a.toNat).crop_)<d))) (ref15_Add_O_k8 F j c d i b a e false))) (ref15_Add_O_k8 F j c d i b a e false)
def ref15_Add_O_k6 (F:Nat) (c:(List Record)) (d:Int) (e:Int) (a:(List Rect)) (b:(List Record)):Option ((List Record)×(List Record)×Int):=
 br (decide ((0:Int)<((List.length a:Nat):Int))) (loopN (fun again (z:Int)=>ref15_Add_O_b7 F c d e a b again z) F (0:Int)) (ref15_Add_O_k10 F c b)
def ref15_Add_O_b2 (F:Nat) (b:(List Record)) (c:Int) (j:Int) (k:Region) (i:((List Rect)×Int×(List Record))→Option ((List Record)×(List Record)×Int)) (d:(List Rect)) (a:Int) (e:(List Record)):Option ((List Record)×(List Record)×Int):=
 br (decide (a<((List.length b:Nat):Int))) (gd (0≤a∧a<((List.length b:Nat):Int)) <|
 br (((gl b a.toNat).year_)==c) (ref15_Add_O_k3 F b c k d a e i (((gl b a.toNat).crop_)==j)) (ref15_Add_O_k3 F b c k d a e i false)) (ref15_Add_O_k6 F b c j d e)
def ref15_Add_O_k1 (F:Nat) (a:(List Record)) (d:Int) (e:Int) (b:Region) (c:Bool):Option ((List Record)×(List Record)×Int):=
 br c (some (a,([]:List Record),(13:Int))) ((ref04_Valid F b).bind fun i=>
 br (!i) (some (a,([]:List Record),(7:Int))) (loopN (fun again (z:(List Rect)×Int×(List Record))=>ref15_Add_O_b2 F a d e b again z.1 z.2.1 z.2.2) F (b.rects_,(0:Int),([]:List Record))))
def ref15_Add_O_k0 (F:Nat) (b:(List Record)) (c:Int) (a:Int) (d:Region) (e:Bool):Option ((List Record)×(List Record)×Int):=
 br e (some (b,([]:List Record),(18:Int))) (br (decide (a<(0:Int))) (ref15_Add_O_k1 F b c a d true) (ref15_Add_O_k1 F b c a d (decide ((40:Int)≤a))))
def ref15_Add_O (F:Nat) (a:(List Record)) (b:Int) (c:Int) (d:Region):Option ((List Record)×(List Record)×Int):=
 (ref15_Check F a).bind fun e=>
 br (e != (0:Int)) (some (a,([]:List Record),e)) (br (decide (b<(0:Int))) (ref15_Add_O_k0 F a b c d true) (ref15_Add_O_k0 F a b c d (decide ((100:Int)<b))))
def keep_Tape_Grassy_O_k2 (F:Nat) (a:Int) (b:(Int×(List Int)×Int×(List Record))→Option (Tape×(List Crop)×(List Record))) (c:(List Int)) (d:Int) (e:(List Record)):Option (Tape×(List Crop)×(List Record)):=
 gd (I64 (a+(1:Int))) <|
 b ((a+(1:Int)),c,d,e)
def keep_Tape_Grassy_O_b1 (F:Nat) (c:Int) (k:(Int×(List Int)×Int×(List Record))→Option (Tape×(List Crop)×(List Record))) (l:(Int×(List Int)×Int×(List Record))→Option (Tape×(List Crop)×(List Record))) (a:Int) (d:(List Int)) (e:Int) (i:(List Record)):Option (Tape×(List Crop)×(List Record)):=
 br (decide ((0:Int)<a)) ((keep_Tape_Next F (⟨d,e⟩ : Tape) (3:Int)).bind fun j=>
 (keep_Tape_Region F j.1 (9:Int) (1:Int)).bind fun b=>
 (ref15_Add_O F i c j.2 b.2).bind fun m=>
 gd (I64 (a-(1:Int))) <|
 l ((a-(1:Int)),b.1.l_,b.1.at_,m.2.1)) (keep_Tape_Grassy_O_k2 F c k d e i)
def keep_Tape_Grassy_O_k3 (F:Nat) (a:(List Record)) (b:(List Int)) (c:Int):Option (Tape×(List Crop)×(List Record)):=
 some ((⟨b,c⟩ : Tape),([(⟨(ByteArray.mk #[103,114,97,115,115]),(1:Int),(2:Int)⟩ : Crop),(⟨(ByteArray.mk #[109,97,105,122,101]),(2:Int),0⟩ : Crop),(⟨(ByteArray.mk #[114,121,101]),(3:Int),0⟩ : Crop)]:List Crop),a)
def keep_Tape_Grassy_O_b0 (F:Nat) (i:(Int×(List Int)×Int×(List Record))→Option (Tape×(List Crop)×(List Record))) (a:Int) (c:(List Int)) (d:Int) (e:(List Record)):Option (Tape×(List Crop)×(List Record)):=
 br (decide (a<(8:Int))) ((ref15_Add_O F e a (0:Int) (⟨([(⟨0,0,(8:Int),(8:Int)⟩ : Rect)]:List Rect)⟩ : Region)).bind fun j=>
 (keep_Tape_Next F (⟨c,d⟩ : Tape) (3:Int)).bind fun b=>
 loopN (fun again (z:Int×(List Int)×Int×(List Record))=>keep_Tape_Grassy_O_b1 F a i again z.1 z.2.1 z.2.2.1 z.2.2.2) F (b.2,b.1.l_,b.1.at_,j.2.1)) (keep_Tape_Grassy_O_k3 F e c d)
def keep_Tape_Grassy_O (F:Nat) (a:Tape):Option (Tape×(List Crop)×(List Record)):=
 loopN (fun again (z:Int×(List Int)×Int×(List Record))=>keep_Tape_Grassy_O_b0 F again z.1 z.2.1 z.2.2.1 z.2.2.2) F ((0:Int),a.l_,a.at_,([]:List Record))
def keep_Tape_History_P_k1 (F:Nat) (d:(List Crop)) (a:(List Record)) (b:(List Int)) (c:Int):Option (Tape×(List Crop)×(List Record)):=
 some ((⟨b,c⟩ : Tape),d,a)
def keep_Tape_History_P_b0 (F:Nat) (i:(List Crop)) (j:Int) (m:(Int×(List Int)×Int×(List Record))→Option (Tape×(List Crop)×(List Record))) (a:Int) (c:(List Int)) (d:Int) (e:(List Record)):Option (Tape×(List Crop)×(List Record)):=
 br (decide ((0:Int)<a)) (gd (I64 (j+(1:Int))) <|
 (keep_Tape_Next F (⟨c,d⟩ : Tape) (j+(1:Int))).bind fun k=>
 (keep_Tape_Next F k.1 ((List.length i:Nat):Int)).bind fun l=>
 (keep_Tape_Region F l.1 (9:Int) (2:Int)).bind fun b=>
 (ref15_Add_O F e k.2 l.2 b.2).bind fun n=>
 gd (I64 (a-(1:Int))) <|
 m ((a-(1:Int)),b.1.l_,b.1.at_,n.2.1)) (keep_Tape_History_P_k1 F i e c d)
def keep_Tape_History_P (F:Nat) (c:Tape) (d:(List Crop)) (e:Int) (b:Int):Option (Tape×(List Crop)×(List Record)):=
 gd (I64 (b+(1:Int))) <|
 (keep_Tape_Next F c (b+(1:Int))).bind fun a=>
 loopN (fun again (z:Int×(List Int)×Int×(List Record))=>keep_Tape_History_P_b0 F d e again z.1 z.2.1 z.2.2.1 z.2.2.2) F (a.2,a.1.l_,a.1.at_,([]:List Record))
def law20_GrasslandAnswers_k5 (F:Nat) (a:Int) (b:(Int)→Option (Bool)) (c:Bool):Option (Bool):=
 br c (some false) (gd (I64 (a+(1:Int))) <|
 b (a+(1:Int)))
def law20_GrasslandAnswers_k10 (F:Nat) (a:Int) (b:(Int)→Option (Bool)):Option (Bool):=
 gd (I64 (a+(1:Int))) <|
 b (a+(1:Int))
def law20_GrasslandAnswers_b9 (F:Nat) (i:Int) (b:(List Int)×Int) (c:(List Int)×Int) (d:(Int)→Option (Bool)) (e:(Int)→Option (Bool)) (a:Int):Option (Bool):=
 br (decide (a<((List.length b.1:Nat):Int))) (gd (0≤a∧a<((List.length b.1:Nat):Int)) <|
 gd (0≤a∧a<((List.length c.1:Nat):Int)) <|
 br ((gl b.1 a.toNat) != (gl c.1 a.toNat)) (some false) (gd (I64 (a+(1:Int))) <|
 e (a+(1:Int)))) (law20_GrasslandAnswers_k10 F i d)
def law20_GrasslandAnswers_k8 (F:Nat) (b:Int) (d:(List Int)×Int) (e:(List Int)×Int) (a:(Int)→Option (Bool)) (c:Bool):Option (Bool):=
 br c (some false) (loopN (fun again (z:Int)=>law20_GrasslandAnswers_b9 F b d e a again z) F (0:Int))
def law20_GrasslandAnswers_k11 (F:Nat) (a:Int) (b:(Int)→Option (Bool)):Option (Bool):=
 gd (I64 (a+(1:Int))) <|
 b (a+(1:Int))
def law20_GrasslandAnswers_b7 (F:Nat) (c:Region) (s:Int) (t:Int) (u:Int) (a:Tape×Region) (e:Tape×Region) (i:Tape×Region) (w:Int) (y:Int) (o:(List Crop)) (p:(List Record)) (q:Int) (A:Int) (m:Int) (j:Int) (B:(Int)→Option (Bool)) (n:(Int)→Option (Bool)) (b:Int):Option (Bool):=
 br (decide (b<((List.length ([([e.2,a.2,i.2]:List Region),([a.2]:List Region),([c,a.2]:List Region),(List.replicate (((7:Int)+j)).toNat (Emb.d:Region))]:List (List Region)):Nat):Int))) (gd (0≤b∧b<((List.length ([([e.2,a.2,i.2]:List Region),([a.2]:List Region),([c,a.2]:List Region),(List.replicate (((7:Int)+j)).toNat (Emb.d:Region))]:List (List Region)):Nat):Int)) <|
 (grassland_Restore F p o ((gl ([(⟨s,t⟩ : Arr2Int),(⟨((4:Int)+w),((4:Int)+y)⟩ : Arr2Int)]:List Arr2Int) q.toNat).e1_) (gl ([([e.2,a.2,i.2]:List Region),([a.2]:List Region),([c,a.2]:List Region),(List.replicate (((7:Int)+j)).toNat (Emb.d:Region))]:List (List Region)) b.toNat) (gl ([u,(A-(1:Int))]:List Int) m.toNat)).bind fun k=>
 (ref20_Restore F p o ((gl ([(⟨s,t⟩ : Arr2Int),(⟨((4:Int)+w),((4:Int)+y)⟩ : Arr2Int)]:List Arr2Int) q.toNat).e1_) (gl ([([e.2,a.2,i.2]:List Region),([a.2]:List Region),([c,a.2]:List Region),(List.replicate (((7:Int)+j)).toNat (Emb.d:Region))]:List (List Region)) b.toNat) (gl ([u,(A-(1:Int))]:List Int) m.toNat)).bind fun l=>
 br (((List.length k.1:Nat):Int) != ((List.length l.1:Nat):Int)) (law20_GrasslandAnswers_k8 F b k l n true) (law20_GrasslandAnswers_k8 F b k l n (k.2 != l.2))) (law20_GrasslandAnswers_k11 F m B)
def law20_GrasslandAnswers_k6 (F:Nat) (j:Region) (k:Int) (l:Int) (m:Int) (n:Int) (o:Tape×Region) (p:Tape×Region) (q:Tape×Region) (s:Int) (t:Int) (c:(List Crop)) (d:(List Record)) (e:Int) (u:Int) (i:Int) (b:(Int)→Option (Bool)):Option (Bool):=
 (keep_Mod F n (4:Int)).bind fun a=>
 gd (I64 ((7:Int)+a)) <|
 gd (0≤((7:Int)+a)∧((7:Int)+a)≤((LIM:Nat):Int)) <|
 loopN (fun again (z:Int)=>law20_GrasslandAnswers_b7 F j k l m o p q s t c d e u i a b again z) F (0:Int)
def law20_GrasslandAnswers_b4 (F:Nat) (c:Region) (d:Int) (e:Int) (p:Int) (A:Int) (i:Tape×Region) (B:Tape×Region) (D:Tape×Region) (j:Int) (k:Int) (m:(List Crop)) (n:(List Record)) (b:Int) (q:Int) (o:Int) (y:(Int)→Option (Bool)) (l:(Int)→Option (Bool)) (a:Int):Option (Bool):=
 br (decide (a<((List.length ([c,i.2]:List Region):Nat):Int))) (gd (0≤a∧a<((List.length ([c,i.2]:List Region):Nat):Int)) <|
 (grassland_Ratio F n m ((gl ([(⟨d,e⟩ : Arr2Int),(⟨((4:Int)+j),((4:Int)+k)⟩ : Arr2Int)]:List Arr2Int) b.toNat).e1_) (gl ([c,i.2]:List Region) a.toNat)).bind fun s=>
 (ref20_Ratio F n m ((gl ([(⟨d,e⟩ : Arr2Int),(⟨((4:Int)+j),((4:Int)+k)⟩ : Arr2Int)]:List Arr2Int) b.toNat).e1_) (gl ([c,i.2]:List Region) a.toNat)).bind fun t=>
 (grassland_Fallen F n m ((gl ([(⟨d,e⟩ : Arr2Int),(⟨((4:Int)+j),((4:Int)+k)⟩ : Arr2Int)]:List Arr2Int) b.toNat).e0_) ((gl ([(⟨d,e⟩ : Arr2Int),(⟨((4:Int)+j),((4:Int)+k)⟩ : Arr2Int)]:List Arr2Int) b.toNat).e1_) (gl ([c,i.2]:List Region) a.toNat) (gl ([p,(q-(1:Int))]:List Int) o.toNat)).bind fun u=>
 (ref20_Fallen F n m ((gl ([(⟨d,e⟩ : Arr2Int),(⟨((4:Int)+j),((4:Int)+k)⟩ : Arr2Int)]:List Arr2Int) b.toNat).e0_) ((gl ([(⟨d,e⟩ : Arr2Int),(⟨((4:Int)+j),((4:Int)+k)⟩ : Arr2Int)]:List Arr2Int) b.toNat).e1_) (gl ([c,i.2]:List Region) a.toNat) (gl ([p,(q-(1:Int))]:List Int) o.toNat)).bind fun w=>
 br (s.1 != t.1) (law20_GrasslandAnswers_k5 F a l true) (br (s.2.1 != t.2.1) (law20_GrasslandAnswers_k5 F a l true) (br (s.2.2 != t.2.2) (law20_GrasslandAnswers_k5 F a l true) (br (!(u.1==w.1)) (law20_GrasslandAnswers_k5 F a l true) (law20_GrasslandAnswers_k5 F a l (u.2 != w.2)))))) (law20_GrasslandAnswers_k6 F c d e p A i B D j k m n b q o y)
def law20_GrasslandAnswers_k12 (F:Nat) (c:(List Crop)) (d:(List Record)) (a:Int) (b:((List Crop)×(List Record)×Int)→Option (Bool)):Option (Bool):=
 gd (I64 (a+(1:Int))) <|
 b (c,d,(a+(1:Int)))
def law20_GrasslandAnswers_b3 (F:Nat) (l:Region) (m:Int) (n:Int) (b:Int) (o:Int) (p:Tape×Region) (q:Tape×Region) (s:Tape×Region) (t:Int) (u:Int) (d:(List Crop)) (e:(List Record)) (i:Int) (c:Int) (j:((List Crop)×(List Record)×Int)→Option (Bool)) (k:(Int)→Option (Bool)) (a:Int):Option (Bool):=
 br (decide (a<((List.length ([b,(c-(1:Int))]:List Int):Nat):Int))) (gd (0≤a∧a<((List.length ([b,(c-(1:Int))]:List Int):Nat):Int)) <|
 loopN (fun again (z:Int)=>law20_GrasslandAnswers_b4 F l m n b o p q s t u d e i c a k again z) F (0:Int)) (law20_GrasslandAnswers_k12 F d e i j)
def law20_GrasslandAnswers_k2 (F:Nat) (k:Region) (l:Int) (m:Int) (a:Int) (n:Int) (o:Tape×Region) (p:Tape×Region) (q:Tape×Region) (s:Int) (t:Int) (d:(List Crop)) (e:(List Record)) (i:Int) (c:((List Crop)×(List Record)×Int)→Option (Bool)) (j:Bool):Option (Bool):=
 br j (some false) ((keep_Mod F a (1000003:Int)).bind fun b=>
 gd (I64 (b-(1:Int))) <|
 loopN (fun again (z:Int)=>law20_GrasslandAnswers_b3 F k l m a n o p q s t d e i b c again z) F (0:Int))
def law20_GrasslandAnswers_k13 (F:Nat):Option (Bool):=
 (law20_awake F).bind fun a=>
 some a
def law20_GrasslandAnswers_b1 (F:Nat) (l:Region) (b:Int) (c:Int) (m:Int) (n:Int) (o:Tape×Region) (p:Tape×Region) (q:Tape×Region) (d:Int) (e:Int) (k:((List Crop)×(List Record)×Int)→Option (Bool)) (i:(List Crop)) (j:(List Record)) (a:Int):Option (Bool):=
 br (decide (a<((List.length ([(⟨b,c⟩ : Arr2Int),(⟨((4:Int)+d),((4:Int)+e)⟩ : Arr2Int)]:List Arr2Int):Nat):Int))) (gd (0≤a∧a<((List.length ([(⟨b,c⟩ : Arr2Int),(⟨((4:Int)+d),((4:Int)+e)⟩ : Arr2Int)]:List Arr2Int):Nat):Int)) <|
 (grassland_Permanent F j i ((gl ([(⟨b,c⟩ : Arr2Int),(⟨((4:Int)+d),((4:Int)+e)⟩ : Arr2Int)]:List Arr2Int) a.toNat).e1_)).bind fun s=>
 (ref20_Permanent F j i ((gl ([(⟨b,c⟩ : Arr2Int),(⟨((4:Int)+d),((4:Int)+e)⟩ : Arr2Int)]:List Arr2Int) a.toNat).e1_)).bind fun t=>
 (grassland_Ploughed F j i ((gl ([(⟨b,c⟩ : Arr2Int),(⟨((4:Int)+d),((4:Int)+e)⟩ : Arr2Int)]:List Arr2Int) a.toNat).e1_)).bind fun u=>
 (ref20_Ploughed F j i ((gl ([(⟨b,c⟩ : Arr2Int),(⟨((4:Int)+d),((4:Int)+e)⟩ : Arr2Int)]:List Arr2Int) a.toNat).e1_)).bind fun w=>
 (ref04_Same F s.1 t.1).bind fun y=>
 br (!y) (law20_GrasslandAnswers_k2 F l b c m n o p q d e i j a k true) (br (s.2 != t.2) (law20_GrasslandAnswers_k2 F l b c m n o p q d e i j a k true) ((ref04_Same F u.1 w.1).bind fun A=>
 br (!A) (law20_GrasslandAnswers_k2 F l b c m n o p q d e i j a k true) (law20_GrasslandAnswers_k2 F l b c m n o p q d e i j a k (u.2 != w.2))))) (law20_GrasslandAnswers_k13 F)
def law20_GrasslandAnswers_k0 (F:Nat) (n:Region) (a:Int) (b:Int) (o:Int) (p:Int) (j:(List Int)) (k:Int) (l:(List Crop)) (m:(List Record)):Option (Bool):=
 (keep_Tape_Broken F (⟨j,k⟩ : Tape) (9:Int) (2:Int)).bind fun c=>
 (keep_Tape_Region F c.1 (4:Int) (1:Int)).bind fun d=>
 (keep_Tape_Region F d.1 (9:Int) (1:Int)).bind fun q=>
 (keep_Mod F a (4:Int)).bind fun e=>
 gd (I64 ((4:Int)+e)) <|
 (keep_Mod F b (4:Int)).bind fun i=>
 gd (I64 ((4:Int)+i)) <|
 loopN (fun again (z:(List Crop)×(List Record)×Int)=>law20_GrasslandAnswers_b1 F n a b o p c d q e i again z.1 z.2.1 z.2.2) F (l,m,(0:Int))
def law20_GrasslandAnswers (F:Nat) (d:Region) (e:Int) (i:Int) (j:Int) (c:Int) (n:(List Int)):Option (Bool):=
 br (decide ((5:Int)<((List.length d.rects_:Nat):Int))) ((law20_awake F).bind fun o=>
 some o) ((keep_New F n).bind fun p=>
 (keep_Tape_Grassy_O F p).bind fun a=>
 (keep_Tape_Next F a.1 (9:Int)).bind fun b=>
 br (b.2==(0:Int)) ((keep_Mod F c (34:Int)).bind fun l=>
 gd (I64 (l-(1:Int))) <|
 gd (0≤(0:Int)∧(0:Int)<((List.length a.2.1:Nat):Int)) <|
 law20_GrasslandAnswers_k0 F d e i j c b.1.l_ b.1.at_ (List.set a.2.1 (0:Int).toNat (⟨(gl a.2.1 (0:Int).toNat).name_,(gl a.2.1 (0:Int).toNat).family_,(l-(1:Int))⟩ : Crop)) a.2.2) (br (b.2==(1:Int)) (br (decide ((0:Int)<((List.length a.2.2:Nat):Int))) ((keep_Mod F c (6:Int)).bind fun m=>
 gd (I64 (m-(1:Int))) <|
 gd (0≤(0:Int)∧(0:Int)<((List.length a.2.2:Nat):Int)) <|
 law20_GrasslandAnswers_k0 F d e i j c b.1.l_ b.1.at_ a.2.1 (List.set a.2.2 (0:Int).toNat (⟨(gl a.2.2 (0:Int).toNat).year_,(m-(1:Int)),(gl a.2.2 (0:Int).toNat).region_⟩ : Record))) (law20_GrasslandAnswers_k0 F d e i j c b.1.l_ b.1.at_ a.2.1 a.2.2)) (br (b.2==(2:Int)) ((keep_Tape_History_P F b.1 a.2.1 (4:Int) (5:Int)).bind fun k=>
 law20_GrasslandAnswers_k0 F d e i j c k.1.l_ k.1.at_ k.2.1 k.2.2) (law20_GrasslandAnswers_k0 F d e i j c b.1.l_ b.1.at_ a.2.1 a.2.2))))
end
end Go.Ab
end

section

end

section

end

section

end

section

end

section

end

section
namespace Go.Ab
def BIG:Nat:=1099511627776
theorem gd_ok {R:Type} {p:Prop} [Decidable p] {x:Option R} {y:Option R} (h:p) (k:x=y):gd p x=y:=by unfold gd; rw [if_pos h]; exact k
theorem bd_ok {α R:Type} {x:Option α} {f:α→Option R} {a:α} {y:Option R} (h:x=some a) (k:f a=y):x.bind f=y:=by rw [h]; exact k
theorem br_ok {R:Type} {b:Bool} {x y z:Option R} (ht:b=true→x=z) (hf:b=false→y=z):br b x y=z:=by cases b; exact hf rfl; exact ht rfl
theorem br_tt {R:Type} {b:Bool} {x y z:Option R} (h:b=true) (k:x=z):br b x y=z:=by subst h; exact k
theorem br_ff {R:Type} {b:Bool} {x y z:Option R} (h:b=false) (k:y=z):br b x y=z:=by subst h; exact k
theorem br_ite {R:Type} (b:Bool) (x y:Option R):br b x y=if b=true then x else y:=by cases b <;> rfl
theorem br_some {R:Type} (b:Bool) (x y:R):br b (some x) (some y)=some (if b=true then x else y):=by cases b <;> rfl
theorem loopN_ok {σ R:Type} {body:(σ→Option R)→σ→Option R} {y:Option R} (I:σ→Prop) (μ:σ→Nat)
  (round : ∀ again z,I z→(∀ z',I z' → μ z' < μ z→again z' = y)→body again z=y) : ∀ {n:Nat} {z:σ},I z→μ z<n→loopN body n z=y:=by
 intro n
 induction n with
 | zero=>intro z _ h; omega
 | succ n ih=>
  intro z hz hμ
  exact round (loopN body n) z hz fun z' hz' hlt=>ih hz' (by omega)
section
variable {α:Type} [Emb α]
theorem gl_lt {l:List α} {i:Nat} (h:i<l.length):gl l i=l[i]:=by simp [gl,List.getD_eq_getElem?_getD,h]
theorem gl_mem {l:List α} {i:Nat} (h:i<l.length):gl l i ∈ l:=by rw [gl_lt h]; exact List.getElem_mem h
theorem drop_gl {l:List α} {i:Nat} (h:i<l.length):l.drop i=gl l i::l.drop (i+1):=by rw [gl_lt h]; exact List.drop_eq_getElem_cons h
theorem take_gl {l:List α} {i:Nat} (h:i<l.length):l.take (i+1)=l.take i++[gl l i]:=by rw [gl_lt h]; exact List.take_succ_eq_append_getElem h
end
theorem i64_of {n:Int} (h1 : -4611686018427387904≤n) (h2:n≤4611686018427387904):I64 n:=⟨by omega,by omega⟩
theorem range_ok {α R:Type} [Emb α] {l:List α} {body:(Int→Option R)→Int→Option R} (y:List α→Option R)
  (step : ∀ again (i:Nat),i<l.length→again ((i:Int)+1)=y (l.drop (i+1))→body again (i:Int)=y (gl l i::l.drop (i+1)))
  (stop : ∀ again,body again (l.length:Int)=y []) {F:Nat} (hF:l.length<F):loopN body F 0=y l:=by
 have key : ∀ (n:Nat) (i:Nat),i≤l.length→l.length-i<n→loopN body n (i:Int)=y (l.drop i):=by
  intro n
  induction n with
  | zero=>intro i _ h; omega
  | succ n ih=>
   intro i hi hn
   show body (loopN body n) (i:Int)=_
   by_cases h:i<l.length
   ·rw [drop_gl h]
    refine step _ i h ?_
    have:=ih (i+1) h (by omega)
    rw [← this]; congr 1
   ·have:i=l.length:=by omega
    subst this
    rw [List.drop_length]; exact stop _
 have:=key F 0 (Nat.zero_le _) (by omega)
 rw [List.drop_zero] at this
 exact this
theorem range_st {α σ R:Type} [Emb α] {l:List α} {body:(Int×σ→Option R)→Int×σ→Option R} (I:List α→σ→Prop) (y:List α→σ→Option R)
  (step : ∀ again (i:Nat) (s:σ),i<l.length→I (gl l i::l.drop (i+1)) s→(∀ s',I (l.drop (i+1)) s' → again ((i:Int)+1,s')=y (l.drop (i+1)) s')→body again ((i:Int),s)=y (gl l i::l.drop (i+1)) s)
  (stop : ∀ again (s:σ),I [] s→body again ((l.length:Int),s)=y [] s) {F:Nat} (hF:l.length<F) {s0:σ} (h0:I l s0):loopN body F (0,s0)=y l s0:=by
 have key : ∀ (n:Nat) (i:Nat) (s:σ),i≤l.length→l.length-i<n→I (l.drop i) s→loopN body n ((i:Int),s)=y (l.drop i) s:=by
  intro n
  induction n with
  | zero=>intro i _ _ h; omega
  | succ n ih=>
   intro i s hi hn hI
   show body (loopN body n) ((i:Int),s)=_
   by_cases h:i<l.length
   ·rw [drop_gl h] at hI ⊢
    refine step _ i s h hI fun s' hs' => ?_
    have:=ih (i+1) s' h (by omega) hs'
    rw [← this]; congr 1
   ·have:i=l.length:=by omega
    subst this
    rw [List.drop_length] at hI ⊢; exact stop _ s hI
 have:=key F 0 s0 (Nat.zero_le _) (by omega) (by rwa [List.drop_zero])
 rw [List.drop_zero] at this
 exact this
theorem and_br {R:Type} (K:Bool→Option R) (b x:Bool):br b (K x) (K false)=K (b&&x):=by cases b <;> rfl
theorem or_br {R:Type} (K:Bool→Option R) (b x:Bool):br b (K true) (K x)=K (b||x):=by cases b <;> rfl
theorem any_drop {α:Type} [Emb α] {l:List α} {i:Nat} (h:i<l.length) (p:α→Bool):(l.drop i).any p=(p (gl l i)||(l.drop (i+1)).any p):=by rw [drop_gl h]; rfl
theorem lt_dec {a b:Nat} (h:a<b):decide ((a:Int)<((b:Nat):Int))=true:=by simpa using h
theorem not_lt_dec (a:Nat):decide ((a:Int)<((a:Nat):Int))=false:=by simp
theorem gd_G {R:Type} {p:Prop} [Decidable p] {x:Option R} {y:Option R} (h:p:=by first | omega | exact i64_of (by omega) (by omega) | (simp only [LIM,BIG,List.length_append,List.length_cons,List.length_nil,List.length_map,List.length_take,List.length_drop,List.length_set] at *; omega)) (k:x=y):gd p x=y:=gd_ok h k
end Go.Ab
end

section
namespace Go.Ab
def Asc (l:List Int):Prop:=l.Pairwise (· < ·)
theorem Asc.at_lt {l:List Int} (h:Asc l) {i j:Nat} (hij:i<j) (hj:j<l.length):gl l i<gl l j:=by
 rw [gl_lt (by omega),gl_lt hj]
 exact List.pairwise_iff_getElem.1 h i j (by omega) hj hij
theorem mem_gl {l:List Int} {v:Int} (h:v ∈ l) : ∃ j,j<l.length∧gl l j=v:=by
 obtain ⟨j,hj,e⟩:=List.getElem_of_mem h
 exact ⟨j,hj,by rw [gl_lt hj]; exact e⟩
theorem Asc.gap {c:List Int} (h:Asc c) {i:Nat} (hi:i+1<c.length) {t v:Int} (h1:gl c i≤t) (h2:t<gl c (i+1)) (hv:v ∈ c):(v≤t↔v≤gl c i):=by
 obtain ⟨j,hj,rfl⟩:=mem_gl hv
 rcases Nat.lt_or_ge i j with hij | hij
 ·rcases Nat.lt_or_ge (i+1) j with h3 | h3
  ·have:=h.at_lt h3 hj
   have:=h.at_lt (show i<i+1 by omega) hi
   omega
  ·have:j=i+1:=by omega
   subst this
   have:=h.at_lt (show i<i+1 by omega) hi
   omega
 ·rcases Nat.lt_or_ge j i with h3 | h3
  ·have:=h.at_lt h3 (by omega)
   omega
  ·have:j=i:=by omega
   subst this; omega
def CovX (c:List Int) (l:List Rect):Prop:=∀ r ∈ l,r.left_ ∈ c∧r.right_ ∈ c
def CovY (c:List Int) (l:List Rect):Prop:=∀ r ∈ l,r.low_ ∈ c∧r.high_ ∈ c
theorem inR_congr {l:List Rect} {x y x' y' : Int} (h : ∀ r ∈ l,r.has x y=r.has x' y'):inR l x y=inR l x' y' := by
 induction l with
 | nil=>rfl
 | cons r l ih=>
  simp only [inR,List.any_cons] at ih ⊢
  rw [h r (by simp),ih fun q hq=>h q (by simp [hq])]
theorem inR_false {l:List Rect} {x y:Int} (h : ∀ r ∈ l,r.has x y=false):inR l x y=false:=by
 induction l with
 | nil=>rfl
 | cons r l ih=>
  simp only [inR,List.any_cons] at ih ⊢
  rw [h r (by simp),ih fun q hq=>h q (by simp [hq])]; rfl
theorem has_iff (r:Rect) (x y:Int):r.has x y=true↔r.left_≤x∧x<r.right_∧r.low_≤y∧y<r.high_:=by simp [Rect.has,and_assoc]
theorem has_eq {r:Rect} {x y x' y' : Int} (h:(r.left_≤x∧x<r.right_∧r.low_≤y∧y<r.high_)↔(r.left_≤x' ∧ x' < r.right_∧r.low_≤y' ∧ y' < r.high_)):r.has x y=r.has x' y' := by
 rw [Bool.eq_iff_iff,has_iff,has_iff]; exact h
theorem has_ff {r:Rect} {x y:Int} (h : ¬ (r.left_≤x∧x<r.right_∧r.low_≤y∧y<r.high_)):r.has x y=false:=by
 rw [← Bool.not_eq_true,has_iff]; exact h
theorem CovX.gap {c:List Int} {l:List Rect} (hc:Asc c) (h:CovX c l) {i:Nat} (hi:i+1<c.length) {t:Int} (h1:gl c i≤t) (h2:t<gl c (i+1)) (y:Int):inR l t y=inR l (gl c i) y:=
 inR_congr fun r hr=>has_eq (by
  have a:=hc.gap hi h1 h2 (h r hr).1
  have b:=hc.gap hi h1 h2 (h r hr).2
  omega)
theorem CovY.gap {c:List Int} {l:List Rect} (hc:Asc c) (h:CovY c l) {i:Nat} (hi:i+1<c.length) {t:Int} (h1:gl c i≤t) (h2:t<gl c (i+1)) (x:Int):inR l x t=inR l x (gl c i):=
 inR_congr fun r hr=>has_eq (by
  have a:=hc.gap hi h1 h2 (h r hr).1
  have b:=hc.gap hi h1 h2 (h r hr).2
  omega)
theorem CovX.before {c:List Int} {l:List Rect} (h:CovX c l) {t:Int} (ht : ∀ v ∈ c,t<v) (y:Int):inR l t y=false:=
 inR_false fun r hr=>has_ff (by have:=ht _ (h r hr).1; omega)
theorem CovX.after {c:List Int} {l:List Rect} (h:CovX c l) {t:Int} (ht : ∀ v ∈ c,v≤t) (y:Int):inR l t y=false:=
 inR_false fun r hr=>has_ff (by have:=ht _ (h r hr).2; omega)
theorem CovY.before {c:List Int} {l:List Rect} (h:CovY c l) {t:Int} (ht : ∀ v ∈ c,t<v) (x:Int):inR l x t=false:=
 inR_false fun r hr=>has_ff (by have:=ht _ (h r hr).1; omega)
theorem CovY.after {c:List Int} {l:List Rect} (h:CovY c l) {t:Int} (ht : ∀ v ∈ c,v≤t) (x:Int):inR l x t=false:=
 inR_false fun r hr=>has_ff (by have:=ht _ (h r hr).2; omega)
theorem Asc.first {c:List Int} (h:Asc c) {t:Int} (ht:t<gl c 0) : ∀ v ∈ c,t<v:=by
 intro v hv
 obtain ⟨j,hj,rfl⟩:=mem_gl hv
 rcases Nat.eq_zero_or_pos j with rfl | hp
 ·exact ht
 ·have:=h.at_lt hp hj; omega
theorem Asc.last {c:List Int} (h:Asc c) {t:Int} {i:Nat} (hi:i+1=c.length) (ht:gl c i≤t) : ∀ v ∈ c,v≤t:=by
 intro v hv
 obtain ⟨j,hj,rfl⟩:=mem_gl hv
 rcases Nat.lt_or_ge j i with h1 | h1
 ·have:=h.at_lt h1 (by omega); omega
 ·have:j=i:=by omega
  subst this; exact ht
structure Step {α:Type} (d:α) (c:List Int) (f:Int→α):Prop where
 asc:Asc c
 gap : ∀ i,i+1<c.length→∀ t,gl c i≤t→t<gl c (i+1)→f t=f (gl c i)
 before : ∀ t,(∀ v ∈ c,t<v)→f t=d
 after : ∀ t,(∀ v ∈ c,v≤t)→f t=d
theorem Step.start {α:Type} {d:α} {c:List Int} {f:Int→α} (h:Step d c f) (_:0<c.length):Bst d f [] (gl c 0):=.start fun t ht=>h.before t (h.asc.first ht)
theorem Step.empty {α:Type} {d:α} {c:List Int} {f:Int→α} (h:Step d c f) (hc:c.length=0) (t:Int):f t=d:=h.before t fun v hv=>by
 rw [List.eq_nil_of_length_eq_zero hc] at hv; cases hv
theorem Step.done {α:Type} {d:α} {c:List Int} {f:Int→α} (h:Step d c f) {i:Nat} (hi:i+1=c.length) {acc:List (Rn α)} (hb:Bst d f acc (gl c i)) (t:Int):atR d acc t=f t:=by
 rcases Int.lt_or_le t (gl c i) with h1 | h1
 ·exact hb.val t h1
 ·rw [hb.out t h1,h.after t (h.asc.last hi h1)]
open Classical in
noncomputable def spn (f:Int→Bool):List Span:=if h : ∃ l,SpOk l∧∀ x,inS l x=f x then h.choose else []
theorem spn_eq {f:Int→Bool} {l:List Span} (hl:SpOk l) (h : ∀ x,inS l x=f x):spn f=l:=by
 have he : ∃ l,SpOk l∧∀ x,inS l x=f x:=⟨l,hl,h⟩
 unfold spn
 rw [dif_pos he]
 exact he.choose_spec.1.unique hl fun x=>(he.choose_spec.2 x).trans (h x).symm
theorem SpOk.nil:SpOk []:=⟨fun s hs=>(List.not_mem_nil hs).elim,List.Pairwise.nil⟩
theorem spn_false {f:Int→Bool} (h : ∀ x,f x=false):spn f=[]:=spn_eq .nil fun x=>(h x).symm
def RowsOk (S:Int→Int→Bool):Prop:=∀ y,∃ l,SpOk l∧∀ x,inS l x=S x y
theorem RowsOk.sp {S:Int→Int→Bool} (h:RowsOk S) (y:Int):SpOk (spn fun x=>S x y)∧∀ x,inS (spn fun x=>S x y) x=S x y:=by
 obtain ⟨l,h1,h2⟩:=h y
 rw [spn_eq h1 h2]; exact ⟨h1,h2⟩
theorem Step.cn {S:Int→Int→Bool} (hr:RowsOk S) {c:List Int} (h:Step [] c fun y=>spn fun x=>S x y) {acc:List (Rn (List Span))} (hacc:Runs acc) (hval : ∀ t,atR [] acc t=spn fun x=>S x t) (hne : ∀ b ∈ acc,b.v≠[]):cn S=flat acc∧Fin S:=by
 have hv : ∀ b ∈ acc,b.v=spn fun x=>S x b.lo:=by
  intro b hb
  have hat : ∀ (l:List (Rn (List Span))),Runs l→b ∈ l→atR [] l b.lo=b.v:=by
   intro l
   induction l with
   | nil=>intro _ hb; cases hb
   | cons a l ih=>
    intro hl hb
    rcases List.mem_cons.1 hb with rfl | hb
    ·have:=hl.pos b (by simp)
     rw [atR,if_pos ⟨by omega,this⟩]
    ·have h1:=(hl.head b hb).1
     rw [atR,if_neg (by omega)]; exact ih hl.tail hb
  rw [← hval,hat acc hacc hb]
 have hB:Bands acc:=⟨hacc,fun b hb=>by rw [hv b hb]; exact (hr.sp _).1,hne⟩
 have hS : ∀ x y,inS (atR [] acc y) x=S x y:=fun x y=>by rw [hval]; exact (hr.sp y).2 x
 exact ⟨cn_eq hB hS,acc,hB,hS⟩
structure Grid (xs ys:List Int) (S:Int→Int→Bool):Prop where
 x : ∀ y,Step false xs fun x=>S x y
 y : ∀ x,Step false ys fun y=>S x y
theorem Step.spansL {xs:List Int} {f:Int→Bool} (h:Step false xs f) : ∃ l,SpOk l∧(∀ x,inS l x=f x)∧l.length≤xs.length:=by
 by_cases h0:xs.length=0
 ·exact ⟨[],.nil,fun x=>(h.empty h0 x).symm,by simp⟩
 ·have key : ∀ i,i+1≤xs.length→∃ l:List Span,Bst false f (l.map Span.rn) (gl xs i)∧l.length≤i:=by
   intro i
   induction i with
   | zero=>intro hi; exact ⟨[],h.start (by omega),by simp⟩
   | succ i ih=>
    intro hi
    obtain ⟨l,hl,hll⟩:=ih (by omega)
    have hlt:=h.asc.at_lt (show i<i+1 by omega) (by omega)
    cases hf:f (gl xs i) with
    | false=>exact ⟨l,hl.skip (by omega) fun t h1 h2=>(h.gap i (by omega) t h1 h2).trans hf,by omega⟩
    | true=>
     rcases List.eq_nil_or_concat l with rfl | ⟨l',s,hls⟩
     ·refine ⟨[⟨gl xs i,gl xs (i+1)⟩], ?_,by simp⟩
      have:=hl.add hlt (h.gap i (by omega)) (fun a ha=>by simp at ha)
      rw [hf] at this; exact this
     ·rw [List.concat_eq_append] at hls
      subst hls
      by_cases hs:s.right_=gl xs i
      ·refine ⟨l' ++ [⟨s.left_,gl xs (i+1)⟩], ?_,by simp at hll ⊢; omega⟩
       rw [List.map_append] at hl
       have:=hl.grow (a:=s.rn) hs hlt fun t h1 h2=>(h.gap i (by omega) t h1 h2).trans hf
       rw [List.map_append]; exact this
      ·refine ⟨(l' ++ [s])++[⟨gl xs i,gl xs (i+1)⟩], ?_,by simp at hll ⊢; omega⟩
       have:=hl.add hlt (h.gap i (by omega)) (fun a ha he=>by
        rw [List.map_append] at ha
        simp at ha
        subst ha
        exact absurd he hs)
       rw [hf] at this
       rw [List.map_append]; exact this
  obtain ⟨l,hl,hll⟩:=key (xs.length-1) (by omega)
  refine ⟨l,.of_runs hl.runs,fun x=>?_,by omega⟩
  rw [inS_atR]; exact h.done (by omega) hl x
theorem Step.spans {xs:List Int} {f:Int→Bool} (h:Step false xs f) : ∃ l,SpOk l∧∀ x,inS l x=f x:=by
 obtain ⟨l,h1,h2,_⟩:=h.spansL; exact ⟨l,h1,h2⟩
theorem Step.spn_len {xs:List Int} {f:Int→Bool} (h:Step false xs f):(spn f).length≤xs.length:=by
 obtain ⟨l,h1,h2,h3⟩:=h.spansL; rw [spn_eq h1 h2]; exact h3
theorem Grid.rows {xs ys:List Int} {S:Int→Int→Bool} (h:Grid xs ys S):RowsOk S:=fun y=>(h.x y).spans
theorem Grid.step {xs ys:List Int} {S:Int→Int→Bool} (h:Grid xs ys S):Step [] ys fun y=>spn fun x=>S x y:=by
 refine ⟨(h.y 0).asc,fun i hi t h1 h2=>?_,fun t ht=>?_,fun t ht=>?_⟩
 ·congr 1; funext x; exact (h.y x).gap i hi t h1 h2
 ·exact spn_false fun x=>(h.y x).before t ht
 ·exact spn_false fun x=>(h.y x).after t ht
theorem Grid.of {xs ys:List Int} {a b:List Rect} (hx:Asc xs) (hy:Asc ys) (ax:CovX xs a) (bx:CovX xs b) (ay:CovY ys a) (by' : CovY ys b) {k:Bool→Bool→Bool} (hk:k false false=false) :
  Grid xs ys fun x y=>k (inR a x y) (inR b x y):=by
 refine ⟨fun y=>⟨hx,fun i hi t h1 h2=>?_,fun t ht=>?_,fun t ht=>?_⟩,fun x=>⟨hy,fun i hi t h1 h2=>?_,fun t ht=>?_,fun t ht=>?_⟩⟩
 ·simp only [ax.gap hx hi h1 h2,bx.gap hx hi h1 h2]
 ·simp only [ax.before ht,bx.before ht,hk]
 ·simp only [ax.after ht,bx.after ht,hk]
 ·simp only [ay.gap hy hi h1 h2,by'.gap hy hi h1 h2]
 ·simp only [ay.before ht,by'.before ht,hk]
 ·simp only [ay.after ht,by'.after ht,hk]
end Go.Ab
end
