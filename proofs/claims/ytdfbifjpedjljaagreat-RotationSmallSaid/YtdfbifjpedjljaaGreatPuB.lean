/- The code that the statement reaches as plain programs, and what they compute: no condition on the program. -/
import Derived.Test.YtdfbifjpedjljaaGreatAbC
import Derived.Test.YtdfbifjpedjljaaGreatPuA
set_option linter.unusedVariables false
set_option linter.unusedSimpArgs false
section
namespace Go.Ab
set_option linter.unusedVariables false
set_option maxRecDepth 100000
noncomputable section
structure Crop where
 name_:ByteArray
 family_:Int
 marks_:Int
 deriving DecidableEq
instance:Emb Crop:=⟨fun x=>[.str x.name_,.int .i64 x.family_,.int .i64 x.marks_],3,⟨ByteArray.empty,0,0⟩,fun _=>rfl⟩
instance:Emb Rect:=⟨fun x=>[.int .i64 x.left_,.int .i64 x.low_,.int .i64 x.right_,.int .i64 x.high_],4,⟨0,0,0,0⟩,fun _=>rfl⟩
structure Region where
 rects_:(List Rect)
 deriving DecidableEq
instance:Emb Region:=⟨fun x=>[DL (α:=Rect) x.rects_],1,⟨[]⟩,fun _=>rfl⟩
structure Record where
 year_:Int
 crop_:Int
 region_:Region
 deriving DecidableEq
instance:Emb Record:=⟨fun x=>[.int .i64 x.year_,.int .i64 x.crop_,DL (α:=Rect) x.region_.rects_],3,⟨0,0,⟨[]⟩⟩,fun _=>rfl⟩
structure Arr2Int where
 e0_:Int
 e1_:Int
 deriving DecidableEq
instance:Emb Arr2Int:=⟨fun x=>[.int .i64 x.e0_,.int .i64 x.e1_],2,⟨0,0⟩,fun _=>rfl⟩
structure Feature where
 number_:Int
 kind_:Int
 from_:Int
 until_:Int
 region_:Region
 deriving DecidableEq
instance:Emb Feature:=⟨fun x=>[.int .i64 x.number_,.int .i64 x.kind_,.int .i64 x.from_,.int .i64 x.until_,DL (α:=Rect) x.region_.rects_],5,⟨0,0,0,0,⟨[]⟩⟩,fun _=>rfl⟩
structure Line where
 parcel_:Int
 region_:Region
 crop_:Int
 schemes_:Int
 deriving DecidableEq
instance:Emb Line:=⟨fun x=>[.int .i64 x.parcel_,DL (α:=Rect) x.region_.rects_,.int .i64 x.crop_,.int .i64 x.schemes_],4,⟨0,⟨[]⟩,0,0⟩,fun _=>rfl⟩
structure Tape where
 l_:(List Int)
 at_:Int
 deriving DecidableEq
instance:Emb Tape:=⟨fun x=>[DL (α:=Int) x.l_,.int .i64 x.at_],2,⟨[],0⟩,fun _=>rfl⟩
structure Records where
 l_:(List Record)
 crops_:(List Crop)
 deriving DecidableEq
instance:Emb Records:=⟨fun x=>[DL (α:=Record) x.l_,DL (α:=Crop) x.crops_],2,⟨[],[]⟩,fun _=>rfl⟩
instance:Emb Span:=⟨fun x=>[.int .i64 x.left_,.int .i64 x.right_],2,⟨0,0⟩,fun _=>rfl⟩
structure Band where
 low_:Int
 high_:Int
 spans_:(List Span)
 deriving DecidableEq
instance:Emb Band:=⟨fun x=>[.int .i64 x.low_,.int .i64 x.high_,DL (α:=Span) x.spans_],3,⟨0,0,[]⟩,fun _=>rfl⟩
structure Wide where
 high_:Int
 low_:Int
 deriving DecidableEq
instance:Emb Wide:=⟨fun x=>[.int .u64 x.high_,.int .u64 x.low_],2,⟨0,0⟩,fun _=>rfl⟩
def FR_Rect_Bool (q:Rect→Option Bool):List AVal→AVal→Prop:=fun args r=>∃ x0 y,q x0=some y∧args=[gE x0]∧r=vb y
def FR_Span_Span_Int (q:Span→Span→Option Int):List AVal→AVal→Prop:=fun args r=>∃ x0 x1 y,q x0 x1=some y∧args=[gE x0,gE x1]∧r=vi y
def FR_Int_ListSpan (q:Int→Option (List Span)):List AVal→AVal→Prop:=fun args r=>∃ x0 y,q x0=some y∧args=[vi x0]∧r=AL (α:=Span) y
def slices_IndexFunc_Rect_k1 (F:Nat):Option (Int):=
 some (-1:Int)
def slices_IndexFunc_Rect_b0 (F:Nat) (x1:(List Rect)) (x2:Rect→Option Bool) (b:(Int)→Option (Int)) (a:Int):Option (Int):=
 br (decide (a<((List.length x1:Nat):Int))) (gd (0≤a∧a<((List.length x1:Nat):Int)) <|
 (x2 (gl x1 a.toNat)).bind fun c=>
 br c (some a) (gd (I64 (a+(1:Int))) <|
 b (a+(1:Int)))) (slices_IndexFunc_Rect_k1 F)
def slices_IndexFunc_Rect (F:Nat) (x1:(List Rect)) (x2:Rect→Option Bool):Option (Int):=
 loopN (fun again (z:Int)=>slices_IndexFunc_Rect_b0 F x1 x2 again z) F (0:Int)
def slices_ContainsFunc_Rect (F:Nat) (a:(List Rect)) (b:Rect→Option Bool):Option (Bool):=
 (slices_IndexFunc_Rect F a b).bind fun c=>
 some (decide ((0:Int)≤c))
def region_proper_k0 (F:Nat) (a:Bool):Option (Bool):=
 some a
def region_proper (F:Nat) (a:Rect):Option (Bool):=
 br (decide ((0:Int)≤a.left_)) (br (decide (a.left_<a.right_)) (br (decide (a.right_≤(16384:Int))) (br (decide ((0:Int)≤a.low_)) (br (decide (a.low_<a.high_)) (region_proper_k0 F (decide (a.high_≤(16384:Int)))) (region_proper_k0 F false)) (region_proper_k0 F false)) (region_proper_k0 F false)) (region_proper_k0 F false)) (region_proper_k0 F false)
def region_Valid_1 (F:Nat) (a:Rect):Option (Bool):=
 (region_proper F a).bind fun b=>
 some (!b)
def slices_Compact_int_k2 (F:Nat) (a:Int) (b:(Int×Int×(List Int))→Option ((List Int))) (c:Int) (d:(List Int)):Option ((List Int)):=
 gd (I64 (a+(1:Int))) <|
 b (c,(a+(1:Int)),d)
def slices_Compact_int_k3 (F:Nat) (a:Int) (b:(List Int)):Option ((List Int)):=
 gd (0≤a∧a≤(((List.length (α:=Int) b):Nat):Int)∧((0:Nat):Int)+(((List.length (α:=Int) b):Nat):Int)≤((List.length (α:=Int) b:Nat):Int)) <|
 gd (0≤a∧a≤((List.length (clr b (0+(a).toNat) ((List.length (α:=Int) b)-(a).toNat)):Nat):Int)) <|
 some ((clr b (0+(a).toNat) ((List.length (α:=Int) b)-(a).toNat)).take (a).toNat)
def slices_Compact_int_b1 (F:Nat) (e:(List Int)) (c:Int) (i:(Int×Int×(List Int))→Option ((List Int))) (d:Int) (a:Int) (b:(List Int)):Option ((List Int)):=
 br (decide (a<((((List.length (α:=Int) e)-(c).toNat):Nat):Int))) (gd (0≤a∧a<((((List.length (α:=Int) e)-(c).toNat):Nat):Int)) <|
 gd (((0+(c).toNat)+(a).toNat)<List.length b) <|
 gd (I64 (a-(1:Int))) <|
 gd (0≤(a-(1:Int))∧(a-(1:Int))<((((List.length (α:=Int) e)-(c).toNat):Nat):Int)) <|
 gd (((0+(c).toNat)+((a-(1:Int))).toNat)<List.length b) <|
 br ((gl b ((0+(c).toNat)+(a).toNat)) != (gl b ((0+(c).toNat)+((a-(1:Int))).toNat))) (gd (0≤a∧a<((((List.length (α:=Int) e)-(c).toNat):Nat):Int)) <|
 gd (((0+(c).toNat)+(a).toNat)<List.length b) <|
 gd (0≤d∧d<((List.length b:Nat):Int)) <|
 gd (I64 (d+(1:Int))) <|
 slices_Compact_int_k2 F a i (d+(1:Int)) (List.set b d.toNat (gl b ((0+(c).toNat)+(a).toNat)))) (slices_Compact_int_k2 F a i d b)) (slices_Compact_int_k3 F d b)
def slices_Compact_int_k4 (F:Nat) (a:Int) (b:(Int)→Option ((List Int))):Option ((List Int)):=
 gd (I64 (a+(1:Int))) <|
 b (a+(1:Int))
def slices_Compact_int_k5 (F:Nat) (a:(List Int)):Option ((List Int)):=
 some a
def slices_Compact_int_b0 (F:Nat) (b:(List Int)) (c:(Int)→Option ((List Int))) (a:Int):Option ((List Int)):=
 br (decide (a<((List.length b:Nat):Int))) (gd (0≤a∧a<((List.length b:Nat):Int)) <|
 gd (I64 (a-(1:Int))) <|
 gd (0≤(a-(1:Int))∧(a-(1:Int))<((List.length b:Nat):Int)) <|
 br ((gl b a.toNat)==(gl b (a-(1:Int)).toNat)) (gd (0≤a∧a≤(((List.length (α:=Int) b):Nat):Int)∧((0:Nat):Int)+(((List.length (α:=Int) b):Nat):Int)≤((List.length (α:=Int) b:Nat):Int)) <|
 loopN (fun again (z:Int×Int×(List Int))=>slices_Compact_int_b1 F b a again z.1 z.2.1 z.2.2) F (a,(1:Int),b)) (slices_Compact_int_k4 F a c)) (slices_Compact_int_k5 F b)
def slices_Compact_int (F:Nat) (a:(List Int)):Option ((List Int)):=
 br (decide (((List.length a:Nat):Int)<(2:Int))) (some a) (loopN (fun again (z:Int)=>slices_Compact_int_b0 F a again z) F (1:Int))
def region_Cuts_k2 (F:Nat) (a:Int) (b:(Int×(List Int))→Option ((List Int))) (c:(List Int)):Option ((List Int)):=
 gd (I64 (a+(1:Int))) <|
 b ((a+(1:Int)),c)
def region_Cuts_b1 (F:Nat) (c:(List (List Rect))) (b:Int) (e:(Int×(List Int))→Option ((List Int))) (i:(Int×(List Int))→Option ((List Int))) (a:Int) (d:(List Int)):Option ((List Int)):=
 br (decide (a<((List.length (gl c b.toNat):Nat):Int))) (gd (0≤a∧a<((List.length (gl c b.toNat):Nat):Int)) <|
 gd ((List.length (α:=Int) d)+(List.length (α:=Int) ([(gl (gl c b.toNat) a.toNat).low_,(gl (gl c b.toNat) a.toNat).high_]:List Int))≤LIM) <|
 gd (I64 (a+(1:Int))) <|
 i ((a+(1:Int)),(d++([(gl (gl c b.toNat) a.toNat).low_,(gl (gl c b.toNat) a.toNat).high_]:List Int)))) (region_Cuts_k2 F b e d)
def region_Cuts_k3 (F:Nat) (a:(List Int)):Option ((List Int)):=
 (sortI a).bind fun b=>
 (slices_Compact_int F b).bind fun c=>
 some c
def region_Cuts_b0 (F:Nat) (b:(List (List Rect))) (d:(Int×(List Int))→Option ((List Int))) (a:Int) (c:(List Int)):Option ((List Int)):=
 br (decide (a<((List.length b:Nat):Int))) (gd (0≤a∧a<((List.length b:Nat):Int)) <|
 loopN (fun again (z:Int×(List Int))=>region_Cuts_b1 F b a d again z.1 z.2) F ((0:Int),c)) (region_Cuts_k3 F c)
def region_Cuts (F:Nat) (a:(List (List Rect))):Option ((List Int)):=
 loopN (fun again (z:Int×(List Int))=>region_Cuts_b0 F a again z.1 z.2) F ((0:Int),([]:List Int))
def cmp_isNaN_int (F:Nat) (a:Int):Option (Bool):=
 some (a != a)
def cmp_Compare_int (F:Nat) (a:Int) (b:Int):Option (Int):=
 (cmp_isNaN_int F a).bind fun d=>
 (cmp_isNaN_int F b).bind fun c=>
 br d (br c (some (0:Int)) (some (-1:Int))) (br c (some (1:Int)) (br (decide (a<b)) (some (-1:Int)) (br (decide (b<a)) (some (1:Int)) (some (0:Int)))))
def region_Row_1 (F:Nat) (a:Span) (b:Span):Option (Int):=
 (cmp_Compare_int F a.left_ b.left_).bind fun c=>
 some c
def region_Row_k2 (F:Nat) (a:Int) (b:(Int×(List Span))→Option ((List Span))) (c:(List Span)):Option ((List Span)):=
 gd (I64 (a+(1:Int))) <|
 b ((a+(1:Int)),c)
def region_Row_k1 (F:Nat) (b:(List Rect)) (a:Int) (c:(List Span)) (d:(Int×(List Span))→Option ((List Span))) (e:Bool):Option ((List Span)):=
 br e (gd ((List.length (α:=Span) c)+(List.length (α:=Span) ([(⟨(gl b a.toNat).left_,(gl b a.toNat).right_⟩ : Span)]:List Span))≤LIM) <|
 region_Row_k2 F a d (c++([(⟨(gl b a.toNat).left_,(gl b a.toNat).right_⟩ : Span)]:List Span))) (region_Row_k2 F a d c)
def region_Row_k6 (F:Nat) (a:Int) (b:(Int×(List Span))→Option ((List Span))) (c:(List Span)):Option ((List Span)):=
 gd (I64 (a+(1:Int))) <|
 b ((a+(1:Int)),c)
def region_Row_k5 (F:Nat) (c:(List Span)) (b:Int) (a:(List Span)) (d:(Int×(List Span))→Option ((List Span))) (e:Bool):Option ((List Span)):=
 br e (gd (I64 (((List.length a:Nat):Int)-(1:Int))) <|
 gd (I64 (((List.length a:Nat):Int)-(1:Int))) <|
 gd (0≤(((List.length a:Nat):Int)-(1:Int))∧(((List.length a:Nat):Int)-(1:Int))<((List.length a:Nat):Int)) <|
 gd (0≤(((List.length a:Nat):Int)-(1:Int))∧(((List.length a:Nat):Int)-(1:Int))<((List.length a:Nat):Int)) <|
 region_Row_k6 F b d (List.set a (((List.length a:Nat):Int)-(1:Int)).toNat (⟨(gl a (((List.length a:Nat):Int)-(1:Int)).toNat).left_,(gmax ((gl a (((List.length a:Nat):Int)-(1:Int)).toNat).right_) ((gl c b.toNat).right_))⟩ : Span))) (gd ((List.length (α:=Span) a)+(List.length (α:=Span) ([(gl c b.toNat)]:List Span))≤LIM) <|
 region_Row_k6 F b d (a++([(gl c b.toNat)]:List Span)))
def region_Row_k7 (F:Nat) (a:(List Span)):Option ((List Span)):=
 some a
def region_Row_b4 (F:Nat) (c:(List Span)) (d:(Int×(List Span))→Option ((List Span))) (b:Int) (a:(List Span)):Option ((List Span)):=
 br (decide (b<((List.length c:Nat):Int))) (gd (0≤b∧b<((List.length c:Nat):Int)) <|
 br (decide ((0:Int)<((List.length a:Nat):Int))) (gd (I64 (((List.length a:Nat):Int)-(1:Int))) <|
 gd (0≤(((List.length a:Nat):Int)-(1:Int))∧(((List.length a:Nat):Int)-(1:Int))<((List.length a:Nat):Int)) <|
 region_Row_k5 F c b a d (decide (((gl c b.toNat).left_)≤((gl a (((List.length a:Nat):Int)-(1:Int)).toNat).right_)))) (region_Row_k5 F c b a d false)) (region_Row_k7 F a)
def region_Row_k3 (F:Nat) (a:(List Span)):Option ((List Span)):=
 (sortF a (fun y0 y1=>region_Row_1 F y0 y1)).bind fun b=>
 loopN (fun again (z:Int×(List Span))=>region_Row_b4 F b again z.1 z.2) F ((0:Int),([]:List Span))
def region_Row_b0 (F:Nat) (b:(List Rect)) (e:Int) (d:(Int×(List Span))→Option ((List Span))) (a:Int) (c:(List Span)):Option ((List Span)):=
 br (decide (a<((List.length b:Nat):Int))) (gd (0≤a∧a<((List.length b:Nat):Int)) <|
 br (decide (((gl b a.toNat).low_)≤e)) (region_Row_k1 F b a c d (decide (e<((gl b a.toNat).high_)))) (region_Row_k1 F b a c d false)) (region_Row_k3 F c)
def region_Row (F:Nat) (a:(List Rect)) (b:Int):Option ((List Span)):=
 loopN (fun again (z:Int×(List Span))=>region_Row_b0 F a b again z.1 z.2) F ((0:Int),([]:List Span))
def region_canonical_1 (F:Nat) (a:Int) (b:(List Rect)):Option ((List Span)):=
 (region_Row F b a).bind fun c=>
 some c
def slices_Equal_Span_k1 (F:Nat):Option (Bool):=
 some true
def slices_Equal_Span_b0 (F:Nat) (b:(List Span)) (c:(List Span)) (d:(Int)→Option (Bool)) (a:Int):Option (Bool):=
 br (decide (a<((List.length b:Nat):Int))) (gd (0≤a∧a<((List.length b:Nat):Int)) <|
 gd (0≤a∧a<((List.length c:Nat):Int)) <|
 br (!((((gl b a.toNat).left_)==((gl c a.toNat).left_))&&((((gl b a.toNat).right_)==((gl c a.toNat).right_))&&true))) (some false) (gd (I64 (a+(1:Int))) <|
 d (a+(1:Int)))) (slices_Equal_Span_k1 F)
def slices_Equal_Span (F:Nat) (a:(List Span)) (b:(List Span)):Option (Bool):=
 br (((List.length a:Nat):Int) != ((List.length b:Nat):Int)) (some false) (loopN (fun again (z:Int)=>slices_Equal_Span_b0 F a b again z) F (0:Int))
def region_rects_k2 (F:Nat) (a:Int) (b:(Int×(List Rect))→Option ((List Rect))) (c:(List Rect)):Option ((List Rect)):=
 gd (I64 (a+(1:Int))) <|
 b ((a+(1:Int)),c)
def region_rects_b1 (F:Nat) (b:(List Band)) (a:Int) (e:(Int×(List Rect))→Option ((List Rect))) (i:(Int×(List Rect))→Option ((List Rect))) (c:Int) (d:(List Rect)):Option ((List Rect)):=
 br (decide (c<((List.length ((gl b a.toNat).spans_):Nat):Int))) (gd (0≤c∧c<((List.length ((gl b a.toNat).spans_):Nat):Int)) <|
 gd ((List.length (α:=Rect) d)+(List.length (α:=Rect) ([(⟨(gl ((gl b a.toNat).spans_) c.toNat).left_,(gl b a.toNat).low_,(gl ((gl b a.toNat).spans_) c.toNat).right_,(gl b a.toNat).high_⟩ : Rect)]:List Rect))≤LIM) <|
 gd (I64 (c+(1:Int))) <|
 i ((c+(1:Int)),(d++([(⟨(gl ((gl b a.toNat).spans_) c.toNat).left_,(gl b a.toNat).low_,(gl ((gl b a.toNat).spans_) c.toNat).right_,(gl b a.toNat).high_⟩ : Rect)]:List Rect)))) (region_rects_k2 F a e d)
def region_rects_k3 (F:Nat) (a:(List Rect)):Option ((List Rect)):=
 some a
def region_rects_b0 (F:Nat) (b:(List Band)) (d:(Int×(List Rect))→Option ((List Rect))) (a:Int) (c:(List Rect)):Option ((List Rect)):=
 br (decide (a<((List.length b:Nat):Int))) (gd (0≤a∧a<((List.length b:Nat):Int)) <|
 loopN (fun again (z:Int×(List Rect))=>region_rects_b1 F b a d again z.1 z.2) F ((0:Int),c)) (region_rects_k3 F c)
def region_rects (F:Nat) (a:(List Band)):Option ((List Rect)):=
 loopN (fun again (z:Int×(List Rect))=>region_rects_b0 F a again z.1 z.2) F ((0:Int),([]:List Rect))
def region_Build_k2 (F:Nat) (a:Int) (b:(Int×(List Band))→Option ((List Rect))) (c:(List Band)):Option ((List Rect)):=
 gd (I64 (a+(1:Int))) <|
 b ((a+(1:Int)),c)
def region_Build_k1 (F:Nat) (c:(List Int)) (b:Int) (a:(List Band)) (e:(List Span)) (d:(Int×(List Band))→Option ((List Rect))) (i:Bool):Option ((List Rect)):=
 br i (gd (I64 (((List.length a:Nat):Int)-(1:Int))) <|
 gd (0≤(((List.length a:Nat):Int)-(1:Int))∧(((List.length a:Nat):Int)-(1:Int))<((List.length a:Nat):Int)) <|
 region_Build_k2 F b d (List.set a (((List.length a:Nat):Int)-(1:Int)).toNat (⟨(gl a (((List.length a:Nat):Int)-(1:Int)).toNat).low_,(gl c b.toNat),(gl a (((List.length a:Nat):Int)-(1:Int)).toNat).spans_⟩ : Band))) (gd ((List.length (α:=Band) a)+(List.length (α:=Band) ([(⟨(gl c (b-(1:Int)).toNat),(gl c b.toNat),e⟩ : Band)]:List Band))≤LIM) <|
 region_Build_k2 F b d (a++([(⟨(gl c (b-(1:Int)).toNat),(gl c b.toNat),e⟩ : Band)]:List Band)))
def region_Build_k3 (F:Nat) (a:(List Band)):Option ((List Rect)):=
 (region_rects F a).bind fun b=>
 some b
def region_Build_b0 (F:Nat) (c:(List Int)) (i:Int→Option (List Span)) (e:(Int×(List Band))→Option ((List Rect))) (b:Int) (a:(List Band)):Option ((List Rect)):=
 br (decide (b<((List.length c:Nat):Int))) (gd (I64 (b-(1:Int))) <|
 gd (0≤(b-(1:Int))∧(b-(1:Int))<((List.length c:Nat):Int)) <|
 gd (0≤b∧b<((List.length c:Nat):Int)) <|
 gd (I64 (b-(1:Int))) <|
 gd (0≤(b-(1:Int))∧(b-(1:Int))<((List.length c:Nat):Int)) <|
 (i (gl c (b-(1:Int)).toNat)).bind fun d=>
 br (decide ((0:Int)<((List.length a:Nat):Int))) (gd (I64 (((List.length a:Nat):Int)-(1:Int))) <|
 gd (0≤(((List.length a:Nat):Int)-(1:Int))∧(((List.length a:Nat):Int)-(1:Int))<((List.length a:Nat):Int)) <|
 br (((gl a (((List.length a:Nat):Int)-(1:Int)).toNat).high_)==(gl c (b-(1:Int)).toNat)) (gd (I64 (((List.length a:Nat):Int)-(1:Int))) <|
 gd (0≤(((List.length a:Nat):Int)-(1:Int))∧(((List.length a:Nat):Int)-(1:Int))<((List.length a:Nat):Int)) <|
 (slices_Equal_Span F ((gl a (((List.length a:Nat):Int)-(1:Int)).toNat).spans_) d).bind fun j=>
 region_Build_k1 F c b a d e j) (region_Build_k1 F c b a d e false)) (region_Build_k1 F c b a d e false)) (region_Build_k3 F a)
def region_Build (F:Nat) (a:(List Int)) (b:Int→Option (List Span)):Option ((List Rect)):=
 loopN (fun again (z:Int×(List Band))=>region_Build_b0 F a b again z.1 z.2) F ((1:Int),([]:List Band))
def region_canonical (F:Nat) (a:(List Rect)):Option ((List Rect)):=
 (region_Cuts F ([a]:List (List Rect))).bind fun b=>
 (region_Build F b (fun y0=>region_canonical_1 F y0 a)).bind fun c=>
 some c
def slices_Equal_Rect_k1 (F:Nat):Option (Bool):=
 some true
def slices_Equal_Rect_b0 (F:Nat) (b:(List Rect)) (c:(List Rect)) (d:(Int)→Option (Bool)) (a:Int):Option (Bool):=
 br (decide (a<((List.length b:Nat):Int))) (gd (0≤a∧a<((List.length b:Nat):Int)) <|
 gd (0≤a∧a<((List.length c:Nat):Int)) <|
 br (!((((gl b a.toNat).left_)==((gl c a.toNat).left_))&&((((gl b a.toNat).low_)==((gl c a.toNat).low_))&&((((gl b a.toNat).right_)==((gl c a.toNat).right_))&&((((gl b a.toNat).high_)==((gl c a.toNat).high_))&&true))))) (some false) (gd (I64 (a+(1:Int))) <|
 d (a+(1:Int)))) (slices_Equal_Rect_k1 F)
def slices_Equal_Rect (F:Nat) (a:(List Rect)) (b:(List Rect)):Option (Bool):=
 br (((List.length a:Nat):Int) != ((List.length b:Nat):Int)) (some false) (loopN (fun again (z:Int)=>slices_Equal_Rect_b0 F a b again z) F (0:Int))
def region_Valid_k0 (F:Nat) (a:Region) (b:Bool):Option (Bool):=
 br b (some false) ((region_canonical F a.rects_).bind fun c=>
 (slices_Equal_Rect F c a.rects_).bind fun d=>
 some d)
def region_Valid (F:Nat) (a:Region):Option (Bool):=
 br (decide ((120:Int)<((List.length a.rects_:Nat):Int))) (region_Valid_k0 F a true) ((slices_ContainsFunc_Rect F a.rects_ (fun y0=>region_Valid_1 F y0)).bind fun b=>
 region_Valid_k0 F a b)
def history_single_k2 (F:Nat) (a:Bool):Option (Int):=
 br a (some (7:Int)) (some (0:Int))
def history_single_k1 (F:Nat) (a:Record) (b:Bool):Option (Int):=
 br b (some (13:Int)) (br (((List.length a.region_.rects_:Nat):Int)==(0:Int)) (history_single_k2 F true) ((region_Valid F a.region_).bind fun c=>
 history_single_k2 F (!c)))
def history_single_k0 (F:Nat) (a:Record) (b:Bool):Option (Int):=
 br b (some (18:Int)) (br (decide (a.crop_<(0:Int))) (history_single_k1 F a true) (history_single_k1 F a (decide ((40:Int)≤a.crop_))))
def history_single (F:Nat) (a:Record):Option (Int):=
 br (decide (a.year_<(0:Int))) (history_single_k0 F a true) (history_single_k0 F a (decide ((100:Int)<a.year_)))
def cmp_Or_int_k1 (F:Nat):Option (Int):=
 some (0:Int)
def cmp_Or_int_b0 (F:Nat) (b:(List Int)) (c:(Int)→Option (Int)) (a:Int):Option (Int):=
 br (decide (a<((List.length b:Nat):Int))) (gd (0≤a∧a<((List.length b:Nat):Int)) <|
 br ((gl b a.toNat) != (0:Int)) (some (gl b a.toNat)) (gd (I64 (a+(1:Int))) <|
 c (a+(1:Int)))) (cmp_Or_int_k1 F)
def cmp_Or_int (F:Nat) (a:(List Int)):Option (Int):=
 loopN (fun again (z:Int)=>cmp_Or_int_b0 F a again z) F (0:Int)
def history_compare (F:Nat) (a:Record) (b:Record):Option (Int):=
 (cmp_Compare_int F a.year_ b.year_).bind fun c=>
 (cmp_Compare_int F a.crop_ b.crop_).bind fun d=>
 (cmp_Or_int F ([c,d]:List Int)).bind fun e=>
 some e
def history_years_k1 (F:Nat) (a:(List (Int×(List Record)))):Option ((List (Int×(List Record)))):=
 some a
def history_years_b0 (F:Nat) (b:(List Record)) (d:(Int×(List (Int×(List Record))))→Option ((List (Int×(List Record))))) (a:Int) (c:(List (Int×(List Record)))):Option ((List (Int×(List Record)))):=
 br (decide (a<((List.length b:Nat):Int))) (gd (0≤a∧a<((List.length b:Nat):Int)) <|
 gd ((gRow ((gl b a.toNat).year_) c).length+List.length ([(gl b a.toNat)]:List Record)≤LIM) <|
 gd (I64 (a+(1:Int))) <|
 d ((a+(1:Int)),(gApp ((gl b a.toNat).year_) ([(gl b a.toNat)]:List Record) c))) (history_years_k1 F c)
def history_years (F:Nat) (a:(List Record)):Option ((List (Int×(List Record)))):=
 loopN (fun again (z:Int×(List (Int×(List Record))))=>history_years_b0 F a again z.1 z.2) F ((0:Int),([]:List (Int×(List Record))))
def region_overlap_k0 (F:Nat) (a:Bool):Option (Bool):=
 some a
def region_overlap (F:Nat) (a:Rect) (b:Rect):Option (Bool):=
 br (decide (a.left_<b.right_)) (br (decide (b.left_<a.right_)) (br (decide (a.low_<b.high_)) (region_overlap_k0 F (decide (b.low_<a.high_))) (region_overlap_k0 F false)) (region_overlap_k0 F false)) (region_overlap_k0 F false)
def region_Meets_1_1 (F:Nat) (a:Rect) (b:Rect):Option (Bool):=
 (region_overlap F b a).bind fun c=>
 some c
def region_Meets_1 (F:Nat) (a:Rect) (b:Region):Option (Bool):=
 (slices_ContainsFunc_Rect F b.rects_ (fun y0=>region_Meets_1_1 F y0 a)).bind fun c=>
 some c
def region_Meets_k0 (F:Nat) (a:Bool):Option (Bool):=
 some a
def region_Meets (F:Nat) (a:Region) (b:Region):Option (Bool):=
 (region_Valid F a).bind fun c=>
 br c ((region_Valid F b).bind fun d=>
 br d ((slices_ContainsFunc_Rect F a.rects_ (fun y0=>region_Meets_1 F y0 b)).bind fun e=>
 region_Meets_k0 F e) (region_Meets_k0 F false)) (region_Meets_k0 F false)
def history_Check_1 (F:Nat) (a:Record) (b:Record):Option (Bool):=
 (region_Meets F a.region_ b.region_).bind fun c=>
 some c
def slices_IndexFunc_Record_k1 (F:Nat):Option (Int):=
 some (-1:Int)
def slices_IndexFunc_Record_b0 (F:Nat) (b:(List Record)) (d:Record→Option Bool) (c:(Int)→Option (Int)) (a:Int):Option (Int):=
 br (decide (a<((List.length b:Nat):Int))) (gd (0≤a∧a<((List.length b:Nat):Int)) <|
 (d (gl b a.toNat)).bind fun e=>
 br e (some a) (gd (I64 (a+(1:Int))) <|
 c (a+(1:Int)))) (slices_IndexFunc_Record_k1 F)
def slices_IndexFunc_Record (F:Nat) (a:(List Record)) (b:Record→Option Bool):Option (Int):=
 loopN (fun again (z:Int)=>slices_IndexFunc_Record_b0 F a b again z) F (0:Int)
def slices_ContainsFunc_Record (F:Nat) (a:(List Record)) (b:Record→Option Bool):Option (Bool):=
 (slices_IndexFunc_Record F a b).bind fun c=>
 some (decide ((0:Int)≤c))
def history_Check_k1 (F:Nat) (a:Int) (b:(Int)→Option (Int)) (c:Bool):Option (Int):=
 br c (some (3:Int)) (gd (I64 (a+(1:Int))) <|
 b (a+(1:Int)))
def history_Check_k5 (F:Nat):Option (Int):=
 some (0:Int)
def history_Check_b4 (F:Nat) (b:(Int×(List Record))) (e:(List (Int×(List Record)))) (c:((List (Int×(List Record))))→Option (Int)) (d:(Int)→Option (Int)) (a:Int):Option (Int):=
 br (decide (a<((List.length b.2:Nat):Int))) (gd (0≤a∧a<((List.length b.2:Nat):Int)) <|
 gd (0≤a∧a≤((List.length b.2:Nat):Int)) <|
 (slices_ContainsFunc_Record F (b.2.take a.toNat) (fun y0=>history_Check_1 F y0 (gl b.2 a.toNat))).bind fun i=>
 br i (some (11:Int)) (gd (I64 (a+(1:Int))) <|
 d (a+(1:Int)))) (c e)
def history_Check_b3 (F:Nat) (a:((List (Int×(List Record))))→Option (Int)) (b:(List (Int×(List Record)))):Option (Int):=
 nextM b (history_Check_k5 F) (fun c d=>
 loopN (fun again (z:Int)=>history_Check_b4 F c d a again z) F (0:Int))
def history_Check_k2 (F:Nat) (a:(List Record)):Option (Int):=
 (history_years F a).bind fun b=>
 loopN (fun again (z:(List (Int×(List Record))))=>history_Check_b3 F again z) F b
def history_Check_b0 (F:Nat) (b:(List Record)) (c:(Int)→Option (Int)) (a:Int):Option (Int):=
 br (decide (a<((List.length b:Nat):Int))) (gd (0≤a∧a<((List.length b:Nat):Int)) <|
 (history_single F (gl b a.toNat)).bind fun d=>
 br (d != (0:Int)) (some d) (br (decide ((0:Int)<a)) (gd (I64 (a-(1:Int))) <|
 gd (0≤(a-(1:Int))∧(a-(1:Int))<((List.length b:Nat):Int)) <|
 (history_compare F (gl b (a-(1:Int)).toNat) (gl b a.toNat)).bind fun e=>
 history_Check_k1 F a c (decide ((0:Int)≤e))) (history_Check_k1 F a c false))) (history_Check_k2 F b)
def history_Check (F:Nat) (a:(List Record)):Option (Int):=
 br (decide ((200:Int)<((List.length a:Nat):Int))) (some (1:Int)) (loopN (fun again (z:Int)=>history_Check_b0 F a again z) F (0:Int))
def region_Has_1_k0 (F:Nat) (a:Bool):Option (Bool):=
 some a
def region_Has_1 (F:Nat) (a:Rect) (b:Int) (c:Int):Option (Bool):=
 br (decide (a.left_≤b)) (br (decide (b<a.right_)) (br (decide (a.low_≤c)) (region_Has_1_k0 F (decide (c<a.high_))) (region_Has_1_k0 F false)) (region_Has_1_k0 F false)) (region_Has_1_k0 F false)
def region_Has_k0 (F:Nat) (a:Bool):Option (Bool):=
 some a
def region_Has (F:Nat) (a:Region) (b:Int) (c:Int):Option (Bool):=
 (region_Valid F a).bind fun d=>
 br d ((slices_ContainsFunc_Rect F a.rects_ (fun y0=>region_Has_1 F y0 b c)).bind fun e=>
 region_Has_k0 F e) (region_Has_k0 F false)
def history_At_k1 (F:Nat) (d:(List Record)) (a:Int) (b:(Int)→Option (Int)) (c:Bool):Option (Int):=
 br c (some ((gl d a.toNat).crop_)) (gd (I64 (a+(1:Int))) <|
 b (a+(1:Int)))
def history_At_k2 (F:Nat):Option (Int):=
 some (-1:Int)
def history_At_b0 (F:Nat) (b:(List Record)) (d:Int) (e:Int) (i:Int) (c:(Int)→Option (Int)) (a:Int):Option (Int):=
 br (decide (a<((List.length b:Nat):Int))) (gd (0≤a∧a<((List.length b:Nat):Int)) <|
 br (((gl b a.toNat).year_)==d) ((region_Has F ((gl b a.toNat).region_) e i).bind fun j=>
 history_At_k1 F b a c j) (history_At_k1 F b a c false)) (history_At_k2 F)
def history_At (F:Nat) (a:(List Record)) (b:Int) (c:Int) (d:Int):Option (Int):=
 (history_Check F a).bind fun e=>
 br (e != (0:Int)) (some (-1:Int)) (loopN (fun again (z:Int)=>history_At_b0 F a b c d again z) F (0:Int))
def keep_New (F:Nat) (a:(List Int)):Option (Tape):=
 gd (0≤(gmin ((List.length a:Nat):Int) (400:Int))∧(gmin ((List.length a:Nat):Int) (400:Int))≤((List.length a:Nat):Int)) <|
 some (⟨(a.take (gmin ((List.length a:Nat):Int) (400:Int)).toNat),0⟩ : Tape)
def keep_Mod_k0 (F:Nat) (a:Int):Option (Int):=
 some a
def keep_Mod (F:Nat) (b:Int) (a:Int):Option (Int):=
 br (decide (a<(1:Int))) (some (0:Int)) (gd (a≠0) <|
 br (decide ((b.tmod a)<(0:Int))) (gd (I64 ((b.tmod a)+a)) <|
 keep_Mod_k0 F ((b.tmod a)+a)) (keep_Mod_k0 F (b.tmod a)))
def keep_Tape_Next (F:Nat) (a:Tape) (b:Int):Option (Tape×Int):=
 br (decide (((List.length a.l_:Nat):Int)≤a.at_)) (some (a,(0:Int))) (gd (I64 (a.at_+(1:Int))) <|
 gd (I64 ((a.at_+(1:Int))-(1:Int))) <|
 gd (0≤((a.at_+(1:Int))-(1:Int))∧((a.at_+(1:Int))-(1:Int))<((List.length a.l_:Nat):Int)) <|
 (keep_Mod F (gl a.l_ ((a.at_+(1:Int))-(1:Int)).toNat) b).bind fun c=>
 some ((⟨a.l_,(a.at_+(1:Int))⟩ : Tape),c))
def keep_Tape_Range (F:Nat) (d:Tape) (a:Int) (b:Int):Option (Tape×Int):=
 gd (I64 (b-a)) <|
 gd (I64 ((b-a)+(1:Int))) <|
 (keep_Tape_Next F d ((b-a)+(1:Int))).bind fun c=>
 gd (I64 (a+c.2)) <|
 some (c.1,(a+c.2))
def keep_Tape_Crops_k1 (F:Nat) (a:(List Crop)) (b:(List Int)) (c:Int):Option (Tape×(List Crop)):=
 some ((⟨b,c⟩ : Tape),a)
def keep_Tape_Crops_b0 (F:Nat) (c:Tape×Int) (k:(Int×(List Int)×Int×(List Crop))→Option (Tape×(List Crop))) (a:Int) (i:(List Int)) (j:Int) (d:(List Crop)):Option (Tape×(List Crop)):=
 br (decide (a<((List.length (([(ByteArray.mk #[98,97,114,108,101,121]),(ByteArray.mk #[99,108,111,118,101,114]),(ByteArray.mk #[103,114,97,115,115]),(ByteArray.mk #[109,97,105,122,101]),(ByteArray.mk #[111,97,116,115]),(ByteArray.mk #[114,121,101]),(ByteArray.mk #[118,101,116,99,104]),(ByteArray.mk #[119,104,101,97,116])]:List ByteArray).take c.2.toNat):Nat):Int))) (gd (0≤a∧a<((List.length (([(ByteArray.mk #[98,97,114,108,101,121]),(ByteArray.mk #[99,108,111,118,101,114]),(ByteArray.mk #[103,114,97,115,115]),(ByteArray.mk #[109,97,105,122,101]),(ByteArray.mk #[111,97,116,115]),(ByteArray.mk #[114,121,101]),(ByteArray.mk #[118,101,116,99,104]),(ByteArray.mk #[119,104,101,97,116])]:List ByteArray).take c.2.toNat):Nat):Int)) <|
 (keep_Tape_Next F (⟨i,j⟩ : Tape) (3:Int)).bind fun e=>
 (keep_Tape_Next F e.1 (8:Int)).bind fun b=>
 gd (0≤b.2∧b.2<((List.length ([(0:Int),(0:Int),(0:Int),(2:Int),(20:Int),(8:Int),(1:Int),(31:Int)]:List Int):Nat):Int)) <|
 gd ((List.length (α:=Crop) d)+(List.length (α:=Crop) ([(⟨(gl (([(ByteArray.mk #[98,97,114,108,101,121]),(ByteArray.mk #[99,108,111,118,101,114]),(ByteArray.mk #[103,114,97,115,115]),(ByteArray.mk #[109,97,105,122,101]),(ByteArray.mk #[111,97,116,115]),(ByteArray.mk #[114,121,101]),(ByteArray.mk #[118,101,116,99,104]),(ByteArray.mk #[119,104,101,97,116])]:List ByteArray).take c.2.toNat) a.toNat),e.2,(gl ([(0:Int),(0:Int),(0:Int),(2:Int),(20:Int),(8:Int),(1:Int),(31:Int)]:List Int) b.2.toNat)⟩ : Crop)]:List Crop))≤LIM) <|
 gd (I64 (a+(1:Int))) <|
 k ((a+(1:Int)),b.1.l_,b.1.at_,(d++([(⟨(gl (([(ByteArray.mk #[98,97,114,108,101,121]),(ByteArray.mk #[99,108,111,118,101,114]),(ByteArray.mk #[103,114,97,115,115]),(ByteArray.mk #[109,97,105,122,101]),(ByteArray.mk #[111,97,116,115]),(ByteArray.mk #[114,121,101]),(ByteArray.mk #[118,101,116,99,104]),(ByteArray.mk #[119,104,101,97,116])]:List ByteArray).take c.2.toNat) a.toNat),e.2,(gl ([(0:Int),(0:Int),(0:Int),(2:Int),(20:Int),(8:Int),(1:Int),(31:Int)]:List Int) b.2.toNat)⟩ : Crop)]:List Crop)))) (keep_Tape_Crops_k1 F d i j)
def keep_Tape_Crops (F:Nat) (b:Tape):Option (Tape×(List Crop)):=
 (keep_Tape_Range F b (3:Int) (8:Int)).bind fun a=>
 gd (0≤a.2∧a.2≤((List.length ([(ByteArray.mk #[98,97,114,108,101,121]),(ByteArray.mk #[99,108,111,118,101,114]),(ByteArray.mk #[103,114,97,115,115]),(ByteArray.mk #[109,97,105,122,101]),(ByteArray.mk #[111,97,116,115]),(ByteArray.mk #[114,121,101]),(ByteArray.mk #[118,101,116,99,104]),(ByteArray.mk #[119,104,101,97,116])]:List ByteArray):Nat):Int)) <|
 loopN (fun again (z:Int×(List Int)×Int×(List Crop))=>keep_Tape_Crops_b0 F a again z.1 z.2.1 z.2.2.1 z.2.2.2) F ((0:Int),a.1.l_,a.1.at_,([]:List Crop))
def keep_Tape_Rect (F:Nat) (i:Tape) (c:Int):Option (Tape×Rect):=
 (keep_Tape_Next F i c).bind fun a=>
 (keep_Tape_Next F a.1 c).bind fun b=>
 gd (I64 (a.2+(1:Int))) <|
 gd (I64 (c-a.2)) <|
 (keep_Tape_Next F b.1 (c-a.2)).bind fun d=>
 gd (I64 ((a.2+(1:Int))+d.2)) <|
 gd (I64 (b.2+(1:Int))) <|
 gd (I64 (c-b.2)) <|
 (keep_Tape_Next F d.1 (c-b.2)).bind fun e=>
 gd (I64 ((b.2+(1:Int))+e.2)) <|
 some (e.1,(⟨a.2,b.2,((a.2+(1:Int))+d.2),((b.2+(1:Int))+e.2)⟩ : Rect))
def ref04_proper_k0 (F:Nat) (a:Bool):Option (Bool):=
 some a
def ref04_proper (F:Nat) (a:Rect):Option (Bool):=
 br (decide ((0:Int)≤a.left_)) (br (decide (a.left_<a.right_)) (br (decide (a.right_≤(16384:Int))) (br (decide ((0:Int)≤a.low_)) (br (decide (a.low_<a.high_)) (ref04_proper_k0 F (decide (a.high_≤(16384:Int)))) (ref04_proper_k0 F false)) (ref04_proper_k0 F false)) (ref04_proper_k0 F false)) (ref04_proper_k0 F false)) (ref04_proper_k0 F false)
def ref01_Put_k3 (F:Nat) (b:(List Int)) (c:Int) (a:Int) (d:Bool):Option ((List Int)):=
 br d (some b) (gd (0≤a∧a≤((List.length b:Nat):Int)) <|
 gd ((0)+(List.length (α:=Int) (b.take a.toNat))≤LIM) <|
 gd (((0)+(List.length (α:=Int) (b.take a.toNat)))+(List.length (α:=Int) ([c]:List Int))≤LIM) <|
 gd (0≤a∧a≤((List.length b:Nat):Int)) <|
 gd ((((0)+(List.length (α:=Int) (b.take a.toNat)))+(List.length (α:=Int) ([c]:List Int)))+(List.length (α:=Int) (b.drop a.toNat))≤LIM) <|
 some (((([]:List Int)++(b.take a.toNat))++([c]:List Int))++(b.drop a.toNat)))
def ref01_Put_k2 (F:Nat) (b:(List Int)) (c:Int) (a:Int):Option ((List Int)):=
 br (decide (a<((List.length b:Nat):Int))) (gd (0≤a∧a<((List.length b:Nat):Int)) <|
 ref01_Put_k3 F b c a ((gl b a.toNat)==c)) (ref01_Put_k3 F b c a false)
def ref01_Put_k1 (F:Nat) (d:(List Int)) (e:Int) (a:Int) (b:(Int)→Option ((List Int))) (c:Bool):Option ((List Int)):=
 br c (gd (I64 (a+(1:Int))) <|
 b (a+(1:Int))) (ref01_Put_k2 F d e a)
def ref01_Put_b0 (F:Nat) (b:(List Int)) (c:Int) (d:(Int)→Option ((List Int))) (a:Int):Option ((List Int)):=
 br (decide (a<((List.length b:Nat):Int))) (gd (0≤a∧a<((List.length b:Nat):Int)) <|
 ref01_Put_k1 F b c a d (decide ((gl b a.toNat)<c))) (ref01_Put_k1 F b c a d false)
def ref01_Put (F:Nat) (a:(List Int)) (b:Int):Option ((List Int)):=
 loopN (fun again (z:Int)=>ref01_Put_b0 F a b again z) F (0:Int)
def ref04_inside_k1 (F:Nat) (a:Int) (b:(Int)→Option (Bool)) (c:Bool):Option (Bool):=
 br c (some true) (gd (I64 (a+(1:Int))) <|
 b (a+(1:Int)))
def ref04_inside_k2 (F:Nat):Option (Bool):=
 some false
def ref04_inside_b0 (F:Nat) (b:(List Rect)) (d:Int) (e:Int) (c:(Int)→Option (Bool)) (a:Int):Option (Bool):=
 br (decide (a<((List.length b:Nat):Int))) (gd (0≤a∧a<((List.length b:Nat):Int)) <|
 br (decide (((gl b a.toNat).left_)≤d)) (br (decide (d<((gl b a.toNat).right_))) (br (decide (((gl b a.toNat).low_)≤e)) (ref04_inside_k1 F a c (decide (e<((gl b a.toNat).high_)))) (ref04_inside_k1 F a c false)) (ref04_inside_k1 F a c false)) (ref04_inside_k1 F a c false)) (ref04_inside_k2 F)
def ref04_inside (F:Nat) (a:(List Rect)) (b:Int) (c:Int):Option (Bool):=
 loopN (fun again (z:Int)=>ref04_inside_b0 F a b c again z) F (0:Int)
def ref04_keep_k0 (F:Nat) (a:Bool):Option (Bool):=
 some a
def ref04_keep_k1 (F:Nat) (a:Bool):Option (Bool):=
 some a
def ref04_keep_k2 (F:Nat) (a:Bool):Option (Bool):=
 some a
def ref04_keep (F:Nat) (a:Bool) (b:Bool) (c:Int):Option (Bool):=
 br (c==(1:Int)) (br a (ref04_keep_k0 F true) (ref04_keep_k0 F b)) (br (c==(2:Int)) (br a (ref04_keep_k1 F b) (ref04_keep_k1 F false)) (br a (ref04_keep_k2 F (!b)) (ref04_keep_k2 F false)))
def ref04_same_k1 (F:Nat) (a:Int) (b:(Int)→Option (Bool)) (c:Bool):Option (Bool):=
 br c (some false) (gd (I64 (a+(1:Int))) <|
 b (a+(1:Int)))
def ref04_same_k2 (F:Nat):Option (Bool):=
 some true
def ref04_same_b0 (F:Nat) (b:(List Rect)) (c:(List Rect)) (d:(Int)→Option (Bool)) (a:Int):Option (Bool):=
 br (decide (a<((List.length b:Nat):Int))) (gd (0≤a∧a<((List.length b:Nat):Int)) <|
 gd (0≤a∧a<((List.length c:Nat):Int)) <|
 br (((gl b a.toNat).left_) != ((gl c a.toNat).left_)) (ref04_same_k1 F a d true) (gd (0≤a∧a<((List.length b:Nat):Int)) <|
 gd (0≤a∧a<((List.length c:Nat):Int)) <|
 ref04_same_k1 F a d (((gl b a.toNat).right_) != ((gl c a.toNat).right_)))) (ref04_same_k2 F)
def ref04_same (F:Nat) (a:(List Rect)) (b:(List Rect)):Option (Bool):=
 br (((List.length a:Nat):Int) != ((List.length b:Nat):Int)) (some false) (loopN (fun again (z:Int)=>ref04_same_b0 F a b again z) F (0:Int))
def ref04_Combine_k2 (F:Nat) (a:Int) (b:((List Int)×(List Int)×Int)→Option ((List Rect))) (c:(List Int)) (d:(List Int)):Option ((List Rect)):=
 gd (I64 (a+(1:Int))) <|
 b (c,d,(a+(1:Int)))
def ref04_Combine_b1 (F:Nat) (c:(List Rect)) (d:(List Rect)) (b:Int) (j:((List Int)×(List Int)×Int)→Option ((List Rect))) (k:((List Int)×(List Int)×Int)→Option ((List Rect))) (e:(List Int)) (i:(List Int)) (a:Int):Option ((List Rect)):=
 br (decide (a<((List.length (gl ([c,d]:List (List Rect)) b.toNat):Nat):Int))) (gd (0≤a∧a<((List.length (gl ([c,d]:List (List Rect)) b.toNat):Nat):Int)) <|
 (ref01_Put F e ((gl (gl ([c,d]:List (List Rect)) b.toNat) a.toNat).left_)).bind fun l=>
 (ref01_Put F l ((gl (gl ([c,d]:List (List Rect)) b.toNat) a.toNat).right_)).bind fun m=>
 (ref01_Put F i ((gl (gl ([c,d]:List (List Rect)) b.toNat) a.toNat).low_)).bind fun n=>
 (ref01_Put F n ((gl (gl ([c,d]:List (List Rect)) b.toNat) a.toNat).high_)).bind fun o=>
 gd (I64 (a+(1:Int))) <|
 k (m,o,(a+(1:Int)))) (ref04_Combine_k2 F b j e i)
def ref04_Combine_k7 (F:Nat) (a:Int) (b:(Int×(List Rect))→Option ((List Rect))) (c:(List Rect)):Option ((List Rect)):=
 gd (I64 (a+(1:Int))) <|
 b ((a+(1:Int)),c)
def ref04_Combine_k6 (F:Nat) (d:(List Int)) (e:(List Int)) (c:Int) (a:Int) (b:(List Rect)) (i:(Int×(List Rect))→Option ((List Rect))) (j:Bool):Option ((List Rect)):=
 br j (gd (I64 (((List.length b:Nat):Int)-(1:Int))) <|
 gd (I64 (a+(1:Int))) <|
 gd (0≤(a+(1:Int))∧(a+(1:Int))<((List.length d:Nat):Int)) <|
 gd (0≤(((List.length b:Nat):Int)-(1:Int))∧(((List.length b:Nat):Int)-(1:Int))<((List.length b:Nat):Int)) <|
 ref04_Combine_k7 F a i (List.set b (((List.length b:Nat):Int)-(1:Int)).toNat (⟨(gl b (((List.length b:Nat):Int)-(1:Int)).toNat).left_,(gl b (((List.length b:Nat):Int)-(1:Int)).toNat).low_,(gl d (a+(1:Int)).toNat),(gl b (((List.length b:Nat):Int)-(1:Int)).toNat).high_⟩ : Rect))) (gd (0≤a∧a<((List.length d:Nat):Int)) <|
 gd (0≤c∧c<((List.length e:Nat):Int)) <|
 gd (I64 (a+(1:Int))) <|
 gd (0≤(a+(1:Int))∧(a+(1:Int))<((List.length d:Nat):Int)) <|
 gd (I64 (c+(1:Int))) <|
 gd (0≤(c+(1:Int))∧(c+(1:Int))<((List.length e:Nat):Int)) <|
 gd ((List.length (α:=Rect) b)+(List.length (α:=Rect) ([(⟨(gl d a.toNat),(gl e c.toNat),(gl d (a+(1:Int)).toNat),(gl e (c+(1:Int)).toNat)⟩ : Rect)]:List Rect))≤LIM) <|
 ref04_Combine_k7 F a i (b++([(⟨(gl d a.toNat),(gl e c.toNat),(gl d (a+(1:Int)).toNat),(gl e (c+(1:Int)).toNat)⟩ : Rect)]:List Rect)))
def ref04_Combine_k13 (F:Nat) (a:Int) (b:(Int×(List Rect)×(List Rect))→Option ((List Rect))) (c:(List Rect)) (d:(List Rect)):Option ((List Rect)):=
 gd (I64 (a+(1:Int))) <|
 b ((a+(1:Int)),c,d)
def ref04_Combine_k11 (F:Nat) (b:Int) (c:(List Rect)) (a:(Int×(List Rect)×(List Rect))→Option ((List Rect))) (d:(List Rect)):Option ((List Rect)):=
 ref04_Combine_k13 F b a c d
def ref04_Combine_b10 (F:Nat) (d:(List Int)) (c:Int) (j:(List Rect)) (k:(List Rect)) (i:(Int×(List Rect)×(List Rect))→Option ((List Rect))) (e:(Int×(List Rect))→Option ((List Rect))) (a:Int) (b:(List Rect)):Option ((List Rect)):=
 br (decide (a<((List.length k:Nat):Int))) (gd (I64 (c+(1:Int))) <|
 gd (0≤(c+(1:Int))∧(c+(1:Int))<((List.length d:Nat):Int)) <|
 gd (0≤a∧a<((List.length b:Nat):Int)) <|
 gd (I64 (a+(1:Int))) <|
 e ((a+(1:Int)),(List.set b a.toNat (⟨(gl b a.toNat).left_,(gl b a.toNat).low_,(gl b a.toNat).right_,(gl d (c+(1:Int)).toNat)⟩ : Rect)))) (ref04_Combine_k11 F c j i b)
def ref04_Combine_k12 (F:Nat) (d:Int) (a:(List Rect)) (b:(List Rect)) (e:(List Rect)) (c:(Int×(List Rect)×(List Rect))→Option ((List Rect))):Option ((List Rect)):=
 gd ((List.length (α:=Rect) a)+(List.length (α:=Rect) b)≤LIM) <|
 ref04_Combine_k13 F d c (a++b) e
def ref04_Combine_k9 (F:Nat) (e:(List Int)) (c:Int) (d:(List Rect)) (a:(List Rect)) (i:(List Rect)) (b:(Int×(List Rect)×(List Rect))→Option ((List Rect))) (j:Bool):Option ((List Rect)):=
 br j (loopN (fun again (z:Int×(List Rect))=>ref04_Combine_b10 F e c d a b again z.1 z.2) F ((0:Int),a)) (ref04_Combine_k12 F c d a i b)
def ref04_Combine_k8 (F:Nat) (c:(List Int)) (b:Int) (i:(List Rect)) (a:(List Rect)) (e:(Int×(List Rect)×(List Rect))→Option ((List Rect))) (d:(List Rect)):Option ((List Rect)):=
 br (decide ((0:Int)<((List.length a:Nat):Int))) ((ref04_same F a d).bind fun j=>
 br j (gd (0≤(0:Int)∧(0:Int)<((List.length a:Nat):Int)) <|
 gd (0≤b∧b<((List.length c:Nat):Int)) <|
 ref04_Combine_k9 F c b i a d e (((gl a (0:Int).toNat).high_)==(gl c b.toNat))) (ref04_Combine_k9 F c b i a d e false)) (ref04_Combine_k9 F c b i a d e false)
def ref04_Combine_b5 (F:Nat) (m:(List Rect)) (n:(List Rect)) (o:Int) (c:(List Int)) (e:(List Int)) (d:Int) (k:(List Rect)) (l:(List Rect)) (j:(Int×(List Rect)×(List Rect))→Option ((List Rect))) (i:(Int×(List Rect))→Option ((List Rect))) (a:Int) (b:(List Rect)):Option ((List Rect)):=
 gd (I64 (a+(1:Int))) <|
 br (decide ((a+(1:Int))<((List.length c:Nat):Int))) (gd (0≤a∧a<((List.length c:Nat):Int)) <|
 gd (0≤d∧d<((List.length e:Nat):Int)) <|
 (ref04_inside F m (gl c a.toNat) (gl e d.toNat)).bind fun p=>
 gd (0≤a∧a<((List.length c:Nat):Int)) <|
 gd (0≤d∧d<((List.length e:Nat):Int)) <|
 (ref04_inside F n (gl c a.toNat) (gl e d.toNat)).bind fun q=>
 (ref04_keep F p q o).bind fun s=>
 br (!s) (ref04_Combine_k7 F a i b) (br (decide ((0:Int)<((List.length b:Nat):Int))) (gd (I64 (((List.length b:Nat):Int)-(1:Int))) <|
 gd (0≤(((List.length b:Nat):Int)-(1:Int))∧(((List.length b:Nat):Int)-(1:Int))<((List.length b:Nat):Int)) <|
 gd (0≤a∧a<((List.length c:Nat):Int)) <|
 ref04_Combine_k6 F c e d a b i (((gl b (((List.length b:Nat):Int)-(1:Int)).toNat).right_)==(gl c a.toNat))) (ref04_Combine_k6 F c e d a b i false))) (ref04_Combine_k8 F e d k l j b)
def ref04_Combine_k14 (F:Nat) (a:(List Rect)) (b:(List Rect)):Option ((List Rect)):=
 gd ((List.length (α:=Rect) a)+(List.length (α:=Rect) b)≤LIM) <|
 some (a++b)
def ref04_Combine_b4 (F:Nat) (j:(List Rect)) (k:(List Rect)) (l:Int) (i:(List Int)) (b:(List Int)) (e:(Int×(List Rect)×(List Rect))→Option ((List Rect))) (a:Int) (c:(List Rect)) (d:(List Rect)):Option ((List Rect)):=
 gd (I64 (a+(1:Int))) <|
 br (decide ((a+(1:Int))<((List.length b:Nat):Int))) (loopN (fun again (z:Int×(List Rect))=>ref04_Combine_b5 F j k l i b a c d e again z.1 z.2) F ((0:Int),([]:List Rect))) (ref04_Combine_k14 F c d)
def ref04_Combine_k3 (F:Nat) (c:(List Rect)) (d:(List Rect)) (e:Int) (a:(List Int)) (b:(List Int)):Option ((List Rect)):=
 loopN (fun again (z:Int×(List Rect)×(List Rect))=>ref04_Combine_b4 F c d e a b again z.1 z.2.1 z.2.2) F ((0:Int),([]:List Rect),([]:List Rect))
def ref04_Combine_b0 (F:Nat) (b:(List Rect)) (c:(List Rect)) (j:Int) (i:((List Int)×(List Int)×Int)→Option ((List Rect))) (d:(List Int)) (e:(List Int)) (a:Int):Option ((List Rect)):=
 br (decide (a<((List.length ([b,c]:List (List Rect)):Nat):Int))) (gd (0≤a∧a<((List.length ([b,c]:List (List Rect)):Nat):Int)) <|
 loopN (fun again (z:(List Int)×(List Int)×Int)=>ref04_Combine_b1 F b c a i again z.1 z.2.1 z.2.2) F (d,e,(0:Int))) (ref04_Combine_k3 F b c j d e)
def ref04_Combine (F:Nat) (a:(List Rect)) (b:(List Rect)) (c:Int):Option ((List Rect)):=
 loopN (fun again (z:(List Int)×(List Int)×Int)=>ref04_Combine_b0 F a b c again z.1 z.2.1 z.2.2) F (([]:List Int),([]:List Int),(0:Int))
def ref04_Bound (F:Nat) (a:(List Rect)):Option (Region×Int):=
 br (decide ((120:Int)<((List.length a:Nat):Int))) (some ((⟨[]⟩ : Region),(1:Int))) (some ((⟨a⟩ : Region),(0:Int)))
def ref04_Of_k1 (F:Nat) (b:(List Rect)):Option (Region×Int):=
 (ref04_Combine F b ([]) (1:Int)).bind fun c=>
 (ref04_Bound F c).bind fun a=>
 some (a.1,a.2)
def ref04_Of_b0 (F:Nat) (b:(List Rect)) (c:(Int)→Option (Region×Int)) (a:Int):Option (Region×Int):=
 br (decide (a<((List.length b:Nat):Int))) (gd (0≤a∧a<((List.length b:Nat):Int)) <|
 (ref04_proper F (gl b a.toNat)).bind fun d=>
 br (!d) (some ((⟨[]⟩ : Region),(2:Int))) (gd (I64 (a+(1:Int))) <|
 c (a+(1:Int)))) (ref04_Of_k1 F b)
def ref04_Of (F:Nat) (a:(List Rect)):Option (Region×Int):=
 br (decide ((120:Int)<((List.length a:Nat):Int))) (some ((⟨[]⟩ : Region),(1:Int))) (loopN (fun again (z:Int)=>ref04_Of_b0 F a again z) F (0:Int))
def keep_Tape_Region_k1 (F:Nat) (a:(List Rect)) (b:(List Int)) (c:Int):Option (Tape×Region):=
 (ref04_Of F a).bind fun d=>
 some ((⟨b,c⟩ : Tape),d.1)
def keep_Tape_Region_b0 (F:Nat) (j:Int) (i:(Int×(List Int)×Int×(List Rect))→Option (Tape×Region)) (b:Int) (d:(List Int)) (e:Int) (c:(List Rect)):Option (Tape×Region):=
 br (decide ((0:Int)<b)) ((keep_Tape_Rect F (⟨d,e⟩ : Tape) j).bind fun a=>
 gd ((List.length (α:=Rect) c)+(List.length (α:=Rect) ([a.2]:List Rect))≤LIM) <|
 gd (I64 (b-(1:Int))) <|
 i ((b-(1:Int)),a.1.l_,a.1.at_,(c++([a.2]:List Rect)))) (keep_Tape_Region_k1 F c d e)
def keep_Tape_Region (F:Nat) (c:Tape) (d:Int) (b:Int):Option (Tape×Region):=
 gd (I64 (b+(1:Int))) <|
 (keep_Tape_Next F c (b+(1:Int))).bind fun a=>
 loopN (fun again (z:Int×(List Int)×Int×(List Rect))=>keep_Tape_Region_b0 F d again z.1 z.2.1 z.2.2.1 z.2.2.2) F (a.2,a.1.l_,a.1.at_,([]:List Rect))
def ref04_Rects_k1 (F:Nat):Option (Bool):=
 some true
def ref04_Rects_b0 (F:Nat) (b:(List Rect)) (c:(List Rect)) (d:(Int)→Option (Bool)) (a:Int):Option (Bool):=
 br (decide (a<((List.length b:Nat):Int))) (gd (0≤a∧a<((List.length b:Nat):Int)) <|
 gd (0≤a∧a<((List.length c:Nat):Int)) <|
 br (!((((gl b a.toNat).left_)==((gl c a.toNat).left_))&&((((gl b a.toNat).low_)==((gl c a.toNat).low_))&&((((gl b a.toNat).right_)==((gl c a.toNat).right_))&&((((gl b a.toNat).high_)==((gl c a.toNat).high_))&&true))))) (some false) (gd (I64 (a+(1:Int))) <|
 d (a+(1:Int)))) (ref04_Rects_k1 F)
def ref04_Rects (F:Nat) (a:(List Rect)) (b:(List Rect)):Option (Bool):=
 br (((List.length a:Nat):Int) != ((List.length b:Nat):Int)) (some false) (loopN (fun again (z:Int)=>ref04_Rects_b0 F a b again z) F (0:Int))
def ref04_Valid_k1 (F:Nat) (a:Region):Option (Bool):=
 (ref04_Combine F a.rects_ ([]) (1:Int)).bind fun b=>
 (ref04_Rects F b a.rects_).bind fun c=>
 some c
def ref04_Valid_b0 (F:Nat) (b:Region) (c:(Int)→Option (Bool)) (a:Int):Option (Bool):=
 br (decide (a<((List.length b.rects_:Nat):Int))) (gd (0≤a∧a<((List.length b.rects_:Nat):Int)) <|
 (ref04_proper F (gl b.rects_ a.toNat)).bind fun d=>
 br (!d) (some false) (gd (I64 (a+(1:Int))) <|
 c (a+(1:Int)))) (ref04_Valid_k1 F b)
def ref04_Valid (F:Nat) (a:Region):Option (Bool):=
 br (decide ((120:Int)<((List.length a.rects_:Nat):Int))) (some false) (loopN (fun again (z:Int)=>ref04_Valid_b0 F a again z) F (0:Int))
def ref04_Meets_k0 (F:Nat) (a:Bool):Option (Bool):=
 some a
def ref04_Meets (F:Nat) (a:Region) (b:Region):Option (Bool):=
 (ref04_Valid F a).bind fun c=>
 br c ((ref04_Valid F b).bind fun d=>
 br d ((ref04_Combine F a.rects_ b.rects_ (2:Int)).bind fun e=>
 ref04_Meets_k0 F (decide ((0:Int)<((List.length e:Nat):Int)))) (ref04_Meets_k0 F false)) (ref04_Meets_k0 F false)
def ref15_Check_k4 (F:Nat) (a:Int) (b:(Int)→Option (Int)) (c:Bool):Option (Int):=
 br c (some (3:Int)) (gd (I64 (a+(1:Int))) <|
 b (a+(1:Int)))
def ref15_Check_k3 (F:Nat) (b:(List Record)) (a:Int) (c:(Int)→Option (Int)) (d:Bool):Option (Int):=
 br d (some (7:Int)) (br (decide ((0:Int)<a)) (gd (I64 (a-(1:Int))) <|
 gd (0≤(a-(1:Int))∧(a-(1:Int))<((List.length b:Nat):Int)) <|
 br (decide (((gl b a.toNat).year_)<((gl b (a-(1:Int)).toNat).year_))) (ref15_Check_k4 F a c true) (gd (I64 (a-(1:Int))) <|
 gd (0≤(a-(1:Int))∧(a-(1:Int))<((List.length b:Nat):Int)) <|
 br (((gl b a.toNat).year_)==((gl b (a-(1:Int)).toNat).year_)) (gd (I64 (a-(1:Int))) <|
 gd (0≤(a-(1:Int))∧(a-(1:Int))<((List.length b:Nat):Int)) <|
 ref15_Check_k4 F a c (decide (((gl b a.toNat).crop_)≤((gl b (a-(1:Int)).toNat).crop_)))) (ref15_Check_k4 F a c false))) (ref15_Check_k4 F a c false))
def ref15_Check_k2 (F:Nat) (b:(List Record)) (a:Int) (c:(Int)→Option (Int)) (d:Bool):Option (Int):=
 br d (some (13:Int)) ((ref04_Valid F ((gl b a.toNat).region_)).bind fun e=>
 br (!e) (ref15_Check_k3 F b a c true) (ref15_Check_k3 F b a c (((List.length ((gl b a.toNat).region_.rects_):Nat):Int)==(0:Int))))
def ref15_Check_k1 (F:Nat) (b:(List Record)) (a:Int) (c:(Int)→Option (Int)) (d:Bool):Option (Int):=
 br d (some (18:Int)) (br (decide (((gl b a.toNat).crop_)<(0:Int))) (ref15_Check_k2 F b a c true) (ref15_Check_k2 F b a c (decide ((40:Int)≤((gl b a.toNat).crop_)))))
def ref15_Check_k8 (F:Nat) (a:Int) (b:(Int)→Option (Int)) (c:Bool):Option (Int):=
 br c (some (11:Int)) (gd (I64 (a+(1:Int))) <|
 b (a+(1:Int)))
def ref15_Check_k9 (F:Nat) (a:Int) (b:(Int)→Option (Int)):Option (Int):=
 gd (I64 (a+(1:Int))) <|
 b (a+(1:Int))
def ref15_Check_b7 (F:Nat) (c:(List Record)) (a:Int) (e:(Int)→Option (Int)) (d:(Int)→Option (Int)) (b:Int):Option (Int):=
 br (decide (b<((List.length (c.take a.toNat):Nat):Int))) (gd (0≤b∧b<((List.length (c.take a.toNat):Nat):Int)) <|
 br (((gl (c.take a.toNat) b.toNat).year_)==((gl c a.toNat).year_)) ((ref04_Meets F ((gl (c.take a.toNat) b.toNat).region_) ((gl c a.toNat).region_)).bind fun i=>
 ref15_Check_k8 F b d i) (ref15_Check_k8 F b d false)) (ref15_Check_k9 F a e)
def ref15_Check_k10 (F:Nat):Option (Int):=
 some (0:Int)
def ref15_Check_b6 (F:Nat) (b:(List Record)) (c:(Int)→Option (Int)) (a:Int):Option (Int):=
 br (decide (a<((List.length b:Nat):Int))) (gd (0≤a∧a<((List.length b:Nat):Int)) <|
 gd (0≤a∧a≤((List.length b:Nat):Int)) <|
 loopN (fun again (z:Int)=>ref15_Check_b7 F b a c again z) F (0:Int)) (ref15_Check_k10 F)
def ref15_Check_k5 (F:Nat) (a:(List Record)):Option (Int):=
 loopN (fun again (z:Int)=>ref15_Check_b6 F a again z) F (0:Int)
def ref15_Check_b0 (F:Nat) (b:(List Record)) (c:(Int)→Option (Int)) (a:Int):Option (Int):=
 br (decide (a<((List.length b:Nat):Int))) (gd (0≤a∧a<((List.length b:Nat):Int)) <|
 br (decide (((gl b a.toNat).year_)<(0:Int))) (ref15_Check_k1 F b a c true) (ref15_Check_k1 F b a c (decide ((100:Int)<((gl b a.toNat).year_))))) (ref15_Check_k5 F b)
def ref15_Check (F:Nat) (a:(List Record)):Option (Int):=
 br (decide ((200:Int)<((List.length a:Nat):Int))) (some (1:Int)) (loopN (fun again (z:Int)=>ref15_Check_b0 F a again z) F (0:Int))
def ref04_Has_k0 (F:Nat) (a:Bool):Option (Bool):=
 some a
def ref04_Has (F:Nat) (a:Region) (b:Int) (c:Int):Option (Bool):=
 (ref04_Valid F a).bind fun d=>
 br d ((ref04_inside F a.rects_ b c).bind fun e=>
 ref04_Has_k0 F e) (ref04_Has_k0 F false)
def ref15_At_k1 (F:Nat) (d:(List Record)) (a:Int) (b:(Int)→Option (Int)) (c:Bool):Option (Int):=
 br c (some ((gl d a.toNat).crop_)) (gd (I64 (a+(1:Int))) <|
 b (a+(1:Int)))
def ref15_At_k2 (F:Nat):Option (Int):=
 some (-1:Int)
def ref15_At_b0 (F:Nat) (b:(List Record)) (d:Int) (e:Int) (i:Int) (c:(Int)→Option (Int)) (a:Int):Option (Int):=
 br (decide (a<((List.length b:Nat):Int))) (gd (0≤a∧a<((List.length b:Nat):Int)) <|
 br (((gl b a.toNat).year_)==d) ((ref04_Has F ((gl b a.toNat).region_) e i).bind fun j=>
 ref15_At_k1 F b a c j) (ref15_At_k1 F b a c false)) (ref15_At_k2 F)
def ref15_At (F:Nat) (a:(List Record)) (b:Int) (c:Int) (d:Int):Option (Int):=
 (ref15_Check F a).bind fun e=>
 br (e != (0:Int)) (some (-1:Int)) (loopN (fun again (z:Int)=>ref15_At_b0 F a b c d again z) F (0:Int))
def words_Name_k3 (F:Nat) (a:Int) (b:(Int)→Option (Bool)) (c:Bool):Option (Bool):=
 br c (some false) (gd (I64 (a+(1:Int))) <|
 b (a+(1:Int)))
def words_Name_k2 (F:Nat) (a:Int) (c:Bool) (b:(Int)→Option (Bool)) (d:Bool):Option (Bool):=
 br (!c) (br (a==(0:Int)) (words_Name_k3 F a b true) (words_Name_k3 F a b (!d))) (words_Name_k3 F a b false)
def words_Name_k1 (F:Nat) (b:ByteArray) (a:Int) (c:(Int)→Option (Bool)) (d:Bool):Option (Bool):=
 gd (0≤a∧a<((b.size:Nat):Int)) <|
 br (decide ((48:Int)≤(sAt b a))) (gd (0≤a∧a<((b.size:Nat):Int)) <|
 words_Name_k2 F a d c (decide ((sAt b a)≤(57:Int)))) (words_Name_k2 F a d c false)
def words_Name_k5 (F:Nat) (a:Bool):Option (Bool):=
 some a
def words_Name_k4 (F:Nat) (a:ByteArray):Option (Bool):=
 br (decide ((1:Int)≤((a.size:Nat):Int))) (words_Name_k5 F (decide (((a.size:Nat):Int)≤(12:Int)))) (words_Name_k5 F false)
def words_Name_b0 (F:Nat) (b:ByteArray) (c:(Int)→Option (Bool)) (a:Int):Option (Bool):=
 br (decide (a<((b.size:Nat):Int))) (gd (0≤a∧a<((b.size:Nat):Int)) <|
 br (decide ((97:Int)≤(sAt b a))) (gd (0≤a∧a<((b.size:Nat):Int)) <|
 words_Name_k1 F b a c (decide ((sAt b a)≤(122:Int)))) (words_Name_k1 F b a c false)) (words_Name_k4 F b)
def words_Name (F:Nat) (a:ByteArray):Option (Bool):=
 loopN (fun again (z:Int)=>words_Name_b0 F a again z) F (0:Int)
def crop_Check_k3 (F:Nat) (a:Int) (b:(Int)→Option (Int)) (c:Bool):Option (Int):=
 br c (some (6:Int)) (gd (I64 (a+(1:Int))) <|
 b (a+(1:Int)))
def crop_Check_k2 (F:Nat) (b:(List Crop)) (a:Int) (c:(Int)→Option (Int)) (d:Bool):Option (Int):=
 br d (some (14:Int)) (br (decide ((0:Int)<a)) (gd (I64 (a-(1:Int))) <|
 gd (0≤(a-(1:Int))∧(a-(1:Int))<((List.length b:Nat):Int)) <|
 crop_Check_k3 F a c (sLt ((gl b a.toNat).name_) ((gl b (a-(1:Int)).toNat).name_)||sEq ((gl b a.toNat).name_) ((gl b (a-(1:Int)).toNat).name_))) (crop_Check_k3 F a c false))
def crop_Check_k1 (F:Nat) (b:(List Crop)) (a:Int) (c:(Int)→Option (Int)) (d:Bool):Option (Int):=
 br d (some (2:Int)) (br (decide (((gl b a.toNat).marks_)<(0:Int))) (crop_Check_k2 F b a c true) (crop_Check_k2 F b a c (decide ((31:Int)<((gl b a.toNat).marks_)))))
def crop_Check_k4 (F:Nat):Option (Int):=
 some (0:Int)
def crop_Check_b0 (F:Nat) (b:(List Crop)) (c:(Int)→Option (Int)) (a:Int):Option (Int):=
 br (decide (a<((List.length b:Nat):Int))) (gd (0≤a∧a<((List.length b:Nat):Int)) <|
 (words_Name F ((gl b a.toNat).name_)).bind fun d=>
 br (!d) (some (5:Int)) (br (decide (((gl b a.toNat).family_)<(0:Int))) (crop_Check_k1 F b a c true) (crop_Check_k1 F b a c (decide ((40:Int)<((gl b a.toNat).family_)))))) (crop_Check_k4 F)
def crop_Check (F:Nat) (a:(List Crop)):Option (Int):=
 br (decide ((40:Int)<((List.length a:Nat):Int))) (some (1:Int)) (loopN (fun again (z:Int)=>crop_Check_b0 F a again z) F (0:Int))
def keep_Tape_Land_k0 (F:Nat) (a:(List Rect)) (b:(List Int)) (c:Int):Option (Tape×Region):=
 some ((⟨b,c⟩ : Tape),(⟨a⟩ : Region))
def keep_Tape_Land (F:Nat) (d:Tape) (c:Int) (e:Int):Option (Tape×Region):=
 (keep_Tape_Region F d c e).bind fun a=>
 br (((List.length a.2.rects_:Nat):Int)==(0:Int)) ((keep_Tape_Rect F a.1 c).bind fun b=>
 keep_Tape_Land_k0 F ([b.2]:List Rect) b.1.l_ b.1.at_) (keep_Tape_Land_k0 F a.2.rects_ a.1.l_ a.1.at_)
def region_Size_k1 (F:Nat) (a:Int):Option (Int):=
 some a
def region_Size_b0 (F:Nat) (b:(List Rect)) (d:(Int×Int)→Option (Int)) (c:Int) (a:Int):Option (Int):=
 br (decide (a<((List.length b:Nat):Int))) (gd (0≤a∧a<((List.length b:Nat):Int)) <|
 gd (I64 (((gl b a.toNat).right_)-((gl b a.toNat).left_))) <|
 gd (I64 (((gl b a.toNat).high_)-((gl b a.toNat).low_))) <|
 gd (I64 ((((gl b a.toNat).right_)-((gl b a.toNat).left_))*(((gl b a.toNat).high_)-((gl b a.toNat).low_)))) <|
 gd (I64 (c+((((gl b a.toNat).right_)-((gl b a.toNat).left_))*(((gl b a.toNat).high_)-((gl b a.toNat).low_))))) <|
 gd (I64 (a+(1:Int))) <|
 d ((c+((((gl b a.toNat).right_)-((gl b a.toNat).left_))*(((gl b a.toNat).high_)-((gl b a.toNat).low_)))),(a+(1:Int)))) (region_Size_k1 F c)
def region_Size (F:Nat) (a:(List Rect)):Option (Int):=
 loopN (fun again (z:Int×Int)=>region_Size_b0 F a again z.1 z.2) F ((0:Int),(0:Int))
def ref04_Combine_O_k2 (F:Nat) (a:Int) (b:((List Int)×(List Int)×Int)→Option ((List Rect))) (c:(List Int)) (d:(List Int)):Option ((List Rect)):=
 gd (I64 (a+(1:Int))) <|
 b (c,d,(a+(1:Int)))
def ref04_Combine_O_b1 (F:Nat) (c:(List Rect)) (d:(List Rect)) (b:Int) (j:((List Int)×(List Int)×Int)→Option ((List Rect))) (k:((List Int)×(List Int)×Int)→Option ((List Rect))) (e:(List Int)) (i:(List Int)) (a:Int):Option ((List Rect)):=
 br (decide (a<((List.length (gl ([c,d]:List (List Rect)) b.toNat):Nat):Int))) (gd (0≤a∧a<((List.length (gl ([c,d]:List (List Rect)) b.toNat):Nat):Int)) <|
 (ref01_Put F e ((gl (gl ([c,d]:List (List Rect)) b.toNat) a.toNat).left_)).bind fun l=>
 (ref01_Put F l ((gl (gl ([c,d]:List (List Rect)) b.toNat) a.toNat).right_)).bind fun m=>
 (ref01_Put F i ((gl (gl ([c,d]:List (List Rect)) b.toNat) a.toNat).low_)).bind fun n=>
 (ref01_Put F n ((gl (gl ([c,d]:List (List Rect)) b.toNat) a.toNat).high_)).bind fun o=>
 gd (I64 (a+(1:Int))) <|
 k (m,o,(a+(1:Int)))) (ref04_Combine_O_k2 F b j e i)
def ref04_Combine_O_k7 (F:Nat) (a:Int) (b:(Int×(List Rect))→Option ((List Rect))) (c:(List Rect)):Option ((List Rect)):=
 gd (I64 (a+(1:Int))) <|
 b ((a+(1:Int)),c)
def ref04_Combine_O_k6 (F:Nat) (d:(List Int)) (e:(List Int)) (c:Int) (a:Int) (b:(List Rect)) (i:(Int×(List Rect))→Option ((List Rect))) (j:Bool):Option ((List Rect)):=
 br j (gd (I64 (((List.length b:Nat):Int)-(1:Int))) <|
 gd (I64 (a+(1:Int))) <|
 gd (0≤(a+(1:Int))∧(a+(1:Int))<((List.length d:Nat):Int)) <|
 gd (0≤(((List.length b:Nat):Int)-(1:Int))∧(((List.length b:Nat):Int)-(1:Int))<((List.length b:Nat):Int)) <|
 ref04_Combine_O_k7 F a i (List.set b (((List.length b:Nat):Int)-(1:Int)).toNat (⟨(gl b (((List.length b:Nat):Int)-(1:Int)).toNat).left_,(gl b (((List.length b:Nat):Int)-(1:Int)).toNat).low_,(gl d (a+(1:Int)).toNat),(gl b (((List.length b:Nat):Int)-(1:Int)).toNat).high_⟩ : Rect))) (gd (0≤a∧a<((List.length d:Nat):Int)) <|
 gd (0≤c∧c<((List.length e:Nat):Int)) <|
 gd (I64 (a+(1:Int))) <|
 gd (0≤(a+(1:Int))∧(a+(1:Int))<((List.length d:Nat):Int)) <|
 gd (I64 (c+(1:Int))) <|
 gd (0≤(c+(1:Int))∧(c+(1:Int))<((List.length e:Nat):Int)) <|
 gd ((List.length (α:=Rect) b)+(List.length (α:=Rect) ([(⟨(gl d a.toNat),(gl e c.toNat),(gl d (a+(1:Int)).toNat),(gl e (c+(1:Int)).toNat)⟩ : Rect)]:List Rect))≤LIM) <|
 ref04_Combine_O_k7 F a i (b++([(⟨(gl d a.toNat),(gl e c.toNat),(gl d (a+(1:Int)).toNat),(gl e (c+(1:Int)).toNat)⟩ : Rect)]:List Rect)))
def ref04_Combine_O_k13 (F:Nat) (a:Int) (b:(Int×(List Rect)×(List Rect))→Option ((List Rect))) (c:(List Rect)) (d:(List Rect)):Option ((List Rect)):=
 gd (I64 (a+(1:Int))) <|
 b ((a+(1:Int)),c,d)
def ref04_Combine_O_k11 (F:Nat) (b:Int) (c:(List Rect)) (a:(Int×(List Rect)×(List Rect))→Option ((List Rect))) (d:(List Rect)):Option ((List Rect)):=
 ref04_Combine_O_k13 F b a c d
def ref04_Combine_O_b10 (F:Nat) (d:(List Int)) (c:Int) (j:(List Rect)) (k:(List Rect)) (i:(Int×(List Rect)×(List Rect))→Option ((List Rect))) (e:(Int×(List Rect))→Option ((List Rect))) (a:Int) (b:(List Rect)):Option ((List Rect)):=
 br (decide (a<((List.length k:Nat):Int))) (gd (I64 (c+(1:Int))) <|
 gd (0≤(c+(1:Int))∧(c+(1:Int))<((List.length d:Nat):Int)) <|
 gd (0≤a∧a<((List.length b:Nat):Int)) <|
 gd (I64 (a+(1:Int))) <|
 e ((a+(1:Int)),(List.set b a.toNat (⟨(gl b a.toNat).left_,(gl b a.toNat).low_,(gl b a.toNat).right_,(gl d (c+(1:Int)).toNat)⟩ : Rect)))) (ref04_Combine_O_k11 F c j i b)
def ref04_Combine_O_k12 (F:Nat) (d:Int) (a:(List Rect)) (b:(List Rect)) (e:(List Rect)) (c:(Int×(List Rect)×(List Rect))→Option ((List Rect))):Option ((List Rect)):=
 gd ((List.length (α:=Rect) a)+(List.length (α:=Rect) b)≤LIM) <|
 ref04_Combine_O_k13 F d c (a++b) e
def ref04_Combine_O_k9 (F:Nat) (e:(List Int)) (c:Int) (d:(List Rect)) (a:(List Rect)) (i:(List Rect)) (b:(Int×(List Rect)×(List Rect))→Option ((List Rect))) (j:Bool):Option ((List Rect)):=
 br j (loopN (fun again (z:Int×(List Rect))=>ref04_Combine_O_b10 F e c d a b again z.1 z.2) F ((0:Int),a)) (ref04_Combine_O_k12 F c d a i b)
def ref04_Combine_O_k8 (F:Nat) (c:(List Int)) (b:Int) (i:(List Rect)) (a:(List Rect)) (e:(Int×(List Rect)×(List Rect))→Option ((List Rect))) (d:(List Rect)):Option ((List Rect)):=
 br (decide ((0:Int)<((List.length a:Nat):Int))) ((ref04_same F a d).bind fun j=>
 br j (gd (0≤(0:Int)∧(0:Int)<((List.length a:Nat):Int)) <|
 gd (0≤b∧b<((List.length c:Nat):Int)) <|
 ref04_Combine_O_k9 F c b i a d e (((gl a (0:Int).toNat).high_)==(gl c b.toNat))) (ref04_Combine_O_k9 F c b i a d e false)) (ref04_Combine_O_k9 F c b i a d e false)
def ref04_Combine_O_b5 (F:Nat) (m:(List Rect)) (n:(List Rect)) (o:Int) (c:(List Int)) (e:(List Int)) (d:Int) (k:(List Rect)) (l:(List Rect)) (j:(Int×(List Rect)×(List Rect))→Option ((List Rect))) (i:(Int×(List Rect))→Option ((List Rect))) (a:Int) (b:(List Rect)):Option ((List Rect)):=
 gd (I64 (a+(1:Int))) <|
 br (decide ((a+(1:Int))<((List.length c:Nat):Int))) (gd (0≤a∧a<((List.length c:Nat):Int)) <|
 gd (0≤d∧d<((List.length e:Nat):Int)) <|
 (ref04_inside F m (gl c a.toNat) (gl e d.toNat)).bind fun p=>
 gd (0≤a∧a<((List.length c:Nat):Int)) <|
 gd (0≤d∧d<((List.length e:Nat):Int)) <|
 (ref04_inside F n (gl c a.toNat) (gl e d.toNat)).bind fun q=>
 (ref04_keep F p q o).bind fun s=>
 br (!s) (ref04_Combine_O_k7 F a i b) (br (decide ((0:Int)<((List.length b:Nat):Int))) (gd (I64 (((List.length b:Nat):Int)-(1:Int))) <|
 gd (0≤(((List.length b:Nat):Int)-(1:Int))∧(((List.length b:Nat):Int)-(1:Int))<((List.length b:Nat):Int)) <|
 gd (0≤a∧a<((List.length c:Nat):Int)) <|
 ref04_Combine_O_k6 F c e d a b i (((gl b (((List.length b:Nat):Int)-(1:Int)).toNat).right_)==(gl c a.toNat))) (ref04_Combine_O_k6 F c e d a b i false))) (ref04_Combine_O_k8 F e d k l j b)
def ref04_Combine_O_k14 (F:Nat) (a:(List Rect)) (b:(List Rect)):Option ((List Rect)):=
 gd ((List.length (α:=Rect) a)+(List.length (α:=Rect) b)≤LIM) <|
 some (a++b)
def ref04_Combine_O_b4 (F:Nat) (j:(List Rect)) (k:(List Rect)) (l:Int) (i:(List Int)) (b:(List Int)) (e:(Int×(List Rect)×(List Rect))→Option ((List Rect))) (a:Int) (c:(List Rect)) (d:(List Rect)):Option ((List Rect)):=
 gd (I64 (a+(1:Int))) <|
 br (decide ((a+(1:Int))<((List.length b:Nat):Int))) (loopN (fun again (z:Int×(List Rect))=>ref04_Combine_O_b5 F j k l i b a c d e again z.1 z.2) F ((0:Int),([]:List Rect))) (ref04_Combine_O_k14 F c d)
def ref04_Combine_O_k3 (F:Nat) (c:(List Rect)) (d:(List Rect)) (e:Int) (a:(List Int)) (b:(List Int)):Option ((List Rect)):=
 loopN (fun again (z:Int×(List Rect)×(List Rect))=>ref04_Combine_O_b4 F c d e a b again z.1 z.2.1 z.2.2) F ((0:Int),([]:List Rect),([]:List Rect))
def ref04_Combine_O_b0 (F:Nat) (b:(List Rect)) (c:(List Rect)) (j:Int) (i:((List Int)×(List Int)×Int)→Option ((List Rect))) (d:(List Int)) (e:(List Int)) (a:Int):Option ((List Rect)):=
 br (decide (a<((List.length ([b,c]:List (List Rect)):Nat):Int))) (gd (0≤a∧a<((List.length ([b,c]:List (List Rect)):Nat):Int)) <|
 loopN (fun again (z:(List Int)×(List Int)×Int)=>ref04_Combine_O_b1 F b c a i again z.1 z.2.1 z.2.2) F (d,e,(0:Int))) (ref04_Combine_O_k3 F b c j d e)
def ref04_Combine_O (F:Nat) (a:(List Rect)) (b:(List Rect)) (c:Int):Option ((List Rect)):=
 loopN (fun again (z:(List Int)×(List Int)×Int)=>ref04_Combine_O_b0 F a b c again z.1 z.2.1 z.2.2) F (([]:List Int),([]:List Int),(0:Int))
def ref04_Bound_O (F:Nat) (a:(List Rect)):Option (Region×Int):=
 br (decide ((120:Int)<((List.length a:Nat):Int))) (some ((⟨([]:List Rect)⟩ : Region),(1:Int))) (some ((⟨a⟩ : Region),(0:Int)))
def ref04_Of_O_k1 (F:Nat) (b:(List Rect)):Option (Region×Int):=
 (ref04_Combine_O F b ([]) (1:Int)).bind fun c=>
 (ref04_Bound_O F c).bind fun a=>
 some ((⟨a.1.rects_⟩ : Region),a.2)
def ref04_Of_O_b0 (F:Nat) (b:(List Rect)) (c:(Int)→Option (Region×Int)) (a:Int):Option (Region×Int):=
 br (decide (a<((List.length b:Nat):Int))) (gd (0≤a∧a<((List.length b:Nat):Int)) <|
 (ref04_proper F (gl b a.toNat)).bind fun d=>
 br (!d) (some ((⟨([]:List Rect)⟩ : Region),(2:Int))) (gd (I64 (a+(1:Int))) <|
 c (a+(1:Int)))) (ref04_Of_O_k1 F b)
def ref04_Of_O (F:Nat) (a:(List Rect)):Option (Region×Int):=
 br (decide ((120:Int)<((List.length a:Nat):Int))) (some ((⟨([]:List Rect)⟩ : Region),(1:Int))) (loopN (fun again (z:Int)=>ref04_Of_O_b0 F a again z) F (0:Int))
def keep_Tape_Region_O_k1 (F:Nat) (a:(List Rect)) (b:(List Int)) (c:Int):Option (Tape×Region):=
 (ref04_Of_O F a).bind fun d=>
 some ((⟨b,c⟩ : Tape),(⟨d.1.rects_⟩ : Region))
def keep_Tape_Region_O_b0 (F:Nat) (j:Int) (i:(Int×(List Int)×Int×(List Rect))→Option (Tape×Region)) (b:Int) (d:(List Int)) (e:Int) (c:(List Rect)):Option (Tape×Region):=
 br (decide ((0:Int)<b)) ((keep_Tape_Rect F (⟨d,e⟩ : Tape) j).bind fun a=>
 gd ((List.length (α:=Rect) c)+(List.length (α:=Rect) ([a.2]:List Rect))≤LIM) <|
 gd (I64 (b-(1:Int))) <|
 i ((b-(1:Int)),a.1.l_,a.1.at_,(c++([a.2]:List Rect)))) (keep_Tape_Region_O_k1 F c d e)
def keep_Tape_Region_O (F:Nat) (c:Tape) (d:Int) (b:Int):Option (Tape×Region):=
 gd (I64 (b+(1:Int))) <|
 (keep_Tape_Next F c (b+(1:Int))).bind fun a=>
 loopN (fun again (z:Int×(List Int)×Int×(List Rect))=>keep_Tape_Region_O_b0 F d again z.1 z.2.1 z.2.2.1 z.2.2.2) F (a.2,a.1.l_,a.1.at_,([]:List Rect))
def keep_Tape_Land_O_k0 (F:Nat) (a:(List Int)) (b:Int) (c:(List Rect)):Option (Tape×Region):=
 some ((⟨a,b⟩ : Tape),(⟨c⟩ : Region))
def keep_Tape_Land_O (F:Nat) (d:Tape) (c:Int) (e:Int):Option (Tape×Region):=
 (keep_Tape_Region_O F d c e).bind fun a=>
 br (((List.length a.2.rects_:Nat):Int)==(0:Int)) ((keep_Tape_Rect F a.1 c).bind fun b=>
 keep_Tape_Land_O_k0 F b.1.l_ b.1.at_ ([b.2]:List Rect)) (keep_Tape_Land_O_k0 F a.1.l_ a.1.at_ a.2.rects_)
def keep_Tape_Lines_k7 (F:Nat) (a:Int) (b:(Int×(List Int)×Int×(List Line))→Option (Tape×(List Line)×(List Int)×(List Region))) (c:(List Int)) (d:Int) (e:(List Line)):Option (Tape×(List Line)×(List Int)×(List Region)):=
 gd (I64 (a-(1:Int))) <|
 b ((a-(1:Int)),c,d,e)
def keep_Tape_Lines_k6 (F:Nat) (l:(List Crop)) (k:Int) (b:(List Line)) (d:Tape×Int) (e:Tape×Region) (j:(Int×(List Int)×Int×(List Line))→Option (Tape×(List Line)×(List Int)×(List Region))) (c:(List Rect)):Option (Tape×(List Line)×(List Int)×(List Region)):=
 br (decide ((0:Int)<((List.length c:Nat):Int))) (gd (I64 (d.2+(1:Int))) <|
 (keep_Tape_Next F e.1 ((List.length l:Nat):Int)).bind fun i=>
 (keep_Tape_Next F i.1 (15:Int)).bind fun a=>
 gd (I64 ((1:Int)+a.2)) <|
 gd ((List.length (α:=Line) b)+(List.length (α:=Line) ([(⟨(d.2+(1:Int)),(⟨c⟩ : Region),i.2,((1:Int)+a.2)⟩ : Line)]:List Line))≤LIM) <|
 keep_Tape_Lines_k7 F k j a.1.l_ a.1.at_ (b++([(⟨(d.2+(1:Int)),(⟨c⟩ : Region),i.2,((1:Int)+a.2)⟩ : Line)]:List Line))) (keep_Tape_Lines_k7 F k j e.1.l_ e.1.at_ b)
def keep_Tape_Lines_b5 (F:Nat) (j:(List Crop)) (i:Int) (b:(List Line)) (k:Tape×Int) (l:Tape×Region) (d:(Int×(List Int)×Int×(List Line))→Option (Tape×(List Line)×(List Int)×(List Region))) (e:((List Rect)×Int)→Option (Tape×(List Line)×(List Int)×(List Region))) (c:(List Rect)) (a:Int):Option (Tape×(List Line)×(List Int)×(List Region)):=
 br (decide (a<((List.length b:Nat):Int))) (gd (0≤a∧a<((List.length b:Nat):Int)) <|
 (ref04_Combine F c ((gl b a.toNat).region_.rects_) (3:Int)).bind fun m=>
 gd (I64 (a+(1:Int))) <|
 e (m,(a+(1:Int)))) (keep_Tape_Lines_k6 F j i b k l d c)
def keep_Tape_Lines_k4 (F:Nat) (j:(List Crop)) (b:(List Region)) (d:Int) (e:(List Line)) (a:Tape×Int) (k:Tape×Region) (c:(Int×(List Int)×Int×(List Line))→Option (Tape×(List Line)×(List Int)×(List Region))) (i:(List Rect)):Option (Tape×(List Line)×(List Int)×(List Region)):=
 gd (0≤a.2∧a.2<((List.length b:Nat):Int)) <|
 (ref04_Combine F i ((gl b a.2.toNat).rects_) (2:Int)).bind fun l=>
 loopN (fun again (z:(List Rect)×Int)=>keep_Tape_Lines_b5 F j d e a k c again z.1 z.2) F (l,(0:Int))
def keep_Tape_Lines_b3 (F:Nat) (m:(List Crop)) (j:(List Region)) (k:Int) (l:(List Line)) (c:Tape×Int) (d:Tape×Region) (e:(Int×(List Int)×Int×(List Line))→Option (Tape×(List Line)×(List Int)×(List Region))) (i:(Int×(List Rect))→Option (Tape×(List Line)×(List Int)×(List Region))) (a:Int) (b:(List Rect)):Option (Tape×(List Line)×(List Int)×(List Region)):=
 br (decide (a<((List.length d.2.rects_:Nat):Int))) (gd (0≤a∧a<((List.length b:Nat):Int)) <|
 gd (I64 ((10:Int)*c.2)) <|
 gd (I64 (((gl b a.toNat).left_)+((10:Int)*c.2))) <|
 gd (0≤a∧a<((List.length b:Nat):Int)) <|
 gd (I64 ((10:Int)*c.2)) <|
 gd (I64 (((gl b a.toNat).right_)+((10:Int)*c.2))) <|
 gd (0≤a∧a<((List.length b:Nat):Int)) <|
 gd (0≤a∧a<((List.length (List.set b a.toNat (⟨(((gl b a.toNat).left_)+((10:Int)*c.2)),(gl b a.toNat).low_,(gl b a.toNat).right_,(gl b a.toNat).high_⟩ : Rect)):Nat):Int)) <|
 gd (I64 (a+(1:Int))) <|
 i ((a+(1:Int)),(List.set (List.set b a.toNat (⟨(((gl b a.toNat).left_)+((10:Int)*c.2)),(gl b a.toNat).low_,(gl b a.toNat).right_,(gl b a.toNat).high_⟩ : Rect)) a.toNat (⟨(gl (List.set b a.toNat (⟨(((gl b a.toNat).left_)+((10:Int)*c.2)),(gl b a.toNat).low_,(gl b a.toNat).right_,(gl b a.toNat).high_⟩ : Rect)) a.toNat).left_,(gl (List.set b a.toNat (⟨(((gl b a.toNat).left_)+((10:Int)*c.2)),(gl b a.toNat).low_,(gl b a.toNat).right_,(gl b a.toNat).high_⟩ : Rect)) a.toNat).low_,(((gl b a.toNat).right_)+((10:Int)*c.2)),(gl (List.set b a.toNat (⟨(((gl b a.toNat).left_)+((10:Int)*c.2)),(gl b a.toNat).low_,(gl b a.toNat).right_,(gl b a.toNat).high_⟩ : Rect)) a.toNat).high_⟩ : Rect)))) (keep_Tape_Lines_k4 F m j k l c d e b)
def keep_Tape_Lines_k8 (F:Nat) (a:(List Int)) (b:(List Region)) (c:(List Line)) (d:(List Int)) (e:Int):Option (Tape×(List Line)×(List Int)×(List Region)):=
 some ((⟨d,e⟩ : Tape),c,a,b)
def keep_Tape_Lines_b2 (F:Nat) (m:(List Crop)) (a:(List Int)) (b:(List Region)) (l:(Int×(List Int)×Int×(List Line))→Option (Tape×(List Line)×(List Int)×(List Region))) (c:Int) (d:(List Int)) (e:Int) (i:(List Line)):Option (Tape×(List Line)×(List Int)×(List Region)):=
 br (decide ((0:Int)<c)) ((keep_Tape_Next F (⟨d,e⟩ : Tape) ((List.length a:Nat):Int)).bind fun j=>
 (keep_Tape_Land_O F j.1 (9:Int) (2:Int)).bind fun k=>
 loopN (fun again (z:Int×(List Rect))=>keep_Tape_Lines_b3 F m b c i j k l again z.1 z.2) F ((0:Int),k.2.rects_)) (keep_Tape_Lines_k8 F a b i d e)
def keep_Tape_Lines_k1 (F:Nat) (j:(List Crop)) (b:Int) (c:(List Int)) (d:Int) (e:(List Int)) (i:(List Region)):Option (Tape×(List Line)×(List Int)×(List Region)):=
 gd (I64 (b+(1:Int))) <|
 (keep_Tape_Next F (⟨c,d⟩ : Tape) (b+(1:Int))).bind fun a=>
 loopN (fun again (z:Int×(List Int)×Int×(List Line))=>keep_Tape_Lines_b2 F j e i again z.1 z.2.1 z.2.2.1 z.2.2.2) F (a.2,a.1.l_,a.1.at_,([]:List Line))
def keep_Tape_Lines_b0 (F:Nat) (l:(List Crop)) (m:Int) (k:(Int×(List Int)×Int×(List Int)×(List Region))→Option (Tape×(List Line)×(List Int)×(List Region))) (d:Int) (i:(List Int)) (j:Int) (a:(List Int)) (e:(List Region)):Option (Tape×(List Line)×(List Int)×(List Region)):=
 br (decide ((0:Int)<d)) (gd (I64 (((List.length a:Nat):Int)+(1:Int))) <|
 gd ((List.length (α:=Int) a)+(List.length (α:=Int) ([(((List.length a:Nat):Int)+(1:Int))]:List Int))≤LIM) <|
 gd (I64 ((10:Int)*((List.length a:Nat):Int))) <|
 gd (I64 ((10:Int)*((List.length a:Nat):Int))) <|
 (keep_Tape_Range F (⟨i,j⟩ : Tape) (2:Int) (9:Int)).bind fun b=>
 gd (I64 (((10:Int)*((List.length a:Nat):Int))+b.2)) <|
 (keep_Tape_Range F b.1 (2:Int) (9:Int)).bind fun c=>
 gd ((List.length (α:=Region) e)+(List.length (α:=Region) ([(⟨([(⟨((10:Int)*((List.length a:Nat):Int)),0,(((10:Int)*((List.length a:Nat):Int))+b.2),c.2⟩ : Rect)]:List Rect)⟩ : Region)]:List Region))≤LIM) <|
 gd (I64 (d-(1:Int))) <|
 k ((d-(1:Int)),c.1.l_,c.1.at_,(a++([(((List.length a:Nat):Int)+(1:Int))]:List Int)),(e++([(⟨([(⟨((10:Int)*((List.length a:Nat):Int)),0,(((10:Int)*((List.length a:Nat):Int))+b.2),c.2⟩ : Rect)]:List Rect)⟩ : Region)]:List Region)))) (keep_Tape_Lines_k1 F l m i j a e)
def keep_Tape_Lines (F:Nat) (b:Tape) (c:(List Crop)) (d:Int):Option (Tape×(List Line)×(List Int)×(List Region)):=
 (keep_Tape_Range F b (1:Int) (3:Int)).bind fun a=>
 loopN (fun again (z:Int×(List Int)×Int×(List Int)×(List Region))=>keep_Tape_Lines_b0 F c d again z.1 z.2.1 z.2.2.1 z.2.2.2.1 z.2.2.2.2) F (a.2,a.1.l_,a.1.at_,([]:List Int),([]:List Region))
def rotation_check_k1 (F:Nat) (a:Int) (b:(Int)→Option (Int)) (c:Bool):Option (Int):=
 br c (some (13:Int)) (gd (I64 (a+(1:Int))) <|
 b (a+(1:Int)))
def rotation_check_k7 (F:Nat) (a:Int) (b:(Int)→Option (Int)):Option (Int):=
 gd (I64 (a+(1:Int))) <|
 b (a+(1:Int))
def rotation_check_b6 (F:Nat) (c:(List Line)) (b:Int) (d:(Int)→Option (Int)) (e:(Int)→Option (Int)) (a:Int):Option (Int):=
 br (decide (a<((List.length (c.take b.toNat):Nat):Int))) (gd (0≤a∧a<((List.length (c.take b.toNat):Nat):Int)) <|
 (region_Meets F ((gl c b.toNat).region_) ((gl (c.take b.toNat) a.toNat).region_)).bind fun i=>
 br i (some (11:Int)) (gd (I64 (a+(1:Int))) <|
 e (a+(1:Int)))) (rotation_check_k7 F b d)
def rotation_check_k8 (F:Nat):Option (Int):=
 some (0:Int)
def rotation_check_b5 (F:Nat) (b:(List Line)) (c:(Int)→Option (Int)) (a:Int):Option (Int):=
 br (decide (a<((List.length b:Nat):Int))) (gd (0≤a∧a<((List.length b:Nat):Int)) <|
 gd (0≤a∧a≤((List.length b:Nat):Int)) <|
 loopN (fun again (z:Int)=>rotation_check_b6 F b a c again z) F (0:Int)) (rotation_check_k8 F)
def rotation_check_k4 (F:Nat) (a:(List Line)):Option (Int):=
 loopN (fun again (z:Int)=>rotation_check_b5 F a again z) F (0:Int)
def rotation_check_b3 (F:Nat) (b:(List Line)) (c:(Int)→Option (Int)) (a:Int):Option (Int):=
 br (decide (a<((List.length b:Nat):Int))) (gd (0≤a∧a<((List.length b:Nat):Int)) <|
 (region_Valid F ((gl b a.toNat).region_)).bind fun d=>
 br (!d) (some (7:Int)) (gd (I64 (a+(1:Int))) <|
 c (a+(1:Int)))) (rotation_check_k4 F b)
def rotation_check_k2 (F:Nat) (a:(List Line)):Option (Int):=
 loopN (fun again (z:Int)=>rotation_check_b3 F a again z) F (0:Int)
def rotation_check_b0 (F:Nat) (b:(List Line)) (d:(List Crop)) (c:(Int)→Option (Int)) (a:Int):Option (Int):=
 br (decide (a<((List.length b:Nat):Int))) (gd (0≤a∧a<((List.length b:Nat):Int)) <|
 br (decide (((gl b a.toNat).crop_)<(0:Int))) (rotation_check_k1 F a c true) (rotation_check_k1 F a c (decide (((List.length d:Nat):Int)≤((gl b a.toNat).crop_))))) (rotation_check_k2 F b)
def rotation_check (F:Nat) (a:(List Line)) (b:(List Crop)):Option (Int):=
 br (decide ((20:Int)<((List.length a:Nat):Int))) (some (1:Int)) ((crop_Check F b).bind fun c=>
 br (c != (0:Int)) (some c) (loopN (fun again (z:Int)=>rotation_check_b0 F a b again z) F (0:Int)))
def rotation_arable_k1 (F:Nat) (a:Int) (b:(Int×(List Line))→Option ((List Line))) (c:(List Line)):Option ((List Line)):=
 gd (I64 (a+(1:Int))) <|
 b ((a+(1:Int)),c)
def rotation_arable_k2 (F:Nat) (a:(List Line)):Option ((List Line)):=
 some a
def rotation_arable_b0 (F:Nat) (b:(List Line)) (e:(List Crop)) (d:(Int×(List Line))→Option ((List Line))) (a:Int) (c:(List Line)):Option ((List Line)):=
 br (decide (a<((List.length b:Nat):Int))) (gd (0≤a∧a<((List.length b:Nat):Int)) <|
 gd (0≤((gl b a.toNat).crop_)∧((gl b a.toNat).crop_)<((List.length e:Nat):Int)) <|
 br ((band .i64 ((gl e ((gl b a.toNat).crop_).toNat).marks_) (3:Int))==(0:Int)) (gd ((List.length (α:=Line) c)+(List.length (α:=Line) ([(gl b a.toNat)]:List Line))≤LIM) <|
 rotation_arable_k1 F a d (c++([(gl b a.toNat)]:List Line))) (rotation_arable_k1 F a d c)) (rotation_arable_k2 F c)
def rotation_arable (F:Nat) (a:(List Line)) (b:(List Crop)):Option ((List Line)):=
 loopN (fun again (z:Int×(List Line))=>rotation_arable_b0 F a b again z.1 z.2) F ((0:Int),([]:List Line))
def region_Area (F:Nat) (a:Region):Option (Int):=
 (region_Valid F a).bind fun b=>
 br (!b) (some (0:Int)) ((region_Size F a.rects_).bind fun c=>
 some c)
def rotation_Families_k3 (F:Nat) (a:(List Arr2Int)):Option ((List Arr2Int)×Int):=
 (sortK Arr2Int.e0_ a).bind fun b=>
 some (b,(0:Int))
def rotation_Families_b2 (F:Nat) (c:((List (Int×Int))×(List Arr2Int))→Option ((List Arr2Int)×Int)) (d:(List (Int×Int))) (b:(List Arr2Int)):Option ((List Arr2Int)×Int):=
 nextM d (rotation_Families_k3 F b) (fun a e=>
 gd ((List.length (α:=Arr2Int) b)+(List.length (α:=Arr2Int) ([(⟨a.1,a.2⟩ : Arr2Int)]:List Arr2Int))≤LIM) <|
 c (e,(b++([(⟨a.1,a.2⟩ : Arr2Int)]:List Arr2Int))))
def rotation_Families_k1 (F:Nat) (a:(List (Int×Int))):Option ((List Arr2Int)×Int):=
 loopN (fun again (z:(List (Int×Int))×(List Arr2Int))=>rotation_Families_b2 F again z.1 z.2) F (a,([]:List Arr2Int))
def rotation_Families_b0 (F:Nat) (d:(List Crop)) (b:(List Line)) (i:(Int×(List (Int×Int)))→Option ((List Arr2Int)×Int)) (a:Int) (c:(List (Int×Int))):Option ((List Arr2Int)×Int):=
 br (decide (a<((List.length b:Nat):Int))) (gd (0≤a∧a<((List.length b:Nat):Int)) <|
 gd (0≤((gl b a.toNat).crop_)∧((gl b a.toNat).crop_)<((List.length d:Nat):Int)) <|
 (region_Area F ((gl b a.toNat).region_)).bind fun e=>
 gd (I64 ((iGet ((gl d ((gl b a.toNat).crop_).toNat).family_) c)+e)) <|
 gd (I64 (a+(1:Int))) <|
 i ((a+(1:Int)),(iPut ((gl d ((gl b a.toNat).crop_).toNat).family_) ((iGet ((gl d ((gl b a.toNat).crop_).toNat).family_) c)+e) c))) (rotation_Families_k1 F c)
def rotation_Families (F:Nat) (b:(List Line)) (a:(List Crop)):Option ((List Arr2Int)×Int):=
 (rotation_check F b a).bind fun c=>
 br (c != (0:Int)) (some ([],c)) ((rotation_arable F b a).bind fun d=>
 loopN (fun again (z:Int×(List (Int×Int)))=>rotation_Families_b0 F a d again z.1 z.2) F ((0:Int),([]:List (Int×Int))))
def rotation_Diverse_k2 (F:Nat) (i:(List Arr2Int)×Int) (c:Int) (a:Int) (b:(Int×Int×Int×Int)→Option (Bool×Int)) (d:Int) (e:Int):Option (Bool×Int):=
 gd (I64 (a+(1:Int))) <|
 b ((c+((gl i.1 a.toNat).e1_)),d,e,(a+(1:Int)))
def rotation_Diverse_k4 (F:Nat) (a:Bool):Option (Bool×Int):=
 some (a,(0:Int))
def rotation_Diverse_k5 (F:Nat) (a:Bool):Option (Bool×Int):=
 some (a,(0:Int))
def rotation_Diverse_k3 (F:Nat) (e:Int) (i:Int) (d:(List Arr2Int)×Int) (a:Int) (b:Int) (c:Int):Option (Bool×Int):=
 br (decide (a≤e)) (some (true,(0:Int))) (br (decide (a≤i)) (br (decide ((2:Int)≤((List.length d.1:Nat):Int))) (gd (I64 ((4:Int)*b)) <|
 gd (I64 ((3:Int)*a)) <|
 rotation_Diverse_k4 F (decide (((4:Int)*b)≤((3:Int)*a)))) (rotation_Diverse_k4 F false)) (br (decide ((3:Int)≤((List.length d.1:Nat):Int))) (gd (I64 ((4:Int)*b)) <|
 gd (I64 ((3:Int)*a)) <|
 br (decide (((4:Int)*b)≤((3:Int)*a))) (gd (I64 (b+c)) <|
 gd (I64 ((20:Int)*(b+c))) <|
 gd (I64 ((19:Int)*a)) <|
 rotation_Diverse_k5 F (decide (((20:Int)*(b+c))≤((19:Int)*a)))) (rotation_Diverse_k5 F false)) (rotation_Diverse_k5 F false)))
def rotation_Diverse_b1 (F:Nat) (j:Int) (k:Int) (b:(List Arr2Int)×Int) (e:(Int×Int×Int×Int)→Option (Bool×Int)) (c:Int) (d:Int) (i:Int) (a:Int):Option (Bool×Int):=
 br (decide (a<((List.length b.1:Nat):Int))) (gd (0≤a∧a<((List.length b.1:Nat):Int)) <|
 gd (I64 (c+((gl b.1 a.toNat).e1_))) <|
 br (decide (d<((gl b.1 a.toNat).e1_))) (rotation_Diverse_k2 F b c a e ((gl b.1 a.toNat).e1_) d) (rotation_Diverse_k2 F b c a e d (gmax i ((gl b.1 a.toNat).e1_)))) (rotation_Diverse_k3 F j k b c d i)
def rotation_Diverse_k0 (F:Nat) (b:Int) (c:Int) (d:(List Arr2Int)×Int) (a:Bool):Option (Bool×Int):=
 br a (some (false,(2:Int))) (loopN (fun again (z:Int×Int×Int×Int)=>rotation_Diverse_b1 F b c d again z.1 z.2.1 z.2.2.1 z.2.2.2) F ((0:Int),(0:Int),(0:Int),(0:Int)))
def rotation_Diverse (F:Nat) (d:(List Line)) (e:(List Crop)) (a:Int) (b:Int):Option (Bool×Int):=
 (rotation_Families F d e).bind fun c=>
 br (c.2 != (0:Int)) (some (false,c.2)) (br (decide (a<(0:Int))) (rotation_Diverse_k0 F a b c true) (br (decide (b<a)) (rotation_Diverse_k0 F a b c true) (rotation_Diverse_k0 F a b c (decide ((268435456:Int)<b)))))
def ref19_Pairs_k1 (F:Nat):Option (Bool):=
 some true
def ref19_Pairs_b0 (F:Nat) (b:(List Arr2Int)) (c:(List Arr2Int)) (d:(Int)→Option (Bool)) (a:Int):Option (Bool):=
 br (decide (a<((List.length b:Nat):Int))) (gd (0≤a∧a<((List.length b:Nat):Int)) <|
 gd (0≤a∧a<((List.length c:Nat):Int)) <|
 br (!((((gl b a.toNat).e0_)==((gl c a.toNat).e0_))&&(((gl b a.toNat).e1_)==((gl c a.toNat).e1_)))) (some false) (gd (I64 (a+(1:Int))) <|
 d (a+(1:Int)))) (ref19_Pairs_k1 F)
def ref19_Pairs (F:Nat) (a:(List Arr2Int)) (b:(List Arr2Int)):Option (Bool):=
 br (((List.length a:Nat):Int) != ((List.length b:Nat):Int)) (some false) (loopN (fun again (z:Int)=>ref19_Pairs_b0 F a b again z) F (0:Int))
def law19_LA:List Line:=[⟨0,⟨[⟨0,0,80,1⟩]⟩,1,0⟩,⟨0,⟨[⟨80,0,100,1⟩]⟩,0,0⟩]
def law19_LB:List Line:=[⟨0,⟨[⟨0,0,75,1⟩]⟩,1,0⟩,⟨0,⟨[⟨75,0,100,1⟩]⟩,0,0⟩]
def law19_CA:List Crop:=[⟨(ByteArray.mk #[114,121,101]),1,0⟩,⟨(ByteArray.mk #[119,104,101,97,116]),2,0⟩]
def law19_awake (F:Nat):Option (Bool):=
 (rotation_Diverse F law19_LA law19_CA 10 200).bind fun z1=>
 (rotation_Diverse F law19_LB law19_CA 10 200).bind fun z2=>
 (rotation_Families F law19_LB law19_CA).bind fun z3=>
 gd (z1=(false,0)) <| gd (z2=(true,0)) <| gd (z3.2=0) <|
 (ref19_Pairs F z3.1 [⟨1,25⟩,⟨2,75⟩]).bind fun z4=>gd (z4=true) (some true)
def law19_RotationSmall_k0 (F:Nat) (a:Bool):Option (Bool):=
 some a
def law19_RotationSmall (F:Nat) (n:(List Int)) (a:Int) (c:Int) (b:Int) (e:Int):Option (Bool):=
 (keep_New F n).bind fun o=>
 (keep_Tape_Crops F o).bind fun d=>
 (keep_Tape_Lines F d.1 d.2 (4:Int)).bind fun i=>
 gd (I64 a) <|
 gd (I64 a) <|
 gd (I64 c) <|
 gd (I64 (a+c)) <|
 (rotation_Diverse F i.2.1 d.2 a (a+c)).bind fun l=>
 gd (I64 b) <|
 gd (I64 (a+b)) <|
 gd (I64 b) <|
 gd (I64 ((a+c)+b)) <|
 gd (I64 e) <|
 gd (I64 (((a+c)+b)+e)) <|
 (rotation_Diverse F i.2.1 d.2 (a+b) (((a+c)+b)+e)).bind fun m=>
 (rotation_Diverse F i.2.1 d.2 (1000:Int) (1000:Int)).bind fun j=>
 (rotation_Diverse F ([]) d.2 (0:Int) (0:Int)).bind fun k=>
 br (l.2==(0:Int)) (br (m.2==(0:Int)) (br (j.2==(0:Int)) (br (k.2==(0:Int)) (br (!l.1) (br j.1 (br k.1 ((law19_awake F).bind fun p=>
 law19_RotationSmall_k0 F p) (law19_RotationSmall_k0 F false)) (law19_RotationSmall_k0 F false)) (br m.1 (br j.1 (br k.1 ((law19_awake F).bind fun q=>
 law19_RotationSmall_k0 F q) (law19_RotationSmall_k0 F false)) (law19_RotationSmall_k0 F false)) (law19_RotationSmall_k0 F false))) (law19_RotationSmall_k0 F false)) (law19_RotationSmall_k0 F false)) (law19_RotationSmall_k0 F false)) (law19_RotationSmall_k0 F false)
end
end Go.Ab
end

section
/- Nothing more. -/
end

section
/- Nothing more. -/
end

section
/- Nothing more. -/
end

section
/- Nothing more. -/
end

section
namespace Go.Ab
def BIG:Nat:=1099511627776
theorem gd_ok {R:Type} {p:Prop} [Decidable p] {x:Option R} {y:Option R} (h:p) (k:x=y):gd p x=y:=by unfold gd; rw [if_pos h]; exact k
theorem bd_ok {α R:Type} {x:Option α} {f:α→Option R} {a:α} {y:Option R} (h:x=some a) (k:f a=y):x.bind f=y:=by rw [h]; exact k
theorem br_ok {R:Type} {b:Bool} {x y z:Option R} (ht:b=true→x=z) (hf:b=false→y=z):br b x y=z:=by cases b; exact hf rfl; exact ht rfl
theorem br_tt {R:Type} {b:Bool} {x y z:Option R} (h:b=true) (k:x=z):br b x y=z:=by subst h; exact k
theorem br_ff {R:Type} {b:Bool} {x y z:Option R} (h:b=false) (k:y=z):br b x y=z:=by subst h; exact k
theorem br_ite {R:Type} (b:Bool) (x y:Option R):br b x y=if b=true then x else y:=by cases b <;> rfl
theorem loopN_ok {σ R:Type} {body:(σ→Option R)→σ→Option R} {y:Option R} (I:σ→Prop) (μ:σ→Nat)
  (round : ∀ again z,I z→(∀ z',I z' → μ z' < μ z→again z' = y)→body again z=y) : ∀ {n:Nat} {z:σ},I z→μ z<n→loopN body n z=y:=by
 intro n
 induction n with
 | zero=>intro z _ h; omega
 | succ n ih=>
  intro z hz hμ
  exact round (loopN body n) z hz fun z' hz' hlt=>ih hz' (by omega)
section
variable {α:Type} [Emb α]
theorem gl_lt {l:List α} {i:Nat} (h:i<l.length):gl l i=l[i]:=by simp [gl,List.getD_eq_getElem?_getD,h]
theorem gl_mem {l:List α} {i:Nat} (h:i<l.length):gl l i ∈ l:=by rw [gl_lt h]; exact List.getElem_mem h
theorem drop_gl {l:List α} {i:Nat} (h:i<l.length):l.drop i=gl l i::l.drop (i+1):=by rw [gl_lt h]; exact List.drop_eq_getElem_cons h
theorem take_gl {l:List α} {i:Nat} (h:i<l.length):l.take (i+1)=l.take i++[gl l i]:=by rw [gl_lt h]; exact List.take_succ_eq_append_getElem h
end
theorem i64_of {n:Int} (h1 : -4611686018427387904≤n) (h2:n≤4611686018427387904):I64 n:=⟨by omega,by omega⟩
theorem range_ok {α R:Type} [Emb α] {l:List α} {body:(Int→Option R)→Int→Option R} (y:List α→Option R)
  (step : ∀ again (i:Nat),i<l.length→again ((i:Int)+1)=y (l.drop (i+1))→body again (i:Int)=y (gl l i::l.drop (i+1)))
  (stop : ∀ again,body again (l.length:Int)=y []) {F:Nat} (hF:l.length<F):loopN body F 0=y l:=by
 have key : ∀ (n:Nat) (i:Nat),i≤l.length→l.length-i<n→loopN body n (i:Int)=y (l.drop i):=by
  intro n
  induction n with
  | zero=>intro i _ h; omega
  | succ n ih=>
   intro i hi hn
   show body (loopN body n) (i:Int)=_
   by_cases h:i<l.length
   ·rw [drop_gl h]
    refine step _ i h ?_
    have:=ih (i+1) h (by omega)
    rw [← this]; congr 1
   ·have:i=l.length:=by omega
    subst this
    rw [List.drop_length]; exact stop _
 have:=key F 0 (Nat.zero_le _) (by omega)
 rw [List.drop_zero] at this
 exact this
theorem range_st {α σ R:Type} [Emb α] {l:List α} {body:(Int×σ→Option R)→Int×σ→Option R} (I:List α→σ→Prop) (y:List α→σ→Option R)
  (step : ∀ again (i:Nat) (s:σ),i<l.length→I (gl l i::l.drop (i+1)) s→(∀ s',I (l.drop (i+1)) s' → again ((i:Int)+1,s')=y (l.drop (i+1)) s')→body again ((i:Int),s)=y (gl l i::l.drop (i+1)) s)
  (stop : ∀ again (s:σ),I [] s→body again ((l.length:Int),s)=y [] s) {F:Nat} (hF:l.length<F) {s0:σ} (h0:I l s0):loopN body F (0,s0)=y l s0:=by
 have key : ∀ (n:Nat) (i:Nat) (s:σ),i≤l.length→l.length-i<n→I (l.drop i) s→loopN body n ((i:Int),s)=y (l.drop i) s:=by
  intro n
  induction n with
  | zero=>intro i _ _ h; omega
  | succ n ih=>
   intro i s hi hn hI
   show body (loopN body n) ((i:Int),s)=_
   by_cases h:i<l.length
   ·rw [drop_gl h] at hI ⊢
    refine step _ i s h hI fun s' hs' => ?_
    have:=ih (i+1) s' h (by omega) hs'
    rw [← this]; congr 1
   ·have:i=l.length:=by omega
    subst this
    rw [List.drop_length] at hI ⊢; exact stop _ s hI
 have:=key F 0 s0 (Nat.zero_le _) (by omega) (by rwa [List.drop_zero])
 rw [List.drop_zero] at this
 exact this
theorem and_br {R:Type} (K:Bool→Option R) (b x:Bool):br b (K x) (K false)=K (b&&x):=by cases b <;> rfl
theorem or_br {R:Type} (K:Bool→Option R) (b x:Bool):br b (K true) (K x)=K (b||x):=by cases b <;> rfl
theorem any_drop {α:Type} [Emb α] {l:List α} {i:Nat} (h:i<l.length) (p:α→Bool):(l.drop i).any p=(p (gl l i)||(l.drop (i+1)).any p):=by rw [drop_gl h]; rfl
theorem lt_dec {a b:Nat} (h:a<b):decide ((a:Int)<((b:Nat):Int))=true:=by simpa using h
theorem not_lt_dec (a:Nat):decide ((a:Int)<((a:Nat):Int))=false:=by simp
theorem gd_G {R:Type} {p:Prop} [Decidable p] {x:Option R} {y:Option R} (h:p:=by first | omega | exact i64_of (by omega) (by omega) | (simp only [LIM,BIG,List.length_append,List.length_cons,List.length_nil,List.length_map,List.length_take,List.length_drop,List.length_set] at *; omega)) (k:x=y):gd p x=y:=gd_ok h k
end Go.Ab
end

section
namespace Go.Ab
def Asc (l:List Int):Prop:=l.Pairwise (· < ·)
theorem Asc.at_lt {l:List Int} (h:Asc l) {i j:Nat} (hij:i<j) (hj:j<l.length):gl l i<gl l j:=by
 rw [gl_lt (by omega),gl_lt hj]
 exact List.pairwise_iff_getElem.1 h i j (by omega) hj hij
theorem mem_gl {l:List Int} {v:Int} (h:v ∈ l) : ∃ j,j<l.length∧gl l j=v:=by
 obtain ⟨j,hj,e⟩:=List.getElem_of_mem h
 exact ⟨j,hj,by rw [gl_lt hj]; exact e⟩
theorem Asc.gap {c:List Int} (h:Asc c) {i:Nat} (hi:i+1<c.length) {t v:Int} (h1:gl c i≤t) (h2:t<gl c (i+1)) (hv:v ∈ c):(v≤t↔v≤gl c i):=by
 obtain ⟨j,hj,rfl⟩:=mem_gl hv
 rcases Nat.lt_or_ge i j with hij | hij
 ·rcases Nat.lt_or_ge (i+1) j with h3 | h3
  ·have:=h.at_lt h3 hj
   have:=h.at_lt (show i<i+1 by omega) hi
   omega
  ·have:j=i+1:=by omega
   subst this
   have:=h.at_lt (show i<i+1 by omega) hi
   omega
 ·rcases Nat.lt_or_ge j i with h3 | h3
  ·have:=h.at_lt h3 (by omega)
   omega
  ·have:j=i:=by omega
   subst this; omega
def CovX (c:List Int) (l:List Rect):Prop:=∀ r ∈ l,r.left_ ∈ c∧r.right_ ∈ c
def CovY (c:List Int) (l:List Rect):Prop:=∀ r ∈ l,r.low_ ∈ c∧r.high_ ∈ c
theorem inR_congr {l:List Rect} {x y x' y' : Int} (h : ∀ r ∈ l,r.has x y=r.has x' y'):inR l x y=inR l x' y' := by
 induction l with
 | nil=>rfl
 | cons r l ih=>
  simp only [inR,List.any_cons] at ih ⊢
  rw [h r (by simp),ih fun q hq=>h q (by simp [hq])]
theorem inR_false {l:List Rect} {x y:Int} (h : ∀ r ∈ l,r.has x y=false):inR l x y=false:=by
 induction l with
 | nil=>rfl
 | cons r l ih=>
  simp only [inR,List.any_cons] at ih ⊢
  rw [h r (by simp),ih fun q hq=>h q (by simp [hq])]; rfl
theorem has_iff (r:Rect) (x y:Int):r.has x y=true↔r.left_≤x∧x<r.right_∧r.low_≤y∧y<r.high_:=by simp [Rect.has,and_assoc]
theorem has_eq {r:Rect} {x y x' y' : Int} (h:(r.left_≤x∧x<r.right_∧r.low_≤y∧y<r.high_)↔(r.left_≤x' ∧ x' < r.right_∧r.low_≤y' ∧ y' < r.high_)):r.has x y=r.has x' y' := by
 rw [Bool.eq_iff_iff,has_iff,has_iff]; exact h
theorem has_ff {r:Rect} {x y:Int} (h : ¬ (r.left_≤x∧x<r.right_∧r.low_≤y∧y<r.high_)):r.has x y=false:=by
 rw [← Bool.not_eq_true,has_iff]; exact h
theorem CovX.gap {c:List Int} {l:List Rect} (hc:Asc c) (h:CovX c l) {i:Nat} (hi:i+1<c.length) {t:Int} (h1:gl c i≤t) (h2:t<gl c (i+1)) (y:Int):inR l t y=inR l (gl c i) y:=
 inR_congr fun r hr=>has_eq (by
  have a:=hc.gap hi h1 h2 (h r hr).1
  have b:=hc.gap hi h1 h2 (h r hr).2
  omega)
theorem CovY.gap {c:List Int} {l:List Rect} (hc:Asc c) (h:CovY c l) {i:Nat} (hi:i+1<c.length) {t:Int} (h1:gl c i≤t) (h2:t<gl c (i+1)) (x:Int):inR l x t=inR l x (gl c i):=
 inR_congr fun r hr=>has_eq (by
  have a:=hc.gap hi h1 h2 (h r hr).1
  have b:=hc.gap hi h1 h2 (h r hr).2
  omega)
theorem CovX.before {c:List Int} {l:List Rect} (h:CovX c l) {t:Int} (ht : ∀ v ∈ c,t<v) (y:Int):inR l t y=false:=
 inR_false fun r hr=>has_ff (by have:=ht _ (h r hr).1; omega)
theorem CovX.after {c:List Int} {l:List Rect} (h:CovX c l) {t:Int} (ht : ∀ v ∈ c,v≤t) (y:Int):inR l t y=false:=
 inR_false fun r hr=>has_ff (by have:=ht _ (h r hr).2; omega)
theorem CovY.before {c:List Int} {l:List Rect} (h:CovY c l) {t:Int} (ht : ∀ v ∈ c,t<v) (x:Int):inR l x t=false:=
 inR_false fun r hr=>has_ff (by have:=ht _ (h r hr).1; omega)
theorem CovY.after {c:List Int} {l:List Rect} (h:CovY c l) {t:Int} (ht : ∀ v ∈ c,v≤t) (x:Int):inR l x t=false:=
 inR_false fun r hr=>has_ff (by have:=ht _ (h r hr).2; omega)
theorem Asc.first {c:List Int} (h:Asc c) {t:Int} (ht:t<gl c 0) : ∀ v ∈ c,t<v:=by
 intro v hv
 obtain ⟨j,hj,rfl⟩:=mem_gl hv
 rcases Nat.eq_zero_or_pos j with rfl | hp
 ·exact ht
 ·have:=h.at_lt hp hj; omega
theorem Asc.last {c:List Int} (h:Asc c) {t:Int} {i:Nat} (hi:i+1=c.length) (ht:gl c i≤t) : ∀ v ∈ c,v≤t:=by
 intro v hv
 obtain ⟨j,hj,rfl⟩:=mem_gl hv
 rcases Nat.lt_or_ge j i with h1 | h1
 ·have:=h.at_lt h1 (by omega); omega
 ·have:j=i:=by omega
  subst this; exact ht
structure Step {α:Type} (d:α) (c:List Int) (f:Int→α):Prop where
 asc:Asc c
 gap : ∀ i,i+1<c.length→∀ t,gl c i≤t→t<gl c (i+1)→f t=f (gl c i)
 before : ∀ t,(∀ v ∈ c,t<v)→f t=d
 after : ∀ t,(∀ v ∈ c,v≤t)→f t=d
theorem Step.start {α:Type} {d:α} {c:List Int} {f:Int→α} (h:Step d c f) (_:0<c.length):Bst d f [] (gl c 0):=.start fun t ht=>h.before t (h.asc.first ht)
theorem Step.empty {α:Type} {d:α} {c:List Int} {f:Int→α} (h:Step d c f) (hc:c.length=0) (t:Int):f t=d:=h.before t fun v hv=>by
 rw [List.eq_nil_of_length_eq_zero hc] at hv; cases hv
theorem Step.done {α:Type} {d:α} {c:List Int} {f:Int→α} (h:Step d c f) {i:Nat} (hi:i+1=c.length) {acc:List (Rn α)} (hb:Bst d f acc (gl c i)) (t:Int):atR d acc t=f t:=by
 rcases Int.lt_or_le t (gl c i) with h1 | h1
 ·exact hb.val t h1
 ·rw [hb.out t h1,h.after t (h.asc.last hi h1)]
open Classical in
noncomputable def spn (f:Int→Bool):List Span:=if h : ∃ l,SpOk l∧∀ x,inS l x=f x then h.choose else []
theorem spn_eq {f:Int→Bool} {l:List Span} (hl:SpOk l) (h : ∀ x,inS l x=f x):spn f=l:=by
 have he : ∃ l,SpOk l∧∀ x,inS l x=f x:=⟨l,hl,h⟩
 unfold spn
 rw [dif_pos he]
 exact he.choose_spec.1.unique hl fun x=>(he.choose_spec.2 x).trans (h x).symm
theorem SpOk.nil:SpOk []:=⟨fun s hs=>(List.not_mem_nil hs).elim,List.Pairwise.nil⟩
theorem spn_false {f:Int→Bool} (h : ∀ x,f x=false):spn f=[]:=spn_eq .nil fun x=>(h x).symm
def RowsOk (S:Int→Int→Bool):Prop:=∀ y,∃ l,SpOk l∧∀ x,inS l x=S x y
theorem RowsOk.sp {S:Int→Int→Bool} (h:RowsOk S) (y:Int):SpOk (spn fun x=>S x y)∧∀ x,inS (spn fun x=>S x y) x=S x y:=by
 obtain ⟨l,h1,h2⟩:=h y
 rw [spn_eq h1 h2]; exact ⟨h1,h2⟩
theorem Step.cn {S:Int→Int→Bool} (hr:RowsOk S) {c:List Int} (h:Step [] c fun y=>spn fun x=>S x y) {acc:List (Rn (List Span))} (hacc:Runs acc) (hval : ∀ t,atR [] acc t=spn fun x=>S x t) (hne : ∀ b ∈ acc,b.v≠[]):cn S=flat acc∧Fin S:=by
 have hv : ∀ b ∈ acc,b.v=spn fun x=>S x b.lo:=by
  intro b hb
  have hat : ∀ (l:List (Rn (List Span))),Runs l→b ∈ l→atR [] l b.lo=b.v:=by
   intro l
   induction l with
   | nil=>intro _ hb; cases hb
   | cons a l ih=>
    intro hl hb
    rcases List.mem_cons.1 hb with rfl | hb
    ·have:=hl.pos b (by simp)
     rw [atR,if_pos ⟨by omega,this⟩]
    ·have h1:=(hl.head b hb).1
     rw [atR,if_neg (by omega)]; exact ih hl.tail hb
  rw [← hval,hat acc hacc hb]
 have hB:Bands acc:=⟨hacc,fun b hb=>by rw [hv b hb]; exact (hr.sp _).1,hne⟩
 have hS : ∀ x y,inS (atR [] acc y) x=S x y:=fun x y=>by rw [hval]; exact (hr.sp y).2 x
 exact ⟨cn_eq hB hS,acc,hB,hS⟩
structure Grid (xs ys:List Int) (S:Int→Int→Bool):Prop where
 x : ∀ y,Step false xs fun x=>S x y
 y : ∀ x,Step false ys fun y=>S x y
theorem Step.spansL {xs:List Int} {f:Int→Bool} (h:Step false xs f) : ∃ l,SpOk l∧(∀ x,inS l x=f x)∧l.length≤xs.length:=by
 by_cases h0:xs.length=0
 ·exact ⟨[],.nil,fun x=>(h.empty h0 x).symm,by simp⟩
 ·have key : ∀ i,i+1≤xs.length→∃ l:List Span,Bst false f (l.map Span.rn) (gl xs i)∧l.length≤i:=by
   intro i
   induction i with
   | zero=>intro hi; exact ⟨[],h.start (by omega),by simp⟩
   | succ i ih=>
    intro hi
    obtain ⟨l,hl,hll⟩:=ih (by omega)
    have hlt:=h.asc.at_lt (show i<i+1 by omega) (by omega)
    cases hf:f (gl xs i) with
    | false=>exact ⟨l,hl.skip (by omega) fun t h1 h2=>(h.gap i (by omega) t h1 h2).trans hf,by omega⟩
    | true=>
     rcases List.eq_nil_or_concat l with rfl | ⟨l',s,hls⟩
     ·refine ⟨[⟨gl xs i,gl xs (i+1)⟩], ?_,by simp⟩
      have:=hl.add hlt (h.gap i (by omega)) (fun a ha=>by simp at ha)
      rw [hf] at this; exact this
     ·rw [List.concat_eq_append] at hls
      subst hls
      by_cases hs:s.right_=gl xs i
      ·refine ⟨l' ++ [⟨s.left_,gl xs (i+1)⟩], ?_,by simp at hll ⊢; omega⟩
       rw [List.map_append] at hl
       have:=hl.grow (a:=s.rn) hs hlt fun t h1 h2=>(h.gap i (by omega) t h1 h2).trans hf
       rw [List.map_append]; exact this
      ·refine ⟨(l' ++ [s])++[⟨gl xs i,gl xs (i+1)⟩], ?_,by simp at hll ⊢; omega⟩
       have:=hl.add hlt (h.gap i (by omega)) (fun a ha he=>by
        rw [List.map_append] at ha
        simp at ha
        subst ha
        exact absurd he hs)
       rw [hf] at this
       rw [List.map_append]; exact this
  obtain ⟨l,hl,hll⟩:=key (xs.length-1) (by omega)
  refine ⟨l,.of_runs hl.runs,fun x=>?_,by omega⟩
  rw [inS_atR]; exact h.done (by omega) hl x
theorem Step.spans {xs:List Int} {f:Int→Bool} (h:Step false xs f) : ∃ l,SpOk l∧∀ x,inS l x=f x:=by
 obtain ⟨l,h1,h2,_⟩:=h.spansL; exact ⟨l,h1,h2⟩
theorem Step.spn_len {xs:List Int} {f:Int→Bool} (h:Step false xs f):(spn f).length≤xs.length:=by
 obtain ⟨l,h1,h2,h3⟩:=h.spansL; rw [spn_eq h1 h2]; exact h3
theorem Grid.rows {xs ys:List Int} {S:Int→Int→Bool} (h:Grid xs ys S):RowsOk S:=fun y=>(h.x y).spans
theorem Grid.step {xs ys:List Int} {S:Int→Int→Bool} (h:Grid xs ys S):Step [] ys fun y=>spn fun x=>S x y:=by
 refine ⟨(h.y 0).asc,fun i hi t h1 h2=>?_,fun t ht=>?_,fun t ht=>?_⟩
 ·congr 1; funext x; exact (h.y x).gap i hi t h1 h2
 ·exact spn_false fun x=>(h.y x).before t ht
 ·exact spn_false fun x=>(h.y x).after t ht
theorem Grid.of {xs ys:List Int} {a b:List Rect} (hx:Asc xs) (hy:Asc ys) (ax:CovX xs a) (bx:CovX xs b) (ay:CovY ys a) (by' : CovY ys b) {k:Bool→Bool→Bool} (hk:k false false=false) :
  Grid xs ys fun x y=>k (inR a x y) (inR b x y):=by
 refine ⟨fun y=>⟨hx,fun i hi t h1 h2=>?_,fun t ht=>?_,fun t ht=>?_⟩,fun x=>⟨hy,fun i hi t h1 h2=>?_,fun t ht=>?_,fun t ht=>?_⟩⟩
 ·simp only [ax.gap hx hi h1 h2,bx.gap hx hi h1 h2]
 ·simp only [ax.before ht,bx.before ht,hk]
 ·simp only [ax.after ht,bx.after ht,hk]
 ·simp only [ay.gap hy hi h1 h2,by'.gap hy hi h1 h2]
 ·simp only [ay.before ht,by'.before ht,hk]
 ·simp only [ay.after ht,by'.after ht,hk]
end Go.Ab
end
