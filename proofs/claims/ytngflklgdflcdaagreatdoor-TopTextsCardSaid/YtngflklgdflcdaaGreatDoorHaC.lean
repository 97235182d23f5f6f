/- Two functions walked at the one input that the example gives them. -/
import Derived.RangeFuncNested
import Derived.Test.YtngflklgdflcdaaGreatDoorSpB
import Derived.Test.YtngflklgdflcdaaGreatDoorLwD
set_option maxRecDepth 100000
set_option maxHeartbeats 8000000
set_option linter.all false
namespace Go.Ab
open Go.Proofs Go.Shelf Go.RowKit Go.Lib
variable {a:Act}{body:Code}{Q:Exit->Act->World->Prop}{r r' r4:Go.Loop}{D:List ε}{L M:List (List UInt8×ε)}{s s':List UInt8}{x:List UInt8×ε}{xs:List Value}{F b base n:Nat}{X:ξ}{e:TypeId}{lv:Value}{W W' W1 W5 w:World}
def appH:=@Builtin.append_
theorem app_hide:@Builtin.append_=appH:=rfl
theorem jw(s:ByteArray)(c:UInt8)(w:World):Calls Tryz.prog 77 #[.string s,.string ⟨#[c]⟩] w λe w'=>e=.returned (.int .i64 ((tl s).count c))/\w'=w:=
 Any.strings_Count_one (ρ:=BP) {BQ with} s c w
theorem Og(h:L≠[])(hs:(J5 L).length<=16384)(w:World):Calls Tryz.prog 78 #[.string (bs (J5 L)),.string ⟨#[10]⟩] w λe w'=>e=.returned (.bool true)/\w'=w:=
 (Any.strings_HasSuffix Z8F (bs (J5 L)) ⟨#[10]⟩ w (by rw[Yj,QR];omega)).mono λe w' ⟨he,hw⟩=>⟨by rw[he];exact congrArg (λb=>Ending.returned (.bool b)) (jG h),hw⟩
theorem Oi{x:List UInt8}(hs:x.length<=16384)(w:World):Calls Tryz.prog 84 #[.string (bs (x++[10])),.string ⟨#[10]⟩] w λe w'=>e=.returned (.string (bs x))/\w'=w:=
 (Any.strings_TrimSuffix Z8D (bs (x++[10])) ⟨#[10]⟩ w (by rw[Yj,QR,dK];show _+1<=_;omega)).mono λe w' ⟨he,hw⟩=>⟨by
  rw[he];refine congrArg (λb=>Ending.returned (.string b)) ?_
  show bs (Lib.trimSuffix (x++[10]) [10])=bs x;simp[Lib.trimSuffix,Lib.hasSuffix],hw⟩
theorem EJ(h:Yo x)(w:World):Calls Tryz.prog 157 #[.string (bs x.1),.string ⟨#[35]⟩] w λe w'=>(∃s b,e=.returned (.tuple #[.string (bs (Qy x.2)),.string s,.bool b]))/\aM V7 w w':=by
 have j:∀w,Calls Tryz.prog 221 #[.string (bs x.1),.string ⟨#[35]⟩] w λe w'=>e=.returned (.int .i64 (Lib.indexByte x.1 35))/\w'=w:=λw=>
  Any.stringslite_Index_one (ρ:=BP) {BQ with} (bs x.1) 35 w
 rcases h with ⟨⟨t,f⟩,d,_⟩|⟨f,d,l⟩
 .have g:Lib.indexByte x.1 35=0:=by rw[f];exact FG (a:=[]) (by simp)
  rw[g]at j;rw[d]
  have o:(bs x.1).extract 0 0=bs (Qy []):=XZ (by rw[za];rfl);have p:1<=(bs x.1).size:=by rw[Yj,QR,f];exact oz (dW _)
  clear f d g
  go_enter Tryz.func157,Tryz.ntmps157
  go_wp2_with (go_at_call 221;refine(j _).mono ?_;rintro e w' ⟨rfl,rfl⟩)
  go_region
  go_wp2
  go_ret3
  exact⟨⟨_,_,rfl⟩,WR _⟩
 .have g:Lib.indexByte x.1 35=-1:=by
   rw[l];refine Ao λc=>?_
   have k:∀i:ε,(∀s∈i,Qw s)->(35:UInt8)∉Zi i:=λi=>by
    induction i with
    |nil=>intro _ h;cases h
    |cons y r ih=>
     intro m c;rcases dY.1 c with c|c
     .exact absurd c (by decide)
     .rcases dv.1 c with c|c
      .exact ((m y dZ).2 _ c).2.2 rfl
      .exact ih (λs n=>m s (eB _ n)) c
   cases hx:x.2 with
   |nil=>exact f hx
   |cons y r=>
    rw[hx]at c d;exact k (y::r) d (eB _ c)
  rw[g]at j;rw[<-l]
  clear f d l g
  go_enter Tryz.func157,Tryz.ntmps157
  go_wp2_with (go_at_call 221;refine(j _).mono ?_;rintro e w' ⟨rfl,rfl⟩)
  go_ret3
  exact⟨⟨_,_,rfl⟩,aM.refl _ _⟩
theorem Q7z(h:Yo x)(w:World):Calls Tryz.prog 83 #[.string (bs x.1),.string ⟨#[35]⟩] w λe w'=>(∃s b,e=.returned (.tuple #[.string (bs (Qy x.2)),.string s,.bool b]))/\aM V7 w w':=by
 go_enter Tryz.func83,Tryz.ntmps83
 go_wp2_with (go_at_call 157;refine(EJ h _).mono ?_;rintro e w' ⟨⟨s,b,rfl⟩,st⟩)
 go_ret3
 exact⟨⟨_,_,rfl⟩,st⟩
theorem cY{ws:ε}(h:∀s∈ws,Qw s):Lib.splitB (bs [32]) 0 (Lib.countB (bs (Qy ws)) (bs [32])) (bs (Qy ws))=VC ws:=by
 cases ws with
 |nil=>rfl
 |cons x r=>
  show Lib.splitB (bs [32]) 0 (Lib.countB (bs (tl x++Zi r)) (bs [32])) (bs (tl x++Zi r))=x::r;rw[Nl h,cW h]
theorem EZ{ws:ε}(h:∀s∈ws,Qw s)(hl:(Qy ws).length<=16384)(w:World):Calls Tryz.prog 86 #[.string (bs (Qy ws)),.string ⟨#[32]⟩] w λe w'=>e=.returned (.slice (some ⟨w.heap.size,0,none⟩) (VC ws).length (VC ws).length)/\w'=w.alloc (.cells ((VC ws).map Value.string).toArray 9):=by
 have i:(bs (Qy ws)).size=(Qy ws).length:=Yj _;have f:1<=(bs [32]).size:=di 1
 have g:=Lib.countB_le (bs [32]) f (bs (Qy ws)).size (bs (Qy ws)) (di _);have a:=Lib.splitB_all (bs [32]) f 0 _ (bs (Qy ws)) rfl
 have c:=Any.strings_genSplit_core (ρ:=BP) {BQ with} (by kernel_rfl) (bs (Qy ws)) (bs [32]) 0 (-1) (Lib.countB (bs (Qy ws)) (bs [32])+1) w (by omega) f (dW _)
  (λx c j=>(Any.strings_Index_one (ρ:=BP) {BQ with} x 32 _).mono λe w' ⟨he,d⟩=>⟨by rw[he];refine congrArg (λb=>Ending.returned (.int .i64 b)) ?_;show _=Lib.index _ [32];rw[Lib.index_one],d⟩)
  ((jw (bs (Qy ws)) 32 w).mono λe w' ⟨he,d⟩=>⟨by rw[he];refine congrArg (λb:Nat=>Ending.returned (.int .i64 b)) ?_;show _=Lib.count _ [32];rw[Lib.count_one];rfl,d⟩)
  (by decide) (by decide) (by rw[av (by decide)];omega)
 rw[lS,cY h]at c;rw[cY h]at a
 rw[<-a,Lib.cellsOf_full]at c
 clear a g
 go_enter Tryz.func86,Tryz.ntmps86
 go_wp2_with (go_at_call 159;refine c.mono ?_;rintro e w' ⟨rfl,d⟩;rw[d])
 go_ret
 exact⟨rfl,rfl⟩
theorem OS(h:w.heap[b]?=some (.cells #[.string ⟨#[]⟩] 9 (0,0))):Calls Tryz.prog 141 #[.slice (some ⟨b,0,none⟩) 1 1,.func (.func 87) #[] #[]] w λe w'=>e=.returned (.int .i64 0)/\w'=w:=by
 have a:w.cell? ⟨b,0,none⟩=some (.string ⟨#[]⟩):=by simp[World.cell?,h]
 clear h
 go_enter Tryz.func141,Tryz.ntmps141
 go_wp2
 refine wp_loop_rounds 1 ?_;rw[rounds_succ]
 go_wp2_with (go_at_call 87;refine(Ny _).mono ?_;rintro e w' ⟨rfl,rfl⟩)
 go_ret
 exact⟨rfl,rfl⟩
theorem Q7B(b k:Nat)(W:World)(h:W.heap[b]?=some (.cells #[.string ⟨#[]⟩] 9 (0,0))):(Builtin.clear_ #[87] 0 #[.slice (some ⟨b,0,none⟩) 1 k]).run Tryz.prog W=.ok (.tuple #[]) (W.setRow b #[.string ⟨#[]⟩]):=by
 have d:Tryz.prog.underlying 87=some (.slice 9):=by kernel_rfl
 have e:∀W,(zeroValue 9).run Tryz.prog W=.ok (.string ⟨#[]⟩) W:=λW=>by kernel_rfl
 have a:=lZ Tryz.prog b 0 9 [.string ⟨#[]⟩] 0 #[.string ⟨#[]⟩] W h (by simp) (by simp[Value.oneCell']);have c:(Builtin.zeroCells (Value.string ⟨#[]⟩).cells 1).toList=[.string ⟨#[]⟩]:=by kernel_rfl
 simp only[fU,lG,iL,dz,eg,eH,Nat.reduceAdd]at a;simp[Builtin.clear_,ef d,e,c,a]
theorem Q7w(h:w.heap[b]?=some (.cells #[.string ⟨#[]⟩] 9 (0,0))):Calls Tryz.prog 85 #[.slice (some ⟨b,0,none⟩) 1 1,.func (.func 87) #[] #[]] w λe w'=>e=.returned (.slice (some ⟨b,0,none⟩) 0 1)/\aM (λx=>x=b) w w' /\ w'.heap[b]?=some (.cells #[.string ⟨#[]⟩] 9 (0,0)):=by
 have c:=λk=>Q7B b k w h
 go_enter Tryz.func85,Tryz.ntmps85
 go_wp2_with (go_at_call 141;refine(OS h).mono ?_;rintro e w' ⟨rfl,rfl⟩)
 refine wp_loop_rounds 1 ?_;rw[rounds_succ]
 go_wp2
 go_ret
 refine⟨rfl,⟨rfl,rfl,rfl,?_,λx _ a=>?_,di _⟩,?_⟩
 .simp only[World.setRow,Array.size_modify];exact di _
 .simp only[World.setRow,fV]
  rw[an λe=>a e.symm]
 .simp only[World.setRow,fV]
  rw[av trivial,h];rfl
theorem Q7x{ws:ε}(hw:∀s∈ws,Qw s)(hl:ws.length<=Y2)(h:w.heap[b]?=some (.cells ((VC ws).map Value.string).toArray 9 (0,0))):Calls Tryz.prog 85 #[.slice (some ⟨b,0,none⟩) (VC ws).length (VC ws).length,.func (.func 87) #[] #[]] w λe w'=>e=.returned (.slice (some ⟨b,0,none⟩) ws.length (VC ws).length)/\aM (λx=>x=b) w w' /\ w'.heap[b]?=some (.cells ((VC ws).map Value.string).toArray 9 (0,0)):=by
 cases ws with
 |nil=>exact Q7w h
 |cons x r=>
  have a:aA w (λ_=>False) (.slice (some ⟨b,0,none⟩) (x::r).length (x::r).length) (DL (x::r)):=kO id h (di _);obtain⟨n,hn⟩:∃n,(x::r).length=n:=⟨_,rfl⟩
  rw[hn]at hl;show Calls Tryz.prog _ #[.slice (some ⟨b,0,none⟩) (x::r).length (x::r).length,_] w λe w'=>e=.returned (.slice (some ⟨b,0,none⟩) (x::r).length (x::r).length)/\_
  rw[hn]at a⊢
  go_enter Tryz.func85,Tryz.ntmps85
  go_wp2_with (go_at_call 141;refine(Q6Y hn (λs c w=>E4 (hw s c) w) hl (by unfold DL at a;rw[hn]at a;unfold DL;rw[hn];exact a)).mono ?_;rintro e w' ⟨rfl,st⟩)
  go_ret
  exact⟨rfl,st.mono λ_ _ h=>h.elim,(st.block b (J4 h) λh=>h).trans h⟩
theorem O1(s:ByteArray)(w:World):Calls Tryz.prog 82 #[.string s] w λe w'=>e=.returned (.func (.func 155) #[] #[.pointer (some ⟨w.heap.size,0,none⟩)])/\w'=w.alloc (.cells #[.string s] 9):=by
 go_enter Tryz.func82,Tryz.ntmps82
 go_wp2
 go_ret
 exact⟨rfl,rfl⟩
attribute [local go_sem] Oper.semAt_some
theorem Q7q(s:ByteArray)(c:Int)(w:World):Calls Tryz.prog 223 #[.string s,.int .u8 c] w λe w'=>e=.returned (.int .i64 (Lib.indexByte s.data.toList c.toNat.toUInt8))/\w'=w:=by
 go_enter Tryz.func223,Tryz.ntmps223
 go_wp2
 rw[run_callFunc_extern Tryz.func290 (by kernel_rfl) (by kernel_rfl) (by kernel_rfl) (e:=Extern.BytealgIndexByte.indexByte) (by kernel_rfl),Lib.run_indexByteString];simp only[Result.andThen]
 rw[Oper.upon_value]
 go_wp2
 go_ret
 exact⟨rfl,rfl⟩
theorem Q7p(s:ByteArray)(c:Int)(w:World):Calls Tryz.prog 156 #[.string s,.int .u8 c] w λe w'=>e=.returned (.int .i64 (Lib.indexByte s.data.toList c.toNat.toUInt8))/\w'=w:=by
 go_enter Tryz.func156,Tryz.ntmps156
 go_wp2_with (go_at_call 223;refine(Q7q _ _ _).mono ?_;rintro e w' ⟨rfl,rfl⟩)
 go_ret
 exact⟨rfl,rfl⟩
theorem X4(h:Yo x)(w:World):Calls Tryz.prog 156 #[.string (bs (x.1++10::J5 M)),.int .u8 10] w λe w'=>e=.returned (.int .i64 x.1.length)/\w'=w:=by
 refine(Q7p _ _ _).mono ?_;rintro e w' ⟨rfl,rfl⟩
 exact⟨congrArg (λx=>Ending.returned (.int .i64 x)) (FG h.no),rfl⟩
def sR(w:World)(B:Nat):Nat:=match w.cell? ⟨B,0,none⟩with|some (.string s)=>s.size|_=>0
theorem Q7i{n l B:Nat}(hn:1<=n){I:List (List UInt8×ε)->World->Prop}(hI:∀ M W,I M W->W.heap[B]?=some (.cells #[.string (bs (J5 M))] 9 (0,0)))(hY:∀ x M W,Yo x->(∀ y ∈ M,Yo y)->(J5 (x::M)).length<=16384->I (x::M) W->YieldAt Fence.wide (n-1) Tryz.prog l #[.string (bs (x.1++[10]))] ((W.setCell ⟨B,0,none⟩ (.string (bs (J5 M)))).drew) fun e W'=>e=.returned (.bool true)/\I M W'){L:List (List UInt8×ε)}(hL:∀ x ∈ L,Yo x)(hz:(J5 L).length<=16384){W:World}(h0:I L W):
  CallsIn Fence.wide n Tryz.prog 155 #[.func (.yield l) #[] #[],.pointer (some ⟨B,0,none⟩)] W λe W'=>(∃v,e=.returned v)/\I [] W':=by
 have t:Fence.wide.fn 156:=trivial;refine callsIn_of_wp Tryz.func155 rfl trivial ?_ rfl
 simp only[Tryz.ntmps155,lP,dz,eg,Nat.reduceAdd,Nat.reduceSub,AK,tw,List.push_toArray,rR,iL,iC]
 gi_wp2
 gi_loopw [] (λW=>∃M,(∀x∈M,Yo x)/\(J5 M).length<=16384/\I M W) (λW=>sR W B)
 case atStart=>exact⟨L,hL,hz,h0⟩
 case round=>
  obtain⟨M,i,hz,h⟩:=hrel;have g:=hI _ _ h
  have m:wr.cell? ⟨B,0,none⟩=some (.string (bs (J5 M))):=by simp[World.cell?,g]
  have z:wr.frozen? ⟨B,0,none⟩=false:=by simp[World.frozen?,g]
  cases M with
  |nil=>
   have d:(bs (J5 [])).size=0:=rfl
   gi_wp2
   go_end0
   exact⟨⟨_,rfl⟩,h⟩
  |cons x M=>
   have e:J5 (x::M)=x.1++10::J5 M:=by simp[J5]
   have o:=i x dZ;have hY:=hY x M wr o (λy c=>i y (eB _ c)) hz h
   rw[e]at m hz;have d:(bs (x.1++10::J5 M)).size=x.1.length+((J5 M).length+1):=by rw[Yj,QR];simp
   have u:(bs (x.1++10::J5 M)).extract 0 (x.1.length+1)=bs (x.1++[10]):=XZ (by
    rw[za,QR,QR,show x.1++10::J5 M=(x.1++[10])++J5 M by simp,show x.1.length+1=(x.1++[10]).length by simp,oe])
   have r:(bs (x.1++10::J5 M)).extract (x.1.length+1) (bs (x.1++10::J5 M)).size=bs (J5 M):=XZ (by
    rw[jS,QR,QR,show x.1++10::J5 M=(x.1++[10])++J5 M by simp,show x.1.length+1=(x.1++[10]).length by simp,List.drop_left])
   simp only[dK,dz]at hz;rw[d]at r
   clear e g
   gi_wp2_with (gi_at_call 156;refine(callsIn_wide.2 (X4 o _)).mono ?_;rintro e w' ⟨rfl,rfl⟩)
   gi_region
   obtain⟨w,k,b,j,c,q⟩:=hY
   gi_wp2
   refine q.mono ?_;rintro e s ⟨rfl,a⟩
   gi_wp2
   go_roundw
   case rel=>exact⟨M,λy c=>i y (eB _ c),by omega,a⟩
   case measure=>
    have f:=hI _ _ a;have p:s.cell? ⟨B,0,none⟩=some (.string (bs (J5 M))):=by simp[World.cell?,f]
    unfold sR;rw[p,m]
    show(bs (J5 M)).size<(bs (x.1++10::J5 M)).size;rw[d,Yj,QR]
    omega
abbrev oT:TypeId:=84
abbrev lT:TypeId:=87
abbrev sT:TypeId:=9
structure fm (w:World) (o:Nat) (r:Go.Loop) (D:List ε) (s:List UInt8) (W:World):Prop where
 wo:w.heap.size<=o
 sz:o+4<=W.heap.size
 out:∃v xs,W.heap[o]?=some (.cells #[v] oT (0,0))/\W.ownsRow (o+4) lT 1 v D.length xs/\∀k,k<D.length->aA W (λb=>b<o+4\/v.ownBlock=some b) (xs.getD k undef) (DL (gl D k))
 str:W.heap[o+1]?=some (.cells #[.string (bs s)] sT (0,0))
 df:W.heap[o+2]?=some (.deferred (some []))
 lp:W.heap[o+3]?=some (.loop r)
 bl:Below w.heap.size w W
theorem fm.one{o:Nat}(h:fm w o r D s W)(k:Nat)(hk:k=o+1\/k=o+3)(q:∀b,b≠k->W'.heap[b]?=W.heap[b]?)(hs:W'.heap.size=W.heap.size)(ho:W'.os=W.os)(ht:W'.tape=W.tape)(hu:W'.output=W.output)(hb:W'.heap[o+1]?=some (.cells #[.string (bs s')] sT (0,0)))(hl:W'.heap[o+3]?=some (.loop r')):fm w o r' D s' W':=by
 obtain⟨v,l,j,a,u⟩:=h.out;refine⟨h.wo,by rw[hs];exact h.sz,⟨v,l,(q _ (by omega)).trans j,⟨a.1,?_⟩,λi p=>(u i p).mono λb hb f=>⟨q b λe=>f (.inl (by omega)),f⟩⟩,hb,(q _ (by omega)).trans h.df,hl,?_⟩
 .rcases a.2 with a|⟨g,d,c,m,n,t,x⟩
  .exact .inl a
  .exact .inr ⟨g,d,c,m,n,(q g (by omega)).trans t,x⟩
 .exact ⟨ho.trans h.bl.os,ht.trans h.bl.tape,hu.trans h.bl.output,by rw[hs];exact h.bl.size,λb hb=>(q b (by have:=h.wo;omega)).trans (h.bl.block b hb)⟩
theorem fm.set{o:Nat}(h:fm w o r D s W):fm w o r D s' ((W.setCell ⟨o+1,0,none⟩ (.string (bs s'))).drew):=by
 refine h.one (o+1) (.inl rfl) (λb a=>?_) ?_ rfl rfl rfl ?_ ?_
 .simp only[World.drew,World.setCell,fV]
  rw[an (by omega)]
 .simp [World.drew,World.setCell]
 .simp only[World.drew,World.setCell,fV]
  rw[av trivial,h.str];rfl
 .simp only[World.drew,World.setCell,fV]
  rw[an (by omega)];exact h.lp
theorem fm.put{o:Nat}(h:fm w o r D s W):fm w o r' D s (W.putObj (o+3) (.loop r')):=
 h.one (o+3) (.inr rfl) (λb a=>World.putObj_heap_other a) (by simp[World.putObj]) rfl rfl rfl ((World.putObj_heap_other (by omega)).trans h.str) (World.putObj_heap_same (J4 h.lp))
theorem fm.stp{o:Nat}(h:fm w o r D s W)(k:Below W.heap.size W W'):fm w o r D s W':=by
 obtain⟨v,m,l,a,u⟩:=h.out;have y:=h.sz
 have c:∀b,b<o+4->W'.heap[b]?=W.heap[b]?:=λb j=>k.block b (by omega)
 refine⟨h.wo,dP h.sz k.size,⟨v,m,(c _ (by omega)).trans l,⟨a.1,?_⟩,λi q=>(u i q).mono λb j t=>⟨k.block b j,t⟩⟩,(c _ (by omega)).trans h.str,(c _ (by omega)).trans h.df,(c _ (by omega)).trans h.lp,?_⟩
 .rcases a.2 with a|⟨g,e,d,n,p,f,x⟩
  .exact .inl a
  .exact .inr ⟨g,e,d,n,p,(k.block g (J4 f)).trans f,x⟩
 .exact h.bl.trans (k.mono h.bl.size)
theorem fm.app{o:Nat}{v v':Value}{ws:ε}(h:fm w o r D s W)(h1:W.heap[o]?=some (.cells #[v] oT (0,0)))(h2:W.ownsRow (o+4) lT 1 v D.length xs)(h3:∀ k,k<D.length->aA W (fun b=>b<o+4\/v.ownBlock=some b) (xs.getD k undef) (DL (gl D k)))(hl:aA W (fun b=>b<o+4\/v.ownBlock=some b) lv (DL ws))(hown:W1.ownsRow (o+4) lT 1 v' (D.length+1) (xs++[lv]))(hg:W.grownBy W1 v.ownBlock)(hat:v'.ownBlock=v.ownBlock\/∃ b,W.heap.size<=b/\v'.ownBlock=some b):
  fm w o r (D++[ws]) s (W1.setCell ⟨o,0,none⟩ v'):=by
 have E:=h.sz;have f:(D++[ws]).length=D.length+1:=by simp
 have A:∀b,v.ownBlock=some b->o+4<=b:=λb e=>by
  rcases h2.2 with ⟨rfl,_⟩|⟨g,u,p,rfl,d,_⟩
  .cases e
  .cases e;exact d
 have I : ∀b,v'.ownBlock=some b->o+4<=b:=λb e=>by
  rcases hat with a|⟨c,G,a⟩
  .exact A b (a ▸ e)
  .rw [a]at e;cases e;omega
 have q:∀b,b≠o->(W1.setCell ⟨o,0,none⟩ v').heap[b]?=W1.heap[b]?:=λb j=>by
  simp only[World.setCell,fV];rw[an (by omega)]
 have k:∀b,b<W.heap.size->v.ownBlock≠some b->W1.heap[b]?=W.heap[b]?:=λb j l=>hg.block b j λe=>l e.symm
 have m:∀b,b<o+4->W1.heap[b]?=W.heap[b]?:=λb j=>k b (by omega) λe=>by have:=A b e;omega
 have B:(W1.setCell ⟨o,0,none⟩ v').heap.size=W1.heap.size:=by simp[World.setCell]
 have C:∀{x y},aA W (λb=>b<o+4\/v.ownBlock=some b) x y->aA (W1.setCell ⟨o,0,none⟩ v') (λb=>b<o+4\/v'.ownBlock=some b) x y:=λK=>K.mono λb j l=>
  ⟨(q b λe=>l (.inl (by omega))).trans (k b j λe=>l (.inr e)),λe=>e.elim (λe=>l (.inl e)) λe=>by
   rcases hat with a|⟨c,G,a⟩
   .exact l (.inr (a ▸ e))
   .rw [a]at e;cases e;omega⟩
 refine⟨h.wo,by rw[B];exact dP E hg.size,⟨v',xs++[lv],?_,⟨?_,?_⟩,λi F=>?_⟩,?_,?_,?_,?_⟩
 .simp only[World.setCell,fV]
  rw[av trivial,m o (by omega),h1];rfl
 .rw [f];exact hown.1
 .rw [f]
  rcases hown.2 with e|⟨g,u,p,n,d,H,J⟩
  .exact .inl e
  .exact .inr ⟨g,u,p,n,d,(q g (by omega)).trans H,J⟩
 .have z:xs.length=D.length:=by have:=h2.1;omega
  rw[f]at F
  by_cases hi2:i<D.length
  .have n:(xs++[lv]).getD i undef=xs.getD i undef:=by
    rw[aY,aY,iB (by omega)]
   have d:gl (D++[ws]) i=gl D i:=by
    unfold gl;rw[aY,aY,iB hi2]
   rw[n,d];exact C (h3 i hi2)
  .obtain rfl:i=D.length:=by omega
   have n:(xs++[lv]).getD D.length undef=lv:=by
    rw[aY,iY (by omega),z];simp
   have d:gl (D++[ws]) D.length=ws:=by
    unfold gl;rw[aY,iY (di _)];simp
   rw[n,d];exact C hl
 .exact ((q _ (by omega)).trans (m _ (by omega))).trans h.str
 .exact ((q _ (by omega)).trans (m _ (by omega))).trans h.df
 .exact ((q _ (by omega)).trans (m _ (by omega))).trans h.lp
 .have t:=h.bl
  have L:=h.wo;exact⟨hg.os.trans t.os,hg.tape.trans t.tape,hg.output.trans t.output,by rw[B];exact dP t.size hg.size,λb j=>((q b (by omega)).trans (m b (by omega))).trans (t.block b j)⟩
theorem fm.cell{o:Nat}(h:fm w o r D s W):∃v xs,W.cell? ⟨o,0,none⟩=some v/\W.frozen? ⟨o,0,none⟩=false/\W.heap[o]?=some (.cells #[v] oT (0,0))/\W.ownsRow (o+4) lT 1 v D.length xs/\∀k,k<D.length->aA W (λb=>b<o+4\/v.ownBlock=some b) (xs.getD k undef) (DL (gl D k)):=by
 obtain⟨v,xs,a,c,d⟩:=h.out;exact⟨v,xs,by simp[World.cell?,a],by simp[World.frozen?,a],a,c,d⟩
theorem fm.res{o:Nat}{v:Value}(h:fm w o r D s W)(hc:W.cell? ⟨o,0,none⟩=some v)(x:Go.Obj):aA (W.putObj (o+2) x) (λb=>b<w.heap.size) v (DL D)/\Below w.heap.size w (W.putObj (o+2) x):=by
 obtain⟨u,n,A,_,C,m,y⟩:=h.cell;obtain rfl:u=v:=by rw[A]at hc;cases hc;rfl
 have F:=h.wo;have q:∀b,b≠o+2->(W.putObj (o+2) x).heap[b]?=W.heap[b]?:=λb c=>World.putObj_heap_other c
 refine⟨?_,h.bl.os,h.bl.tape,h.bl.output,by rw[World.putObj_size];exact h.bl.size,λb c=>(q b (by omega)).trans (h.bl.block b c)⟩;rcases m.2 with ⟨rfl,d⟩|⟨g,f,a,rfl,G,p,z,H,B,t⟩
 .unfold DL
  rw[d];exact .nil _ _ _
 .refine .lst g 0 D.length f a lT (0,0) (LF D) 1 (by omega) ((q g (by omega)).trans p) z (by omega) (λi k=>rfl) λi j k E=>?_
  obtain rfl:j=0:=by omega
  have e:a.getD (0+(i*1+0)) undef=n.getD i undef:=by
   rw[<-t,aY,mV (by omega),hU,mI];congr 2
   omega
  rw[e];exact(y i k).mono λb c l=>⟨q b λe=>l (.inl (by omega)),λe=>l (.inl (by omega))⟩
theorem Z3G{size:Nat}{v:Value}(h:W.ownsRow base e size v n xs)(hb:v.ownBlock=some b):b<W.heap.size:=by
 rcases h.2 with ⟨rfl,_⟩|⟨g,d,a,rfl,_,c,_⟩
 .cases hb
 .cases hb;exact J4 c
theorem Q6T{ws:ε}(hx:¬X b)(hb:W.heap[b]?=some (.cells ((VC ws).map Value.string).toArray sT (0,0))):aA W X (.slice (some ⟨b,0,none⟩) ws.length (VC ws).length) (DL ws):=by
 cases ws with
 |nil=>exact .nil _ _ _
 |cons x r=>exact kO hx hb (di _)
theorem jx{o:Nat}{W8:World}{v:Value}{ws:ε}(hi:fm w o r D s W8)(hD:D.length<=400)(hW:W=W8.alloc (.cells #[lv] 87)\/W=(W8.alloc (.cells #[lv] 87)).drew)(hc:W8.cell? ⟨o,0,none⟩=some v)(hl:aA W8 (λb=>b<o+4\/v.ownBlock=some b) lv (DL ws)):∃g cp w9,(appH #[84,84] 84 #[v,.slice (some ⟨W8.heap.size,0,none⟩) 1 1]).run Tryz.prog W=.ok (.slice (some ⟨g,0,none⟩) (D.length+1) cp) w9/\w9.cell? ⟨o,0,none⟩=some v/\w9.frozen? ⟨o,0,none⟩=false/\fm w o r (D++[ws]) s (w9.setCell ⟨o,0,none⟩ (.slice (some ⟨g,0,none⟩) (D.length+1) cp)):=by
 have h:Below W8.heap.size W8 W:=by
  have c:Below W8.heap.size W8 (W8.alloc (.cells #[lv] lT)):=(Below.refl _ _).alloc (di _) _;rcases hW with rfl|rfl
  .exact c
  .exact ⟨c.os,c.tape,c.output,c.size,c.block⟩
 have p:W.heap[W8.heap.size]?=some (.cells #[lv] lT (0,0)):=by
  rcases hW with rfl|rfl
  .exact World.alloc_heap_new _ _
  .exact World.alloc_heap_new _ _
 have f:=hi.stp h;obtain⟨u,M,l,_,B,m,I⟩:=f.cell
 have U:=hi.sz;obtain rfl:u=v:=by
  have:W.cell? ⟨o,0,none⟩=W8.cell? ⟨o,0,none⟩:=World.cell?_of_block (a:=⟨o,0,none⟩) (h.block o (by omega))
  rw[this,hc]at l;cases l;rfl
 have n:(Tryz.prog.info? lT).map (λi=>(i.zero,i.size,i.bytes))=some (some (.slice none 0 0),1,24):=by kernel_rfl
 obtain⟨i,z,d⟩:=oM.1 n;simp only[mO]at d
 obtain⟨L,J,S⟩:=d;obtain⟨O,w9,K,C,A,_,H⟩:=run_append_own_at (P:=Tryz.prog) W (o+4) oT oT lT i (.slice none 0 0) 1 24 (by kernel_rfl) z L J S rfl (by decide) u D.length M m ⟨W8.heap.size,0,none⟩ 1 1 [lv] rfl (λj x E=>by
  cases j with
  |zero=>cases E;simp[Addr.add,World.cell?,p]
  |succ j=>simp at E) (λx T=>by rw[dI.1 T];exact hl.one) (by simp only[maxLen];omega) (by omega) (by have:=h.size;omega)
 have q:aA W (λb=>b<o+4\/u.ownBlock=some b) lv (DL ws):=hl.mono λb R p=>⟨h.block b R,p⟩
 have N:=h.size;have Q:w9.heap[o]?=W.heap[o]?:=A.block o (by omega) λe=>by
  rcases m.2 with ⟨y,_⟩|⟨g,k,t,y,V,_⟩
  .rw [y]at e;cases e
  .rw [y]at e
   have e:some o=some g:=e;cases e
   omega
 have F:=Q.trans B;obtain⟨g,cp,rfl⟩:∃g cp,O=.slice (some ⟨g,0,none⟩) (D.length+1) cp:=by
  rcases C.2 with ⟨_,c⟩|⟨g,k,t,G,_⟩
  .omega
  .exact ⟨g,k,G⟩
 exact⟨g,cp,w9,K,by simp[World.cell?,F],by simp[World.frozen?,F],f.app B m I q C A (H.imp id λe=>⟨_,di _,e⟩)⟩
attribute [local go_sem ↓] app_hide
theorem Q7u{assign:Code}{o:Nat}(s1:W1.heap.size=o+2)(ha:a.eval (.tmp 26)=.func (.func 155) #[] #[.pointer (some ⟨o+1,0,none⟩)])(h:∀ fn r,r=({ state:=.ready,pending:=none,fn:=fn,tmps:=a.tmps,params:= #[27],assign:=assign,body:=body,defers:=o+2 }:Go.Loop)->CallsIn Fence.wide 3 Tryz.prog 155 #[.func (.yield (o+3)) #[] #[],.pointer (some ⟨o+1,0,none⟩)] ((W1.alloc (.deferred (some []))).alloc (.loop r)) (rangePost Fence.wide 4 Tryz.prog (o+3) Q { a with defers:=[{ target:=.collected (o+2),args:= #[] }]++a.defers })):
  (Code.rangeFunc (.tmp 26) #[27] assign body).wpIn Fence.wide 4 Tryz.prog Q a W1:=by
 refine wpIn_rangeFunc ?_;intro fn d
 refine⟨o+3,[{target:=.collected (o+2),args:= #[]}],(W1.alloc (.deferred (some []))).alloc (.loop {state:=.ready,pending:=none,fn:=fn,tmps:=a.tmps,params:= #[27],assign:=assign,body:=body,defers:=o+2}), {target:=.fn (.func 155) #[.pointer (some ⟨o+1,0,none⟩)],args:= #[.func (.yield (o+3)) #[] #[]]},(W1.alloc (.deferred (some []))).alloc (.loop {state:=.ready,pending:=none,fn:=fn,tmps:=a.tmps,params:= #[27],assign:=assign,body:=body,defers:=o+2}),155,
  #[.func (.yield (o+3)) #[] #[],.pointer (some ⟨o+1,0,none⟩)],(W1.alloc (.deferred (some []))).alloc (.loop {state:=.ready,pending:=none,fn:=fn,tmps:=a.tmps,params:= #[27],assign:=assign,body:=body,defers:=o+2}),?_,?_,?_,?_,(λh=>by cases h),?_⟩
 .refine (run_enterLoop_outer _ _ _ _ _).trans ?_
  rw[s1]
 .have b : a.tmps[26]?.getD undef=.func (.func 155) #[] #[.pointer (some ⟨o+1,0,none⟩)]:=by
   have e:a.eval (.tmp 26)=a.tmps[26]?.getD undef:=by simp[go_sem]
   rw[<-e];exact ha
  simp[resolve,go_sem,b]
 .intro f c
  trivial
 .have e:=enters_of (P:=Tryz.prog) Tryz.func155 (by kernel_rfl) rfl
  simp[invoke,go_sem,e]
 .exact h fn _ rfl
theorem Nj{F:Fence}{W3:World}{o:Nat}(hi:fm w o r D s W3)(hr:r.state=.ready)(h:∀r4 W4,r4={r with state:=.busy} -> fm w o r4 D s W4->body.wpIn F n Tryz.prog Q a W4):∃w₂,(Instr.beginRound (o+3)).run Tryz.prog W3=.ok () w₂/\body.wpIn F n Tryz.prog Q a w₂:=
 ⟨_,run_beginRound hi.lp hr,h _ _ rfl hi.put⟩
theorem jv{o:Nat}{R:List ε->Prop}(h4:r4={ r with state:=.busy })(hr:r.state=.ready)(hp:r.pending=none)(hi:fm w o r4 D s W5)(hD:R D):
  roundPost Tryz.prog (o+3) (λe W'=>e=.returned (.bool true)/\∃D,R D/\fm w o r D s W') Exit.normal a W5:=by
 refine⟨_,_,run_endRound none hi.lp,rfl,D,hD,?_⟩;have:=hi.put (r':={r4 with state:=.ready,pending:=none})
 have e:({r4 with state:=.ready,pending:=none}:Go.Loop)=r:=by
  subst h4;cases r
  simp only at hr hp;subst hr hp
  rfl
 rw[e]at this;rw[<-e]at this⊢
 exact this
theorem E9(h:fX L)(w:World):CallsIn Fence.wide 4 Tryz.prog 34 #[.string (bs (J5 L))] w λe w'=>∃v,e=.returned (.tuple #[v,.int .i64 0])/\aA w' (λb=>b<w.heap.size) v (DL (L.map (·.2)))/\Below w.heap.size w w':=by
 have f1:Fence.wide.fn 77:=trivial;have f2:Fence.wide.fn 78:=trivial
 have f3:Fence.wide.fn 79:=trivial;have f4:Fence.wide.fn 82:=trivial
 have S:(bs (J5 L)).size=(J5 L).length:=by rw[Yj,QR]
 have hs:=h.sz;have hl:=h.len
 have a0:=jH h.one;have a5:((bs (J5 L)).toList==[])=false:=by
  rw[Lib.toList_data];show(J5 L==[])=false
  have:=jG h.ne
  cases hh:J5 L with
  |nil=>rw[hh]at this;cases this
  |cons=>rfl
 have a4:∀w,Calls Tryz.prog 79 #[.string (bs (J5 L)),.func (.func 80) #[] #[]] w λe w'=>e=.returned (.bool false)/\aM V7 w w':=λw=>Q7D (s:=bs (J5 L)) (λc K=>by
  rcases jI h.one c K with e|e
  .rw [e];decide
  .omega) (λc K w=>Ox (jI h.one c K) w) w
 obtain⟨n,hn⟩:∃n,(J5 L).length=n:=⟨_,rfl⟩;rw[hn]at S
 refine callsIn_of_wp_marks Tryz.func34 rfl trivial ?_ rfl;simp only[Tryz.ntmps34,lP,dz,eg,Nat.reduceAdd,Nat.reduceSub,AK,tw,List.push_toArray,rR,iL,iC]
 gi_wp2_with (first
  |(gi_at_call 77;refine(callsIn_wide.2 (jw _ _ _)).mono ?_;rintro e w' ⟨rfl,rfl⟩;rw[QR,a0])
  |(gi_at_call 78;refine(callsIn_wide.2 (Og h.ne h.sz _)).mono ?_;rintro e w' ⟨rfl,rfl⟩)
  |(gi_at_call 79;refine(callsIn_wide.2 (a4 _)).mono ?_;rintro e w1 ⟨rfl,st0⟩)
  |(gi_at_call 82;refine(callsIn_wide.2 (O1 _ _)).mono ?_;rintro e w2 ⟨rfl,rfl⟩))
 obtain⟨o,ho⟩:∃o,w1.heap.size=o:=⟨_,rfl⟩;have V:w'.heap.size<=o:=ho ▸ st0.size
 rw[ho];obtain⟨W1,hW1⟩:∃W1,(w1.alloc (.cells #[.slice none 0 0] oT)).alloc (.cells #[.string (bs (J5 L))] sT)=W1:=⟨_,rfl⟩
 have Q:W1.heap.size=o+2:=by rw[<-hW1, <-ho];simp
 have a1:W1.heap[o]?=some (.cells #[.slice none 0 0] oT (0,0)):=by rw[<-hW1, <-ho];exact(Below.heap_alloc _ _ _ (by simp)).trans (World.alloc_heap_new _ _)
 have b1:W1.heap[o+1]?=some (.cells #[.string (bs (J5 L))] sT (0,0)):=by
  have:=World.alloc_heap_new (w1.alloc (.cells #[.slice none 0 0] oT)) (.cells #[.string (bs (J5 L))] sT)
  rwa [World.size_alloc,ho,hW1]at this
 have E:aM V7 w' W1:=by rw[<-hW1];exact G3 (G3 st0 (aM.alloc V7 _ _)) (aM.alloc V7 _ _)
 rw[hW1]
 clear hW1 st0
 refine Q7u Q rfl ?_;intro fn r O
 have i2:fm w' o r [] (J5 L) ((W1.alloc (.deferred (some []))).alloc (.loop r)):=by
  have k2:∀k,k<o+2->((W1.alloc (.deferred (some []))).alloc (.loop r)).heap[k]?=W1.heap[k]?:=λk hk=>(Below.heap_alloc _ _ k (by simp;omega)).trans (Below.heap_alloc _ _ k (by omega))
  have X:aM V7 w' ((W1.alloc (.deferred (some []))).alloc (.loop r)):=G3 (G3 E (aM.alloc V7 _ _)) (aM.alloc V7 _ _);refine⟨V,by simp;omega,⟨.slice none 0 0,[],(k2 o (by omega)).trans a1,⟨rfl,.inl ⟨rfl,rfl⟩⟩,λk hk=>absurd hk (fy k)⟩,(k2 _ (by omega)).trans b1,?_,?_,qc X⟩
  .exact (Below.heap_alloc _ _ _ (by simp;omega)).trans (by have:=World.alloc_heap_new W1 (.deferred (some []));rwa [Q]at this)
  .have:=World.alloc_heap_new (W1.alloc (.deferred (some []))) (.loop r)
   rwa [World.size_alloc,Q]at this
 generalize (W1.alloc (.deferred (some []))).alloc (.loop r)=W2 at i2⊢
 clear a1 b1 Q E
 refine(Q7i (n:=3) (l:=o+3) (B:=o+1) (I:=λM W=>∃D,D++M.map (·.2)=L.map (·.2)/\fm w' o r D (J5 M) W) (by omega) (λM W ⟨D,_,f⟩=>f.str) ?hY h.one h.sz ⟨[],rfl,i2⟩).mono ?hP
 case hP=>
  rintro e W' ⟨⟨v,rfl⟩,D,N,f⟩;obtain rfl:D=L.map (·.2):=by simpa using N
  have d:=run_endLoop (P:=Tryz.prog) f.lp (by rw[O];simp);have q:=f.put (r':={r with state:=.exhausted})
  generalize W'.putObj (o+3) (.loop {r with state:=.exhausted})=W3 at q d;rw[show r.pending=none by rw[O]]at d
  refine⟨none,_,d,?_⟩
  clear d
  obtain⟨u,xs,K,hf,_⟩:=q.cell
  gi_wp2
  refine⟨by simp,.inl ⟨_,_,rfl,run_takeDeferred q.df,?_⟩⟩;obtain⟨r1,r2⟩:=q.res K (.deferred none)
  exact⟨_,results_tmp2 rfl _ _ _,u,rfl,r1,r2⟩
 case hY=>
  intro x M W hx hM hz f;obtain⟨D,N,f⟩:=f
  have f:=f.set (s':=J5 M);generalize (W.setCell ⟨o+1,0,none⟩ (.string (bs (J5 M)))).drew=W3 at f⊢
  have l3:=f.lp;refine⟨_,_,_,_,run_yield (P:=Tryz.prog) (args:= #[.string (bs (x.1++[10]))]) l3 (by rw[O];rfl),?_⟩
  subst O;simp only[lP,dz,eg]
  refine roundIn_of_wpIn trivial ?_
  gi_wp2
  refine Nj f rfl ?_;intro r4 W4 t a3
  clear l3 f
  have Y:x.1.length<=16384:=by
   have:J5 (x::M)=x.1++10::J5 M:=by simp[J5]
   rw[this,dK]at hz;omega
  obtain⟨U,c8⟩:=hx.ws;have z:(Qy x.2).length<=16384:=by omega
  have A:x.2.length<=Y2:=by have:=cZ U;unfold Y2;omega
  have f5:Fence.wide.fn 86:=trivial;have f6:Fence.wide.fn 85:=trivial
  have b9:Tryz.prog.follows .mixedOrders=true:=by kernel_rfl
  gi_wp2_with (first
   |(refine⟨trivial,?_⟩;gi_at_call 84;refine(CallsIn.inRound _ (callsIn_wide.2 (Oi Y _))).mono ?_;rintro e w5 ⟨rfl,rfl⟩)
   |(refine⟨trivial,?_⟩;gi_at_call 83;refine(CallsIn.inRound _ (callsIn_wide.2 (Q7z hx _))).mono ?_;rintro e H ⟨⟨s6,b6,rfl⟩,J⟩;have i:=a3.stp (qc J);obtain⟨v,xs,a2,c7,k1,k2,k3⟩:=i.cell;have d2:=i.sz;clear J))
  have a5:o≠H.heap.size:=by omega
  have F:D.length<=400:=by
   have e:=congrArg List.length N;have c1:=h.len
   simp only[dK,fL,dz]at e;omega
  have C:(D++[x.2])++M.map (·.2)=L.map (·.2):=by rw[<-N];simp
  have c9:∀c T,(H.alloc (.cells c T)).cell? ⟨o,0,none⟩=some v:=λc T=>(World.cell?_of_block (a:=⟨o,0,none⟩) (Below.heap_alloc _ _ o (by omega))).trans a2
  gi_region_with_o (first
   |(gi_at_call 86;refine(CallsIn.inRound _ (callsIn_wide.2 (EZ U z _))).mono ?_;rintro e w7 ⟨rfl,rfl⟩)
   |(gi_at_call 85;refine(CallsIn.inRound _ (callsIn_wide.2 (Q7x U A (by exact World.alloc_heap_new _ _)))).mono ?_;rintro e p ⟨rfl,g,Z⟩;have G:Below H.heap.size H p:=⟨g.os,g.tape,g.output,dP (by simp) g.size,λb hb=>(g.block b (by simp;omega) (by intro e;omega)).trans (Below.heap_alloc _ _ b hb)⟩;have m:=i.stp G;have e8:p.heap[o]?=some (.cells #[v] oT (0,0)):=(G.block o (by omega)).trans k1;have j:p.cell? ⟨o,0,none⟩=some v:=(by simp[World.cell?,e8]);have b7:p.frozen? ⟨o,0,none⟩=false:=(by simp[World.frozen?,e8]);have y:aA p (λb=>b<o+4\/v.ownBlock=some b) (.slice (some ⟨H.heap.size,0,none⟩) x.2.length (VC x.2).length) (DL x.2):=Q6T (λe=>e.elim (λe=>by omega) λe=>Nat.lt_irrefl _ (Z3G k2 e)) Z;obtain⟨ga,na,wa,ra,ca,fa,ia⟩:=jx m F (.inl rfl) j y;obtain⟨gb,nb,wb,rb,cb,fb,ib⟩:=jx m F (.inr rfl) j y;have b8:=m.sz;have a9:o≠p.heap.size:=(by omega);have c3:∀c T,(p.alloc (.cells c T)).cell? ⟨o,0,none⟩=some v:=(λc T=>(World.cell?_of_block (a:=⟨o,0,none⟩) (Below.heap_alloc _ _ o (by omega))).trans j)))
  all_goals
   simp only[Exit.inBlock]
   first
    |exact jv (R:=λD=>D++M.map (·.2)=L.map (·.2)) t rfl rfl ia C
    |exact jv (R:=λD=>D++M.map (·.2)=L.map (·.2)) t rfl rfl ib C
theorem qK{s:ByteArray}{r:(List ε)×Int}(h:Vf F s=some r):WN Tryz.prog 34 [.v (.c (.d (.str s)))] [] (.t [.c (.d (DL r.1)),.c (ci r.2)]) []:=by
 unfold Vf at h;split at h
 .rename_i m
  obtain⟨k,l⟩:=m.choose_spec;generalize m.choose=L at k l h
  cases h
  intro w X η o n _ _ _ f a;rw[KU f,KW (a 0 lm),l]
  refine(callsIn_wide.1 (E9 k w)).mono λe w' ⟨v,he,hd,bl⟩=>⟨_,η,he,?_⟩
  refine Jb (w:=zw w) ⟨bl.os,bl.tape,bl.output,bl.size,λb g _=>bl.block b g,dW _⟩ (.t _ _ rfl λj i=>?_);have i:j<2:=i
  match j,i with
  |0,_=>exact .c _ _ (.d _ _ (hd.mono λb _ g=>⟨rfl,λh=>g (n.lt b h)⟩))
  |1,_=>exact .c _ _ (.d _ _ (.int _ _))
 .cases h
end Go.Ab
namespace Go.Ab
open Go.Proofs Go.RowKit
variable {a:Addr}{vs:Ξ}{s:ByteArray}{k:Int}{r:Int×Bool}{news xs ys:List Value}{args:List ai}{F b base i j n q size:Nat}{D D':Nat->Nat->aH}{X Y:ξ}{η:Nat->Value}{E E':Nat->aG}{T e:TypeId}{bv kv lv u:Value}{W W' w w':World}{d:aH}{x:af}{f:af->af}{t:aj}{C:da}
abbrev DW:TypeId:=76
abbrev Ra:TypeId:=78
theorem HZ{v:Value}(h:W.ownsRow base e size v n xs)(hb:v.ownBlock=some b):b<W.heap.size:=by
 rcases h.2 with ⟨rfl,_⟩|⟨g,d,a,rfl,_,c,_⟩
 .cases hb
 .cases hb;exact J4 c
theorem PU{v:Value}(h:W.ownsRow base e size v n xs)(q:∀b,v.ownBlock=some b->W'.heap[b]?=W.heap[b]?):W'.ownsRow base e size v n xs:=by
 refine⟨h.1,?_⟩;rcases h.2 with d|⟨g,c,a,rfl,j,f,i⟩
 .exact .inl d
 .exact .inr ⟨g,c,a,rfl,j,(q g rfl).trans f,i⟩
theorem Vn{v:Value}(h:W.ownsRow base e size v n xs)(hb:v.ownBlock=some b):base<=b:=by
 rcases h.2 with ⟨rfl,_⟩|⟨g,c,a,rfl,d,_⟩
 .cases hb
 .cases hb;exact d
theorem tv{v:Value}(h:W.ownsRow base e size v n xs){g:Nat}(hg:v.ownBlock=some g)(q:Nat)(u:Value):(W.setCell ⟨g,q,none⟩ u).ownsRow base e size v n (xs.set q u):=by
 rcases h.2 with ⟨rfl,_⟩|⟨j,b,a,rfl,l,f,k,d,c,i⟩
 .cases hg
 .cases hg
  refine⟨by rw[nY];exact h.1,.inr ⟨j,b,a.setIfInBounds q u,rfl,l,?_,k,d,by simpa using c,?_⟩⟩
  .simp only[World.setCell,fV]
   rw[av trivial,f];rfl
  .rw [Array.toList_setIfInBounds,List.take_set,i]
def XR(X:ξ)(R:Nat)(lv bv:Value)(b:Nat):Prop:=X b\/b=R\/lv.ownBlock=some b\/bv.ownBlock=some b
structure iG (X:ξ) (R n:Nat) (D:Nat->Nat->aH) (m:Nat) (E:Nat->aG) (lv bv:Value) (xs ys:List Value) (W:World):Prop where
 row:W.ownsRow (R+1) DW 10 lv n xs
 brs:W.ownsRow (R+1) Ra 2 bv m ys
 dat:∀j c,j<n->c<10->¬(j+1=n/\c=6)->aA W (XR X R lv bv) (xs.getD (j*10+c) undef) (D j c)
 lst:∀j,j+1=n->xs.getD (j*10+6) undef=bv
 bdt:∀i,i<m->ys.getD (i*2) undef=.int .i64 (E i).dX/\ys.getD (i*2+1) undef=.int .i64 (E i).de
 ne:∀b,lv.ownBlock=some b->bv.ownBlock=some b->False
 x0:∀b,X b->b<=R
section
variable {R m:Nat}
theorem iG.mono(h:iG X R n D m E lv bv xs ys W)(q:∀b,b≠R->b<W.heap.size->W'.heap[b]?=W.heap[b]?):iG X R n D m E lv bv xs ys W' :=
 ⟨PU h.row λb a=>q b (by have:=Vn h.row a;omega) (HZ h.row a),PU h.brs λb a=>q b (by have:=Vn h.brs a;omega) (HZ h.brs a),
  λj c g f i=>(h.dat j c g f i).mono λb a d=>⟨q b (λe=>d (.inr (.inl e))) a,d⟩,h.lst,h.bdt,h.ne,h.x0⟩
theorem iG.congr(h:iG X R n D m E lv bv xs ys W)(hD:∀j c,j<n->c<10->¬(j+1=n/\c=6)->D' j c=D j c)(hE:∀i,i<m->E' i=E i):iG X R n D' m E' lv bv xs ys W:=
 ⟨h.row,h.brs,λj c d a b=>by rw[hD j c d a b];exact h.dat j c d a b,h.lst,λi e=>by rw[hE i e];exact h.bdt i e,h.ne,h.x0⟩
theorem Lb{l:List Value}(hj:j<l.length):(l.set i u).getD j undef=if i=j then u else l.getD j undef:=by
 rw[aY,mT]
 by_cases e:i=j
 .subst e;simp[hj]
 .rw [an e,an e,aY]
theorem iG.set(h:iG X R n D m E lv bv xs ys W){p c:Nat}(hn:p+1=n)(hc:c<10)(h6:c≠6){g:Nat}(hg:lv.ownBlock=some g)(hu:aA W (XR X R lv bv) u d):
  iG X R n (λj k=>if j=p/\k=c then d else D j k) m E lv bv (xs.set (p*10+c) u) ys (W.setCell ⟨g,p*10+c,none⟩ u):=by
 have q:∀b,b≠g->(W.setCell ⟨g,p*10+c,none⟩ u).heap[b]?=W.heap[b]?:=λb a=>by
  simp only[World.setCell,fV];rw[an (λe=>a e.symm)]
 have l:∀{x y},aA W (XR X R lv bv) x y->aA (W.setCell ⟨g,p*10+c,none⟩ u) (XR X R lv bv) x y:=λi=>i.mono λb a hn=>⟨q b λe=>hn (.inr (.inr (.inl (e ▸ hg)))),hn⟩
 have r:=h.row.1;refine⟨tv h.row hg _ _,PU h.brs λb a=>q b λe=>h.ne g hg (e ▸ a),λj k f o i=>?_,λj f=>?_,h.bdt,h.ne,h.x0⟩
 .rw [Lb (by omega)]
  by_cases e:j=p/\k=c
  .rw [av (by omega),av e];exact l hu
  .rw [an (by omega),an e];exact l (h.dat j k f o i)
 .rw [Lb (by omega),an (by omega)];exact h.lst j f
theorem iG.brd(h:iG X R n D m E lv bv xs ys W)(hX:∀b,bv.ownBlock=some b->¬Y b){f:Δ}(hf:∀i,i<m->f i=[.int .i64 (E i).dX,.int .i64 (E i).de]):aA W Y bv (.lst m f):=by
 rcases h.brs.2 with ⟨rfl,p⟩|⟨g,d,a,rfl,w,q,t,x,u,s⟩
 .rw [p];exact .nil _ _ _
 .refine .lst g 0 m d a Ra (0,0) f 2 (hX g rfl) q t (by omega) (λi c=>by rw[hf i c];rfl) λi j c v=>?_
  have e:∀k,k<m*2->a.getD (0+k) undef=ys.getD k undef:=λk o=>by
   rw[<-s,aY,mV o,hU,mI,eH]
  rw[e _ (by omega),hf i c];obtain⟨r,l⟩:=h.bdt i c
  have:j=0\/j=1:=by omega
  rcases this with rfl|rfl
  .rw [fU,r];exact .int _ _
  .rw [l];exact .int _ _
theorem kd{l m:List Value}(h:i<l.length):(l++m).getD i undef=l.getD i undef:=by
 rw[aY,aY,iB h]
theorem Lc{l m:List Value}:(l++m).getD (l.length+i) undef=m.getD i undef:=by
 rw[aY,aY,iY (by omega),Nat.add_sub_cancel_left]
theorem tD{t ty:TypeId}{bytes:Nat}(hty:Tryz.prog.underlying t=some (.slice e)){z:Value}(hti:(Tryz.prog.info? e).map (fun i=>(i.zero,i.size,i.bytes))=some (some z,size,bytes))(hz:z.cells.size=size)(hs:0<size){v:Value}(h:W.ownsRow base e size v n xs){nb:Nat}(hnb:W.heap[nb]?=some (.cells news.toArray T (0,0)))(hl:news.length=size)(h1:∀ u ∈ news,u.oneCell'=true)(hn:n<=400)(hby:bytes<=1000)(hb:base<=W.heap.size):
  ∃g cp w9,(appH #[t,t] ty #[v,.slice (some ⟨nb,0,none⟩) 1 1]).run Tryz.prog W=.ok (.slice (some ⟨g,0,none⟩) (n+1) cp) w9/\w9.ownsRow base e size (.slice (some ⟨g,0,none⟩) (n+1) cp) (n+1) (xs++news)/\W.grownBy w9 v.ownBlock/\(v.ownBlock=some g\/g=W.heap.size):=by
 obtain⟨i,d,a⟩:=oM.1 hti;simp only[mO]at a
 obtain⟨p,A,y⟩:=a;have B:(n+1)*bytes<=401*1000:=lM (by omega) hby
 obtain⟨r,w9,q,k,o,_,b⟩:=run_append_own_at (P:=Tryz.prog) W base t ty e i z size bytes hty d p A y hz hs v n xs h ⟨nb,0,none⟩ 1 1 news (by omega) (λj x l=>by
  by_cases f:j=0
  .subst f;simp[Addr.add,World.cell?,hnb,l]
  .simp [Addr.add,World.cell?,hnb,l,f]) h1 (by simp only[maxLen];omega) (by omega) hb
 obtain⟨g,cp,rfl⟩:∃g cp,r=.slice (some ⟨g,0,none⟩) (n+1) cp:=by
  rcases k.2 with ⟨_,f⟩|⟨g,c,w,s,_⟩
  .omega
  .exact ⟨g,c,s⟩
 refine⟨g,cp,w9,q,k,o,?_⟩;rcases b with b|b
 .exact .inl b.symm
 .exact .inr (ic b)
end
def G4(l:χ):af:=gl l (l.length-1)
structure et (X:ξ) (w:World) (R:Nat) (l:χ) (k:Int) (lv bv:Value) (xs ys:List Value) (W:World):Prop where
 wo:w.heap.size<=R
 lt:R<W.heap.size
 bl:Below w.heap.size w W
 cel:∃T,W.heap[R]?=some (.cells #[lv,.int .i64 k] T (0,0))
 sch:iG X R l.length (λj c=>(LF l j).getD c .any) (G4 l).ab.length (gl (G4 l).ab) lv bv xs ys W
theorem xq(l:χ)(x:af):G4 (l++[x])=x:=by
 unfold G4;rw[dK,mc,lS]
 unfold gl;rw[aY,iY (di _)];simp
theorem tT{l:χ}(h:j<l.length):LF (l++[x]) j=LF l j:=by
 unfold LF;rw[aY,iB h, <-aY]
theorem Z9k{l:χ}:LF (l++[x]) l.length=aN.cells x:=by
 unfold LF;rw[aY,iY (di _)];simp
theorem XO{l:χ}(h:j+1=l.length):LF l j=aN.cells (G4 l):=by
 unfold LF G4 gl;rw[show l.length-1=j by omega]
theorem XY{l:χ}(h:l≠[]):(Zb l f).length=l.length:=by
 unfold Zb;have:=fS.2 h
 simp;omega
theorem JW{l:χ}:G4 (Zb l f)=f (G4 l):=xq _ _
theorem jE{l:χ}(h:j+1<l.length):LF (Zb l f) j=LF l j:=by
 unfold Zb;rw[tT (by rw[List.length_dropLast];omega)]
 unfold LF;rw[aY,aY,List.getElem?_dropLast,av (by omega)]
theorem Q7P{l:χ}{g:af->af}:Zb (Zb l f) g=Zb l λx=>g (f x):=by
 show(Zb l f).dropLast++[g (G4 (Zb l f))]=_;rw[JW]
 unfold Zb;rw[wn]
 rfl
theorem Gf{l:χ}:Zb l f≠[]:=by unfold Zb;simp
section
variable {R:Nat}{l:χ}
theorem et.stp(h:et X w R l k lv bv xs ys W)(q:Below W.heap.size W W'):et X w R l k lv bv xs ys W':=by
 obtain⟨T,a⟩:=h.cel;exact⟨h.wo,fH h.lt q.size,h.bl.trans (q.mono h.bl.size),⟨T,(q.block R h.lt).trans a⟩,h.sch.mono λb _ c=>q.block b c⟩
theorem Vl(W:World)(R q:Nat)(u:Value)(hb:b≠R):(W.setCell ⟨R,q,none⟩ u).heap[b]?=W.heap[b]?:=by
 simp only[World.setCell,fV];rw[an (λe=>hb e.symm)]
theorem SZ{R:Nat}{c:Ξ}{fz:Nat×Nat}(h:W.heap[R]?=some (.cells c T fz)):(W.setCell ⟨R,q,none⟩ u).heap[R]?=some (.cells (c.setIfInBounds q u) T fz):=by
 simp only[World.setCell,fV];rw[av trivial,h];rfl
theorem Kj(W:World)(R q:Nat)(u:Value):(W.setCell ⟨R,q,none⟩ u).heap.size=W.heap.size:=by simp[World.setCell]
theorem et.putk(h:et X w R l k lv bv xs ys W)(n:Int):et X w R l n lv bv xs ys (W.setCell ⟨R,1,none⟩ (.int .i64 n)):=by
 obtain⟨T,c⟩:=h.cel;have d:=h.wo
 exact⟨h.wo,by rw[Kj];exact h.lt,⟨h.bl.os,h.bl.tape,h.bl.output,by rw[Kj];exact h.bl.size,λb a=>(Vl _ _ _ _ (by omega)).trans (h.bl.block b a)⟩,⟨T,SZ c⟩,h.sch.mono λb a _=>Vl _ _ _ _ a⟩
theorem et.set(h:et X w R l k lv bv xs ys W)(hl:l≠[]){c:Nat}(hc:c<10)(h6:c≠6){g:Nat}(hg:lv.ownBlock=some g)(hu:aA W (XR X R lv bv) u d)(hf:∀ j,j<10->j≠6->(aN.cells (f (G4 l))).getD j .any=if j=c then d else (aN.cells (G4 l)).getD j .any)(hb:(f (G4 l)).ab=(G4 l).ab):
  et X w R (Zb l f) k lv bv (xs.set ((l.length-1)*10+c) u) ys (W.setCell ⟨g,(l.length-1)*10+c,none⟩ u):=by
 obtain⟨T,o⟩:=h.cel;have x:=fS.2 hl
 have t:=Vn h.sch.row hg;have A:=h.wo
 refine⟨h.wo,by rw[Kj];exact h.lt,⟨h.bl.os,h.bl.tape,h.bl.output,by rw[Kj];exact h.bl.size,λb hb=>(Vl _ _ _ _ (by omega)).trans (h.bl.block b hb)⟩,⟨T,(Vl _ _ _ _ (by omega)).trans o⟩,?_⟩;have q:=h.sch.set (p:=l.length-1) (by omega) hc h6 hg hu
 rw[XY hl,JW,hb];refine q.congr (λj a z r y=>?_) λ_ _=>rfl
 by_cases e:j=l.length-1
 .have i:j+1=l.length:=by omega
  have v:j+1=(Zb l f).length:=by rw[XY hl];exact i
  show(LF (Zb l f) j).getD a .any=if _ then _ else(LF l j).getD a .any;rw[XO i,XO v,JW,hf a r (λs=>y ⟨i,s⟩)]
  by_cases e3:a=c
  .rw [av e3,av ⟨e,e3⟩]
  .rw [an e3,an λh=>e3 h.2]
 .show (LF (Zb l f) j).getD a .any=if _ then _ else(LF l j).getD a .any
  rw[an λh=>e h.1,jE (by omega)]
theorem et.happ(h:et X w R l k lv bv xs ys W){n m:Int}{s:ByteArray}{b:Bool}{nb:Nat}{T:TypeId}(hnb:W.heap[nb]?=some (.cells #[.int .i64 n,.string s,.int .i64 0,.int .i64 0,.int .i64 0,.slice none 0 0,.slice none 0 0,.int .i64 m,.int .i64 0,.bool b] T (0,0)))(hn:l.length<=400):
  ∃g cp w9,(appH #[30,30] 30 #[lv,.slice (some ⟨nb,0,none⟩) 1 1]).run Tryz.prog W=.ok (.slice (some ⟨g,0,none⟩) (l.length+1) cp) w9/\(∃T,w9.heap[R]?=some (.cells #[lv,.int .i64 k] T (0,0))) /\
   et X w R (l++[⟨n,s,⟨0,0,0,[]⟩,[],m,0,b⟩]) (-1) (.slice (some ⟨g,0,none⟩) (l.length+1) cp) (.slice none 0 0) (xs++[.int .i64 n,.string s,.int .i64 0,.int .i64 0,.int .i64 0,.slice none 0 0,.slice none 0 0,.int .i64 m,.int .i64 0,.bool b]) [] ((w9.setCell ⟨R,0,none⟩ (.slice (some ⟨g,0,none⟩) (l.length+1) cp)).setCell ⟨R,1,none⟩ (.int .i64 (-1))):=by
 have Q:=h.wo;have O:=h.lt
 obtain⟨g,cp,w9,M,H,d,A⟩:=tD (W:=W) (size:=10) (bytes:=120) (t:=30) (ty:=30) (e:=DW) (by kernel_rfl) (z:=.agg #[.int .i64 0,.string ByteArray.empty,.int .i64 0,.int .i64 0,.int .i64 0,.slice none 0 0,.slice none 0 0,.int .i64 0,.int .i64 0,.bool false]) (by kernel_rfl) rfl (by decide) h.sch.row
  (news:=[.int .i64 n,.string s,.int .i64 0,.int .i64 0,.int .i64 0,.slice none 0 0,.slice none 0 0,.int .i64 m,.int .i64 0,.bool b]) hnb rfl (by simp[Value.oneCell']) hn (by decide) (by omega)
 obtain⟨G,v⟩:=h.cel;have B:∀c,c<=R->w9.heap[c]?=W.heap[c]?:=λc a=>d.block c (by omega) λe=>by have:=Vn h.sch.row e.symm;omega
 have q:∀c u o,c≠R->((w9.setCell ⟨R,0,none⟩ u).setCell ⟨R,1,none⟩ o).heap[c]?=w9.heap[c]?:=λc u o a=>(Vl _ _ _ _ a).trans (Vl _ _ _ _ a)
 have I:∀u o,((w9.setCell ⟨R,0,none⟩ u).setCell ⟨R,1,none⟩ o).heap.size=w9.heap.size:=λu o=>(Kj _ _ _ _).trans (Kj _ _ _ _)
 refine⟨g,cp,w9,M,⟨G,(B R (di _)).trans v⟩,h.wo,by rw[I];exact fH O d.size,⟨d.os.trans h.bl.os,d.tape.trans h.bl.tape,d.output.trans h.bl.output,by rw[I];exact dP h.bl.size d.size,λc a=>((q c _ _ (by omega)).trans (B c (by omega))).trans (h.bl.block c a)⟩,⟨G,?_⟩,?_⟩
 .exact SZ (SZ ((B R (di _)).trans v))
 have K:∀{x y},aA W (λc=>X c\/c=R\/lv.ownBlock=some c) x y->aA ((w9.setCell ⟨R,0,none⟩ (.slice (some ⟨g,0,none⟩) (l.length+1) cp)).setCell ⟨R,1,none⟩ (.int .i64 (-1))) (XR X R (.slice (some ⟨g,0,none⟩) (l.length+1) cp) (.slice none 0 0)) x y:=λF=>F.mono λc a hn=>by
  have C:¬X c:=λe=>hn (.inl e)
  have r:c≠R:=λe=>hn (.inr (.inl e))
  have p:lv.ownBlock≠some c:=λe=>hn (.inr (.inr e))
  refine⟨(q c _ _ r).trans (d.block c a λe=>p e.symm),λe=>?_⟩;rcases e with e|e|e|e
  .exact C e
  .exact r e
  .have e:some g=some c:=e
   cases e
   rcases A with A|A
   .exact p A
   .omega
  .cases e
 have f:xs.length=l.length*10:=h.sch.row.1;rw[xq,dK,mc]
 have P:=Vn H rfl;refine⟨PU H λc a=>q c _ _ (by cases a;omega),⟨rfl,.inl ⟨rfl,rfl⟩⟩,λj c N a F=>?_,λj N=>?_,λi J=>absurd J (fy _),λc _ e=>(by cases e),h.sch.x0⟩
 .by_cases e:j<l.length
  .rw [kd (by omega),tT e]
   by_cases e6:j+1=l.length/\c=6
   .obtain ⟨L,rfl⟩:=e6
    rw[h.sch.lst j L,XO L];exact K (h.sch.brd (λc a e=>by
     have:=Vn h.sch.brs a
     rcases e with e|e|e
     .have:=h.sch.x0 c e;omega
     .omega
     .exact h.sch.ne c e a) λi J=>rfl)
   .exact K ((h.sch.dat j c e a e6).mono λb _ hn=>⟨rfl,λe=>hn (e.imp_right λe=>e.imp_right .inl)⟩)
  .obtain rfl:j=l.length:=by omega
   rw[Z9k, <-f,Lc]
   match c,a with
   |0,_=>exact .int _ _
   |1,_=>exact .str _
   |2,_=>exact .int _ _
   |3,_=>exact .int _ _
   |4,_=>exact .int _ _
   |5,_=>exact .nil _ _ _
   |6,_=>exact absurd ⟨rfl,rfl⟩ F
   |7,_=>exact .int _ _
   |8,_=>exact .int _ _
   |9,_=>exact .bool _
 .obtain rfl:j=l.length:=by omega
  rw[<-f,Lc];rfl
theorem et.rapp(h:et X w R l k lv bv xs ys W)(hl:l≠[]){n m:Int}{nb:Nat}{T:TypeId}(hnb:W.heap[nb]?=some (.cells #[.int .i64 n,.int .i64 m] T (0,0)))(hn:(G4 l).ab.length<=400){g:Nat}(hg:lv.ownBlock=some g):
  ∃g' cp w9,(appH #[74,74] 74 #[bv,.slice (some ⟨nb,0,none⟩) 1 1]).run Tryz.prog W=.ok (.slice (some ⟨g',0,none⟩) ((G4 l).ab.length+1) cp) w9/\w9.heap[R]?=W.heap[R]? /\ w9.heap[g]?=W.heap[g]? /\
   et X w R (Zb l λs=> {s with ab:=s.ab++[⟨n,m⟩]}) k lv (.slice (some ⟨g',0,none⟩) ((G4 l).ab.length+1) cp) (xs.set ((l.length-1)*10+6) (.slice (some ⟨g',0,none⟩) ((G4 l).ab.length+1) cp)) (ys++[.int .i64 n,.int .i64 m]) (w9.setCell ⟨g,(l.length-1)*10+6,none⟩ (.slice (some ⟨g',0,none⟩) ((G4 l).ab.length+1) cp)):=by
 have wo:=h.wo;have Y:=h.lt
 have Q:=fS.2 hl;have P:=Vn h.sch.row hg
 have G:=HZ h.sch.row hg;obtain⟨g',cp,w9,S,O,d,f⟩:=tD (W:=W) (size:=2) (bytes:=16) (t:=74) (ty:=74) (e:=Ra) (by kernel_rfl) (z:=.agg #[.int .i64 0,.int .i64 0]) (by kernel_rfl) rfl (by decide) h.sch.brs
  (news:=[.int .i64 n,.int .i64 m]) hnb rfl (by simp[Value.oneCell']) hn (by decide) (by omega)
 obtain⟨U,F⟩:=h.cel;have J:∀c,c<=R->w9.heap[c]?=W.heap[c]?:=λc o=>d.block c (by omega) λe=>by have:=Vn h.sch.brs e.symm;omega
 have N:w9.heap[g]?=W.heap[g]?:=d.block g G λe=>h.sch.ne g hg e.symm
 have q : g' ≠ g:=λe=>by
  rcases f with f|f
  .exact h.sch.ne g hg (e ▸ f)
  .omega
 refine⟨g',cp,w9,S,J R (di _),N,h.wo,by rw[Kj];exact fH Y d.size,⟨d.os.trans h.bl.os,d.tape.trans h.bl.tape,d.output.trans h.bl.output,by rw[Kj];exact dP h.bl.size d.size,λc o=>((Vl _ _ _ _ (by omega)).trans (J c (by omega))).trans (h.bl.block c o)⟩,⟨U,(Vl _ _ _ _ (by omega)).trans ((J R (di _)).trans F)⟩,?_⟩;have M:∀{x y},aA W (XR X R lv bv) x y->aA (w9.setCell ⟨g,(l.length-1)*10+6,none⟩ (.slice (some ⟨g',0,none⟩) ((G4 l).ab.length+1) cp)) (XR X R lv (.slice (some ⟨g',0,none⟩) ((G4 l).ab.length+1) cp)) x y:=λv=>v.mono λc o hn=>by
  have C:¬X c:=λe=>hn (.inl e)
  have L:c≠R:=λe=>hn (.inr (.inl e))
  have r:lv.ownBlock≠some c:=λe=>hn (.inr (.inr (.inl e)))
  have p:bv.ownBlock≠some c:=λe=>hn (.inr (.inr (.inr e)))
  refine⟨(Vl _ _ _ _ λe=>r (by rw[e];exact hg)).trans (d.block c o λe=>p e.symm),λe=>?_⟩;rcases e with e|e|e|e
  .exact C e
  .exact L e
  .exact r e
  .have e:some g'=some c:=e
   cases e
   rcases f with f|f
   .exact p f
   .omega
 have V:xs.length=l.length*10:=h.sch.row.1;have K:ys.length=(G4 l).ab.length*2:=h.sch.brs.1
 rw[XY hl,JW];refine⟨tv (PU h.sch.row λb u=>by rw[hg]at u;cases u;exact N) hg _ _,?_,λj c H o v=>?_,λj H=>?_,λi B=>?_,λc e I=>?_,h.sch.x0⟩
 .show World.ownsRow _ _ _ _ _ ((G4 l).ab++[_]).length _
  rw[dK,mc];exact PU O λb u=>Vl _ _ _ _ (by cases u;exact q)
 .rw [Lb (by omega),an (by omega)]
  by_cases e:j+1=l.length
  .have Z:j+1=(Zb l λs=> {s with ab:=s.ab++[⟨n,m⟩]}).length:=by rw[XY hl];exact e
   have a:=M (h.sch.dat j c H o v);rw[XO e]at a
   rw[XO Z,JW]
   match c,o with
   |0,_=>exact a
   |1,_=>exact a
   |2,_=>exact a
   |3,_=>exact a
   |4,_=>exact a
   |5,_=>exact a
   |6,_=>exact absurd ⟨e,rfl⟩ v
   |7,_=>exact a
   |8,_=>exact a
   |9,_=>exact a
  .rw [jE (by omega)]
   exact M (h.sch.dat j c H o λI=>e I.1)
 .rw [Lb (by omega),av (by omega)]
 .have B:i<((G4 l).ab++[(⟨n,m⟩:aG)]).length:=B
  rw[dK,mc]at B
  by_cases e:i<(G4 l).ab.length
  .have A:gl ((G4 l).ab++[(⟨n,m⟩:aG)]) i=gl (G4 l).ab i:=by
    unfold gl;rw[aY,iB e, <-aY]
   rw[kd (by omega),kd (by omega)];show _=Value.int .i64 (gl ((G4 l).ab++[(⟨n,m⟩:aG)]) i).dX/\_=Value.int .i64 (gl ((G4 l).ab++[(⟨n,m⟩:aG)]) i).de
   rw[A];exact h.sch.bdt i e
  .obtain rfl:i=(G4 l).ab.length:=by omega
   have A:gl ((G4 l).ab++[(⟨n,m⟩:aG)]) (G4 l).ab.length=⟨n,m⟩:=by
    unfold gl;rw[aY,iY (di _)];simp
   show _=Value.int .i64 (gl ((G4 l).ab++[(⟨n,m⟩:aG)]) _).dX/\_=Value.int .i64 (gl ((G4 l).ab++[(⟨n,m⟩:aG)]) _).de;rw[A, <-K]
   exact⟨Lc (i:=0),Lc (i:=1)⟩
 .cases I
  rw[hg]at e;exact q (ic e).symm
theorem et.res(h:et X w R l k lv bv xs ys W):aA W (λb=>X b\/b=R) lv (DL l):=by
 have s:xs.length=l.length*10:=h.sch.row.1;unfold DL
 rcases h.sch.row.2 with ⟨o,t⟩|⟨g,q,a,o,z,x,y,A,f,d⟩
 .rw [o,t];exact .nil _ _ _
 .rw [o]
  refine .lst g 0 l.length q a DW (0,0) (LF l) 10 (λe=>e.elim (λe=>by have:=h.sch.x0 g e;omega) λe=>by omega) x y (by omega) (λi p=>rfl) λi j p r=>?_
  have e:a.getD (0+(i*10+j)) undef=xs.getD (i*10+j) undef:=by
   rw[<-d,aY,mV (by omega),hU,mI,eH]
  rw[e]
  by_cases f:i+1=l.length/\j=6
  .obtain ⟨d,rfl⟩:=f
   rw[h.sch.lst i d,XO d];exact h.sch.brd (λc u e=>by have:=Vn h.sch.brs u;exact e.elim (λe=>by have:=h.sch.x0 c e;omega) λe=>by omega) λi p=>rfl
  .exact (h.sch.dat i j p r f).mono λb _ v=>⟨rfl,λe=>v (e.imp_right .inl)⟩
theorem et.own(h:et X w R l k lv bv xs ys W)(hl:l≠[]):∃g cp,lv=.slice (some ⟨g,0,none⟩) l.length cp/\R<g/\g<W.heap.size:=by
 rcases h.sch.row.2 with ⟨_,e⟩|⟨g,a,b,d,f,c,_⟩
 .exact absurd (List.length_eq_zero_iff.1 e) hl
 .exact ⟨g,a,d,f,J4 c⟩
theorem et.cellR(h:et X w R l k lv bv xs ys W):W.cell? ⟨R,0,none⟩=some lv/\W.cell? ⟨R,1,none⟩=some (.int .i64 k)/\W.frozen? ⟨R,0,none⟩=false/\W.frozen? ⟨R,1,none⟩=false:=by
 obtain⟨T,a⟩:=h.cel;exact⟨by simp[World.cell?,a],by simp[World.cell?,a],by simp[World.frozen?,a],by simp[World.frozen?,a]⟩
theorem et.cellS(h:et X w R l k lv bv xs ys W){g:Nat}(hg:lv.ownBlock=some g){p:Nat}(hp:p<l.length*10):W.cell? ⟨g,p,none⟩=some (xs.getD p undef)/\W.frozen? ⟨g,p,none⟩=false:=by
 rcases h.sch.row.2 with ⟨rfl,r⟩|⟨q,i,a,rfl,s,c,j,o,d,f⟩
 .cases hg
 .cases hg
  have e:a.getD p undef=xs.getD p undef:=by
   rw[<-f,aY,mV (by omega),hU,mI]
  have b:p<a.size:=by rw[d];exact fH hp (eu _ j)
  exact⟨by rw[<-e];simp[World.cell?,c,b],by simp[World.frozen?,c]⟩
theorem et.bvAt(h:et X w R l k lv bv xs ys W)(hl:l≠[]):xs.getD ((l.length-1)*10+6) undef=bv:=h.sch.lst _ (by have:=fS.2 hl;omega)
end
theorem qa{f:Nat}{r:ai}(h:J7 Tryz.prog f args [] r [])(hX:XL W X)(hs:vs.size=args.length)(ha:∀ j,j<args.length->∀ C,aQ W X (fun _=>undef) C (vs.getD j undef) (args.getD j .any)):
  Calls Tryz.prog f vs W λe w'=>∃v η' C,e=.returned v/\aQ w' X η' C v r/\aM V7 W w':=by
 refine(h W X (λ_=>undef) vs hX (λb ⟨i,o,a,_⟩=>by cases a) (λi o a=>by cases a) (λi j b a=>absurd rfl a) hs (λj g=>ha j g _)).mono ?_;rintro e w' ⟨v,η',p,d⟩
 have c:=d.res;rw[qH]at c
 exact⟨v,η',_,p,c,d.stp.mono λb _ q=>by obtain⟨i,o,a,_⟩:=q;cases a⟩
section
variable {v:Value}
theorem LQ{n:Int}(h:aX W X η C v (ci n)):v=.int .i64 n:=by
 cases h with|d _ _ h=>cases h;rfl
theorem qU(h:dy W X η C v (.c (.d d))):aA W X v d:=by
 cases h with|c _ _ h=>cases h with|d _ _ h=>exact h
theorem qT{n:Int}(h:dy W X η C v (.c (ci n))):v=.int .i64 n:=by
 cases h with|c _ _ h=>exact LQ h
theorem jL{n:Int}{b:aH}(h:aQ W X η C v (.t [.c (ci n),.c (.d b)])):∃u,v=.tuple #[.int .i64 n,u]/\aA W X u b:=by
 cases h with|t us _ hs hj=>
  rw[qm hs,qT (hj 0 Nat.zero_lt_two)];exact⟨_,rfl,qU (hj 1 Nat.one_lt_two)⟩
end
theorem Z7U{b:Bool}(h:UD F s=some b)(hg:GL W V7):Calls Tryz.prog 61 #[.string s] W λe w'=>e=.returned (.bool b)/\aM V7 W w':=by
 refine(qa (RI h) ⟨λb f=>f.elim,hg⟩ rfl (λj a C=>?_)).mono λe w' ⟨v,η',C,he,hr,st⟩=>⟨?_,st⟩
 .have a:j<1:=a
  obtain rfl:j=0:=by omega
  exact PS
 .rw [he]
  cases hr with|v _ _ h=>cases h with|c _ _ h=>cases h with|d _ _ h=>cases h;rfl
theorem gt{lo hi:Int}(h:Yy F s lo hi=some r)(hg:GL W V7):Calls Tryz.prog 88 #[.string s,.int .i64 lo,.int .i64 hi] W λe w'=>e=.returned (.tuple #[.int .i64 r.1,.bool r.2])/\aM V7 W w':=by
 refine(qa (qM h) ⟨λb d=>d.elim,hg⟩ rfl (λj a C=>?_)).mono λe w' ⟨v,η',C,he,hr,st⟩=>⟨?_,st⟩
 .have a:j<3:=a
  match j,a with
  |0,_=>exact PS
  |1,_=>exact vH
  |2,_=>exact vH
 .obtain ⟨u,rfl,c⟩:=jL hr
  rw[he];cases c;rfl
theorem gq(h:Yy F s 0 268435456=some r)(hg:GL W V7):Calls Tryz.prog 96 #[.string s] W λe w'=>e=.returned (.tuple #[.int .i64 r.1,.bool r.2])/\aM V7 W w':=by
 go_enter Tryz.func96,Tryz.ntmps96
 go_wp2_with (go_at_call 88;refine(gt h hg).mono ?_;rintro e w' ⟨rfl,st⟩)
 go_ret2
 exact⟨rfl,st⟩
theorem Z7V{l:χ}{r:Int×Int}(h:Ko F l=some r)(hg:GL W V7){v:Value}(hv:aA W V7 v (DL l)):Calls Tryz.prog 32 #[v] W λe w'=>e=.returned (.tuple #[.int .i64 r.1,.int .i64 r.2])/\aM V7 W w':=by
 refine(qa (yi h) ⟨λb d=>d.elim,hg⟩ rfl (λj a C=>?_)).mono λe w' ⟨v,η',C,he,hr,st⟩=>⟨?_,st⟩
 .have a:j<1:=a
  obtain rfl:j=0:=by omega
  exact HT hv
 .obtain ⟨u,rfl,c⟩:=jL hr
  rw[he];cases c;rfl
theorem Z7T{F:Nat}{ws:ε}{p:aj×ε×Int}(h:Pk F ws=some p){W:World}{X:ξ}(hX:XL W X){v:Value}(hv:aA W X v (DL ws)):
  Calls Tryz.prog 173 #[v] W λe w'=>∃kv rv,e=.returned (.tuple #[.agg #[.int .i64 p.1.aw,.int .i64 p.1.ao,.int .i64 p.1.ak,kv],rv,.int .i64 p.2.2])/\aA w' X kv (DL p.1.ae)/\aA w' X rv (DL p.2.1)/\aM V7 W w':=by
 refine(qa (R6 h) hX rfl (λj c C=>?_)).mono λe w' ⟨v,η',C,he,hr,st⟩=>?_
 .have c:j<1:=c
  obtain rfl:j=0:=by omega
  exact HT hv
 .cases hr with|t us _ hs c=>
   have b:=c 0 (by show 0<3;omega);rw[Ad hs,qT (c 2 (by show 2<3;omega))]at he
   generalize us.getD 0 undef=a at b he;have b:dy w' X η' C a (.g [ci p.1.aw,ci p.1.ao,ci p.1.ak,.d (DL (α:=aj) p.1.ae)]):=b
   cases b with|g us _ b=>
    obtain⟨l⟩:=us;obtain⟨u0,u1,u2,u3,rfl⟩:∃u0 u1 u2 u3,l=[u0,u1,u2,u3]:=by
     match l,b.1 with
     |[u0,u1,u2,u3],_=>exact⟨u0,u1,u2,u3,rfl⟩
    obtain rfl:u0=.int .i64 p.1.aw:=LQ (b.2 0 (by show 0<4;omega));obtain rfl:u1=.int .i64 p.1.ao:=LQ (b.2 1 (by show 1<4;omega))
    obtain rfl:u2=.int .i64 p.1.ak:=LQ (b.2 2 (by show 2<4;omega));have f:aX w' X η' C u3 (.d (DL p.1.ae)):=b.2 3 (by show 3<4;omega)
    refine⟨u3,_,he,?_,qU (c 1 (by show 1<3;omega)),st⟩
    cases f with|d _ _ f=>exact f
theorem xi{v:Value}(h:w.cell? a=some v):a.block<w.heap.size:=by
 rcases eK a.block w.heap.size with q|q
 .exact q
 .simp [World.cell?,pu q]at h
structure WS (W:World) (v:Value) (ws:ε) (b off cap:Nat):Prop where
 eq:v=.slice (some ⟨b,off,none⟩) ws.length cap
 aT:∀i,i<ws.length->W.cell? ⟨b,off+i,none⟩=some (.string (gl ws i))
theorem WS.of{v:Value}{ws:ε}(h:aA W X v (DL ws))(hn:ws≠[]):∃b off cap,WS W v ws b off cap:=by
 unfold DL at h;have d:=fS.2 hn
 generalize hl:ws.length=n at h d
 cases h with
 |nil=>omega
 |lst b off _ cap c e fz _ es h1 h2 h3 h4 h5 h6=>
  obtain rfl:es=1:=(h5 0 d).symm;refine⟨b,off,cap,by rw[hl],λi f=>?_⟩
  rw[hl]at f;have a:=h6 i 0 f (by omega)
  have j:(LF ws i).getD 0 .any=.str (gl ws i):=rfl;rw[j]at a
  have g:off+i<c.size:=by omega
  have:c.getD (off+(i*1+0)) undef=.string (gl ws i):=by
   generalize c.getD (off+(i*1+0)) undef=u at a;cases a;rfl
  rw[show off+(i*1+0)=off+i by omega]at this;simp[World.cell?,h2,g, <-this]
theorem aA.tl{off cap:Nat}{ws:ε}(h:aA W X (.slice (some ⟨b,off,none⟩) n cap) (DL ws))(hn:ws.length=n):aA W X (.slice (if cap=1 then some ⟨b,off,none⟩else some ⟨b,off+1,none⟩) (n-1) (cap-1)) (DL (ws.drop 1)):=by
 have d:(ws.drop 1).length=n-1:=by rw[lu,hn]
 have g:∀i,LF (ws.drop 1) i=LF ws (i+1):=λi=>by
  unfold LF;rw[aY,aY,m6,ln]
 unfold DL at h⊢;rw[d,show LF (ws.drop 1)=λi=>LF ws (i+1)from funext g]
 rw[hn]at h;rcases lA (n-1)with a|a
 .rw [a];exact .nil _ _ _
 cases h with
 |nil=>omega
 |lst b off _ cap c e fz _ es h1 h2 h3 h4 h5 h6=>
  rw[an (by omega)];obtain rfl:es=1:=(h5 0 (by omega)).symm
  refine .lst b (off+1) (n-1) (cap-1) c e fz _ 1 h1 h2 (by omega) (by omega) (λi o=>h5 (i+1) (by omega)) λi j o f=>?_
  have:=h6 (i+1) j (by omega) f
  rwa [show off+((i+1)*1+j)=off+1+(i*1+j) by omega]at this
theorem JM(l:List UInt8):(bs l).toList=l:=Lib.toList_data _
attribute [local go_sem] Oper.semAt_some
abbrev pR(R:Nat):Value:=.pointer (some ⟨R,0,none⟩)
def Kc:Nat->Nat
 |0=>40
 |1=>97
 |2=>174
 |3=>235
 |_=>302
abbrev Pm(R n:Nat):Value:=.func (.func (Kc n)) #[pR R] #[]
theorem Vw(h:aM V7 w w'):Below w.heap.size w w':=⟨h.os,h.tape,h.output,h.size,λk a=>h.block k a λh=>h⟩
section
variable {R:Nat}{l:χ}
theorem et.glW(h:et X w R l k lv bv xs ys W)(hg:GL w X):GL W V7:=
 ⟨id,hg.2.elim λe a=>a.elim λfz a=>⟨e,fz,(h.bl.block Wf (J4 a)).trans a⟩⟩
theorem et.xl(h:et X w R l k lv bv xs ys W)(hg:GL w X):XL W (XR X R lv bv):=
 ⟨λb a=>by
  rcases a with e|e|e|e
  .have:=h.lt;have:=h.sch.x0 b e;omega
  .have:=h.lt;omega
  .exact HZ h.sch.row e
  .exact HZ h.sch.brs e,λa=>by
  obtain⟨c,f,fz,d⟩:=hg;have:=J4 d
  have:=h.wo
  rcases a with e|e|e|e
  .exact c e
  .omega
  .have:=Vn h.sch.row e;omega
  .have:=Vn h.sch.brs e;omega,(h.glW hg).2⟩
theorem Z7W(h:et X w R l k lv bv xs ys W):∃ad cp,bv=.slice ad (G4 l).ab.length cp:=by
 rcases h.sch.brs.2 with ⟨e,b⟩|⟨g,c,a,e,_⟩
 .exact ⟨none,0,by rw[e,b]⟩
 .exact ⟨_,_,e⟩
theorem CL(hi:et X w R l k lv bv xs ys W){g cp:Nat}(hlv:lv=.slice (some ⟨g,0,none⟩) n cp)(hn:l.length=n)(hq:q+1=n)(hsm:n<=400):
  Calls Tryz.prog 98 #[pR R] W λe w'=>e=.returned (.pointer (some ⟨g,q*10,none⟩))/\aM V7 W w':=by
 subst hlv;obtain⟨a,_,_,_⟩:=hi.cellR
 have d:W.drew.cell? ⟨R,0,none⟩=some (.slice (some ⟨g,0,none⟩) n cp):=a;have c:wrap64 ((n:Int)-1)=(q:Int):=by unfold wrap64;omega
 have b:(q:Int)<(n:Int):=by omega
 clear hi hn hq hsm
 go_enter Tryz.func98,Tryz.ntmps98
 go_wp2
 go_region
 go_wp2
 go_ret
 exact⟨rfl,aM.drew _ _⟩
theorem Z3p(hi:et X w R l k lv bv xs ys W)(hd:l=[]\/(G4 l).ab≠[])(hsm:l.length<=400):Calls Tryz.prog 41 #[pR R] W λe w'=>e=.returned (.bool true)/\aM V7 W w':=by
 obtain⟨o,_,_,_⟩:=hi.cellR
 by_cases hl:l=[]
 .obtain ⟨ad,h,rfl⟩:∃ ad h,lv=.slice ad 0 h:=by
   rcases hi.sch.row.2 with ⟨e,_⟩|⟨g,z,y,e,_⟩
   .exact ⟨none,0,e⟩
   .exact ⟨_,_,by rw[e,hl];rfl⟩
  clear hi hd hsm
  go_enter Tryz.func41,Tryz.ntmps41
  go_wp2
  go_ret
  exact⟨rfl,aM.refl _ _⟩
 .obtain ⟨g,h,a,_,_⟩:=hi.own hl
  obtain⟨n,hn⟩:∃n,l.length=n:=⟨_,rfl⟩;have j:=fS.2 hl
  obtain⟨q,hq⟩:∃q,q+1=n:=⟨n-1,by omega⟩;rw[hn]at a hsm
  obtain⟨u,r,b⟩:=Z7W hi;obtain⟨m,hm⟩:∃m,(G4 l).ab.length=m:=⟨_,rfl⟩
  have f:=fS.2 (hd.resolve_left hl);rw[hm]at b f
  have t:(0:Int)<(m:Int):=by omega
  have s:¬(n:Int)=0:=by omega
  have x:=CL hi a hn hq hsm;have i:∀d,aM V7 W d->d.cell? ⟨g,q*10+6,none⟩=some (.slice u m r):=λd c=>by
   have:=((hi.stp (Vw c)).cellS (g:=g) (by rw[a];rfl) (p:=q*10+6) (by omega)).1
   rwa [show q*10+6=(l.length-1)*10+6 by omega,hi.bvAt hl,b,show(l.length-1)*10+6=q*10+6 by omega]at this
  rw[a]at o
  clear hd
  go_enter Tryz.func41,Tryz.ntmps41
  go_wp2_with (go_at_call 98;refine x.mono ?_;rintro e d ⟨rfl,c⟩;have A:=i _ c)
  go_ret
  exact⟨rfl,c⟩
end
def YT(X:ξ)(w:World)(R:Nat)(l:χ)(k:Int)(W:World):Prop:=∃lv bv xs ys,et X w R l k lv bv xs ys W
theorem et.opn{R:Nat}{l:χ}(hi:et X w R l k lv bv xs ys W)(hl:l≠[]):∃g cp q n,lv=.slice (some ⟨g,0,none⟩) n cp/\l.length=n/\q+1=n/\l.length-1=q/\R<g/\g<W.heap.size:=by
 obtain⟨g,cp,b,a,c⟩:=hi.own hl;have:=fS.2 hl
 exact⟨g,cp,l.length-1,l.length,b,rfl,by omega,rfl,a,c⟩
theorem DF{o:Go.Obj}:aM V7 w (w.alloc o):=aM.alloc V7 _ _
section
variable {R:Nat}{l:χ}{ws:ε}{v:Value}
theorem et.wsX(h:et X w R l k lv bv xs ys W)(hw:aA w X v (DL ws)):aA W (XR X R lv bv) v (DL ws):=by
 have d:=h.wo;refine hw.mono λb c a=>⟨h.bl.block b c,λe=>?_⟩
 rcases e with e|e|e|e
 .exact a e
 .omega
 .have:=Vn h.sch.row e;omega
 .have:=Vn h.sch.brs e;omega
theorem et.wsB(h:et X w R l k lv bv xs ys W)(hw:aA w X v (DL ws))(hne:ws≠[]):∃b off cap n,v=.slice (some ⟨b,off,none⟩) n cap/\ws.length=n/\b<w.heap.size/\∀i,i<ws.length->W.cell? ⟨b,off+i,none⟩=some (.string (gl ws i)):=by
 obtain⟨b,off,cap,e,d⟩:=WS.of (hw.mono λb c _=>⟨rfl,λh=>h⟩:aA w V7 v (DL ws)) hne;have c:b<w.heap.size:=by
  have:=d 0 (fS.2 hne)
  exact xi this
 exact⟨b,off,cap,_,e,rfl,c,λi f=>(World.cell?_of_block (a:=⟨b,off+i,none⟩) (h.bl.block b c)).trans (d i f)⟩
end
theorem KR{v:Value}(st:aM V7 w w')(h:w.cell? a=some v):w'.cell? a=some v:=
 (World.cell?_of_block (st.block a.block (xi h) λh=>h)).trans h
theorem DE{p:ξ}(h0:p 0)(h1:p 1)(h2:p 2)(h3:p 3)(h4:p 4)(h5:p 5)(h7:p 7)(h8:p 8)(h9:p 9):∀j,j<10->j≠6->p j
 |0,_,_=>h0
 |1,_,_=>h1
 |2,_,_=>h2
 |3,_,_=>h3
 |4,_,_=>h4
 |5,_,_=>h5
 |6,_,h=>absurd rfl h
 |7,_,_=>h7
 |8,_,_=>h8
 |9,_,_=>h9
 |n+10,h,_=>absurd h (by omega)
theorem et.putT{R:Nat}{l:χ}(h:et X w R l k lv bv xs ys W)(hl:l≠[]){g:Nat}(hg:lv.ownBlock=some g)(hq:l.length-1=q)(hk:aA W (XR X R lv bv) kv (DL t.ae)):
  YT X w R (Zb l λs=> {s with az:=t}) k ((((W.setCell ⟨g,q*10+2,none⟩ (.int .i64 t.aw)).setCell ⟨g,q*10+3,none⟩ (.int .i64 t.ao)).setCell ⟨g,q*10+4,none⟩ (.int .i64 t.ak)).setCell ⟨g,q*10+5,none⟩ kv):=by
 have j : ∀{W W' : World} {x d},aA W (XR X R lv bv) x d->(∀b,b≠g->W'.heap[b]?=W.heap[b]?)->aA W' (XR X R lv bv) x d:=λi hq=>i.mono λb a i=>⟨hq b λe=>i (.inr (.inr (.inl (by rw[e];exact hg)))),i⟩
 have r:=h.set hl (c:=2) (by omega) (by omega) hg (.int .i64 t.aw) (f:=λs=> {s with az:= {s.az with aw:=t.aw}}) (DE rfl rfl rfl rfl rfl rfl rfl rfl rfl) rfl;have p:=r.set Gf (c:=3) (by omega) (by omega) hg (.int .i64 t.ao) (f:=λs=> {s with az:= {s.az with ao:=t.ao}}) (DE rfl rfl rfl rfl rfl rfl rfl rfl rfl) rfl
 have u:=p.set Gf (c:=4) (by omega) (by omega) hg (.int .i64 t.ak) (f:=λs=> {s with az:= {s.az with ak:=t.ak}}) (DE rfl rfl rfl rfl rfl rfl rfl rfl rfl) rfl;have o:=u.set Gf (c:=5) (by omega) (by omega) hg (j hk λb a=>((Vl _ _ _ _ a).trans (Vl _ _ _ _ a)).trans (Vl _ _ _ _ a)) (f:=λs=> {s with az:= {s.az with ae:=t.ae}}) (DE rfl rfl rfl rfl rfl rfl rfl rfl rfl) rfl
 simp only[XY hl,XY Gf,hq,Q7P]at o;cases t
 exact⟨_,_,_,_,o⟩
theorem Nx{l:χ}{ws:ε}(h0:gl ws 0=Ur)(hne:ws≠[])(hp:Pk F (ws.drop 1)=some (t,[],0)){R:Nat}(hi:YT X w R l k W)(hl:l≠[])(hsm:l.length<=400)(hg:GL w X){v:Value}(hw:aA w X v (DL ws)):
  Calls Tryz.prog 97 #[pR R,v] W λe w'=>e=.returned (.tuple #[Pm R 2,.int .i64 0])/\YT X w R (Zb l λs=> {s with az:=t}) k w':=by
 obtain⟨lv,bv,xs,ys,hi⟩:=hi;obtain⟨g,cp,q,n,o,hn,hq,P,c4,c3⟩:=hi.opn hl
 have V:=hi.wsX hw;obtain⟨Y,r,A,M,rfl,z,b2,hc⟩:=hi.wsB hw hne
 have c0:W.cell? ⟨Y,r,none⟩=some (.string Ur):=by have:=hc 0 (fS.2 hne);rwa [fU,h0]at this
 have c2:0<M:=by rw[<-z];exact fS.2 hne
 have a5:(0:Int)<(M:Int):=by omega
 have a4:(1:Int)<=(M:Int):=by omega
 have K:=λv hv=>Z7T (v:=v) hp (hi.xl hg) hv
 have H:∀i,aM V7 W i->Calls Tryz.prog 98 #[pR R] i λe w'=>e=.returned (.pointer (some ⟨g,q*10,none⟩))/\aM V7 i w':=λi x=>CL (hi.stp (Vw x)) o hn hq (by omega)
 unfold Ur at c0;have Z:=JM [105,102]
 go_enter Tryz.func97,Tryz.ntmps97
 obtain⟨nk,hnk⟩:∃nk,t.ae.length=nk:=⟨_,rfl⟩
 go_wp2_with (go_at_call 173;refine(K _ (V.tl z)).mono ?_;rintro e i ⟨kv,rv,rfl,J,u,G⟩;generalize Value.slice (if A=1 then(some ⟨Y,r,none⟩:Option Addr)else some ⟨Y,r+1,none⟩) (M-1) (A-1)=sv;obtain⟨ra,rc,rfl⟩:∃a c,rv=.slice a 0 c:=(by unfold DL at u;cases u<;>exact⟨_,_,rfl⟩);obtain⟨ka,kc,rfl⟩:∃a c,kv=.slice a nk c:=(by unfold DL at J;rw[hnk]at J;cases J<;>exact⟨_,_,rfl⟩))
 obtain⟨b6,hb6⟩:∃b,i.heap.size=b:=⟨_,rfl⟩;obtain⟨w2,hw2⟩:∃w2,i.alloc (.cells #[.int .i64 t.aw,.int .i64 t.ao,.int .i64 t.ak,.slice ka nk kc] 71)=w2:=⟨_,rfl⟩
 have a2:w2.heap[b6]?=some (.cells #[.int .i64 t.aw,.int .i64 t.ao,.int .i64 t.ak,.slice ka nk kc] 71 (0,0)):=by rw[<-hw2, <-hb6];exact World.alloc_heap_new _ _
 have f:aM V7 i w2:=by rw[<-hw2];exact DF
 have p:=G3 G f;have U:aA w2 (XR X R lv bv) (.slice ka nk kc) (DL t.ae):=J.mono λb S T=>⟨f.block b S λh=>h,T⟩
 rw[hb6,hw2]
 clear hw2 hb6 J u f G K c0 Z
 have O:=G3 p (WR w2);have cb:∀w',aM V7 w2 w' -> w'.cell? ⟨b6,0,none⟩=some (.int .i64 t.aw)/\w'.cell? ⟨b6,1,none⟩=some (.int .i64 t.ao)/\w'.cell? ⟨b6,2,none⟩=some (.int .i64 t.ak)/\w'.cell? ⟨b6,3,none⟩=some (.slice ka nk kc):=λw' x=>by
  have h:=(x.block b6 (J4 a2) λh=>h).trans a2;refine⟨?_,?_,?_,?_⟩<;>simp[World.cell?,h]
 have L:∀w',aM V7 w2 w' -> ∀j,j<10->w'.cell? ⟨g,q*10+j,none⟩=some (xs.getD (q*10+j) undef)/\w'.frozen? ⟨g,q*10+j,none⟩=false:=λw' x j hj=>(hi.stp (Vw (G3 p x))).cellS (by rw[o];rfl) (by omega)
 obtain⟨p0,p1,p2,p3⟩:=cb _ (WR w2);apply iy (Q:=(λ(B:Act) e a' W'=>match e with|.normal=>∃y,a'=B/\aM V7 w2 y/\W'=((((y.setCell ⟨g,q*10+2,none⟩ (.int .i64 t.aw)).setCell ⟨g,q*10+3,none⟩ (.int .i64 t.ao)).setCell ⟨g,q*10+4,none⟩ (.int .i64 t.ak)).setCell ⟨g,q*10+5,none⟩ (.slice ka nk kc))|_=>False) _)
 case h=>
  have b1:Tryz.prog.follows .mixedOrders=true:=by kernel_rfl
  go_region_with_o (go_at_call 98;refine(H _ O).mono ?_;rintro e y ⟨rfl,d⟩;obtain⟨b8,c1,b7,b5⟩:=cb _ (G3 (WR w2) d);obtain⟨s2,f2⟩:=L _ (G3 (WR w2) d) 2 (by omega);obtain⟨s3,f3⟩:=L _ (G3 (WR w2) d) 3 (by omega);obtain⟨s4,f4⟩:=L _ (G3 (WR w2) d) 4 (by omega);obtain⟨s5,f5⟩:=L _ (G3 (WR w2) d) 5 (by omega))
  all_goals exact⟨_,rfl,G3 (WR w2) d,rfl⟩
 intro e a' W8 hh;have I:e=.normal:=by cases e<;>first|rfl|exact(hh:False).elim
 subst I;obtain⟨y,rfl,d,rfl⟩:=hh
 have N:=hi.stp (Vw (G3 p d));have a0:aA y (XR X R lv bv) (.slice ka nk kc) (DL t.ae):=U.mono λb S T=>⟨d.block b S λh=>h,T⟩
 simp only[Exit.then]
 go_wp2
 go_ret2
 refine⟨rfl,?_⟩;exact N.putT hl (by rw[o];rfl) P a0
attribute [local go_sem ↓] app_hide
theorem Z3j{F:Nat}{l:χ}{k:Int}{ws:ε}{n m:Int}(h0:gl ws 0=Vq)(h3:ws.length=3)(hn1:Yy F (gl ws 1) 0 268435456=some (n,true))(hm1:Yy F (gl ws 2) 0 268435456=some (m,true)){X:ξ}{w W:World}{R:Nat}(hi:YT X w R l k W)(hl:l≠[])(hsm:l.length<=400)(hsb:(G4 l).ab.length<=400)(hg:GL w X){v:Value}(hw:aA w X v (DL ws)):
  Calls Tryz.prog 174 #[pR R,v] W λe w'=>e=.returned (.tuple #[Pm R 3,.int .i64 0])/\YT X w R (Zb l λs=> {s with ab:=s.ab++[⟨n,m⟩]}) k w':=by
 obtain⟨lv,bv,xs,ys,hi⟩:=hi;obtain⟨g,G,q,nl,I,hn,hq,y,a8,a6⟩:=hi.opn hl
 obtain⟨S,z,b1,nw,rfl,P,a7,U⟩:=hi.wsB hw (by rintro rfl;cases h3);obtain rfl:nw=3:=P.symm.trans h3
 have c0:W.cell? ⟨S,z,none⟩=some (.string Vq):=by have:=U 0 (by omega);rwa [fU,h0]at this
 have c1:W.cell? ⟨S,z+1,none⟩=some (.string (gl ws 1)):=U 1 (by omega);have c2:W.cell? ⟨S,z+2,none⟩=some (.string (gl ws 2)):=U 2 (by omega)
 have i:=hi.glW hg;have x:=gq hn1 i
 have t:∀b,aM V7 W b->_:=λb (j:aM V7 W b)=>gq hm1 (j.gl i)
 have f:∀b,aM V7 W b->Calls Tryz.prog 98 #[pR R] b λe w'=>e=.returned (.pointer (some ⟨g,q*10,none⟩))/\aM V7 b w':=λb j=>CL (hi.stp (Vw j)) I hn hq (by omega)
 have u:lv.ownBlock=some g:=by rw[I];rfl
 have H:∀b,aM V7 W b->b.cell? ⟨g,q*10+6,none⟩=some bv:=λb j=>by
  have:=((hi.stp (Vw j)).cellS u (p:=q*10+6) (by omega)).1
  rwa [<-y,hi.bvAt hl,y]at this
 have M:∀A K,aM V7 W A->K=A.alloc (.cells #[.int .i64 n,.int .i64 m] Ra)->∃B G o,(appH #[74,74] 74 #[bv,.slice (some ⟨A.heap.size,0,none⟩) 1 1]).run Tryz.prog K=.ok (.slice (some ⟨B,0,none⟩) ((G4 l).ab.length+1) G) o/\o.cell? ⟨g,q*10+6,none⟩=some bv/\o.frozen? ⟨g,q*10+6,none⟩=false/\YT X w R (Zb l λs=> {s with ab:=s.ab++[⟨n,m⟩]}) k (o.setCell ⟨g,q*10+6,none⟩ (.slice (some ⟨B,0,none⟩) ((G4 l).ab.length+1) G)):=λA K j e=>by
  have J:aM V7 W K:=by rw[e];exact G3 j DF
  have V:=hi.stp (Vw J);obtain⟨B,G,o,Y,hR,Z,L⟩:=V.rapp hl (nb:=A.heap.size) (T:=Ra) (by rw[e];exact World.alloc_heap_new _ _) hsb u
  rw[y]at L;have c5:=V.cellS u (p:=q*10+6) (by omega)
  exact⟨B,G,o,Y,(World.cell?_of_block (a:=⟨g,q*10+6,none⟩) Z).trans (H _ J),(World.frozen?_of_block (a:=⟨g,q*10+6,none⟩) Z).trans c5.2,_,_,_,_,L⟩
 unfold Vq at c0;have a9:=JM [114,97,116,101]
 go_enter Tryz.func174,Tryz.ntmps174
 go_wp2_with (first
  |(go_at_call 96;refine x.mono ?_;rintro e b ⟨rfl,r⟩;have a3:=KR r c2)
  |(go_at_call 96;refine(t _ r).mono ?_;rintro e w2 ⟨rfl,N⟩;have c:=G3 r N)
  |(go_at_call 98;refine(f _ c).mono ?_;rintro e w3 ⟨rfl,O⟩;have d:=G3 c O)
  |(go_at_call 98;refine(f _ d).mono ?_;rintro e A ⟨rfl,Q⟩;have h:=G3 d Q;have b4:=H _ h;obtain⟨B,a2,o,Y,b9,f9,L⟩:=M _ _ h rfl))
 go_ret2
 exact⟨rfl,L⟩
theorem M2{F:Nat}{l:χ}{ws:ε}{n m:Int}(h0:gl ws 0=VM)(h4:ws.length=4\/ws.length=5/\gl ws 4=Mh)(hnm:UD F (gl ws 2)=some true)(hn1:Yy F (gl ws 1) 0 15=some (n,true))(hm1:Yy F (gl ws 3) 0 268435456=some (m,true)){k:Int}{X:ξ}{w W:World}{R:Nat}(hi:YT X w R l k W)(hsm:l.length<=400)(hg:GL w X){v:Value}(hw:aA w X v (DL ws)):
  Calls Tryz.prog 40 #[pR R,v] W λe w'=>e=.returned (.tuple #[Pm R 1,.int .i64 0])/\YT X w R (l++[⟨n,gl ws 2,⟨0,0,0,[]⟩,[],m,0,ws.length==5⟩]) (-1) w':=by
 obtain⟨lv,bv,xs,ys,hi⟩:=hi;obtain⟨r,d,b2,P,rfl,B,a8,t⟩:=hi.wsB hw (by rintro rfl;simp at h4)
 have Y:W.cell? ⟨r,d,none⟩=some (.string VM):=by have:=t 0 (by omega);rwa [fU,h0]at this
 have c1:W.cell? ⟨r,d+1,none⟩=some (.string (gl ws 1)):=t 1 (by omega);have c2:W.cell? ⟨r,d+2,none⟩=some (.string (gl ws 2)):=t 2 (by omega)
 have c3:W.cell? ⟨r,d+3,none⟩=some (.string (gl ws 3)):=t 3 (by omega);have q:=hi.glW hg
 have A:=Z7U hnm q;have z:∀a,aM V7 W a->_:=λa (x:aM V7 W a)=>gt hn1 (x.gl q)
 have G:∀a,aM V7 W a->_:=λa (x:aM V7 W a)=>gq hm1 (x.gl q)
 have y:∀ (i:Bool) a H,(ws.length==5)=i->aM V7 W a->H=(a.alloc (.cells #[.int .i64 n,.string (gl ws 2),.int .i64 0,.int .i64 0,.int .i64 0,.slice none 0 0,.slice none 0 0,.int .i64 m,.int .i64 0,.bool i] DW)).drew ->
   ∃g I j,(appH #[30,30] 30 #[lv,.slice (some ⟨a.heap.size,0,none⟩) 1 1]).run Tryz.prog H=.ok (.slice (some ⟨g,0,none⟩) (l.length+1) I) j/\(j.cell? ⟨R,0,none⟩=some lv/\j.frozen? ⟨R,0,none⟩=false)/\(∀u,(j.setCell ⟨R,0,none⟩ u).cell? ⟨R,1,none⟩=some (.int .i64 k)/\(j.setCell ⟨R,0,none⟩ u).frozen? ⟨R,1,none⟩=false) /\
    YT X w R (l++[⟨n,gl ws 2,⟨0,0,0,[]⟩,[],m,0,i⟩]) (-1) ((j.setCell ⟨R,0,none⟩ (.slice (some ⟨g,0,none⟩) (l.length+1) I)).setCell ⟨R,1,none⟩ (.int .i64 (-1))):=λi a H _ x e=>by
  have M:aM V7 W H:=by rw[e];exact G3 (G3 x DF) (WR _)
  obtain⟨g,I,j,r0,⟨T,p⟩,Z⟩:=(hi.stp (Vw M)).happ (nb:=a.heap.size) (n:=n) (m:=m) (s:=gl ws 2) (b:=i) (T:=DW) (by rw[e];exact World.alloc_heap_new _ _) hsm;refine⟨g,I,j,r0,⟨by simp[World.cell?,p],by simp[World.frozen?,p]⟩,λu=>?_,_,_,_,_,Z⟩
  have O:(j.setCell ⟨R,0,none⟩ u).heap[R]?=some (.cells #[u,.int .i64 k] T (0,0)):=SZ p;exact⟨by simp[World.cell?,O],by simp[World.frozen?,O]⟩
 obtain⟨p0,_,_,_⟩:=hi.cellR;have b0:=JM [115,99,104,101,109,101]
 unfold VM at Y;have Q:=JM [101,110,116,105,116,108,101,100]
 obtain⟨i,hb5,hx⟩:∃i,(ws.length==5)=i/\(P=4/\i=false\/P=5/\i=true/\W.cell? ⟨r,d+4,none⟩=some (.string (bs [101,110,116,105,116,108,101,100]))):=by
  rcases h4 with h4|⟨h4,h5⟩
  .exact ⟨false,by rw[h4];rfl,.inl ⟨B.symm.trans h4,rfl⟩⟩
  .exact ⟨true,by rw[h4];rfl,.inr ⟨B.symm.trans h4,rfl,by rw[<-show gl ws 4=bs [101,110,116,105,116,108,101,100]from h5];exact t 4 (by omega)⟩⟩
 rw[hb5]
 clear hw t h4
 rcases hx with ⟨rfl,rfl⟩|⟨rfl,rfl,c4⟩
 all_goals
  go_enter Tryz.func40,Tryz.ntmps40
  go_wp2_with (first
   |(go_at_call 61;refine A.mono ?_;rintro e a ⟨rfl,o⟩;have b1:=KR o c1)
   |(go_at_call 88;refine(z _ o).mono ?_;rintro e w2 ⟨rfl,K⟩;have f:=G3 o K;have U:=KR f c3)
   |(go_at_call 96;refine(G _ f).mono ?_;rintro e J ⟨rfl,L⟩;have h:=G3 f L))
  have N:J.cell? ⟨R,0,none⟩=some lv:=KR h p0;have a0:J.cell? ⟨r,d+2,none⟩=some (.string (gl ws 2)):=KR h c2
  have pA:∀c T,(J.alloc (.cells c T)).cell? ⟨R,0,none⟩=some lv:=λc T=>KR DF N
  obtain⟨gb,V,S,rb,⟨bb,fb⟩,nb,eb⟩:=y _ J _ hb5 h rfl;obtain⟨z1,z2⟩:=nb (.slice (some ⟨gb,0,none⟩) (l.length+1) V)
  clear y A z G hi
  go_region
  simp only[Exit.then]
  go_wp2
  go_ret2
  exact⟨rfl,eb⟩
end Go.Ab
namespace Go.Ab
open Go.Proofs Go.RowKit
variable {a:Act}{s:ByteArray}{Q:Exit->Act->World->Prop}{k n:Int}{L:List ε}{r:List ε×Int}{F j:Nat}{X:ξ}{z':Nat×χ×Int}{ad:Option Addr}{P:Program}{W w:World}
attribute [local go_sem] Oper.semAt_some
theorem Z0H(h0:0<=n)(h1:n<=15):IntKind.i64.wrap (2 ^ n.toNat)=(1:Int)*2 ^ (min n.toNat (IntKind.bits .i64)):=by
 obtain⟨m,rfl⟩:∃m:Nat,n=m:=⟨n.toNat,by omega⟩;rw[dh]
 have a:m<=15:=by omega
 have:∀m:_root_.Fin 16,IntKind.i64.wrap (2 ^ m.val)=(1:Int)*2 ^ (min m.val (IntKind.bits .i64)):=by decide
 exact this ⟨m,by omega⟩
theorem S5{lo hi:Int}(h:Yy F s lo hi=some (n,true)):lo<=n/\n<=hi:=by
 unfold Yy at h;split at h
 .obtain ⟨_,h⟩:=Zf h
  split at h
  .cases h;assumption
  .cases h
 .cases h
theorem L6{l:χ}{ws:ε}(h0:gl ws 0=UR)(h2:ws.length=2)(hk : -1<=k/\k<=15)(hn1:Yy F (gl ws 1) (k+1) 15=some (n,true)){R:Nat}(hi:YT X w R l k W)(hl:l≠[])(hsm:l.length<=400)(hg:GL w X){v:Value}(hw:aA w X v (DL ws)):
  Calls Tryz.prog 302 #[pR R,v] W λe w'=>e=.returned (.tuple #[Pm R 4,.int .i64 0])/\YT X w R (Zb l λs=> {s with ah:=K4 .i64 s.ah ((1:Int)*2 ^ (min n.toNat (IntKind.bits .i64)))}) n w':=by
 obtain⟨lv,bv,xs,ys,hi⟩:=hi;obtain⟨g,cp,q,nl,t,hn,hq,O,a4,a2⟩:=hi.opn hl
 obtain⟨V,J,a7,nw,rfl,P,a3,Y⟩:=hi.wsB hw (by rintro rfl;cases h2);obtain rfl:nw=2:=P.symm.trans h2
 have Z:W.cell? ⟨V,J,none⟩=some (.string UR):=by have:=Y 0 (by omega);rwa [fU,h0]at this
 have c1:W.cell? ⟨V,J+1,none⟩=some (.string (gl ws 1)):=Y 1 (by omega);have H:=hi.glW hg
 have G:IntKind.i64.wrap (k+1)=k+1:=qJ ⟨by omega,by omega⟩;have I:=hn1
 rw[<-G]at I;have N:∀d,aM V7 W d->_:=λd (j:aM V7 W d)=>gt I (j.gl H)
 clear G
 obtain⟨p0,p1,f0,f1⟩:=hi.cellR;unfold UR at Z
 have a5:=JM [110,111,116];obtain⟨n0,L⟩:=S5 hn1
 have r:lv.ownBlock=some g:=by rw[t];rfl
 have z:∀d,aM V7 W d->Calls Tryz.prog 98 #[pR R] d λe w'=>e=.returned (.pointer (some ⟨g,q*10,none⟩))/\aM V7 d w':=λd j=>CL (hi.stp (Vw j)) t hn hq (by omega)
 have T:xs.getD (q*10+8) undef=.int .i64 (G4 l).ah:=by
  have:=hi.sch.dat q 8 (by omega) (by omega) (by omega)
  rw[XO (by omega)]at this;generalize xs.getD (q*10+8) undef=u at this
  have this:aA W (XR X R lv bv) u (.int .i64 (G4 l).ah):=this
  cases this;rfl
 have cg:∀w',aM V7 W w' -> w'.cell? ⟨g,q*10+8,none⟩=some (.int .i64 (G4 l).ah)/\w'.frozen? ⟨g,q*10+8,none⟩=false:=λw' j=>by
  have:=(hi.stp (Vw j)).cellS r (p:=q*10+8) (by omega)
  rwa [T]at this
 have a8:(0:Int)<=n:=by omega
 go_enter Tryz.func302,Tryz.ntmps302
 go_wp2
 apply iy (Q:=(λ(B:Act) e o W'=>match e with|.normal=>o=B/\aM V7 W W'|_=>False) _)
 case h=>
  have S:Tryz.prog.follows .mixedOrders=true:=by kernel_rfl
  go_region_with_o (go_at_call 88;refine(N _ (WR W)).mono ?_;rintro e i ⟨rfl,a⟩)
  all_goals exact⟨rfl,G3 (WR W) a⟩
 intro e o M A;have b:e=.normal:=by cases e<;>first|rfl|exact(A:False).elim
 subst b;obtain⟨rfl,x⟩:=A
 simp only[Exit.then]
 go_wp2
 have y:=G3 x (WR M);apply iy (Q:=(λ(B:Act) e o W'=>match e with|.normal=>∃i,o=B/\aM V7 M i/\W'=i.setCell ⟨g,q*10+8,none⟩ (.int .i64 (bits BinOp.or .i64 (G4 l).ah (IntKind.i64.wrap (2 ^ n.toNat))))|_=>False) _)
 case h=>
  have S:Tryz.prog.follows .mixedOrders=true:=by kernel_rfl
  go_region_with_o (go_at_call 98;refine(z _ y).mono ?_;rintro e i ⟨rfl,a⟩;obtain⟨s8,f8⟩:=cg _ (G3 y a))
  all_goals exact⟨_,rfl,G3 (WR M) a,rfl⟩
 intro e o W8 A;have b:e=.normal:=by cases e<;>first|rfl|exact(A:False).elim
 subst b;obtain⟨i,rfl,a,rfl⟩:=A
 have K:=(hi.stp (Vw (G3 x a))).set hl (c:=8) (by omega) (by omega) r (.int .i64 (bits BinOp.or .i64 (G4 l).ah (IntKind.i64.wrap (2 ^ n.toNat)))) (f:=λs=> {s with ah:=bits BinOp.or .i64 s.ah (IntKind.i64.wrap (2 ^ n.toNat))}) (DE rfl rfl rfl rfl rfl rfl rfl rfl rfl) rfl;rw[O]at K
 generalize i.setCell ⟨g,q*10+8,none⟩ (.int .i64 (bits BinOp.or .i64 (G4 l).ah (IntKind.i64.wrap (2 ^ n.toNat))))=W9 at K⊢;obtain⟨_,r1,_,r3⟩:=K.cellR
 have U:=K.putk n;rw[Z0H (by omega) L]at U
 simp only[Exit.then]
 go_wp2
 go_ret2
 exact⟨rfl,_,_,_,_,U⟩
section
variable {R:Nat}{l:χ}{ws:ε}{z:Nat×χ×Int}{v:Value}
def Rl(X:ξ)(w:World)(R:Nat)(z:Nat×χ×Int)(e:Ending)(w' : World):Prop:=e=.returned (.tuple #[Pm R z.1,.int .i64 0])/\YT X w R z.2.1 z.2.2 w'
theorem pV(h:Pt F l ws=some z)(hi:YT X w R l k W)(hsm:l.length<=400)(hg:GL w X)(hw:aA w X v (DL ws)):gl ws 0=VM/\Calls Tryz.prog 40 #[pR R,v] W (Rl X w R z):=by
 obtain⟨⟨a,f⟩,h⟩:=Zf h;obtain⟨b,e,h⟩:=YQ h
 obtain⟨rfl,h⟩:=Zf h;obtain⟨⟨n,t⟩,c,h⟩:=YQ h
 obtain⟨rfl,h⟩:=Zf h;obtain⟨⟨m,t⟩,d,h⟩:=YQ h
 obtain⟨rfl,h⟩:=Zf h;cases h
 exact⟨a,M2 a f e c d hi hsm hg hw⟩
theorem sa(h:Jp F l k ws=some z)(hi:YT X w R l k W)(hl:l≠[])(hsm:l.length<=400)(hsb:(G4 l).ab.length<=400)(hg:GL w X)(hw:aA w X v (DL ws)):Calls Tryz.prog 174 #[pR R,v] W (Rl X w R z):=by
 obtain⟨⟨d,c⟩,h⟩:=Zf h;obtain⟨⟨n,t⟩,a,h⟩:=YQ h
 obtain⟨rfl,h⟩:=Zf h;obtain⟨⟨m,t⟩,b,h⟩:=YQ h
 obtain⟨rfl,h⟩:=Zf h;cases h
 exact Z3j d c a b hi hl hsm hsb hg hw
theorem tg(h:WV F l k ws=some z)(hi:YT X w R l k W)(hl:l≠[])(hsm:l.length<=400)(hg:GL w X)(hw:aA w X v (DL ws))(hne:ws≠[]):(gl ws 0=UR\/gl ws 0=VM)/\Calls Tryz.prog 302 #[pR R,v] W (Rl X w R z):=by
 unfold WV at h;split at h
 .rename_i b
  obtain⟨⟨d,f⟩,h⟩:=Zf h;obtain⟨⟨n,t⟩,r,h⟩:=YQ h
  obtain⟨rfl,h⟩:=Zf h;cases h
  exact⟨.inl b,L6 b d f r hi hl hsm hg hw⟩
 .obtain ⟨b,s⟩:=pV h hi hsm hg hw
  refine⟨.inr b,?_⟩;obtain⟨lv,bv,xs,ys,hi⟩:=hi
  obtain⟨q,c,x,j,rfl,i,p,a⟩:=hi.wsB hw hne;have o:W.cell? ⟨q,c,none⟩=some (.string VM):=by have:=a 0 (fS.2 hne);rwa [fU,b]at this
  have g:(0:Int)<(j:Int):=by have:=fS.2 hne;omega
  have u:=JM [115,99,104,101,109,101];unfold VM at o
  clear a hw hi
  go_enter Tryz.func302,Tryz.ntmps302
  go_wp2_with (go_at_call 40;refine s.mono ?_;rintro e w1 ⟨rfl,h9⟩)
  go_ret2
  exact⟨rfl,h9⟩
theorem Z3m(h:(if gl ws 0=Vq then Jp F l k ws else WV F l k ws)=some z)(hi:YT X w R l k W)(hl:l≠[])(hsm:l.length<=400)(hsb:(G4 l).ab.length<=400)(hg:GL w X)(hw:aA w X v (DL ws))(hne:ws≠[]):Calls Tryz.prog 235 #[pR R,v] W (Rl X w R z):=by
 have g:0<(ws.length:Int):=by have:=fS.2 hne;omega
 have i:∀{s:List UInt8},gl ws 0=bs s->∃f a b d,v=.slice (some ⟨f,a,none⟩) d b/\(0:Int)<(d:Int)/\W.cell? ⟨f,a,none⟩=some (.string (bs s)):=λ{s} c=>by
  obtain⟨lv,bv,xs,ys,hi⟩:=hi;obtain⟨f,a,b,d,e,r,u,j⟩:=hi.wsB hw hne
  exact⟨f,a,b,d,e,by omega,by have:=j 0 (fS.2 hne);rwa [fU,c]at this⟩
 split at h
 .rename_i c
  have o:=sa h hi hl hsm hsb hg hw;obtain⟨f,a,b,d,rfl,g,t⟩:=i c
  have p:=JM [114,97,116,101]
  clear hi hw i
  go_enter Tryz.func235,Tryz.ntmps235
  go_wp2_with (go_at_call 174;refine o.mono ?_;rintro e w1 ⟨rfl,h9⟩)
  go_ret2
  exact⟨rfl,h9⟩
 .obtain ⟨c,o⟩:=tg h hi hl hsm hg hw hne
  rcases c with c|c
  all_goals
   obtain⟨f,a,b,d,rfl,g,t⟩:=i c;have p:=JM [110,111,116]
   have q:=JM [115,99,104,101,109,101]
   clear hi hw i c
   go_enter Tryz.func235,Tryz.ntmps235
   go_wp2_with (go_at_call 302;refine o.mono ?_;rintro e w1 ⟨rfl,h9⟩)
   go_ret2
   exact⟨rfl,h9⟩
theorem F4{s:Nat}(h:Uh F (s,l,k) ws=some z)(hi:YT X w R l k W)(hl:s≠0->l≠[])(hsm:l.length<=400)(hsb:(G4 l).ab.length<=400)(hg:GL w X)(hw:aA w X v (DL ws))(hne:ws≠[]):Calls Tryz.prog (Kc s) #[pR R,v] W (Rl X w R z):=by
 match s,h,hl with
 |0,h,_=>exact(pV h hi hsm hg hw).2
 |1,h,hl=>
  obtain⟨d,h⟩:=Zf h;obtain⟨⟨t,r,e⟩,c,h⟩:=YQ h
  obtain⟨⟨b,a⟩,h⟩:=Zf h;cases h
  simp only at b a;subst b a
  exact Nx d hne c hi (hl (by decide)) hsm hg hw
 |2,h,hl=>exact sa h hi (hl (by decide)) hsm hsb hg hw
 |3,h,hl=>exact Z3m h hi (hl (by decide)) hsm hsb hg hw hne
 |s+4,h,hl=>exact(tg h hi (hl (by omega)) hsm hg hw hne).2
end
theorem Z1p{c:Code}(I:Nat->Act->World->Prop)(h:∀m a w,I m a w->c.wp P (Exit.then (λa w=>∃k,m=k+1/\I k a w) Q) a w)(n:Nat)(a:Act)(w:World)(h0:I n a w):(Code.loop c).wp P Q a w:=by
 refine wp_loop_rounds (n+1) ?_
 induction n generalizing a w with
 |zero=>
  refine iy (h 0 a w h0) λe f g b=>?_
  cases e with
  |normal=>obtain⟨k,d,_⟩:=b;cases d
  |_=>exact b
 |succ n ih=>
  refine iy (h (n+1) a w h0) λe f g b=>?_
  cases e with
  |normal=>obtain⟨k,d,i⟩:=b;cases d;exact ih f g i
  |_=>exact b
def Kx(t:Ξ):List (Nat×Value)->Prop
 |[]=>True
 |(i,v)::r=>t.getD i undef=v/\Kx t r
def Fx(n:Nat)(a:Act)(k:List (Nat×Value)):Prop:=a.defers=[]/\a.tmps.size=n/\Kx a.tmps k
theorem Z8v{n:Nat}(h:a.tmps.size=n)(hd:a.defers=[]):∃S:Nat->Value,a=⟨((List.range n).map S).toArray,[]⟩/\∀i,a.tmps.getD i undef=S i:=by
 obtain⟨t,d⟩:=a;obtain rfl:d=[]:=hd
 refine⟨λi=>t.getD i undef,?_,λi=>rfl⟩;congr 1
 refine Array.ext (by simpa using h) λi b c=>?_
 simp[Array.getD,b]
theorem Z7S(h:Vf F s=some r)(hX:XL w X):Calls Tryz.prog 34 #[.string s] w λe w'=>∃v,e=.returned (.tuple #[v,.int .i64 0])/\aA w' X v (DL r.1)/\Below w.heap.size w w':=by
 have g:r.2=0:=by
  unfold Vf at h;split at h<;>cases h
  rfl
 refine(qK h w X (λ_=>undef) #[.string s] hX (λb ⟨i,o,a,_⟩=>by cases a) (λi o a=>by cases a) (λi j b a=>absurd rfl a) rfl (λj c=>?_)).mono λe w' ⟨v,η',he,hb⟩=>?_
 .have c:j<1:=c
  obtain rfl:j=0:=by omega
  exact PS
 .have f:=hb.res
  rw[qH]at f
  cases f with|t us _ hs c=>
   rw[qm hs,qT (c 1 Nat.one_lt_two),g]at he;exact⟨_,he,qU (c 0 Nat.zero_lt_two),hb.stp.os,hb.stp.tape,hb.stp.output,hb.stp.size,λb d=>hb.stp.block b d λ⟨i,o,a,_⟩=>by cases a⟩
theorem Q9h(h:Vf F s=some r):r.1.length<=400:=by
 unfold Vf at h;split at h
 .rename_i a
  have:=a.choose_spec.1.len
  cases h
  rw[fL];exact this
 .cases h
theorem Z4B{n cp:Nat}(h:aA W X (.slice ad n cp) (DL L))(hj:j<L.length):∃b off u c,ad=some ⟨b,off,none⟩/\W.cell? ⟨b,off+j,none⟩=some (.slice u (gl L j).length c)/\aA W X (.slice u (gl L j).length c) (DL (gl L j)):=by
 unfold DL at h;generalize hN:L.length=N at h hj
 cases h with
 |nil=>omega
 |lst b off _ cap c e fz _ es h1 h2 h3 h4 h5 h6=>
  obtain rfl:es=1:=(h5 j hj).symm;have a:=h6 j 0 hj (by omega)
  rw[show off+(j*1+0)=off+j by omega]at a;have a:aA W X (c.getD (off+j) undef) (DL (gl L j)):=a
  obtain⟨u,k,d⟩:=zS (n:=(gl L j).length) (f:=LF (gl L j)) a;refine⟨b,off,u,k,rfl,?_,d ▸ a⟩
  rw[<-d];have:off+j<c.size:=by omega
  simp[World.cell?,h2,this]
theorem OL{z:Nat×χ×Int}{ws:ε}(h:Uh F z ws=some z'):z'.2.1.length<=z.2.1.length+1/\(G4 z'.2.1).ab.length<=(G4 z.2.1).ab.length+1/\z'.2.1≠[]:=by
 have e:∀(l:χ) f,(Zb l f).length<=l.length+1:=λl f=>by unfold Zb;simp
 have a:∀{l:χ} {z'},Pt F l ws=some z' -> z'.2.1.length<=l.length+1/\(G4 z'.2.1).ab.length<=(G4 l).ab.length+1/\z'.2.1≠[]:=λ{l z'} h=>by
  obtain⟨_,h⟩:=Zf h;obtain⟨b,_,h⟩:=YQ h
  obtain⟨_,h⟩:=Zf h;obtain⟨n,_,h⟩:=YQ h
  obtain⟨_,h⟩:=Zf h;obtain⟨m,_,h⟩:=YQ h
  obtain⟨_,h⟩:=Zf h;cases h
  refine⟨by simp,?_,by simp⟩;show(G4 (l++[_])).ab.length<=_
  rw[xq];exact dW _
 have d:∀{l:χ} {k z'},Jp F l k ws=some z' -> z'.2.1.length<=l.length+1/\(G4 z'.2.1).ab.length<=(G4 l).ab.length+1/\z'.2.1≠[]:=λ{l k z'} h=>by
  obtain⟨_,h⟩:=Zf h;obtain⟨n,_,h⟩:=YQ h
  obtain⟨_,h⟩:=Zf h;obtain⟨m,_,h⟩:=YQ h
  obtain⟨_,h⟩:=Zf h;cases h
  dsimp only
  rw[JW];exact⟨e _ _,by simp,Gf⟩
 have c:∀{l:χ} {k z'},WV F l k ws=some z' -> z'.2.1.length<=l.length+1/\(G4 z'.2.1).ab.length<=(G4 l).ab.length+1/\z'.2.1≠[]:=λ{l k z'} h=>by
  unfold WV at h;split at h
  .obtain ⟨_,h⟩:=Zf h
   obtain⟨n,_,h⟩:=YQ h;obtain⟨_,h⟩:=Zf h
   cases h
   dsimp only
   rw[JW];exact⟨e _ _,by exact iA _,Gf⟩
  .exact a h
 obtain⟨s,l,k⟩:=z
 match s with
 |0=>exact a h
 |1=>
  obtain⟨_,h⟩:=Zf h;obtain⟨p,_,h⟩:=YQ h
  obtain⟨_,h⟩:=Zf h;cases h
  dsimp only
  rw[JW];exact⟨e _ _,by exact iA _,Gf⟩
 |2=>exact d h
 |3=>
  have h:(if gl ws 0=Vq then Jp F l k ws else WV F l k ws)=some z':=h;split at h
  .exact d h
  .exact c h
 |s+4=>exact c h
theorem Z5Y{l:List ε}(h:j<l.length):gl l j=l[j]:=by
 unfold gl;rw[aY,eG h];rfl
theorem OX(s:Nat):Kc s=40\/Kc s=97\/Kc s=174\/Kc s=235\/Kc s=302:=by
 match s with
 |0=>exact .inl rfl
 |1=>exact .inr (.inl rfl)
 |2=>exact .inr (.inr (.inl rfl))
 |3=>exact .inr (.inr (.inr (.inl rfl)))
 |s+4=>exact .inr (.inr (.inr (.inr rfl)))
theorem gM(S:Nat->Value):((List.range 68).map S).toArray=#[S 0,S 1,S 2,S 3,S 4,S 5,S 6,S 7,S 8,S 9,S 10,S 11,S 12,S 13,S 14,S 15,S 16,S 17,S 18,S 19,S 20,S 21,S 22,S 23,S 24,S 25,S 26,S 27,S 28,S 29,S 30,S 31,S 32,S 33,S 34,S 35,S 36,S 37,S 38,S 39,S 40,S 41,S 42,S 43,S 44,S 45,S 46,S 47,S 48,S 49,S 50,S 51,S 52,S 53,S 54,S 55,S 56,S 57,S 58,S 59,S 60,S 61,S 62,S 63,S 64,S 65,S 66,S 67]:=rfl
theorem NR{F:Nat}{s:ByteArray}{L:List ε×Int}{zf:Nat×χ×Int}{er:Int×Int}(hL:Vf F s=some L)(hz:Yz F (0,[],0) L.1=some zf)(hd:zf.2.1=[]\/(G4 zf.2.1).ab≠[])(he:Ko F zf.2.1=some er)(he0:er.2=0){w:World}{X:ξ}(hX:XL w X):
  Calls Tryz.prog 11 #[.string s] w λe w'=>∃v,e=.returned (.tuple #[v,.int .i64 0,.int .i64 0])/\aA w' X v (DL zf.2.1)/\Below w.heap.size w w':=by
 have a0:=Q9h hL;have P:=Z7S hL hX
 obtain⟨L,_⟩:=L;obtain⟨nL,hnL⟩:∃n,L.length=n:=⟨_,rfl⟩
 simp only at hz a0;rw[hnL]at a0
 go_enter Tryz.func11,Tryz.ntmps11
 go_wp2_with (go_at_call 34;refine P.mono ?_;rintro e N ⟨v,rfl,J,o⟩;obtain⟨ad,cp,rfl⟩:∃ad cp,v=.slice ad nL cp:=(by unfold DL at J;simp only[hnL]at J;cases J<;>exact⟨_,_,rfl⟩))
 obtain⟨R,hR⟩:∃R,N.heap.size=R:=⟨_,rfl⟩;obtain⟨W0,hW0⟩:∃W0,N.alloc (.cells #[.slice none 0 0,.int .i64 0] 100)=W0:=⟨_,rfl⟩
 have G:W0.heap[R]?=some (.cells #[.slice none 0 0,.int .i64 0] 100 (0,0)):=by rw[<-hW0, <-hR];exact World.alloc_heap_new _ _
 have T:aM V7 N W0:=by rw[<-hW0];exact DF
 have i0:YT X N R [] 0 W0:=⟨.slice none 0 0,.slice none 0 0,[],[],by omega,J4 G,Vw T,⟨_,G⟩,⟨rfl,.inl ⟨rfl,rfl⟩⟩,⟨rfl,.inl ⟨rfl,rfl⟩⟩,λj c hj=>absurd hj (fy j),λj hj=>absurd hj (Nat.succ_ne_zero j),λi r=>absurd r (fy i),λb e=>(by cases e),λb K=>by have:=hX.lt b K;have:=o.size;omega⟩;have V:GL N X:=hX.gl.mono λb K M=>⟨o.block b K,M⟩
 rw[hR,hW0]
 clear hW0 G T P
 refine Z1p (I:=λm a W=>∃(j:Nat) (z:Nat×χ×Int),j+m=nL/\Fx 68 a [(2,.slice none 0 0),(3,.int .i64 0),(4,.int .i64 0),(5,.slice ad nL cp),(6,.int .i64 0),(7,pR R),(8,Pm R z.1),(25,.slice ad nL cp),(26,.int .i64 nL),(27,.int .i64 j)]/\YT X N R z.2.1 z.2.2 W/\Yz F z (L.drop j)=some zf/\z.2.1.length<=j/\(G4 z.2.1).ab.length<=j/\(z.1≠0->z.2.1≠[])) ?_ nL _ _ ⟨0,(0,[],0),by omega,⟨rfl,rfl,rfl,rfl,rfl,rfl,rfl,rfl,rfl,rfl,rfl,rfl,trivial⟩,i0,hz,di _,di _,λh=>absurd rfl h⟩
 clear i0 hz
 rintro m a W ⟨j,⟨s,l,k⟩,hj,M,r,d,b1,b5,B⟩;simp only at M r d b1 b5 B
 obtain⟨H,A,k2,k3,k4,k5,k6,k7,t,p,q,g, -⟩:=M;obtain⟨S,rfl,hS⟩:=Z8v A H
 rw[hS]at k2 k3 k4 k5 k6 k7 t p q g
 cases m with
 |succ m=>
  have y:j<L.length:=by omega
  have c4:(j:Int)<nL:=by omega
  have hw:wrap64 ((j:Int)+1)=((j+1:Nat):Int):=by unfold wrap64;omega
  obtain⟨lb,Y,u,c,rfl,q0,hu⟩:=Z4B J y;obtain⟨nw,hnw⟩:∃n,(gl L j).length=n:=⟨_,rfl⟩
  rw[hnw]at q0 hu;have q1:W.cell? ⟨lb,Y+j,none⟩=some (.slice u nw c):=by
   obtain⟨lv,bv,xs,ys,h⟩:=r;exact(World.cell?_of_block (a:=⟨lb,Y+j,none⟩) (h.bl.block lb (xi q0))).trans q0
  rw[lL y, <-Z5Y y]at d;have d:(if gl L j=[]then Yz F (s,l,k) (L.drop (j+1))else(Uh F (s,l,k) (gl L j)).bind λz=>Yz F z (L.drop (j+1)))=some zf:=d
  clear J q0 hS A H
  by_cases hne:gl L j=[]
  .rw [av hne]at d
   obtain rfl:nw=0:=by rw[<-hnw,hne];rfl
   rw[gM,k2,k3,k4,k5,k6,k7,t,p,q,g]
   go_wp2
   try rw[hw]
   exact⟨m,rfl,j+1,(s,l,k),by omega,⟨rfl,rfl,rfl,rfl,rfl,rfl,rfl,rfl,rfl,rfl,rfl,rfl,trivial⟩,r,d,by simp only;omega,by simp only;omega,B⟩
  .rw [an hne]at d
   obtain⟨z',a1,d⟩:=YQ d;obtain⟨s1,s2,s3⟩:=OL a1
   have O:=F4 a1 r B (by omega) (by omega) V hu hne;have c2:¬(nw:Int)=0:=by have:=fS.2 hne;omega
   rcases OX s with e|e|e|e|e
   all_goals
    have t:S 8=.func (.func (Kc s)) #[pR R] #[]:=t;rw[e]at O t
    rw[gM,k2,k3,k4,k5,k6,k7,t,p,q,g]
    go_wp2_with (first
     |(go_at_call 40;refine O.mono ?_;rintro e U ⟨rfl,h3⟩)
     |(go_at_call 97;refine O.mono ?_;rintro e U ⟨rfl,h3⟩)
     |(go_at_call 174;refine O.mono ?_;rintro e U ⟨rfl,h3⟩)
     |(go_at_call 235;refine O.mono ?_;rintro e U ⟨rfl,h3⟩)
     |(go_at_call 302;refine O.mono ?_;rintro e U ⟨rfl,h3⟩))
    try rw[hw]
    exact⟨m,rfl,j+1,z',by omega,⟨rfl,rfl,rfl,rfl,rfl,rfl,rfl,rfl,rfl,rfl,rfl,rfl,trivial⟩,h3,d,by omega,by omega,λ_=>s3⟩
 |zero=>
  obtain rfl:j=nL:=by omega
  rw[<-hnL,lE]at d;cases d
  simp only at hd he;obtain⟨lv,bv,xs,ys,h⟩:=r
  have b2:=Z3p h hd (by omega);have a2:=h.res
  have Z:∀w',aM V7 W w' -> aA w' X lv (DL l):=λw' st=>a2.mono λb K M=>⟨st.block b K λh=>h,λe=>M (.inl e)⟩
  have Q:∀w',aM V7 W w' -> Calls Tryz.prog 32 #[lv] w' λe b4=>e=.returned (.tuple #[.int .i64 er.1,.int .i64 er.2])/\aM V7 w' b4:=λw' st=>Z7V he (st.gl (h.glW V)) ((Z w' st).mono λb K _=>⟨rfl,λh=>h⟩)
  rw[he0]at Q;obtain⟨p0,_,_,_⟩:=h.cellR
  rw[gM,k2,k3,k4,k5,k6,k7,t,p,q,g]
  clear hS A H J hX
  go_wp2_with (first
   |(go_at_call 41;refine b2.mono ?_;rintro e U ⟨rfl,x⟩;have p3:=KR x p0)
   |(go_at_call 32;refine(Q _ x).mono ?_;rintro e w4 ⟨rfl,b3⟩;have f:=G3 x b3;have p4:=KR f p0))
  go_ret3
  exact⟨_,rfl,Z _ f,o.trans ((h.stp (Vw f)).bl.mono o.size)⟩
theorem Z0S{r:χ×Int×Int}(h:Tj F s=some r):WN Tryz.prog 11 [.v (.c (.d (.str s)))] [] (.t [.c (.d (DL r.1)),.c (ci r.2.1),.c (ci r.2.2)]) []:=by
 obtain⟨L,y,h⟩:=YQ h;obtain⟨z,u,h⟩:=YQ h
 obtain⟨i,h⟩:=Zf h;obtain⟨e,q,h⟩:=YQ h
 obtain⟨p,h⟩:=Zf h;cases h
 intro w X η G A _ _ _ g a;rw[KU g,KW (a 0 lm)]
 refine(NR y u i q p A).mono ?_;rintro e B ⟨v,q,i,f⟩
 refine⟨_,η,q,Jb (w:=zw w) ⟨f.os,f.tape,f.output,f.size,λb x _=>f.block b x,dW _⟩ (.t _ _ rfl λj o=>?_)⟩;have o:j<3:=o
 match j,o with
 |0,_=>exact .c _ _ (.d _ _ i)
 |1,_=>exact .c _ _ (.d _ _ (.int _ _))
 |2,_=>exact .c _ _ (.d _ _ (.int _ _))
end Go.Ab
namespace Go.Proofs
open Go.Shelf Go.RowKit Go.Lib Go.Ab
variable {ad:Addr}{es es':Array MapEntry}{ops:Array Oper}{Z cur:Ξ}{Q:Exit->Act->World->Prop}{x y:Int}{L:List (Nat×Nat×Ξ)}{rest:List Oper}{news xs ys:List Value}{F T b base born cp e gr k m n off size:Nat}{row:Nat->Ξ}{lv:Nat->Bool}{gs:Nat->Nat}{X:ξ}{η η':Nat->Value}{i:TypeInfo}{q r s u v':Value}{W W' w w2:World}{a:aE}{d:aH}
abbrev iv(n:Int):Value:=.int .i64 n
abbrev pv(a b:Int):Value:=.agg #[iv a,iv b]
abbrev ev(a b c d:Int):Value:=.agg #[iv a,iv b,iv c,iv d]
theorem MX{g:Nat}{p:Value}(h:w.heap[g]?=some (.cells (#[p,q,r,s]++Z) T (0,0))):w.cell? ⟨g,0,none⟩=some p/\w.cell? ⟨g,1,none⟩=some q/\w.cell? ⟨g,2,none⟩=some r/\w.cell? ⟨g,3,none⟩=some s:=by
 refine⟨?_,?_,?_,?_⟩<;>simp[World.cell?,h,io]
theorem Jm(w:World):aM V7 w w.drew:=⟨rfl,rfl,rfl,di _,λ_ _ _=>rfl,iA _⟩
theorem OU(ad:Option Addr)(c:Nat)(a b x y:Int)(w:World):Calls Tryz.prog 195 #[.slice ad 0 c,ev a b x y] w λe w'=>e=.returned (iv (-1))/\aM V7 w w':=by
 go_enter Tryz.func195,Tryz.ntmps195
 go_wp2
 refine wp_loop_rounds 1 ?_;rw[rounds_succ]
 go_wp2
 go_ret
 exact⟨rfl,aM.alloc V7 _ _⟩
theorem On(g c:Nat)(Z:Ξ)(a b x y:Int)(w:World)(h:w.heap[g]?=some (.cells (#[iv a,iv b,iv x,iv y]++Z) 194 (0,0))):Calls Tryz.prog 195 #[.slice (some ⟨g,0,none⟩) 1 c,ev a b x y] w λe w'=>e=.returned (iv 0)/\aM V7 w w':=by
 have d:g<w.heap.size:=(lD.1 h).1;obtain⟨j,o,i,f⟩:=MX h
 go_enter Tryz.func195,Tryz.ntmps195
 go_wp2
 refine wp_loop_rounds 1 ?_;rw[rounds_succ]
 go_wp2
 go_region
 go_wp2
 go_ret
 exact⟨rfl,G3 (aM.alloc V7 _ _) (Jm _)⟩
theorem yp(ad:Option Addr)(c:Nat)(a b x y:Int)(w:World):Calls Tryz.prog 110 #[.slice ad 0 c,ev a b x y] w λe w'=>e=.returned (.bool false)/\aM V7 w w':=by
 go_enter Tryz.func110,Tryz.ntmps110
 go_wp2_with (go_at_call 195;refine(OU _ _ _ _ _ _ _).mono ?_;rintro e w' ⟨rfl,st⟩)
 go_ret
 exact⟨rfl,G3 (aM.alloc V7 _ _) st⟩
theorem Z1H(g c:Nat)(Z:Ξ)(a b x y:Int)(w:World)(h:w.heap[g]?=some (.cells (#[iv a,iv b,iv x,iv y]++Z) 194 (0,0))):Calls Tryz.prog 110 #[.slice (some ⟨g,0,none⟩) 1 c,ev a b x y] w λe w'=>e=.returned (.bool true)/\aM V7 w w':=by
 have f:g<w.heap.size:=(lD.1 h).1;have d : ∀o,(w.alloc o).heap[g]?=some (.cells (#[iv a,iv b,iv x,iv y]++Z) 194 (0,0)):=λo=>(Below.heap_alloc _ _ _ f).trans h
 go_enter Tryz.func110,Tryz.ntmps110
 go_wp2_with (go_at_call 195;refine(On _ _ _ _ _ _ _ _ (d _)).mono ?_;rintro e w' ⟨rfl,st⟩)
 go_ret
 exact⟨rfl,G3 (aM.alloc V7 _ _) st⟩
theorem Z1I(g k:Nat)(cur:Ξ)(W:World)(h:W.heap[g]?=some (.cells cur 194 (0,0)))(hc:4<=cur.size):(Builtin.clear_ #[188] 0 #[.slice (some ⟨g,0,none⟩) 1 k]).run Tryz.prog W=.ok (.tuple #[]) (W.setRow g ([iv 0,iv 0,iv 0,iv 0]++cur.toList.drop 4).toArray):=by
 have c:Tryz.prog.underlying 188=some (.slice 194):=by kernel_rfl
 have d:∀W,(zeroValue 194).run Tryz.prog W=.ok (ev 0 0 0 0) W:=λW=>by kernel_rfl
 have a:=lZ Tryz.prog g 0 194 [iv 0,iv 0,iv 0,iv 0] 0 cur W h (by simpa using hc) (by simp[Value.oneCell']);have b:(Builtin.zeroCells (ev 0 0 0 0).cells 1).toList=[iv 0,iv 0,iv 0,iv 0]:=by kernel_rfl
 simp only[fU,lG,iL,dz,eg,eH,Nat.reduceAdd]at a;simp[Builtin.clear_,ef c,d,b,a]
theorem setRow_stp(w:World)(g:Nat)(x:Ξ):aM (λb=>b=g) w (w.drew.setRow g x)/\(w.drew.setRow g x).heap.size=w.heap.size:=by
 have e:(w.drew.setRow g x).heap.size=w.heap.size:=by simp only[World.setRow,Array.size_modify];rfl
 refine⟨⟨rfl,rfl,rfl,lU e.symm,λb _ a=>?_,iA _⟩,e⟩;simp only[World.setRow,World.drew,fV]
 rw[an (λe=>a e.symm)]
theorem Z1G(g c:Nat)(cur:Ξ)(w:World)(h:w.heap[g]?=some (.cells cur 194 (0,0)))(hc:cur.size=c*4)(h1:1<=c)(h2:c<=maxLen):Calls Tryz.prog 198 #[.slice (some ⟨g,0,none⟩) 1 c,iv 0,iv 1] w λe w'=>e=.returned (.slice (some ⟨g,0,none⟩) 0 c)/\aM (λb=>b=g) w w' /\ w'.heap.size=w.heap.size:=by
 have d:=λk=>Z1I g k cur w.drew h (by omega)
 rcases Nat.eq_or_lt_of_le h1 with a|a
 .subst a
  go_enter Tryz.func198,Tryz.ntmps198
  go_wp2
  go_region
  go_wp2
  go_ret
  exact⟨rfl,setRow_stp _ _ _⟩
 .have f:¬c=1:=by omega
  go_enter Tryz.func198,Tryz.ntmps198
  go_wp2
  go_region
  go_wp2
  go_ret
  exact⟨rfl,setRow_stp _ _ _⟩
abbrev Ye(v:Value):MapEntry:=⟨pv 0 0,v,0⟩
abbrev Ys(v:Value):MapEntry:=⟨pv 0 10,v,1⟩
abbrev YK(v:Value):MapEntry:=⟨pv 10 0,v,2⟩
abbrev We(v:Value):MapEntry:=⟨pv 10 10,v,3⟩
theorem yo:Tryz.prog.underlying 190=some (.map 192 188):=by kernel_rfl
theorem yq(b:Bool)(x y:Int)(W:World):(Instr.checkKey b 10000 192 (pv x y)).run Tryz.prog W=.ok () W:=by cases b<;>kernel_rfl
theorem Z1r(W:World):(zeroValue 188).run Tryz.prog W=.ok (.slice none 0 0) W:=by kernel_rfl
theorem Kq{ck:Nat}{i:Nat}{v:Value}(h:w.heap[m]?=some (.map es ck))(hf:∀W,(Instr.findKey 192 (pv x y) es.toList).run Tryz.prog W=.ok (some (i,v)) W):(Instr.lookup 190 (.map (some m)) (pv x y) false).run Tryz.prog w=.ok v w:=by
 simp[Instr.lookup,ef yo,lw h,yq,hf,Result.andThen]
theorem Z1w{ck:Nat}(h:w.heap[m]?=some (.map es ck))(hf:∀W,(Instr.findKey 192 (pv x y) es.toList).run Tryz.prog W=.ok none W):(Instr.mapEntry 190 (.map (some m)) (pv x y)).run Tryz.prog w=.ok (.tuple #[.slice none 0 0,iv ck]) {w with heap:=w.heap.setIfInBounds m (.map (es.push {key:=pv x y,val:=.slice none 0 0,born:=ck}) (ck+1))}:=by
 simp[Instr.mapEntry,ef yo,lw h,mv _ h,yq,Z1r,hf,Result.andThen,goInt]
theorem Z1E{ck:Nat}{i:Nat}{v:Value}(h:w.heap[m]?=some (.map es ck))(hf:es.findIdx? (λe=>(e.born:Int)==(born:Int))=some i):(Instr.entryStore 190 (.map (some m)) (iv born) v).run Tryz.prog w=.ok () {w with heap:=w.heap.setIfInBounds m (.map (es.modify i λe=> {e with val:=v}) ck)}:=by
 simp[Instr.entryStore,lw h,mv _ h,asInt,asIntOf,hf,Result.andThen]
theorem Tu{ck:Nat}{i:Nat}{v:Value}(h:w.heap[m]?=some (.map es ck))(hf:∀W,(Instr.findKey 192 (pv x y) es.toList).run Tryz.prog W=.ok (some (i,u)) W)(hi:(es[i]?).map (·.key)=some (pv x y)):(Instr.mapUpdate 190 (.map (some m)) (pv x y) v).run Tryz.prog w=.ok () {w with heap:=w.heap.setIfInBounds m (.map (es.modify i λe=> {e with key:=pv x y,val:=v}) ck)}:=by
 have a:∀W,(Instr.keyThatStays (pv x y) (pv x y)).run Tryz.prog W=.ok (pv x y) W:=λW=>by
  simp[Instr.keyThatStays,Instr.sameBits]
 simp[Instr.mapUpdate,ef yo,lw h,mv _ h,yq,hf,hi,a,Result.andThen]
theorem fk0(W:World):(Instr.findKey 192 (pv 0 0) (#[]:Array MapEntry).toList).run Tryz.prog W=.ok none W:=by kernel_rfl
theorem N4(a:Value)(W:World):(Instr.findKey 192 (pv 0 10) (#[Ye a]:Array MapEntry).toList).run Tryz.prog W=.ok none W:=by kernel_rfl
theorem fk2(a b:Value)(W:World):(Instr.findKey 192 (pv 10 0) (#[Ye a,Ys b]:Array MapEntry).toList).run Tryz.prog W=.ok none W:=by kernel_rfl
theorem fk3(a b c:Value)(W:World):(Instr.findKey 192 (pv 10 10) (#[Ye a,Ys b,YK c]:Array MapEntry).toList).run Tryz.prog W=.ok none W:=by kernel_rfl
section
variable (a b c d:Value)(W:World)
theorem xY:(Instr.findKey 192 (pv 0 0) (#[Ye a,Ys b,YK c,We d]:Array MapEntry).toList).run Tryz.prog W=.ok (some (0,a)) W:=by kernel_rfl
theorem xX:(Instr.findKey 192 (pv 0 10) (#[Ye a,Ys b,YK c,We d]:Array MapEntry).toList).run Tryz.prog W=.ok (some (1,b)) W:=by kernel_rfl
theorem xW:(Instr.findKey 192 (pv 10 0) (#[Ye a,Ys b,YK c,We d]:Array MapEntry).toList).run Tryz.prog W=.ok (some (2,c)) W:=by kernel_rfl
theorem xV:(Instr.findKey 192 (pv 10 10) (#[Ye a,Ys b,YK c,We d]:Array MapEntry).toList).run Tryz.prog W=.ok (some (3,d)) W:=by kernel_rfl
end
theorem N9{t:Nat}{z:Value}(ht:Tryz.prog.underlying t=some (.slice e))(hi:Tryz.prog.info? e=some i)(hz:i.zero=some z)(hsize:i.size=size)(hby:i.bytes<=1000)(hzs:z.cells.size=size)(hsz:0<size){v:Value}(hown:w.ownsRow base e size v n xs){c:Nat}(hl:news.length=size)(hnews:∀ j u,news[j]?=some u->w.cell? (ad.add j)=some u)(h1:∀ u ∈ news,u.oneCell'=true)(hn:n<=1000)(hbase:base<=w.heap.size):
  ∃v' w',(Builtin.append_ #[t,t] t #[v,.slice (some ad) 1 c]).run Tryz.prog w=.ok v' w' /\ w'.ownsRow base e size v' (n+1) (xs++news)/\w.grownBy w' v.ownBlock/\(v'.ownBlock=v.ownBlock\/v'.ownBlock=some w.heap.size)/\w.drawn<=w'.drawn:=by
 have A:(n+1)*i.bytes<=140737488355328:=by
  have:(n+1)*i.bytes<=1001*1000:=lM (by omega) hby
  omega
 obtain⟨v',w',h,s,G,_,H⟩:=run_append_own_at (P:=Tryz.prog) w base t t e i z size i.bytes ht hi hz hsize rfl hzs hsz v n xs hown ad 1 c news (by omega) hnews h1 (by unfold maxLen;omega) A hbase;refine⟨v',w',h,s,G,H,?_⟩
 rcases hown.2 with ⟨rfl,rfl⟩|⟨g,f,q,rfl,I,r,B,y,p,x⟩
 .have e:=run_append_nil (P:=Tryz.prog) w t t e i z ht hi hz ad 1 c news (by omega) hnews (by omega) (by omega) (by omega)
  rw[e]at h;cases h
  exact iA _
 .by_cases hroom:n+1<=f
  .have e:=run_append_room (P:=Tryz.prog) w t t e i ht hi g n f q r ad 1 c news (by omega) hnews h1 hroom (by
    rw[hsize,p,hl];have:(n+1)*size<=f*size:=eu _ hroom
    rw[fQ]at this;omega)
   rw[e]at h;cases h
   exact di _
  .have o:f<=1000:=by omega
   have e:=run_append_grow (P:=Tryz.prog) w t t e i z ht hi hz ⟨g,0,none⟩ n f xs (by rw[hown.1,hsize]) (hown.cells rfl) ad 1 c news (by omega) hnews (by omega) (by omega) (growslice_fits (by omega) (by
    have:(n+1)*i.bytes<=1001*1000:=lM (by omega) hby
    omega))
   rw[e]at h;cases h
   exact iA _
theorem Jj{o:Oper}{a:Act}(hgd:o.guard=none)(s x:Operand)(t:TypeId)(ho:o.op=.call {callee:=.builtin .append,args:= #[s,x],argTypes:= #[t,t]})(hty:o.type=t){z:Value}(ht:Tryz.prog.underlying t=some (.slice e))(hi:Tryz.prog.info? e=some i)(hz:i.zero=some z)(hsize:i.size=size)(hby:i.bytes<=1000)(hzs:z.cells.size=size)(hsz:0<size){v:Value}(hs:a.eval s=v)(hown:w.ownsRow base e size v n xs){c:Nat}(hx:a.eval x=.slice (some ad) 1 c)(hl:news.length=size)(hnews:∀j u,news[j]?=some u->w.cell? (ad.add j)=some u)(h1:∀u∈news,u.oneCell'=true)(hn:n<=1000)(hbase:base<=w.heap.size)(h:∀v' w',w'.ownsRow base e size v' (n+1) (xs++news)->w.grownBy w' v.ownBlock->(v'.ownBlock=v.ownBlock\/v'.ownBlock=some w.heap.size)->w.drawn<=w'.drawn->wpList Tryz.prog ops Q rest (a.put o.dst v') w'):wpList Tryz.prog ops Q (o::rest) a w:=by
 refine nC hgd λK g=>?_
 obtain⟨v',w',f,p,q,y,r⟩:=N9 ht hi hz hsize hby hzs hsz hown (c:=c) hl hnews h1 hn hbase;unfold Oper.wp execOp
 simp only[ho,hty,resolve,invoke,builtin,eX,fB,fh,List.map_toArray,eP,iV,hs,hx,f];exact g _ _ (h v' w' p q y r)
theorem Tv{x y:Ab.Edge}{n:Int}(h:PV F x y=some n)(hg:GL w V7):Calls Tryz.prog 197 #[ev x.F_.x_ x.F_.y_ x.iJ.x_ x.iJ.y_,ev y.F_.x_ y.F_.y_ y.iJ.x_ y.iJ.y_] w λe w'=>e=.returned (iv n)/\aM V7 w w':=by
 refine(Z3I h w V7 (λ_=>undef) _ ⟨λb r=>r.elim,hg⟩ (λb ⟨i,o,f,_⟩=>by cases f) (λi o f=>by cases f) (λi j b f=>absurd rfl f) rfl (λj q=>?_)).mono λe w' s=>?_
 .have g:∀ x:Ab.Edge,∀ C,aQ w V7 (fun _=>undef) C (ev x.F_.x_ x.F_.y_ x.iJ.x_ x.iJ.y_) (gE x):=fun x C=>by
   refine .v _ _ (.g _ _ ⟨rfl,λj q=>?_⟩);have q:j<4:=q
   have:j=0\/j=1\/j=2\/j=3:=by omega
   rcases this with rfl|rfl|rfl|rfl<;>exact .d _ _ (.int _ _)
  have:j=0\/j=1:=by simp at q;omega
  rcases this with rfl|rfl
  .exact g x _
  .exact g y _
 .obtain ⟨v,A,t,r⟩:=s
  refine⟨?_,r.stp.mono λb _ u=>by obtain⟨i,o,f,_⟩:=u;cases f⟩;rw[t]
  have p:=r.res
  cases p with|v _ _ h=>cases h with|c _ _ h=>cases h with|d _ _ h=>cases h;rfl
theorem tn1(F:Nat):PV F ⟨⟨0,0⟩,⟨10,0⟩⟩ ⟨⟨10,0⟩,⟨10,10⟩⟩=some 1:=by kernel_rfl
theorem Id(F:Nat):PV F ⟨⟨10,0⟩,⟨10,10⟩⟩ ⟨⟨10,10⟩,⟨0,10⟩⟩=some 1:=by kernel_rfl
theorem ER(F:Nat):PV F ⟨⟨10,10⟩,⟨0,10⟩⟩ ⟨⟨0,10⟩,⟨0,0⟩⟩=some 1:=by kernel_rfl
theorem tn4(F:Nat):PV F ⟨⟨0,10⟩,⟨0,0⟩⟩ ⟨⟨0,0⟩,⟨10,0⟩⟩=some 1:=by kernel_rfl
abbrev sv(g n c:Nat):Value:=.slice (some ⟨g,0,none⟩) n c
structure Fo (w W:World) (m ck o:Nat) (es:Array MapEntry) (a b x y:Int) (gs:Nat->Nat) (row:Nat->Ξ) (lv:Nat->Bool) (v:Value) (n:Nat) (xs:List Value):Prop where
 mp:W.heap[m]?=some (.map es ck)
 e3:W.heap[o]?=some (.cells #[iv 0,iv 0,iv 10,iv 0] 194 (0,0))
 e6:W.heap[o+1]?=some (.cells #[iv a,iv b,iv x,iv y] 194 (0,0))
 li:∀i,i<4->lv i=true->W.heap[gs i]?=some (.cells (row i) 194 (0,0))
 mo:m<o
 go:∀i,gs i<o
 cor:W.ownsRow (o+2) 192 2 v n xs
 ws:w.heap.size=o
 stp:aM (λb=>b=m\/∃i,b=gs i) w W
 sz:o+2<=W.heap.size
theorem Fo.gl{ck o:Nat}{a b:Int}{v:Value}(F:Fo w W m ck o es a b x y gs row lv v n xs)(hg:GL w V7)(hm:Wf≠m)(hs:∀i,Wf≠gs i):GL W V7:=by
 obtain⟨g,e,fz,f⟩:=hg;exact⟨g,e,fz,(F.stp.block Wf (J4 f) λh=>h.elim hm λ⟨i,h⟩=>hs i h).trans f⟩
abbrev Vk(w:World)(m:Nat)(es:Array MapEntry)(ck:Nat):World:= {w with heap:=w.heap.setIfInBounds m (.map es ck)}
theorem Fo.del{ck o:Nat}{a b:Int}{v:Value}(F:Fo w W m ck o es a b x y gs row lv v n xs)(k:Nat)(hk:k<4)(st:aM (fun b=>b=gs k) W.drew W')(hs:W'.heap.size=W.drew.heap.size)(hd:∀ i j,i<4->j<4->gs i=gs j->i=j)(hmg:∀ i,m≠gs i):
  Fo w (Vk W' m es' ck) m ck o es' a b x y gs row (λi=>lv i&&i != k) v n xs/\∀j,j<W.heap.size->j≠m->j≠gs k->(Vk W' m es' ck).heap[j]?=W.heap[j]?:=by
 have hs:W'.heap.size=W.heap.size:=hs;have L:=F.go k
 have M:=F.mo;have J:=F.sz
 have f:∀j,j<W.heap.size->j≠m->j≠gs k->(Vk W' m es' ck).heap[j]?=W.heap[j]?:=λj K q r=>by
  have e:(Vk W' m es' ck).heap[j]?=W'.heap[j]?:=by
   simp only[Vk,mF];rw[an (λe=>q e.symm)]
  exact e.trans (st.block j K r)
 have s:∀{j:Nat} {ob:Go.Obj},W.heap[j]?=some ob->j<W.heap.size:=λh=>J4 h
 refine⟨⟨?_,(f _ (s F.e3) (by omega) (by omega)).trans F.e3,(f _ (s F.e6) (by omega) (by omega)).trans F.e6,λi t A=>?_,F.mo,F.go,?_,F.ws,?_,?_⟩,f⟩
 .simp only[Vk,mF]
  rw[av trivial,av (by rw[hs];omega)]
 .simp only[dc,bne_iff_ne]at A
  have h:=F.li i t A.1;exact(f _ (s h) (λe=>hmg i e.symm) (λe=>A.2 (hd i k t hk e))).trans h
 .refine ⟨F.cor.1,?_⟩
  rcases F.cor.2 with h|⟨g,G,B,q,r,I,t⟩
  .exact .inl h
  .exact .inr ⟨g,G,B,q,r,(f g (s I) (by omega) (by omega)).trans I,t⟩
 .have p:=F.stp
  refine⟨st.os.trans p.os,st.tape.trans p.tape,st.output.trans p.output,?_,λb H u=>?_,dP p.dr (dP (iA _) st.dr)⟩
  .simp only[Vk,D3]
   rw[hs];exact p.size
  .have q:b≠m:=λe=>u (.inl e)
   have r:b≠gs k:=λe=>u (.inr ⟨k,e⟩)
   exact(f b (fH H p.size) q r).trans (p.block b H u)
 .simp only[Vk,D3]
  rw[hs];exact J
section
variable {ck o:Nat}{a b:Int}{v:Value}
theorem Fo.mono(F:Fo w W m ck o es a b x y gs row lv v n xs)(st:aM V7 W W'):Fo w W' m ck o es a b x y gs row lv v n xs:=by
 have e:∀{j:Nat} {ob:Go.Obj},W.heap[j]?=some ob->W'.heap[j]?=some ob:=λh=>(st.block _ (J4 h) λh=>h).trans h
 refine⟨e F.mp,e F.e3,e F.e6,λi q u=>e (F.li i q u),F.mo,F.go,⟨F.cor.1,?_⟩,F.ws,F.stp.trans (st.mono λ_ _ h=>h.elim),dP F.sz st.size⟩;rcases F.cor.2 with h|⟨g,p,f,s,r,t,q⟩
 .exact .inl h
 .exact .inr ⟨g,p,f,s,r,e t,q⟩
theorem Fo.app(F:Fo w W m ck o es a b x y gs row lv v n xs)(hr:W'.ownsRow (o+2) 192 2 v' (n+1) ys)(hg:W.grownBy W' v.ownBlock)(hdr:W.drawn<=W'.drawn):Fo w W' m ck o es a b x y gs row lv v' (n+1) ys/\∀j,j<W.heap.size->some j≠v.ownBlock->W'.heap[j]?=W.heap[j]?:=by
 have f:∀j,j<W.heap.size->some j≠v.ownBlock->W'.heap[j]?=W.heap[j]?:=λj s q=>hg.block j s q
 have g:∀{j:Nat} {ob:Go.Obj},j<o+2->W.heap[j]?=some ob->W'.heap[j]?=some ob:=λs h=>(f _ (J4 h) λe=>by
  have:=(F.cor.lt _ e.symm).1
  omega).trans h
 have B:=F.mo;refine⟨⟨g (by omega) F.mp,g (by omega) F.e3,g (by omega) F.e6,λi u A=>g (by have:=F.go i;omega) (F.li i u A),F.mo,F.go,hr,F.ws,?_,dP F.sz hg.size⟩,f⟩
 have p:=F.stp;have ws:=F.ws
 refine⟨hg.os.trans p.os,hg.tape.trans p.tape,hg.output.trans p.output,dP p.size hg.size,λb r t=>?_,dP p.dr hdr⟩;exact(f b (fH r p.size) λe=>by
  have:=(F.cor.lt _ e.symm).1
  omega).trans (p.block b r t)
theorem Fo.now(F:Fo w W m ck o es a b x y gs row lv v n xs)(a' b' x' y' : Int):Fo w ((((W.setCell ⟨o+1,0,none⟩ (iv a')).setCell ⟨o+1,1,none⟩ (iv b')).setCell ⟨o+1,2,none⟩ (iv x')).setCell ⟨o+1,3,none⟩ (iv y')) m ck o es a' b' x' y' gs row lv v n xs:=by
 obtain⟨W',hW⟩:∃W',((((W.setCell ⟨o+1,0,none⟩ (iv a')).setCell ⟨o+1,1,none⟩ (iv b')).setCell ⟨o+1,2,none⟩ (iv x')).setCell ⟨o+1,3,none⟩ (iv y'))=W':=⟨_,rfl⟩;rw[hW]
 have e:∀j,j≠o+1->W'.heap[j]?=W.heap[j]?:=λj J=>by
  rw[<-hW];simp only[World.setCell,fV]
  rw[an (by omega),an (by omega),an (by omega),an (by omega)]
 have p:W'.heap[o+1]?=some (.cells #[iv a',iv b',iv x',iv y'] 194 (0,0)):=by
  rw[<-hW];simp only[World.setCell,fV]
  rw[av trivial,av trivial,av trivial,av trivial,F.e6];rfl
 have t:W'.heap.size=W.heap.size:=by rw[<-hW];simp[World.setCell]
 have K:=F.mo;have ws:=F.ws
 have f:=F.stp;refine⟨(e m (by omega)).trans F.mp,(e o (by omega)).trans F.e3,p,λi q G=>(e _ (by have:=F.go i;omega)).trans (F.li i q G),F.mo,F.go,⟨F.cor.1,?_⟩,F.ws,⟨?_,?_,?_,by rw[t];exact f.size,λb H B=>(e b (by omega)).trans (f.block b H B),?_⟩,by rw[t];exact F.sz⟩
 .rcases F.cor.2 with h|⟨g,s,r,A,u,I,q⟩
  .exact .inl h
  .exact .inr ⟨g,s,r,A,u,(e g (by omega)).trans I,q⟩
 .rw [<-hW];exact f.os
 .rw [<-hW];exact f.tape
 .rw [<-hW];exact f.output
 .rw [<-hW];exact f.dr
end
theorem D9{v:Value}{R:ζ}(hv:aA w V7 v (DL R))(C:da):aQ w V7 (λ_=>undef) C (.agg #[v]) (.v (.g [.d (DL R)])):=by
 refine .v _ _ (.g _ _ ⟨rfl,λj e=>?_⟩);have e:j<1:=e
 obtain rfl:j=0:=by omega
 exact .d _ _ hv
theorem NF{b:Bool}(h:Wv F a=some b)(hg:GL w V7){v:Value}(hv:aA w V7 v (DL a.t_)):Calls Tryz.prog 108 #[.agg #[v]] w λe w'=>e=.returned (.bool b)/\aM V7 w w':=by
 refine(Wc h w V7 (λ_=>undef) _ ⟨λb p=>p.elim,hg⟩ (λb ⟨i,o,f,_⟩=>by cases f) (λi o f=>by cases f) (λi j b f=>absurd rfl f) rfl (λj r=>?_)).mono λe w' q=>?_
 .obtain rfl:j=0:=by simp at r;omega
  exact D9 hv _
 .obtain ⟨v,u,s,p⟩:=q
  refine⟨?_,p.stp.mono λb _ t=>by obtain⟨i,o,f,_⟩:=t;cases f⟩;rw[s]
  have g:=p.res
  cases g with|v _ _ h=>cases h with|c _ _ h=>cases h with|d _ _ h=>cases h;rfl
theorem uT:XS (Qh [] w X η) (ls []) η'=X:=by
 funext b
 apply propext;constructor
 .rintro (⟨h,_⟩|⟨i,o,h,_⟩)
  .exact h
  .cases h
 .intro h;exact .inl ⟨h,λ⟨i,o,hi,_⟩=>by cases hi⟩
theorem Z1F{r:List Ab.Edge}(h:Mb F a=some r)(hg:GL w V7){v:Value}(hv:aA w V7 v (DL a.t_)):Calls Tryz.prog 109 #[.agg #[v]] w λe w'=>∃u,e=.returned u/\aA w' V7 u (DL r)/\aM V7 w w':=by
 refine(Z3N h w V7 (λ_=>undef) _ ⟨λb p=>p.elim,hg⟩ (λb ⟨i,o,g,_⟩=>by cases g) (λi o g=>by cases g) (λi j b g=>absurd rfl g) rfl (λj s=>?_)).mono λe w' q=>?_
 .obtain rfl:j=0:=by simp at s;omega
  exact D9 hv _
 .obtain ⟨v,B,t,p⟩:=q
  have f:=p.res;rw[uT]at f
  refine⟨v,t,?_,p.stp.mono λb _ A=>by obtain⟨i,o,g,_⟩:=A;cases g⟩
  cases f with|v _ _ h=>cases h with|c _ _ h=>cases h with|d _ _ h=>exact h
theorem Z1L{a r:List Ab.Point}{v:Value}(hX:XL w X)(hv:aA w X v (DL a))(h:D5 F a=some r:=by kernel_rfl):Calls Tryz.prog 111 #[v] w λe w'=>∃u,e=.returned u/\aA w' X u (DL r)/\aM V7 w w':=by
 refine(L5 h w X (λ_=>undef) _ hX (λb ⟨i,o,g,_⟩=>by cases g) (λi o g=>by cases g) (λi j b g=>absurd rfl g) rfl (λj s=>?_)).mono λe w' q=>?_
 .obtain rfl:j=0:=by simp at s;omega
  exact .v _ _ (.c _ _ (.d _ _ hv))
 .obtain ⟨v,B,t,p⟩:=q
  have f:=p.res;rw[uT]at f
  refine⟨v,t,?_,p.stp.mono λb _ A=>by obtain⟨i,o,g,_⟩:=A;cases g⟩
  cases f with|v _ _ h=>cases h with|c _ _ h=>cases h with|d _ _ h=>exact h
structure Ed (w:World) (v:Value) (ga off cap:Nat):Prop where
 eq:v=.slice (some ⟨ga,off,none⟩) 4 cap
 lt:ga<w.heap.size
 aT:∀k,k<16->w.cell? ⟨ga,off+k,none⟩=some (([iv 0,iv 0,iv 10,iv 0,iv 0,iv 10,iv 0,iv 0,iv 10,iv 0,iv 10,iv 10,iv 10,iv 10,iv 0,iv 10]:List Value).getD k undef)
theorem Ed.of{v:Value}(h:aA w V7 v (DL (α:=Ab.Edge) [⟨⟨0,0⟩,⟨10,0⟩⟩,⟨⟨0,10⟩,⟨0,0⟩⟩,⟨⟨10,0⟩,⟨10,10⟩⟩,⟨⟨10,10⟩,⟨0,10⟩⟩])):∃ga off cap,Ed w v ga off cap:=by
 generalize hl:([⟨⟨0,0⟩,⟨10,0⟩⟩,⟨⟨0,10⟩,⟨0,0⟩⟩,⟨⟨10,0⟩,⟨10,10⟩⟩,⟨⟨10,10⟩,⟨0,10⟩⟩]:List Ab.Edge)=l at h;have r:l.length=4:=by rw[<-hl];rfl
 unfold DL at h;rw[r]at h
 cases h with|lst b off _ cap c e fz _ es h1 h2 h3 h4 h5 h6=>
 have g:=h5 0 (by omega);have i:(LF l 0).length=4:=by rw[<-hl];rfl
 obtain rfl:es=4:=g.symm.trans i;refine⟨b,off,cap,rfl,J4 h2,λk p=>?_⟩
 have f:off+k<c.size:=by omega
 have q:w.cell? ⟨b,off+k,none⟩=some (c.getD (off+k) undef):=by
  simp[World.cell?,h2,f]
 rw[q];congr 1
 have j:=h6 (k / 4) (k % 4) (by omega) (by omega);have e:k / 4*4+k % 4=k:=by omega
 rw[e]at j;generalize c.getD (off+k) undef=u at j⊢
 clear q h6 h2 f
 have p:k=0\/k=1\/k=2\/k=3\/k=4\/k=5\/k=6\/k=7\/k=8\/k=9\/k=10\/k=11\/k=12\/k=13\/k=14\/k=15:=by omega
 subst hl;rcases p with rfl|rfl|rfl|rfl|rfl|rfl|rfl|rfl|rfl|rfl|rfl|rfl|rfl|rfl|rfl|rfl<;>(cases j;rfl)
theorem Ei{g:Nat}(h:W.heap[g]?=some (.cells (#[u]++Z) T (0,0))):W.cell? ⟨g,0,none⟩=some u:=by
 simp[World.cell?,h,io]
theorem Z1C{g c:Nat}(h:W.heap[g]?=some (.cells (#[.slice (some ⟨b,off,none⟩) 4 cp]++Z) 122 (0,0))):
  Calls Tryz.prog 199 #[.slice (some ⟨g,0,none⟩) 1 c,.func (.func 114) #[] #[]] W λe w'=>e=.returned (iv (-1))/\aM V7 W w':=by
 have f:=Ei h
 go_enter Tryz.func199,Tryz.ntmps199
 go_wp2
 refine wp_loop_rounds 2 ?_;rw[rounds_succ]
 go_wp2
 rw[rounds_succ]
 go_wp2
 go_ret
 exact⟨rfl,aM.refl _ _⟩
theorem EX{g c:Nat}(h:W.heap[g]?=some (.cells (#[.slice (some ⟨b,off,none⟩) 4 cp]++Z) 122 (0,0))):
  Calls Tryz.prog 113 #[.slice (some ⟨g,0,none⟩) 1 c,.func (.func 114) #[] #[]] W λe w'=>e=.returned (.bool false)/\aM V7 W w':=by
 go_enter Tryz.func113,Tryz.ntmps113
 go_wp2_with (go_at_call 199;refine(Z1C h).mono ?_;rintro e w' ⟨rfl,st⟩)
 go_ret
 exact⟨rfl,st⟩
theorem Z1B{g c:Nat}(f:Value):Calls Tryz.prog 258 #[.slice (some ⟨g,0,none⟩) 1 c,iv 0,iv 1,f] W λe w'=>(∃v,e=.returned v)/\aM V7 W w':=by
 go_enter Tryz.func258,Tryz.ntmps258
 go_wp2
 refine wp_loop_rounds 1 ?_;rw[rounds_succ]
 go_wp2
 go_returns
 exact⟨⟨_,rfl⟩,aM.refl _ _⟩
theorem P4{g c:Nat}(n:Int)(f:Value):Calls Tryz.prog 200 #[.slice (some ⟨g,0,none⟩) 1 c,iv 0,iv 1,iv n,f] W λe w'=>(∃v,e=.returned v)/\aM V7 W w':=by
 go_enter Tryz.func200,Tryz.ntmps200
 go_wp2
 refine wp_loop_rounds 1 ?_;rw[rounds_succ]
 go_wp2_with (go_at_call 258;refine(Z1B _).mono ?_;rintro e w' ⟨⟨v,rfl⟩,st⟩)
 go_returns
 exact⟨⟨_,rfl⟩,st⟩
theorem Z1y(W:World):Calls Tryz.prog 172 #[.int .u64 1] W λe w'=>e=.returned (iv 1)/\w'=W:=by
 go_enter Tryz.func172,Tryz.ntmps172
 go_wp2
 go_ret
 exact⟨by kernel_rfl,rfl⟩
theorem Z1x(W:World):Calls Tryz.prog 94 #[.int .u64 1] W λe w'=>e=.returned (iv 1)/\w'=W:=by
 go_enter Tryz.func94,Tryz.ntmps94
 go_wp2_with (go_at_call 172;refine(Z1y _).mono ?_;rintro e w' ⟨rfl,rfl⟩)
 go_ret
 exact⟨rfl,rfl⟩
theorem Em{g c:Nat}(f:Value):Calls Tryz.prog 115 #[.slice (some ⟨g,0,none⟩) 1 c,f] W λe w'=>(∃v,e=.returned v)/\aM V7 W w':=by
 go_enter Tryz.func115,Tryz.ntmps115
 go_wp2_with (first
  |(go_at_call 94;refine(Z1x _).mono ?_;rintro e w' ⟨rfl,rfl⟩)
  |(go_at_call 200;refine(P4 _ _).mono ?_;rintro e w' ⟨⟨v,rfl⟩,st⟩))
 go_returns
 exact⟨⟨_,rfl⟩,st⟩
theorem LY(W:World)(T:Nat)(p q:Value):∀j u,[p,q][j]?=some u->(W.alloc (.cells #[p,q] T)).cell? ((⟨W.heap.size,0,none⟩:Addr).add j)=some u:=by
 intro j u e
 match j,e with
 |0,e=>
  simp at e
  subst e;simp[Addr.add]
 |1,e=>
  simp at e
  subst e;simp[Addr.add]
theorem CQ:∃i z,Tryz.prog.info? 192=some i/\i.zero=some z/\i.size=2/\i.bytes<=1000/\z.cells.size=2:=by
 obtain⟨i,dd,z,h⟩:=Zs 192 ⟨.struct [(0,3),(1,3)],2,16,[.d (.int .i64 0),.d (.int .i64 0)]⟩ (by kernel_rfl);exact⟨i,z,h.info,h.zero,h.size,by rw[h.bytes];decide,(h.zrep default (λ_=>False) (λ_=>undef) (Qh [] default (λ_=>False) λ_=>undef)).1⟩
theorem CS:Tryz.prog.underlying 122=some (.slice 192):=by kernel_rfl
theorem Qq{g:Nat}{p:Value}(h:w.heap[g]?=some (.cells #[p,q,r,s] 194 (0,0))):(w.cell? ⟨g,0,none⟩=some p/\w.cell? ⟨g,1,none⟩=some q/\w.cell? ⟨g,2,none⟩=some r/\w.cell? ⟨g,3,none⟩=some s)/\w.frozen? ⟨g,0,none⟩=false/\w.frozen? ⟨g,1,none⟩=false/\w.frozen? ⟨g,2,none⟩=false/\w.frozen? ⟨g,3,none⟩=false:=by
 refine⟨⟨?_,?_,?_,?_⟩,?_,?_,?_,?_⟩<;>first|(simp[World.cell?,h];done)|(simp[World.frozen?,h];done)
theorem Tx(g c:Nat)(cur:Ξ)(w:World)(h:w.heap[g]?=some (.cells cur 194 (0,0)))(hc:cur.size=c*4)(h1:1<=c)(h2:c<=maxLen):Calls Tryz.prog 198 #[.slice (some ⟨g,0,none⟩) 1 c,iv 0,.int .i64 (IntKind.i64.wrap 1)] w λe w'=>e=.returned (.slice (some ⟨g,0,none⟩) 0 c)/\aM (λb=>b=g) w w' /\ w'.heap.size=w.heap.size:=by
 have e:IntKind.i64.wrap 1=1:=by decide
 rw[e];exact Z1G g c cur w h hc h1 h2
theorem Z1D{w:World}{m ck:Nat}{gs cs:Nat->Nat}{row:Nat->Ξ}(hg:GL w V7)(hgm:Wf≠m)(hgs:∀ i,Wf≠gs i)(hm:w.heap[m]?=some (.map #[Ye (sv (gs 0) 1 (cs 0)),Ys (sv (gs 1) 1 (cs 1)),YK (sv (gs 2) 1 (cs 2)),We (sv (gs 3) 1 (cs 3))] ck))(hr:∀ i,w.heap[gs i]?=some (.cells (row i) 194 (0,0)))(r0:∃ Z,row 0=#[iv 0,iv 0,iv 10,iv 0]++Z)(r1:∃ Z,row 1=#[iv 0,iv 10,iv 0,iv 0]++Z)(r2:∃ Z,row 2=#[iv 10,iv 0,iv 10,iv 10]++Z)(r3:∃ Z,row 3=#[iv 10,iv 10,iv 0,iv 10]++Z)(hc:∀ i,(row i).size=cs i*4/\1<=cs i/\cs i<=maxLen)(hd:∀ i j,i<4->j<4->gs i=gs j->i=j)(hmg:∀ i,m≠gs i):
  Calls Tryz.prog 112 #[.map (some m),ev 0 0 10 0] w λe w'=>∃v,e=.returned v/\w'.ownsRow w.heap.size 192 2 v 4 [iv 10,iv 0,iv 10,iv 10,iv 0,iv 10,iv 0,iv 0]/\w'.heap[m]?=some (.map #[Ye (sv (gs 0) 0 (cs 0)),Ys (sv (gs 1) 0 (cs 1)),YK (sv (gs 2) 0 (cs 2)),We (sv (gs 3) 0 (cs 3))] ck)/\aM (λb=>b=m\/∃i,b=gs i) w w':=by
 obtain⟨o,ho⟩:∃o,w.heap.size=o:=⟨_,rfl⟩;have f5:m<o:=ho ▸ J4 hm
 have c0:∀i,gs i<o:=λi=>ho ▸ J4 (hr i)
 go_enter Tryz.func112,Tryz.ntmps112
 go_wp2
 obtain⟨W,hW⟩:∃W,(w.alloc (.cells #[iv 0,iv 0,iv 10,iv 0] 194)).alloc (.cells #[iv 0,iv 0,iv 10,iv 0] 194)=W:=⟨_,rfl⟩;have F:Fo w W m ck o #[Ye (sv (gs 0) 1 (cs 0)),Ys (sv (gs 1) 1 (cs 1)),YK (sv (gs 2) 1 (cs 2)),We (sv (gs 3) 1 (cs 3))] 0 0 10 0 gs row (λ_=>true) (.slice none 0 0) 0 []:=by
  have f6:∀k,k<o->W.heap[k]?=w.heap[k]?:=λk hk=>by
   rw[<-hW];exact(Below.heap_alloc _ _ k (by simp;omega)).trans (Below.heap_alloc _ _ k (by omega))
  refine⟨(f6 m f5).trans hm,?_,?_,λi _ _=>(f6 _ (c0 i)).trans (hr i),f5,c0,World.ownsRow_nil _ _ _ _,ho,?_,?_⟩
  .rw [<-hW, <-ho];exact(Below.heap_alloc _ _ _ (by simp)).trans (World.alloc_heap_new _ _)
  .have:=World.alloc_heap_new (w.alloc (.cells #[iv 0,iv 0,iv 10,iv 0] 194)) (.cells #[iv 0,iv 0,iv 10,iv 0] 194)
   rwa [World.size_alloc,ho,hW]at this
  .rw [<-hW];exact(G3 (aM.alloc V7 _ _) (aM.alloc V7 _ _)).mono λ_ _ h=>h.elim
  .rw [<-hW, <-ho];simp
 change Code.wp _ _ _ _ ((w.alloc (.cells #[iv 0,iv 0,iv 10,iv 0] 194)).alloc (.cells #[iv 0,iv 0,iv 10,iv 0] 194));rw[hW]
 clear hW
 refine wp_loop_rounds 4 ?_;rw[rounds_succ]
 have lk:=Kq F.mp (xW _ _ _ _);obtain⟨Z,hZ⟩:=r2
 have q:=F.li 2 (by omega) rfl;have hl:=q
 have sz:=F.sz;have c3:=c0 2
 have n3:gs 2<W.heap.size:=by omega
 rw[hZ]at hl;obtain⟨q0,q1,q2,q3⟩:=MX hl
 obtain⟨⟨p0,p1,p2,p3⟩, -⟩:=Qq F.e6
 go_wp2
 go_region
 go_wp2
 have I:aM V7 W ((W.alloc (.cells #[iv 10,iv 0,iv 10,iv 10] 194)).drew):=G3 (aM.alloc V7 W _) (Jm _);have p:=F.mono I
 clear I
 have J:((W.alloc (.cells #[iv 10,iv 0,iv 10,iv 10] 194)).drew).heap[W.heap.size]?=some (.cells #[iv 10,iv 0,iv 10,iv 10] 194 (0,0)):=World.alloc_heap_new _ _;change Code.wp _ _ _ _ ((W.alloc (.cells #[iv 10,iv 0,iv 10,iv 10] 194)).drew)
 generalize ((W.alloc (.cells #[iv 10,iv 0,iv 10,iv 10] 194)).drew)=W5 at p J⊢;obtain⟨o9,ho9⟩:∃o9,W.heap.size=o9:=⟨_,rfl⟩
 rw[ho9]at J sz⊢;have Y:some o9≠((.slice none 0 0):Value).ownBlock:=λe=>by
  have:=(F.cor.lt _ e.symm).2
  omega
 clear lk q hl p0 p1 p2 p3 q0 q1 q2 q3 n3 F hZ Z
 apply iy (Q:=(λ(A:Act) e a' W2=>match e with|.normal=>a'=A/\Fo w W2 m ck o #[Ye (sv (gs 0) 1 (cs 0)),Ys (sv (gs 1) 1 (cs 1)),YK (sv (gs 2) 0 (cs 2)),We (sv (gs 3) 1 (cs 3))] 0 0 10 0 gs row (λi=>true&&i != 2) (.slice none 0 0) 0 []/\W2.heap[o9]?=some (.cells #[iv 10,iv 0,iv 10,iv 10] 194 (0,0))|_=>False) _)
 case h=>
  have q:=p.li 2 (by omega) rfl;have c9:Tryz.prog.follows .mixedOrders=true:=by kernel_rfl
  have b2:=J4 p.e6;have c7:=J4 J
  have b1:=J4 p.mp;obtain⟨⟨p0,p1,p2,p3⟩, -⟩:=Qq p.e6
  go_region_with_o (go_at_call 198;refine(Tx (gs 2) (cs 2) (row 2) _ (by exact q) (hc 2).1 (hc 2).2.1 (hc 2).2.2).mono ?_;rintro e W' ⟨rfl,st,hs⟩;have b0 : W'.heap[m]?=_:=(st.block m (by exact b1) (hmg 2)).trans p.mp;have up:=Tu b0 (xW _ _ _ _) rfl (v:=sv (gs 2) 0 (cs 2));have a9 : W'.heap[o+1]?=_:=(st.block (o+1) (by exact b2) (by omega)).trans p.e6;obtain⟨⟨T,V,S,P⟩, -⟩:=Qq a9)
  all_goals
   obtain⟨G,k6⟩:=p.del (es':=#[Ye (sv (gs 0) 1 (cs 0)),Ys (sv (gs 1) 1 (cs 1)),YK (sv (gs 2) 0 (cs 2)),We (sv (gs 3) 1 (cs 3))]) (ck:=ck) 2 (by omega) st hs hd hmg;exact⟨rfl,G,(k6 _ (by assumption) (by omega) (by omega)).trans J⟩
 intro e a' W6 h;have hn:e=.normal:=by cases e<;>first|rfl|exact(h:False).elim
 subst hn;obtain⟨rfl,G,r⟩:=h
 clear p J
 obtain⟨⟨p0,p1,p2,p3⟩, -⟩:=Qq G.e6;obtain⟨⟨q0,q1,q2,q3⟩, -⟩:=Qq r
 obtain⟨pi,pz,L,M,a1,U,u⟩:=CQ;simp only[Exit.then]
 go_wp2_with (first
  |(go_at_call 197;refine(Tv (tn1 0) (G.gl hg hgm hgs)).mono ?_;rintro e N ⟨rfl,B⟩;have K:=G.mono B;have s:N.heap[o9]?=_:=(B.block o9 (by exact J4 r) λh=>h).trans r;obtain⟨⟨T,V,S,P⟩, -⟩:=Qq K.e6)
  |(at_builtin;refine Jj rfl _ _ 122 rfl rfl CS L M a1 U u (by decide) rfl (K.mono (W':=N.alloc (.cells #[iv 10,iv 0] 192)) (aM.alloc V7 _ _)).cor rfl rfl (LY _ _ _ _) (by simp[Value.oneCell']) (by omega) (by have:=K.sz;simp;omega) ?_;intro v0 W8 t f a2 O;have H:=(K.mono (W':=N.alloc (.cells #[iv 10,iv 0] 192)) (aM.alloc V7 _ _)).app t f O;have a0:W8.heap[o9]?=_:=(H.2 o9 (by have:=J4 s;simp;omega) Y).trans ((Below.heap_alloc _ _ o9 (J4 s)).trans s);obtain⟨⟨c2,b8,c1,b9⟩, -⟩:=Qq a0;obtain⟨⟨t0,t1,t2,t3⟩, -⟩:=Qq H.1.e3;obtain⟨⟨s0,s1,s2,s3⟩,f0,f1,f2,f3⟩:=Qq H.1.e6))
 have F:=H.1.now 10 0 10 10;change Code.rounds _ _ _ _ _ ((((W8.setCell ⟨o+1,0,none⟩ (iv 10)).setCell ⟨o+1,1,none⟩ (iv 0)).setCell ⟨o+1,2,none⟩ (iv 10)).setCell ⟨o+1,3,none⟩ (iv 10))
 generalize ((((W8.setCell ⟨o+1,0,none⟩ (iv 10)).setCell ⟨o+1,1,none⟩ (iv 0)).setCell ⟨o+1,2,none⟩ (iv 10)).setCell ⟨o+1,3,none⟩ (iv 10))=W at F⊢;generalize N.heap.size=o7
 clear G r Y p0 p1 p2 p3 q0 q1 q2 q3 pi pz L M a1 U u t f a2 O H a0 c2 b8 c1 b9 t0 t1 t2 t3 s0 s1 s2 s3 f0 f1 f2 f3 K s T V S P B sz c3 ho9 W8 N W6
 rw[rounds_succ];have lk:=Kq F.mp (xV _ _ _ _)
 obtain⟨Z,hZ⟩:=r3;have q:=F.li 3 (by omega) rfl
 have hl:=q;have sz:=F.sz
 have c3:=c0 3;have n3:gs 3<W.heap.size:=by omega
 rw[hZ]at hl;obtain⟨q0,q1,q2,q3⟩:=MX hl
 obtain⟨⟨p0,p1,p2,p3⟩, -⟩:=Qq F.e6
 go_wp2
 go_region
 go_wp2
 have I:aM V7 W ((W.alloc (.cells #[iv 10,iv 10,iv 0,iv 10] 194)).drew):=G3 (aM.alloc V7 W _) (Jm _);have p:=F.mono I
 clear I
 have J:((W.alloc (.cells #[iv 10,iv 10,iv 0,iv 10] 194)).drew).heap[W.heap.size]?=some (.cells #[iv 10,iv 10,iv 0,iv 10] 194 (0,0)):=World.alloc_heap_new _ _;change Code.wp _ _ _ _ ((W.alloc (.cells #[iv 10,iv 10,iv 0,iv 10] 194)).drew)
 generalize ((W.alloc (.cells #[iv 10,iv 10,iv 0,iv 10] 194)).drew)=W5 at p J⊢;obtain⟨o9,ho9⟩:∃o9,W.heap.size=o9:=⟨_,rfl⟩
 rw[ho9]at J sz⊢;have Y:some o9≠(v0:Value).ownBlock:=λe=>by
  have:=(F.cor.lt _ e.symm).2
  omega
 clear lk q hl p0 p1 p2 p3 q0 q1 q2 q3 n3 F hZ Z
 apply iy (Q:=(λ(A:Act) e a' W2=>match e with|.normal=>a'=A/\Fo w W2 m ck o #[Ye (sv (gs 0) 1 (cs 0)),Ys (sv (gs 1) 1 (cs 1)),YK (sv (gs 2) 0 (cs 2)),We (sv (gs 3) 0 (cs 3))] 10 0 10 10 gs row (λi=>((true&&i != 2)&&i != 3)) v0 1 ([]++[iv 10,iv 0])/\W2.heap[o9]?=some (.cells #[iv 10,iv 10,iv 0,iv 10] 194 (0,0))|_=>False) _)
 case h=>
  have q:=p.li 3 (by omega) rfl;have c9:Tryz.prog.follows .mixedOrders=true:=by kernel_rfl
  have b2:=J4 p.e6;have c7:=J4 J
  have b1:=J4 p.mp;obtain⟨⟨p0,p1,p2,p3⟩, -⟩:=Qq p.e6
  go_region_with_o (go_at_call 198;refine(Tx (gs 3) (cs 3) (row 3) _ (by exact q) (hc 3).1 (hc 3).2.1 (hc 3).2.2).mono ?_;rintro e W' ⟨rfl,st,hs⟩;have b0 : W'.heap[m]?=_:=(st.block m (by exact b1) (hmg 3)).trans p.mp;have up:=Tu b0 (xV _ _ _ _) rfl (v:=sv (gs 3) 0 (cs 3));have a9 : W'.heap[o+1]?=_:=(st.block (o+1) (by exact b2) (by omega)).trans p.e6;obtain⟨⟨T,V,S,P⟩, -⟩:=Qq a9)
  all_goals
   obtain⟨G,k6⟩:=p.del (es':=#[Ye (sv (gs 0) 1 (cs 0)),Ys (sv (gs 1) 1 (cs 1)),YK (sv (gs 2) 0 (cs 2)),We (sv (gs 3) 0 (cs 3))]) (ck:=ck) 3 (by omega) st hs hd hmg;exact⟨rfl,G,(k6 _ (by assumption) (by omega) (by omega)).trans J⟩
 intro e a' W6 h;have hn:e=.normal:=by cases e<;>first|rfl|exact(h:False).elim
 subst hn;obtain⟨rfl,G,r⟩:=h
 clear p J
 obtain⟨⟨p0,p1,p2,p3⟩, -⟩:=Qq G.e6;obtain⟨⟨q0,q1,q2,q3⟩, -⟩:=Qq r
 obtain⟨pi,pz,L,M,a1,U,u⟩:=CQ;simp only[Exit.then]
 go_wp2_with (first
  |(go_at_call 197;refine(Tv (Id 0) (G.gl hg hgm hgs)).mono ?_;rintro e N ⟨rfl,B⟩;have K:=G.mono B;have s:N.heap[o9]?=_:=(B.block o9 (by exact J4 r) λh=>h).trans r;obtain⟨⟨T,V,S,P⟩, -⟩:=Qq K.e6)
  |(at_builtin;refine Jj rfl _ _ 122 rfl rfl CS L M a1 U u (by decide) rfl (K.mono (W':=N.alloc (.cells #[iv 10,iv 10] 192)) (aM.alloc V7 _ _)).cor rfl rfl (LY _ _ _ _) (by simp[Value.oneCell']) (by omega) (by have:=K.sz;simp;omega) ?_;intro v1 W8 t f a2 O;have H:=(K.mono (W':=N.alloc (.cells #[iv 10,iv 10] 192)) (aM.alloc V7 _ _)).app t f O;have a0:W8.heap[o9]?=_:=(H.2 o9 (by have:=J4 s;simp;omega) Y).trans ((Below.heap_alloc _ _ o9 (J4 s)).trans s);obtain⟨⟨c2,b8,c1,b9⟩, -⟩:=Qq a0;obtain⟨⟨t0,t1,t2,t3⟩, -⟩:=Qq H.1.e3;obtain⟨⟨s0,s1,s2,s3⟩,f0,f1,f2,f3⟩:=Qq H.1.e6))
 have F:=H.1.now 10 10 0 10;change Code.rounds _ _ _ _ _ ((((W8.setCell ⟨o+1,0,none⟩ (iv 10)).setCell ⟨o+1,1,none⟩ (iv 10)).setCell ⟨o+1,2,none⟩ (iv 0)).setCell ⟨o+1,3,none⟩ (iv 10))
 generalize ((((W8.setCell ⟨o+1,0,none⟩ (iv 10)).setCell ⟨o+1,1,none⟩ (iv 10)).setCell ⟨o+1,2,none⟩ (iv 0)).setCell ⟨o+1,3,none⟩ (iv 10))=W at F⊢;generalize N.heap.size=o7
 clear G r Y p0 p1 p2 p3 q0 q1 q2 q3 pi pz L M a1 U u t f a2 O H a0 c2 b8 c1 b9 t0 t1 t2 t3 s0 s1 s2 s3 f0 f1 f2 f3 K s T V S P B sz c3 ho9 W8 N W6
 rw[rounds_succ];have lk:=Kq F.mp (xX _ _ _ _)
 obtain⟨Z,hZ⟩:=r1;have q:=F.li 1 (by omega) rfl
 have hl:=q;have sz:=F.sz
 have c3:=c0 1;have n3:gs 1<W.heap.size:=by omega
 rw[hZ]at hl;obtain⟨q0,q1,q2,q3⟩:=MX hl
 obtain⟨⟨p0,p1,p2,p3⟩, -⟩:=Qq F.e6
 go_wp2
 go_region
 go_wp2
 have I:aM V7 W ((W.alloc (.cells #[iv 0,iv 10,iv 0,iv 0] 194)).drew):=G3 (aM.alloc V7 W _) (Jm _);have p:=F.mono I
 clear I
 have J:((W.alloc (.cells #[iv 0,iv 10,iv 0,iv 0] 194)).drew).heap[W.heap.size]?=some (.cells #[iv 0,iv 10,iv 0,iv 0] 194 (0,0)):=World.alloc_heap_new _ _;change Code.wp _ _ _ _ ((W.alloc (.cells #[iv 0,iv 10,iv 0,iv 0] 194)).drew)
 generalize ((W.alloc (.cells #[iv 0,iv 10,iv 0,iv 0] 194)).drew)=W5 at p J⊢;obtain⟨o9,ho9⟩:∃o9,W.heap.size=o9:=⟨_,rfl⟩
 rw[ho9]at J sz⊢;have Y:some o9≠(v1:Value).ownBlock:=λe=>by
  have:=(F.cor.lt _ e.symm).2
  omega
 clear lk q hl p0 p1 p2 p3 q0 q1 q2 q3 n3 F hZ Z
 apply iy (Q:=(λ(A:Act) e a' W2=>match e with|.normal=>a'=A/\Fo w W2 m ck o #[Ye (sv (gs 0) 1 (cs 0)),Ys (sv (gs 1) 0 (cs 1)),YK (sv (gs 2) 0 (cs 2)),We (sv (gs 3) 0 (cs 3))] 10 10 0 10 gs row (λi=>(((true&&i != 2)&&i != 3)&&i != 1)) v1 2 (([]++[iv 10,iv 0])++[iv 10,iv 10])/\W2.heap[o9]?=some (.cells #[iv 0,iv 10,iv 0,iv 0] 194 (0,0))|_=>False) _)
 case h=>
  have q:=p.li 1 (by omega) rfl;have c9:Tryz.prog.follows .mixedOrders=true:=by kernel_rfl
  have b2:=J4 p.e6;have c7:=J4 J
  have b1:=J4 p.mp;obtain⟨⟨p0,p1,p2,p3⟩, -⟩:=Qq p.e6
  go_region_with_o (go_at_call 198;refine(Tx (gs 1) (cs 1) (row 1) _ (by exact q) (hc 1).1 (hc 1).2.1 (hc 1).2.2).mono ?_;rintro e W' ⟨rfl,st,hs⟩;have b0 : W'.heap[m]?=_:=(st.block m (by exact b1) (hmg 1)).trans p.mp;have up:=Tu b0 (xX _ _ _ _) rfl (v:=sv (gs 1) 0 (cs 1));have a9 : W'.heap[o+1]?=_:=(st.block (o+1) (by exact b2) (by omega)).trans p.e6;obtain⟨⟨T,V,S,P⟩, -⟩:=Qq a9)
  all_goals
   obtain⟨G,k6⟩:=p.del (es':=#[Ye (sv (gs 0) 1 (cs 0)),Ys (sv (gs 1) 0 (cs 1)),YK (sv (gs 2) 0 (cs 2)),We (sv (gs 3) 0 (cs 3))]) (ck:=ck) 1 (by omega) st hs hd hmg;exact⟨rfl,G,(k6 _ (by assumption) (by omega) (by omega)).trans J⟩
 intro e a' W6 h;have hn:e=.normal:=by cases e<;>first|rfl|exact(h:False).elim
 subst hn;obtain⟨rfl,G,r⟩:=h
 clear p J
 obtain⟨⟨p0,p1,p2,p3⟩, -⟩:=Qq G.e6;obtain⟨⟨q0,q1,q2,q3⟩, -⟩:=Qq r
 obtain⟨pi,pz,L,M,a1,U,u⟩:=CQ;simp only[Exit.then]
 go_wp2_with (first
  |(go_at_call 197;refine(Tv (ER 0) (G.gl hg hgm hgs)).mono ?_;rintro e N ⟨rfl,B⟩;have K:=G.mono B;have s:N.heap[o9]?=_:=(B.block o9 (by exact J4 r) λh=>h).trans r;obtain⟨⟨T,V,S,P⟩, -⟩:=Qq K.e6)
  |(at_builtin;refine Jj rfl _ _ 122 rfl rfl CS L M a1 U u (by decide) rfl (K.mono (W':=N.alloc (.cells #[iv 0,iv 10] 192)) (aM.alloc V7 _ _)).cor rfl rfl (LY _ _ _ _) (by simp[Value.oneCell']) (by omega) (by have:=K.sz;simp;omega) ?_;intro v2 W8 t f a2 O;have H:=(K.mono (W':=N.alloc (.cells #[iv 0,iv 10] 192)) (aM.alloc V7 _ _)).app t f O;have a0:W8.heap[o9]?=_:=(H.2 o9 (by have:=J4 s;simp;omega) Y).trans ((Below.heap_alloc _ _ o9 (J4 s)).trans s);obtain⟨⟨c2,b8,c1,b9⟩, -⟩:=Qq a0;obtain⟨⟨t0,t1,t2,t3⟩, -⟩:=Qq H.1.e3;obtain⟨⟨s0,s1,s2,s3⟩,f0,f1,f2,f3⟩:=Qq H.1.e6))
 have F:=H.1.now 0 10 0 0;change Code.rounds _ _ _ _ _ ((((W8.setCell ⟨o+1,0,none⟩ (iv 0)).setCell ⟨o+1,1,none⟩ (iv 10)).setCell ⟨o+1,2,none⟩ (iv 0)).setCell ⟨o+1,3,none⟩ (iv 0))
 generalize ((((W8.setCell ⟨o+1,0,none⟩ (iv 0)).setCell ⟨o+1,1,none⟩ (iv 10)).setCell ⟨o+1,2,none⟩ (iv 0)).setCell ⟨o+1,3,none⟩ (iv 0))=W at F⊢;generalize N.heap.size=o7
 clear G r Y p0 p1 p2 p3 q0 q1 q2 q3 pi pz L M a1 U u t f a2 O H a0 c2 b8 c1 b9 t0 t1 t2 t3 s0 s1 s2 s3 f0 f1 f2 f3 K s T V S P B sz c3 ho9 W8 N W6
 rw[rounds_succ];have lk:=Kq F.mp (xY _ _ _ _)
 obtain⟨Z,hZ⟩:=r0;have q:=F.li 0 (by omega) rfl
 have hl:=q;have sz:=F.sz
 have c3:=c0 0;have n3:gs 0<W.heap.size:=by omega
 rw[hZ]at hl;obtain⟨q0,q1,q2,q3⟩:=MX hl
 obtain⟨⟨p0,p1,p2,p3⟩, -⟩:=Qq F.e6
 go_wp2
 go_region
 go_wp2
 have I:aM V7 W ((W.alloc (.cells #[iv 0,iv 0,iv 10,iv 0] 194)).drew):=G3 (aM.alloc V7 W _) (Jm _);have p:=F.mono I
 clear I
 have J:((W.alloc (.cells #[iv 0,iv 0,iv 10,iv 0] 194)).drew).heap[W.heap.size]?=some (.cells #[iv 0,iv 0,iv 10,iv 0] 194 (0,0)):=World.alloc_heap_new _ _;change Code.wp _ _ _ _ ((W.alloc (.cells #[iv 0,iv 0,iv 10,iv 0] 194)).drew)
 generalize ((W.alloc (.cells #[iv 0,iv 0,iv 10,iv 0] 194)).drew)=W5 at p J⊢;obtain⟨o9,ho9⟩:∃o9,W.heap.size=o9:=⟨_,rfl⟩
 rw[ho9]at J sz⊢;have Y:some o9≠(v2:Value).ownBlock:=λe=>by
  have:=(F.cor.lt _ e.symm).2
  omega
 clear lk q hl p0 p1 p2 p3 q0 q1 q2 q3 n3 F hZ Z
 apply iy (Q:=(λ(A:Act) e a' W2=>match e with|.normal=>a'=A/\Fo w W2 m ck o #[Ye (sv (gs 0) 0 (cs 0)),Ys (sv (gs 1) 0 (cs 1)),YK (sv (gs 2) 0 (cs 2)),We (sv (gs 3) 0 (cs 3))] 0 10 0 0 gs row (λi=>((((true&&i != 2)&&i != 3)&&i != 1)&&i != 0)) v2 3 ((([]++[iv 10,iv 0])++[iv 10,iv 10])++[iv 0,iv 10])/\W2.heap[o9]?=some (.cells #[iv 0,iv 0,iv 10,iv 0] 194 (0,0))|_=>False) _)
 case h=>
  have q:=p.li 0 (by omega) rfl;have c9:Tryz.prog.follows .mixedOrders=true:=by kernel_rfl
  have b2:=J4 p.e6;have c7:=J4 J
  have b1:=J4 p.mp;obtain⟨⟨p0,p1,p2,p3⟩, -⟩:=Qq p.e6
  go_region_with_o (go_at_call 198;refine(Tx (gs 0) (cs 0) (row 0) _ (by exact q) (hc 0).1 (hc 0).2.1 (hc 0).2.2).mono ?_;rintro e W' ⟨rfl,st,hs⟩;have b0 : W'.heap[m]?=_:=(st.block m (by exact b1) (hmg 0)).trans p.mp;have up:=Tu b0 (xY _ _ _ _) rfl (v:=sv (gs 0) 0 (cs 0));have a9 : W'.heap[o+1]?=_:=(st.block (o+1) (by exact b2) (by omega)).trans p.e6;obtain⟨⟨T,V,S,P⟩, -⟩:=Qq a9)
  all_goals
   obtain⟨G,k6⟩:=p.del (es':=#[Ye (sv (gs 0) 0 (cs 0)),Ys (sv (gs 1) 0 (cs 1)),YK (sv (gs 2) 0 (cs 2)),We (sv (gs 3) 0 (cs 3))]) (ck:=ck) 0 (by omega) st hs hd hmg;exact⟨rfl,G,(k6 _ (by assumption) (by omega) (by omega)).trans J⟩
 intro e a' W6 h;have hn:e=.normal:=by cases e<;>first|rfl|exact(h:False).elim
 subst hn;obtain⟨rfl,G,r⟩:=h
 clear p J
 obtain⟨⟨p0,p1,p2,p3⟩, -⟩:=Qq G.e6;obtain⟨⟨q0,q1,q2,q3⟩, -⟩:=Qq r
 obtain⟨pi,pz,L,M,a1,U,u⟩:=CQ;simp only[Exit.then]
 go_wp2_with (first
  |(go_at_call 197;refine(Tv (tn4 0) (G.gl hg hgm hgs)).mono ?_;rintro e N ⟨rfl,B⟩;have K:=G.mono B;have s:N.heap[o9]?=_:=(B.block o9 (by exact J4 r) λh=>h).trans r;obtain⟨⟨T,V,S,P⟩, -⟩:=Qq K.e6)
  |(at_builtin;refine Jj rfl _ _ 122 rfl rfl CS L M a1 U u (by decide) rfl (K.mono (W':=N.alloc (.cells #[iv 0,iv 0] 192)) (aM.alloc V7 _ _)).cor rfl rfl (LY _ _ _ _) (by simp[Value.oneCell']) (by omega) (by have:=K.sz;simp;omega) ?_;intro v3 W8 t f a2 O;have H:=(K.mono (W':=N.alloc (.cells #[iv 0,iv 0] 192)) (aM.alloc V7 _ _)).app t f O;have a0:W8.heap[o9]?=_:=(H.2 o9 (by have:=J4 s;simp;omega) Y).trans ((Below.heap_alloc _ _ o9 (J4 s)).trans s);obtain⟨⟨c2,b8,c1,b9⟩, -⟩:=Qq a0;obtain⟨⟨t0,t1,t2,t3⟩, -⟩:=Qq H.1.e3;obtain⟨⟨s0,s1,s2,s3⟩,f0,f1,f2,f3⟩:=Qq H.1.e6))
 go_ret
 refine⟨v3,rfl,⟨H.1.cor.1,?_⟩,H.1.mp,H.1.stp⟩;rcases H.1.cor.2 with h|⟨g,f8,f7,h1,h2,h3⟩
 .exact .inl h
 .exact .inr ⟨g,f8,f7,h1,by omega,h3⟩
theorem ya(W:World)(m:Nat)(es:Array MapEntry)(k:Nat):aM (λb=>b=m) W (Vk W m es k):=⟨rfl,rfl,rfl,by simp[Vk],λb _ h=>by
 simp only[Vk,mF];rw[an (λe=>h e.symm)],di _⟩
theorem z3{o:Go.Obj}(h:W.heap[m]?=some o)(es:Array MapEntry)(k:Nat):(Vk W m es k).heap[m]?=some (.map es k):=by
 have:=J4 h
 simp only[Vk,mF];rw[av trivial,av this]
theorem CM(X Y:Go.Obj)(h:W.heap[m]?=some (.map es k))(hf:∀ W,(Instr.findKey 192 (pv x y) es.toList).run Tryz.prog W=.ok none W):
  ∃Wm,(Instr.mapEntry 190 (.map (some m)) (pv x y)).run Tryz.prog ((W.alloc X).alloc Y)=.ok (.tuple #[.slice none 0 0,iv k]) Wm/\Wm.heap[m]?=some (.map (es.push ⟨pv x y,.slice none 0 0,k⟩) (k+1))/\Wm.heap.size=W.heap.size+2/\Wm.heap[W.heap.size+1]?=some Y/\aM (λb=>b=m) W Wm:=by
 have g:=J4 h;have e:((W.alloc X).alloc Y).heap[m]?=some (.map es k):=(Below.heap_alloc _ _ m (by simp;omega)).trans ((Below.heap_alloc _ _ m g).trans h)
 refine⟨_,Z1w e hf,z3 e _ _,by simp,?_,?_⟩
 .have f:=World.alloc_heap_new (W.alloc X) Y
  rw[World.size_alloc]at f;exact((ya _ m _ _).block (W.heap.size+1) (by simp) (by omega)).trans f
 .exact ((G3 (aM.alloc V7 W X) (aM.alloc V7 _ Y)).mono (λ_ _ h=>h.elim)).trans ((ya _ m _ _).mono λb i h=>.inl h)
theorem CN{i:Nat}(v:Value)(z:Int)(hz:z=born)(h:W.heap[m]?=some (.map es k))(hf:es.findIdx? (fun e=>(e.born:Int)==(born:Int))=some i:=by kernel_rfl):
  ∃W9,(Instr.entryStore 190 (.map (some m)) (iv z) v).run Tryz.prog W=.ok () W9/\W9.heap[m]?=some (.map (es.modify i λe=> {e with val:=v}) k)/\W9.heap.size=W.heap.size/\aM (λb=>b=m) W W9:=by
 subst hz;exact⟨_,Z1E h hf,z3 h _ _,by simp,ya _ m _ _⟩
theorem LZ(W:World)(g T:Nat)(p q r s:Value)(h:W.heap[g]?=some (.cells #[p,q,r,s] T (0,0))):∀j u,[p,q,r,s][j]?=some u->W.cell? ((⟨g,0,none⟩:Addr).add j)=some u:=by
 intro j u e;have i:j=0\/j=1\/j=2\/j=3:=by
  have:j<4:=by
   rcases eK j 4 with f|f
   .exact f
   .rw [iO (by simpa using f)]at e
    cases e
  omega
 rcases i with rfl|rfl|rfl|rfl<;>(simp at e;subst e;simp[World.cell?,h,Addr.add])
theorem Od:∃i z,Tryz.prog.info? 194=some i/\i.zero=some z/\i.size=4/\i.bytes<=1000/\z.cells.size=4:=by
 have h:((Tryz.prog.info? 194).map λi=>(i.size,decide (i.bytes<=1000),i.zero.map λz=>z.cells.size))=some (4,true,some 4):=by kernel_rfl
 cases hi:Tryz.prog.info? 194 with
 |none=>rw[hi]at h;cases h
 |some i=>
  rw[hi]at h;simp only[iU,ld,mO,dT]at h
  cases hz:i.zero with
  |none=>rw[hz]at h;cases h.2.2
  |some z=>
   rw[hz]at h;simp only[iU,ld]at h
   exact⟨i,z,rfl,hz,h.1,h.2.1,h.2.2⟩
theorem LE:Tryz.prog.underlying 188=some (.slice 194):=by kernel_rfl
abbrev zJ:aE:=⟨[⟨0,0,10,10⟩]⟩
abbrev eds:List Ab.Edge:=[⟨⟨0,0⟩,⟨10,0⟩⟩,⟨⟨0,10⟩,⟨0,0⟩⟩,⟨⟨10,0⟩,⟨10,10⟩⟩,⟨⟨10,10⟩,⟨0,10⟩⟩]
structure Rm (w2 W:World) (m:Nat) (es:Array MapEntry) (ck:Nat) (L:List (Nat×Nat×Ξ)):Prop where
 mp:W.heap[m]?=some (.map es ck)
 st:aM V7 w2 W
 ms:w2.heap.size<=m
 li:∀p∈L,W.heap[p.1]?=some (.cells p.2.2 194 (0,0))/\m<p.1/\p.2.2.size=p.2.1*4/\1<=p.2.1/\p.2.1<=maxLen
 up:L.Pairwise λp q=>p.1<q.1
theorem Rm.next{Wm W8 W9:World}{ck ck' : Nat}{g c:Nat}(R:Rm w2 W m es ck L)(st:aM (fun b=>b=m) W Wm)(szm:Wm.heap.size=W.heap.size+2)(hg:Wm.grownBy W8 none)(hdr:Wm.drawn<=W8.drawn)(hh:W8.heap[g]?=some (.cells cur 194 (0,0)))(hf:Wm.heap.size<=g)(m9:W9.heap[m]?=some (.map es' ck'))(st9:aM (fun b=>b=m) W8 W9)(h1:cur.size=c*4)(h2:1<=c)(h3:c<=maxLen):
  Rm w2 W9 m es' ck' (L++[(g,c,cur)]):=by
 have J:=J4 R.mp;have s:=J4 hh
 have e:∀j,j<W.heap.size->j≠m->W9.heap[j]?=W.heap[j]?:=λj B r=>
  (st9.block j (fH (by omega) hg.size) r).trans ((hg.block j (by omega) (by intro h;cases h)).trans (st.block j B r))
 have i:=R.st;have G:=R.ms
 refine⟨m9,⟨?_,?_,?_,?_,λb u _=>(e b (fH u i.size) (by omega)).trans (i.block b u λh=>h),?_⟩,G,λp f=>?_,?_⟩
 .exact st9.os.trans (hg.os.trans (st.os.trans i.os))
 .exact st9.tape.trans (hg.tape.trans (st.tape.trans i.tape))
 .exact st9.output.trans (hg.output.trans (st.output.trans i.output))
 .exact dP i.size (dP st.size (dP hg.size st9.size))
 .exact dP i.dr (dP st.dr (dP hdr st9.dr))
 .rcases dv.1 f with f|f
  .obtain ⟨t,I,H⟩:=R.li p f
   exact⟨(e _ (J4 t) (by omega)).trans t,I,H⟩
  .rw [dI.1 f]
   exact⟨(st9.block g s (by omega)).trans hh,by simp only;omega,h1,h2,h3⟩
 .rw [il]
  refine⟨R.up,by simp,λp f q A=>?_⟩;rw[dI.1 A]
  have:=J4 (R.li p f).1
  simp only
  omega
abbrev HY:List Ab.Point:=[⟨0,0⟩,⟨10,0⟩,⟨10,10⟩,⟨0,10⟩]
theorem Tw{v:Value}(h:aA W X v d)(st:aM V7 W W'):aA W' X v d:=h.mono λb f e=>⟨st.block b f λh=>h,e⟩
theorem Ed.stp{v:Value}{ga cap:Nat}(h:Ed W v ga off cap)(st:aM V7 W W'):Ed W' v ga off cap:=⟨h.eq,fH h.lt st.size,λk e=>by
 have:=h.aT k e
 simp only[World.cell?]at this⊢;rw[st.block ga h.lt λh=>h]
 exact this⟩
theorem Z1K{v:Value}(h:W.heap[k]?=some (.cells #[v] T (0,0))):W.cell? ⟨k,0,none⟩=some v:=by simp[World.cell?,h]
theorem Tq{v p:Value}(h:W.ownsRow b 194 4 v (0+1) ([]++[p,q,r,s])):∃g c cur Z,v=sv g 1 c/\b<=g/\W.heap[g]?=some (.cells cur 194 (0,0))/\cur.size=c*4/\1<=c/\c<=maxLen/\cur=#[p,q,r,s]++Z:=by
 rcases h.2 with ⟨_,h⟩|⟨g,i,cur,rfl,A,f,j,e,u,t⟩
 .exact absurd h (by omega)
 .refine ⟨g,i,cur,(cur.toList.drop 4).toArray,rfl,A,f,u,j,e,?_⟩
  apply nO.1;have:cur.toList.take 4=[p,q,r,s]:=t
  rw[mY, <-this,iR]
theorem H9{v:Value}(h:W.ownsRow b 122 1 v (0+1) ([]++[u])):∃g c Z,v=sv g 1 c/\b<=g/\W.heap[g]?=some (.cells (#[u]++Z) 122 (0,0))/\1<=c:=by
 rcases h.2 with ⟨_,h⟩|⟨g,i,e,rfl,r,f,j,q,s,p⟩
 .exact absurd h (by omega)
 .refine ⟨g,i,(e.toList.drop 1).toArray,rfl,r,?_,j⟩
  have:e=#[u]++(e.toList.drop 1).toArray:=by
   apply nO.1;have:e.toList.take 1=[u]:=p
   rw[mY, <-this,iR]
  rw[<-this];exact f
theorem La{o:Go.Obj}(hg:W.grownBy W' (Value.slice none 0 0).ownBlock)(h:W.heap[m]?=some o):W'.heap[m]?=some o:=(hg.block m (J4 h) (by intro h;cases h)).trans h
theorem Z5M(hg:W.grownBy W' (Value.slice none 0 0).ownBlock)(hd:W.drawn<=W'.drawn):aM V7 W W':=⟨hg.os,hg.tape,hg.output,hg.size,λb e _=>hg.block b e (by intro h;cases h),hd⟩
theorem Z3F{v:Value}(hX:∀g,b<=g->¬X g)(h:W.ownsRow b 192 2 v 4 [iv 10,iv 0,iv 10,iv 10,iv 0,iv 10,iv 0,iv 0]):aA W X v (DL (α:=Ab.Point) [⟨10,0⟩,⟨10,10⟩,⟨0,10⟩,⟨0,0⟩]):=by
 rcases h.2 with ⟨_,h⟩|⟨g,t,e,rfl,H,s,u,G,B,q⟩
 .exact absurd h (by omega)
 .have A:e=#[iv 10,iv 0,iv 10,iv 10,iv 0,iv 10,iv 0,iv 0]++(e.toList.drop 8).toArray:=by
   apply nO.1;have:e.toList.take 8=[iv 10,iv 0,iv 10,iv 10,iv 0,iv 10,iv 0,iv 0]:=q
   rw[mY, <-this,iR]
  generalize (e.toList.drop 8).toArray=Z at A;refine .lst g 0 4 t e _ (0,0) _ 2 (hX g H) s u (by omega) (λi f=>?_) (λi j f I=>?_)
  .have f:i<4:=f
   have:i=0\/i=1\/i=2\/i=3:=by omega
   rcases this with rfl|rfl|rfl|rfl<;>rfl
  .subst A
   have f:i<4:=f;have p:i=0\/i=1\/i=2\/i=3:=by omega
   have r:j=0\/j=1:=by omega
   rcases p with rfl|rfl|rfl|rfl<;>rcases r with rfl|rfl<;>(simp[Array.getD];rw[av (by omega)];exact .int _ _)
theorem Z0B(h:aA W X u (DL HY)):∃b off cp,u=.slice (some ⟨b,off,none⟩) 4 cp:=by
 unfold DL at h;have:HY.length=4:=rfl
 rw[this]at h
 cases h with|lst b off n cap c e fz f es h1 h2 h3 h4 h5 h6=>exact⟨_,_,_,rfl⟩
structure Rr (X:ξ) (w2 W:World) (m:Nat) (es:Array MapEntry) (gr:Nat) (Z:Ξ) (b off cp:Nat):Prop where
 mp:W.heap[m]?=some (.map es 4)
 rw:W.heap[gr]?=some (.cells (#[.slice (some ⟨b,off,none⟩) 4 cp]++Z) 122 (0,0))
 du:aA W X (.slice (some ⟨b,off,none⟩) 4 cp) (DL HY)
 st:aM V7 w2 W
theorem Rr.mono(R:Rr X w2 W m es gr Z b off cp)(st:aM V7 W W'):Rr X w2 W' m es gr Z b off cp:=
 ⟨(st.block _ (J4 R.mp) λh=>h).trans R.mp,(st.block _ (J4 R.rw) λh=>h).trans R.rw,Tw R.du st,G3 R.st st⟩
theorem Rr.res{c:Nat}(R:Rr X w2 W m es gr Z b off cp)(hX:¬X gr)(h1:1<=c):aA W X (sv gr 1 c) (DL (α:=List Ab.Point) [HY]):=by
 refine .lst gr 0 1 c _ _ (0,0) _ 1 hX R.rw h1 (by simp) (λi f=>?_) (λi j f g=>?_)
 .have f:i<1:=f
  obtain rfl:i=0:=by omega
  rfl
 .have f:i<1:=f
  obtain rfl:i=0:=by omega
  obtain rfl:j=0:=by omega
  have e:(#[Value.slice (some ⟨b,off,none⟩) 4 cp]++Z).getD (0+(0*1+0)) undef=.slice (some ⟨b,off,none⟩) 4 cp:=by simp[Array.getD]
  rw[e];exact R.du
theorem Z3y:∃i z,Tryz.prog.info? 122=some i/\i.zero=some z/\i.size=1/\i.bytes<=1000/\z.cells.size=1:=by
 have h:((Tryz.prog.info? 122).map λi=>(i.size,decide (i.bytes<=1000),i.zero.map λz=>z.cells.size))=some (1,true,some 1):=by kernel_rfl
 cases hi:Tryz.prog.info? 122 with
 |none=>rw[hi]at h;cases h
 |some i=>
  rw[hi]at h;simp only[iU,ld,mO,dT]at h
  cases hz:i.zero with
  |none=>rw[hz]at h;cases h.2.2
  |some z=>
   rw[hz]at h;simp only[iU,ld]at h
   exact⟨i,z,rfl,hz,h.1,h.2.1,h.2.2⟩
theorem EL:Tryz.prog.underlying 116=some (.slice 122):=by kernel_rfl
theorem Z7Q(W:World)(T:Nat)(p:Value):∀j u,[p][j]?=some u->(W.alloc (.cells #[p] T)).cell? ((⟨W.heap.size,0,none⟩:Addr).add j)=some u:=by
 intro j u e
 match j,e with
 |0,e=>
  simp at e
  subst e;simp[Addr.add]
def Um{α:Type}(a b c d:α):Nat->α
 |0=>a
 |1=>b
 |2=>c
 |_=>d
theorem Z3A{α:Type}{a b c d:α}{P:α->Prop}(h0:P a)(h1:P b)(h2:P c)(h3:P d):∀i,P (Um a b c d i)
 |0=>h0
 |1=>h1
 |2=>h2
 |_+3=>h3
theorem Ak{α β:Type}{a b c d:α}{a' b' c' d' : β}{P:α->β->Prop}(h0:P a a')(h1:P b b')(h2:P c c')(h3:P d d'):∀i,P (Um a b c d i) (Um a' b' c' d' i)
 |0=>h0
 |1=>h1
 |2=>h2
 |_+3=>h3
theorem Z3z{a c d:Nat}(h:(a<b/\a<c/\a<d)/\(b<c/\b<d)/\c<d):∀i j,i<4->j<4->Um a b c d i=Um a b c d j->i=j:=by
 intro i j p q e;have f:i=0\/i=1\/i=2\/i=3:=by omega
 have g:j=0\/j=1\/j=2\/j=3:=by omega
 rcases f with rfl|rfl|rfl|rfl<;>rcases g with rfl|rfl|rfl|rfl<;>first|rfl|(simp only[Um]at e;omega)
theorem Z1u{F:Nat}{w:World}(hg:GL w V7){v:Value}(hv:aA w V7 v (DL zJ.t_))(hV:Wv F zJ=some true)(hE:Mb F zJ=some eds):
  Calls Tryz.prog 49 #[.agg #[v]] w λe w'=>∃u,e=.returned (.tuple #[u,iv 0])/\aA w' (λb=>b<w.heap.size/\b≠Wf) u (DL (α:=List Ab.Point) [[⟨0,0⟩,⟨10,0⟩,⟨10,10⟩,⟨0,10⟩]])/\aM V7 w w':=by
 have c5:aM V7 w (w.alloc (.cells #[v] 63)):=aM.alloc V7 _ _;have c0:=World.alloc_heap_new w (.cells #[v] 63)
 have c6:=Tw hv c5;have mk:=λW=>run_makeMap (P:=Tryz.prog) 190 W
 go_enter Tryz.func49,Tryz.ntmps49
 go_wp2_with (first
  |(go_at_call 108;refine(NF hV (c5.gl hg) c6).mono ?_;rintro e w1 ⟨rfl,c7⟩;have c1:=Z1K ((c7.block _ (J4 c0) λh=>h).trans c0);have d8:=Tw c6 c7)
  |(go_at_call 109;refine(Z1F hE (c7.gl (c5.gl hg)) d8).mono ?_;rintro e w2 ⟨u,rfl,hu,i5⟩;have hu:=hu;obtain⟨I,p,n0,Eu⟩:=Ed.of hu;obtain rfl:=Eu.eq))
 have R0:Rm w2 (w2.alloc (.map #[] 0)) w2.heap.size #[] 0 []:=⟨World.alloc_heap_new _ _,aM.alloc V7 _ _,di _,by simp,by simp⟩;have g7:aM V7 w w2:=G3 (G3 c5 c7) i5
 have i4:GL w2 V7:=g7.gl hg;have n1:Wf<w2.heap.size:=by obtain⟨_,e,fz,h⟩:=i4;exact J4 h
 clear hg
 generalize (w2.alloc (.map #[] 0))=W0 at R0⊢;obtain⟨m,hm⟩:∃m,w2.heap.size=m:=⟨_,rfl⟩
 rw[hm]at R0⊢;have j6:=g7.size
 obtain⟨o1,ho1⟩:∃o1,w.heap.size=o1:=⟨_,rfl⟩;rw[ho1]
 rw[ho1]at j6
 clear mk c5 c0 c6 c1 d8 c7 i5 hu w1
 obtain⟨ei,ez,d9,e4,e0,e5,b1⟩:=Od;refine wp_loop_rounds 5 ?_
 rw[rounds_succ];have f:=Eu.stp R0.st
 have q0:W0.cell? ⟨I,p,none⟩=some (iv 0):=f.aT 0 (by omega);have q1:W0.cell? ⟨I,p+1,none⟩=some (iv 0):=f.aT 1 (by omega)
 have q2:W0.cell? ⟨I,p+2,none⟩=some (iv 10):=f.aT 2 (by omega);have q3:W0.cell? ⟨I,p+3,none⟩=some (iv 0):=f.aT 3 (by omega)
 obtain⟨Wm,a6,N,T,hY,Y⟩:=CM (.cells #[iv 0,iv 0,iv 10,iv 0] 194) (.cells #[iv 0,iv 0,iv 10,iv 0] 194) R0.mp (fk0)
 go_wp2_with (at_builtin;refine Jj (base:=Wm.heap.size) rfl _ _ 188 rfl rfl LE d9 e4 e0 e5 b1 (by decide) rfl (World.ownsRow_nil _ _ _ _) rfl rfl (LZ _ _ _ _ _ _ _ hY) (by simp[Value.oneCell']) (by omega) (di _) ?_;intro v0 W8 s q O M;obtain⟨g0,c0,f2,Z0,c6,a0,hh,L,V,Z,b8⟩:=Tq s;subst c6;have J:=La q N;obtain⟨W1,U,S,a5,H⟩:=CN (i:=0) (born:=0) (sv g0 1 c0) 0 rfl J)
 have B : W1.heap[m]?=some (.map #[Ye (sv g0 1 c0)] 1):=S;have R1:=R0.next Y T q M hh a0 B H L V Z
 generalize W0.heap.size=o9
 clear R0 a6 N T hY Y s q O J M U S B a5 H q0 q1 q2 q3 f a0 hh L V Z W8 Wm W0
 rw[rounds_succ];have f:=Eu.stp R1.st
 have q0:W1.cell? ⟨I,p+4,none⟩=some (iv 0):=f.aT 4 (by omega);have q1:W1.cell? ⟨I,p+5,none⟩=some (iv 10):=f.aT 5 (by omega)
 have q2:W1.cell? ⟨I,p+6,none⟩=some (iv 0):=f.aT 6 (by omega);have q3:W1.cell? ⟨I,p+7,none⟩=some (iv 0):=f.aT 7 (by omega)
 obtain⟨Wm,a6,N,T,hY,Y⟩:=CM (.cells #[iv 0,iv 10,iv 0,iv 0] 194) (.cells #[iv 0,iv 10,iv 0,iv 0] 194) R1.mp (N4 _)
 go_wp2_with (at_builtin;refine Jj (base:=Wm.heap.size) rfl _ _ 188 rfl rfl LE d9 e4 e0 e5 b1 (by decide) rfl (World.ownsRow_nil _ _ _ _) rfl rfl (LZ _ _ _ _ _ _ _ hY) (by simp[Value.oneCell']) (by omega) (di _) ?_;intro v1 W8 s q O M;obtain⟨g1,c1,e8,Z1,d8,a0,hh,L,V,Z,f6⟩:=Tq s;subst d8;have J:=La q N;obtain⟨W2,U,S,a5,H⟩:=CN (i:=1) (born:=1) (sv g1 1 c1) 1 rfl J)
 have B : W2.heap[m]?=some (.map #[Ye (sv g0 1 c0),Ys (sv g1 1 c1)] 2):=S;have R2:=R1.next Y T q M hh a0 B H L V Z
 generalize W1.heap.size=o9
 clear R1 a6 N T hY Y s q O J M U S B a5 H q0 q1 q2 q3 f a0 hh L V Z W8 Wm W1
 rw[rounds_succ];have f:=Eu.stp R2.st
 have q0:W2.cell? ⟨I,p+8,none⟩=some (iv 10):=f.aT 8 (by omega);have q1:W2.cell? ⟨I,p+9,none⟩=some (iv 0):=f.aT 9 (by omega)
 have q2:W2.cell? ⟨I,p+10,none⟩=some (iv 10):=f.aT 10 (by omega);have q3:W2.cell? ⟨I,p+11,none⟩=some (iv 10):=f.aT 11 (by omega)
 obtain⟨Wm,a6,N,T,hY,Y⟩:=CM (.cells #[iv 10,iv 0,iv 10,iv 10] 194) (.cells #[iv 10,iv 0,iv 10,iv 10] 194) R2.mp (fk2 _ _)
 go_wp2_with (at_builtin;refine Jj (base:=Wm.heap.size) rfl _ _ 188 rfl rfl LE d9 e4 e0 e5 b1 (by decide) rfl (World.ownsRow_nil _ _ _ _) rfl rfl (LZ _ _ _ _ _ _ _ hY) (by simp[Value.oneCell']) (by omega) (di _) ?_;intro v2 W8 s q O M;obtain⟨g2,c2,f1,Z2,l8,a0,hh,L,V,Z,e7⟩:=Tq s;subst l8;have J:=La q N;obtain⟨W3,U,S,a5,H⟩:=CN (i:=2) (born:=2) (sv g2 1 c2) 2 rfl J)
 have B : W3.heap[m]?=some (.map #[Ye (sv g0 1 c0),Ys (sv g1 1 c1),YK (sv g2 1 c2)] 3):=S;have R3:=R2.next Y T q M hh a0 B H L V Z
 generalize W2.heap.size=o9
 clear R2 a6 N T hY Y s q O J M U S B a5 H q0 q1 q2 q3 f a0 hh L V Z W8 Wm W2
 rw[rounds_succ];have f:=Eu.stp R3.st
 have q0:W3.cell? ⟨I,p+12,none⟩=some (iv 10):=f.aT 12 (by omega);have q1:W3.cell? ⟨I,p+13,none⟩=some (iv 10):=f.aT 13 (by omega)
 have q2:W3.cell? ⟨I,p+14,none⟩=some (iv 0):=f.aT 14 (by omega);have q3:W3.cell? ⟨I,p+15,none⟩=some (iv 10):=f.aT 15 (by omega)
 obtain⟨Wm,a6,N,T,hY,Y⟩:=CM (.cells #[iv 10,iv 10,iv 0,iv 10] 194) (.cells #[iv 10,iv 10,iv 0,iv 10] 194) R3.mp (fk3 _ _ _)
 go_wp2_with (at_builtin;refine Jj (base:=Wm.heap.size) rfl _ _ 188 rfl rfl LE d9 e4 e0 e5 b1 (by decide) rfl (World.ownsRow_nil _ _ _ _) rfl rfl (LZ _ _ _ _ _ _ _ hY) (by simp[Value.oneCell']) (by omega) (di _) ?_;intro v3 W8 s q O M;obtain⟨g3,c3,f5,Z3,k6,a0,hh,L,V,Z,f3⟩:=Tq s;subst k6;have J:=La q N;obtain⟨W4,U,S,a5,H⟩:=CN (i:=3) (born:=3) (sv g3 1 c3) 3 rfl J)
 have B : W4.heap[m]?=some (.map #[Ye (sv g0 1 c0),Ys (sv g1 1 c1),YK (sv g2 1 c2),We (sv g3 1 c3)] 4):=S;have R4:=R3.next Y T q M hh a0 B H L V Z
 generalize W3.heap.size=o9
 clear R3 a6 N T hY Y s q O J M U S B a5 H q0 q1 q2 q3 f a0 hh L V Z W8 Wm W3
 rw[rounds_succ]
 go_wp2
 have L0:=R4.li (g0,c0,f2) (by simp);have L1:=R4.li (g1,c1,e8) (by simp)
 have L2:=R4.li (g2,c2,f1) (by simp);have L3:=R4.li (g3,c3,f5) (by simp)
 have up:=R4.up;simp only[iL,iC,fu,dY,fF,iW,forall_eq_or_imp,forall_eq,List.Pairwise.nil,and_true]at up
 simp only at L0 L1 L2 L3;refine wp_loop_rounds 5 ?_
 rw[rounds_succ];have f:=Eu.stp R4.st
 have q0:W4.cell? ⟨I,p,none⟩=some (iv 0):=f.aT 0 (by omega);have q1:W4.cell? ⟨I,p+1,none⟩=some (iv 0):=f.aT 1 (by omega)
 have q2:W4.cell? ⟨I,p+2,none⟩=some (iv 10):=f.aT 2 (by omega);have q3:W4.cell? ⟨I,p+3,none⟩=some (iv 0):=f.aT 3 (by omega)
 have t:aM V7 W4 (W4.alloc (.cells #[iv 0,iv 0,iv 10,iv 0] 194)).drew:=G3 (aM.alloc V7 _ _) (Jm _);have a1:∀j o,W4.heap[j]?=some o->(W4.alloc (.cells #[iv 0,iv 0,iv 10,iv 0] 194)).drew.heap[j]?=some o:=λj o h=>(t.block j (J4 h) λh=>h).trans h
 have lk:=Kq (a1 _ _ R4.mp) (xY _ _ _ _);have h3:=a1 _ _ L0.1
 rw[b8]at h3;have e9:(W4.alloc (.cells #[iv 0,iv 0,iv 10,iv 0] 194)).drew.heap[W4.heap.size]?=some (.cells #[iv 0,iv 0,iv 10,iv 0] 194):=World.alloc_heap_new _ _
 obtain⟨⟨p0,p1,p2,p3⟩, -⟩:=Qq e9
 go_wp2
 apply iy (Q:=(λ(A:Act) e a' W2=>match e with|.normal=>a'=A/\aM V7 (W4.alloc (.cells #[iv 0,iv 0,iv 10,iv 0] 194)).drew W2|_=>False) _)
 case h=>
  have h0:Tryz.prog.follows .mixedOrders=true:=by kernel_rfl
  go_region_with_o (go_at_call 110;refine(Z1H _ _ _ _ _ _ _ _ (by exact h3)).mono ?_;rintro e W' ⟨rfl,st⟩)
  all_goals exact⟨rfl,st⟩
 intro e a' W6 h;have hn:e=.normal:=by cases e<;>first|rfl|exact(h:False).elim
 subst hn;obtain⟨rfl,G⟩:=h
 have K:∀j o,W4.heap[j]?=some o->W6.heap[j]?=some o:=λj o h=>(G.block j (J4 (a1 j o h)) λh=>h).trans (a1 j o h)
 have i3:=(G.block _ (J4 e9) λh=>h).trans e9;obtain⟨⟨k8,l7,k7,l5⟩, -⟩:=Qq i3
 have e1:∀i,m<(Um g0 g1 g2 g3) i:=Z3A L0.2.1 L1.2.1 L2.2.1 L3.2.1;have ms:=R4.ms
 obtain⟨pi,pz,k5,l2,l0,l6,j8⟩:=Z3y;have hz:∀b,(b=m\/∃i,b=(Um g0 g1 g2 g3) i)->w2.heap.size<=b:=by
  rintro b (rfl|⟨i,rfl⟩)
  .exact ms
  .exact dP ms (Nat.le_of_lt (e1 i))
 have g8:o1<=W6.heap.size:=dP j6 (dP R4.st.size (dP t.size G.size));have j7:GL W6 V7:=G.gl (t.gl (R4.st.gl i4))
 have fo:=Z1D (gs:=(Um g0 g1 g2 g3)) (cs:=(Um c0 c1 c2 c3)) (row:=(Um f2 e8 f1 f5)) j7 (by omega) (λi e=>by have:=e1 i;omega) (K _ _ R4.mp) (Ak (P:=λg f8=>W6.heap[g]?=some (.cells f8 194 (0,0))) (K _ _ L0.1) (K _ _ L1.1) (K _ _ L2.1) (K _ _ L3.1)) ⟨Z0,b8⟩ ⟨Z1,f6⟩ ⟨Z2,e7⟩ ⟨Z3,f3⟩ (Ak (P:=λc (f8:Ξ)=>f8.size=c*4/\1<=c/\c<=maxLen) L0.2.2 L1.2.2 L2.2.2 L3.2.2) (Z3z ⟨up.1,up.2.1,up.2.2.1⟩) (λi=>Nat.ne_of_lt (e1 i));simp only[Exit.then]
 go_wp2_with (first
  |(go_at_call 112;refine fo.mono ?_;rintro e W7 ⟨vf,rfl,s,h7,g6⟩;have c9 : aM (λb=>w2.heap.size<=b) W6 W7:=g6.mono λb _ h=>hz b h;have h2:=dP g8 g6.size)
  |(go_at_call 111;refine(Z1L (F:=100) (r:=HY) (X:=λb=>b<o1/\b≠Wf) ⟨λb hb=>fH hb.1 h2,λh=>h.2 rfl,j7.2.elim λe h=>h.elim λfz h=>⟨e,fz,(c9.block Wf (J4 h) (by omega)).trans h⟩⟩ (Z3F (λg hg hb=>Nat.not_lt.2 (dP g8 hg) hb.1) s)).mono ?_;rintro e W8 ⟨u,rfl,du,d6⟩;obtain⟨b,j5,cp,rfl⟩:=Z0B du)
  |(at_builtin;refine Jj (base:=W8.heap.size) rfl _ _ 116 rfl rfl EL k5 l2 l0 l6 j8 (by decide) rfl (World.ownsRow_nil _ _ _ _) rfl rfl (Z7Q _ _ _) (by simp[Value.oneCell']) (by omega) (by simp) ?_;intro v9 W9 b9 b0 h6 f4;obtain⟨gr,cr,Zr,rfl,j2,j1,l1⟩:=H9 b9))
 have H:=G3 (aM.alloc V7 _ _) (Z5M b0 f4);have J:=(d6.block _ (J4 h7) λh=>h).trans h7
 have k9:¬gr<o1:=Nat.not_lt.2 (dP h2 (dP d6.size j2));have r1:Rr (λb=>b<o1/\b≠Wf) w2 W9 m #[Ye (sv g0 0 c0),Ys (sv g1 0 c1),YK (sv g2 0 c2),We (sv g3 0 c3)] gr Zr b j5 cp:=⟨(H.block _ (J4 J) λh=>h).trans J,j1,Tw du H,G3 (G3 (((G3 R4.st (G3 t G))).trans (c9.mono λb _ h=>.inr h)) d6) H⟩
 generalize W9=V1 at r1 j1⊢;generalize W8.heap.size=o8
 generalize W4.heap.size=o4;have n4:=R4.st
 clear hz g8 h2 H J fo d6 du c9 g6 s h7 b0 f4 h6 b9 j2 a1 K i3 k8 l7 k7 l5 e1 G p0 p1 p2 p3 e9 h3 lk t q0 q1 q2 q3 f up L0 L1 L2 L3 R4 b8 f6 e7 f3
 rw[rounds_succ];have f:=Eu.stp r1.st
 have q0:V1.cell? ⟨I,p+4,none⟩=some (iv 0):=f.aT 4 (by omega);have q1:V1.cell? ⟨I,p+5,none⟩=some (iv 10):=f.aT 5 (by omega)
 have q2:V1.cell? ⟨I,p+6,none⟩=some (iv 0):=f.aT 6 (by omega);have q3:V1.cell? ⟨I,p+7,none⟩=some (iv 0):=f.aT 7 (by omega)
 have t:aM V7 V1 (V1.alloc (.cells #[iv 0,iv 10,iv 0,iv 0] 194)).drew:=G3 (aM.alloc V7 _ _) (Jm _);have lk:=Kq ((t.block _ (J4 r1.mp) λh=>h).trans r1.mp) (xX _ _ _ _)
 have e9:(V1.alloc (.cells #[iv 0,iv 10,iv 0,iv 0] 194)).drew.heap[V1.heap.size]?=some (.cells #[iv 0,iv 10,iv 0,iv 0] 194):=World.alloc_heap_new _ _;obtain⟨⟨p0,p1,p2,p3⟩, -⟩:=Qq e9
 go_wp2
 apply iy (Q:=(λ(A:Act) e a' W2=>match e with|.normal=>a'=A/\aM V7 (V1.alloc (.cells #[iv 0,iv 10,iv 0,iv 0] 194)).drew W2|_=>False) _)
 case h=>
  have h0:Tryz.prog.follows .mixedOrders=true:=by kernel_rfl
  go_region_with_o (go_at_call 110;refine(yp _ _ _ _ _ _ _).mono ?_;rintro e W' ⟨rfl,st⟩)
  all_goals exact⟨rfl,st⟩
 intro e a' V2 h;have hn:e=.normal:=by cases e<;>first|rfl|exact(h:False).elim
 subst hn;obtain⟨rfl,G⟩:=h
 simp only[Exit.then]
 go_wp2
 have r2:=r1.mono (G3 t G);generalize V1.heap.size=sz1
 clear G p0 p1 p2 p3 e9 lk t q0 q1 q2 q3 f r1
 rw[rounds_succ];have f:=Eu.stp r2.st
 have q0:V2.cell? ⟨I,p+8,none⟩=some (iv 10):=f.aT 8 (by omega);have q1:V2.cell? ⟨I,p+9,none⟩=some (iv 0):=f.aT 9 (by omega)
 have q2:V2.cell? ⟨I,p+10,none⟩=some (iv 10):=f.aT 10 (by omega);have q3:V2.cell? ⟨I,p+11,none⟩=some (iv 10):=f.aT 11 (by omega)
 have t:aM V7 V2 (V2.alloc (.cells #[iv 10,iv 0,iv 10,iv 10] 194)).drew:=G3 (aM.alloc V7 _ _) (Jm _);have lk:=Kq ((t.block _ (J4 r2.mp) λh=>h).trans r2.mp) (xW _ _ _ _)
 have e9:(V2.alloc (.cells #[iv 10,iv 0,iv 10,iv 10] 194)).drew.heap[V2.heap.size]?=some (.cells #[iv 10,iv 0,iv 10,iv 10] 194):=World.alloc_heap_new _ _;obtain⟨⟨p0,p1,p2,p3⟩, -⟩:=Qq e9
 go_wp2
 apply iy (Q:=(λ(A:Act) e a' W2=>match e with|.normal=>a'=A/\aM V7 (V2.alloc (.cells #[iv 10,iv 0,iv 10,iv 10] 194)).drew W2|_=>False) _)
 case h=>
  have h0:Tryz.prog.follows .mixedOrders=true:=by kernel_rfl
  go_region_with_o (go_at_call 110;refine(yp _ _ _ _ _ _ _).mono ?_;rintro e W' ⟨rfl,st⟩)
  all_goals exact⟨rfl,st⟩
 intro e a' V3 h;have hn:e=.normal:=by cases e<;>first|rfl|exact(h:False).elim
 subst hn;obtain⟨rfl,G⟩:=h
 simp only[Exit.then]
 go_wp2
 have r3:=r2.mono (G3 t G);generalize V2.heap.size=sz2
 clear G p0 p1 p2 p3 e9 lk t q0 q1 q2 q3 f r2
 rw[rounds_succ];have f:=Eu.stp r3.st
 have q0:V3.cell? ⟨I,p+12,none⟩=some (iv 10):=f.aT 12 (by omega);have q1:V3.cell? ⟨I,p+13,none⟩=some (iv 10):=f.aT 13 (by omega)
 have q2:V3.cell? ⟨I,p+14,none⟩=some (iv 0):=f.aT 14 (by omega);have q3:V3.cell? ⟨I,p+15,none⟩=some (iv 10):=f.aT 15 (by omega)
 have t:aM V7 V3 (V3.alloc (.cells #[iv 10,iv 10,iv 0,iv 10] 194)).drew:=G3 (aM.alloc V7 _ _) (Jm _);have lk:=Kq ((t.block _ (J4 r3.mp) λh=>h).trans r3.mp) (xV _ _ _ _)
 have e9:(V3.alloc (.cells #[iv 10,iv 10,iv 0,iv 10] 194)).drew.heap[V3.heap.size]?=some (.cells #[iv 10,iv 10,iv 0,iv 10] 194):=World.alloc_heap_new _ _;obtain⟨⟨p0,p1,p2,p3⟩, -⟩:=Qq e9
 go_wp2
 apply iy (Q:=(λ(A:Act) e a' W2=>match e with|.normal=>a'=A/\aM V7 (V3.alloc (.cells #[iv 10,iv 10,iv 0,iv 10] 194)).drew W2|_=>False) _)
 case h=>
  have h0:Tryz.prog.follows .mixedOrders=true:=by kernel_rfl
  go_region_with_o (go_at_call 110;refine(yp _ _ _ _ _ _ _).mono ?_;rintro e W' ⟨rfl,st⟩)
  all_goals exact⟨rfl,st⟩
 intro e a' V4 h;have hn:e=.normal:=by cases e<;>first|rfl|exact(h:False).elim
 subst hn;obtain⟨rfl,G⟩:=h
 simp only[Exit.then]
 go_wp2
 have r4:=r3.mono (G3 t G);generalize V3.heap.size=sz3
 clear G p0 p1 p2 p3 e9 lk t q0 q1 q2 q3 f r3
 rw[rounds_succ]
 go_wp2_with (first
  |(go_at_call 113;refine(EX (by exact r4.rw)).mono ?_;rintro e V5 ⟨rfl,t⟩)
  |(go_at_call 115;refine(Em _).mono ?_;rintro e V6 ⟨⟨vs,rfl⟩,G⟩))
 go_ret2
 have r5:=(r4.mono t).mono G;subst ho1
 exact⟨_,rfl,r5.res (λh=>k9 h.1) l1,G3 g7 r5.st⟩
end Go.Proofs
namespace Go.Ab
open Go.Proofs Go.Shelf Go.RowKit Go.Lib
variable {r:(List (List Point))×Int}{F:Nat}{a:aE}
theorem Z3R(h:Mc F a=some r):J7 Tryz.prog 49 [.v (.g [.d (DL a.t_)])] [] (.t [.c (.d (DL r.1)),.c (ci r.2)]) []:=by
 unfold Mc at h;split at h
 .rename_i L
  subst L;cases h
  intro w X η N p _ _ _ i f;have H:=f 0 (by simp)
  have A:=KU i;generalize N.getD 0 undef=x at H A
  subst A
  cases H with|v _ _ h=>cases h with|g us _ h=>
   have q:=KU h.1;have s:=h.2 0 (by simp)
   generalize us.getD 0 undef=y at s q;subst q
   cases s with|d _ _ h=>
    refine(Z1u ⟨λh=>h,p.gl.2⟩ (h.mono λb _ G=>⟨rfl,λh=>h⟩) (Q8Z (di Q6)) (Q9d (di Q6))).mono λe O K=>?_
    obtain⟨u,M,J,I⟩:=K;refine⟨_,η,M,Jb I (.t _ _ rfl λj B=>?_)⟩
    have B:j<2:=B;have:j=0\/j=1:=by omega
    rcases this with rfl|rfl
    .exact .c _ _ (.d _ _ (J.mono λb _ G=>⟨rfl,λh=>G ⟨p.lt b h,λe=>p.gl.1 (e ▸ h)⟩⟩))
    .exact .c _ _ (.d _ _ (.int _ _))
 .cases h
