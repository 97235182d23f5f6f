/- Two functions walked at the one input that the example gives them. -/
import Derived.Test.YtlhhgeknhlkakaaGreatDoorProg
import Derived.WalkKit
import Derived.Lib.Strings
import Derived.Lib.Slices
import Derived.Lib.Walk
import Derived.Lib.Bytealg
import Derived.StillTactics
import Derived.Deep.RegionHeld3
import Derived.Deep.RegionLaw
import Derived.Lib.Hide
import Derived.Handy
import Derived.Laws.RangeString
import Derived.Laws.RangeAny
import Derived.LoopTactic
import Derived.FnLit
import Derived.RangeFuncNested
import Derived.RangeFuncBound
import Derived.RangeFuncCalls
import Derived.RangeFuncLeaves
import Derived.RangeFuncGives
import Derived.Shelf.Abstract
import Derived.Shelf.RegionOpen
import Derived.OwnWalkIn
import Derived.TacticsInMore
import Derived.LoopNIn
import Derived.LoopIn
import Derived.Maps.AppendAt
import Derived.Test.YtlhhgeknhlkakaaGreatDoorAbA
import Derived.Maps.Own
import Derived.Test.YtlhhgeknhlkakaaGreatDoorSpA
import Derived.Test.YtlhhgeknhlkakaaGreatDoorSpB
import Derived.Shelf.RegionOpenPlain
import Derived.Lib.BitFns
import Derived.Test.YtlhhgeknhlkakaaGreatDoorAbH
import Derived.Defers
set_option linter.unusedVariables false
set_option linter.unusedSimpArgs false
section
namespace Go.Proofs
open Go.RowKit Go.Lib
set_option maxHeartbeats 1000000
set_option maxRecDepth 100000
abbrev s4:ByteArray:=⟨#[97,32,98,10]⟩
abbrev s3:ByteArray:=⟨#[97,32,98]⟩
theorem gM(s:ByteArray)(c:Int)(w:World):Calls Tryz.prog 242 #[.string s,.int .u8 c] w λe w'=>e=.returned (.int .i64 (Lib.indexByte s.data.toList c.toNat.toUInt8))/\w'=w:=by
 go_enter Tryz.func242,Tryz.ntmps242
 go_wp2
 rw[run_callFunc_extern Tryz.func286 (by kernel_rfl) (by kernel_rfl) (by kernel_rfl) (e:=Extern.BytealgIndexByte.indexByte) (by kernel_rfl),Lib.run_indexByteString];simp only[Result.andThen]
 rw[Qv6]
 go_wp2
 go_ret
 exact⟨rfl,rfl⟩
theorem Q5I(s:ByteArray)(c:Int)(w:World):Calls Tryz.prog 180 #[.string s,.int .u8 c] w λe w'=>e=.returned (.int .i64 (Lib.indexByte s.data.toList c.toNat.toUInt8))/\w'=w:=by
 go_enter Tryz.func180,Tryz.ntmps180
 go_wp2_with (go_at_call 242;refine(gM _ _ _).mono ?_;rintro e w' ⟨rfl,rfl⟩)
 go_ret
 exact⟨rfl,rfl⟩
theorem Q5T(w:World):Calls Tryz.prog 93 #[.string s4,.string ⟨#[10]⟩] w λe w'=>e=.returned (.int .i64 1)/\w'=w:=by
 go_enter Tryz.func93,Tryz.ntmps93
 go_wp2
 rw[run_callFunc_extern Tryz.func175 (by kernel_rfl) (by kernel_rfl) (by kernel_rfl) (e:=Extern.BytealgCount.count) (by kernel_rfl),Lib.run_countString];simp only[Result.andThen]
 rw[Qv6]
 go_wp2
 go_ret
 exact⟨rfl,rfl⟩
end Go.Proofs
end
section
namespace Go.Proofs
open Go.RowKit Go.Lib
set_option maxHeartbeats 1000000
set_option maxRecDepth 100000
theorem gP:((s4.extract 3 4).toList==[10])=true:=by kernel_rfl
theorem Q5M(w:World):Calls Tryz.prog 94 #[.string s4,.string ⟨#[10]⟩] w λe w'=>e=.returned (.bool true)/\w'=w:=by
 have a:=gP
 go_enter Tryz.func94,Tryz.ntmps94
 go_wp2
 go_ret
 exact⟨by first|rfl|rw[a]|simp[a],rfl⟩
theorem Q5z(w:World):Calls Tryz.prog 100 #[.string s4,.string ⟨#[10]⟩] w λe w'=>e=.returned (.string s3)/\w'=w:=by
 have a:=gP
 go_enter Tryz.func100,Tryz.ntmps100
 go_wp2
 go_ret
 exact⟨rfl,rfl⟩
theorem Q5B(c:Nat)(h:c=10\/32<=c/\c<=126)(w:World):Calls Tryz.prog 96 #[.int .i32 c] w λe w'=>e=.returned (.bool false)/\w'=w:=by
 go_enter Tryz.func96,Tryz.ntmps96
 go_wp2
 all_goals first|(exfalso;omega)|(go_ret;exact⟨rfl,rfl⟩)|(go_ret;refine⟨?_,rfl⟩;simp;omega)
theorem gQ(i:Nat)(h:i<s4.size):(s4[i]'h).toNat=10\/32<=(s4[i]'h).toNat/\(s4[i]'h).toNat<=126:=by
 have h:i<4:=h;obtain rfl|rfl|rfl|rfl:i=0\/i=1\/i=2\/i=3:=by omega
 .exact .inr (show 32<=97/\97<=126 by decide)
 .exact .inr (show 32<=32/\32<=126 by decide)
 .exact .inr (show 32<=98/\98<=126 by decide)
 .exact .inl rfl
theorem Q5G(w:World):Calls Tryz.prog 241 #[.string s4,.func (.func 96) #[] #[],.bool true] w λe w'=>e=.returned (.int .i64 (-1))/\∃pos,w'=w.iter s4 pos:=by
 have c:∀i (h:i<s4.size),(s4[i]'h).toNat<128:=λi h=>by have:=gQ i h;omega
 go_enter Tryz.func241,Tryz.ntmps241
 go_wp2
 go_loopw [] (λw'=>∃pos:Nat,pos<=4/\w'=w.iter s4 pos) (λw'=>s4.size-w'.iterPos w.heap.size)
 case atStart=>exact⟨0,by omega,rfl⟩
 case round=>
  obtain⟨pos,d,rfl⟩:=hrel
  by_cases hp:pos<s4.size
  .have b:∀a,(Instr.next (.pointer (some ⟨w.heap.size,0,none⟩)) true a).run Tryz.prog (w.iter s4 pos)=_:=λa=>run_next_ascii w s4 pos a hp (c pos hp)
   go_wp2_with (go_at_call 96;refine(Q5B _ (gQ pos hp) _).mono ?_;rintro e w' ⟨rfl,rfl⟩)
   go_roundw
   case rel=>exact⟨pos+1,hp,rfl⟩
   case measure=>simp;omega
  .have b:∀a,(Instr.next (.pointer (some ⟨w.heap.size,0,none⟩)) true a).run Tryz.prog (w.iter s4 pos)=_:=λa=>run_next_end w s4 pos a hp
   go_wp2
   go_ret
   exact⟨rfl,_,rfl⟩
end Go.Proofs
end
section
namespace Go.Proofs
open Go.RowKit Go.Lib
set_option maxHeartbeats 1000000
set_option maxRecDepth 100000
theorem Q5H(c:UInt8)(k:Int)(hk:Lib.indexByte s3.data.toList (((c.toNat:Nat):Int).toNat.toUInt8)=k)(w:World):Calls Tryz.prog 242 #[.string s3,.int .u8 ((⟨#[c]⟩:ByteArray)[0]'(show 0<1 by decide)).toNat] w λe w'=>e=.returned (.int .i64 k)/\w'=w:=by
 refine(gM _ _ _).mono ?_;rintro e w' ⟨rfl,rfl⟩
 exact⟨congrArg (λx=>Ending.returned (.int .i64 x)) hk,rfl⟩
theorem gN(c:UInt8)(k:Int)(hc:((⟨#[c]⟩:ByteArray)==s3)=false)(hk:Lib.indexByte s3.data.toList (((c.toNat:Nat):Int).toNat.toUInt8)=k)(w:World):Calls Tryz.prog 240 #[.string s3,.string ⟨#[c]⟩] w λe w'=>e=.returned (.int .i64 k)/\w'=w:=by
 go_enter Tryz.func240,Tryz.ntmps240
 go_wp2_with (go_at_call 242;refine(Q5H c k hk _).mono ?_;rintro e w' ⟨rfl,rfl⟩)
 go_ret
 exact⟨rfl,rfl⟩
theorem Q5J(c:UInt8)(k:Int)(hc:((⟨#[c]⟩:ByteArray)==s3)=false)(hk:Lib.indexByte s3.data.toList (((c.toNat:Nat):Int).toNat.toUInt8)=k)(w:World):Calls Tryz.prog 176 #[.string s3,.string ⟨#[c]⟩] w λe w'=>e=.returned (.int .i64 k)/\w'=w:=by
 go_enter Tryz.func176,Tryz.ntmps176
 go_wp2_with (go_at_call 240;refine(gN c k hc hk _).mono ?_;rintro e w' ⟨rfl,rfl⟩)
 go_ret
 exact⟨rfl,rfl⟩
theorem Q5R(w:World):Calls Tryz.prog 181 #[.string s3,.string ⟨#[35]⟩] w λe w'=>e=.returned (.tuple #[.string s3,.string ⟨#[]⟩,.bool false])/\w'=w:=by
 go_enter Tryz.func181,Tryz.ntmps181
 go_wp2_with (go_at_call 240;refine(gN 35 (-1) (by decide) (by decide) _).mono ?_;rintro e w' ⟨rfl,rfl⟩)
 go_ret3
 exact⟨rfl,rfl⟩
theorem Q5S(w:World):Calls Tryz.prog 99 #[.string s3,.string ⟨#[35]⟩] w λe w'=>e=.returned (.tuple #[.string s3,.string ⟨#[]⟩,.bool false])/\w'=w:=by
 go_enter Tryz.func99,Tryz.ntmps99
 go_wp2_with (go_at_call 181;refine(Q5R _).mono ?_;rintro e w' ⟨rfl,rfl⟩)
 go_ret3
 exact⟨rfl,rfl⟩
theorem Q5U(w:World):Calls Tryz.prog 93 #[.string s3,.string ⟨#[32]⟩] w λe w'=>e=.returned (.int .i64 1)/\w'=w:=by
 go_enter Tryz.func93,Tryz.ntmps93
 go_wp2
 rw[run_callFunc_extern Tryz.func175 (by kernel_rfl) (by kernel_rfl) (by kernel_rfl) (e:=Extern.BytealgCount.count) (by kernel_rfl),Lib.run_countString];simp only[Result.andThen]
 rw[Qv6]
 go_wp2
 go_ret
 exact⟨rfl,rfl⟩
theorem Q5N(w:World):Calls Tryz.prog 184 #[.string s3,.string ⟨#[32]⟩,.int .i64 0,.int .i64 (-1)] w λe w'=>e=.returned (.slice (some ⟨w.heap.size,0,none⟩) 2 2)/\w'=w.alloc (.cells #[.string ⟨#[97]⟩,.string ⟨#[98]⟩] 9):=by
 have b:(min 2 4:Int)=2:=by decide
 have a:∀W:World,(Instr.makeSlice 119 (.int .i64 2) (.int .i64 2)).run Tryz.prog W=.ok (.slice (some ⟨W.heap.size,0,none⟩) 2 2) (W.alloc (.cells #[.string ⟨#[]⟩,.string ⟨#[]⟩] 9)):=λW=>by kernel_rfl
 go_enter Tryz.func184,Tryz.ntmps184
 go_wp2_with (go_at_call 93;refine(Q5U _).mono ?_;rintro e w' ⟨rfl,rfl⟩)
 refine wp_loop_rounds 2 ?_;rw[rounds_succ]
 go_wp2_with (go_at_call 176;refine(Q5J 32 1 (by decide) (by decide) _).mono ?_;rintro e w' ⟨rfl,rfl⟩)
 rw[rounds_succ]
 go_wp2
 go_ret
 exact⟨rfl,rfl⟩
end Go.Proofs
end
section
namespace Go.Proofs
open Go.RowKit Go.Lib
set_option maxHeartbeats 1000000
set_option maxRecDepth 100000
theorem Q5A(w:World):Calls Tryz.prog 102 #[.string s3,.string ⟨#[32]⟩] w λe w'=>e=.returned (.slice (some ⟨w.heap.size,0,none⟩) 2 2)/\w'=w.alloc (.cells #[.string ⟨#[97]⟩,.string ⟨#[98]⟩] 9):=by
 go_enter Tryz.func102,Tryz.ntmps102
 go_wp2_with (go_at_call 184;refine(Q5N _).mono ?_;rintro e w' ⟨rfl,rfl⟩)
 go_ret
 exact⟨rfl,rfl⟩
theorem gL(s:ByteArray)(h:(s.toList==[])=false)(w:World):Calls Tryz.prog 103 #[.string s] w λe w'=>e=.returned (.bool false)/\w'=w:=by
 go_enter Tryz.func103,Tryz.ntmps103
 go_wp2
 go_ret
 exact⟨by simp,rfl⟩
theorem Q5L(b:Nat)(w:World)(h:w.heap[b]?=some (.cells #[.string ⟨#[97]⟩,.string ⟨#[98]⟩] 9 (0,0))):Calls Tryz.prog 183 #[.slice (some ⟨b,0,none⟩) 2 2,.func (.func 103) #[] #[]] w λe w'=>e=.returned (.int .i64 (-1))/\w'=w:=by
 have c:w.cell? ⟨b,0,none⟩=some (.string ⟨#[97]⟩):=by simp[World.cell?,h]
 have a:w.cell? ⟨b,1,none⟩=some (.string ⟨#[98]⟩):=by simp[World.cell?,h]
 clear h
 go_enter Tryz.func183,Tryz.ntmps183
 go_wp2
 refine wp_loop_rounds 3 ?_;rw[rounds_succ]
 go_wp2_with (go_at_call 103;refine(gL _ (by kernel_rfl) _).mono ?_;rintro e w' ⟨rfl,rfl⟩)
 rw[rounds_succ]
 go_wp2_with (go_at_call 103;refine(gL _ (by kernel_rfl) _).mono ?_;rintro e w' ⟨rfl,rfl⟩)
 rw[rounds_succ]
 go_wp2
 go_ret
 exact⟨rfl,rfl⟩
theorem Q5Q(b:Nat)(w:World)(h:w.heap[b]?=some (.cells #[.string ⟨#[97]⟩,.string ⟨#[98]⟩] 9 (0,0))):Calls Tryz.prog 101 #[.slice (some ⟨b,0,none⟩) 2 2,.func (.func 103) #[] #[]] w λe w'=>e=.returned (.slice (some ⟨b,0,none⟩) 2 2)/\w'=w:=by
 go_enter Tryz.func101,Tryz.ntmps101
 go_wp2_with (go_at_call 183;refine(Q5L b _ h).mono ?_;rintro e w' ⟨rfl,rfl⟩)
 go_ret
 exact⟨rfl,rfl⟩
end Go.Proofs
end
section
namespace Go.Proofs
open Go.Shelf Go.RowKit Go.Lib
attribute [local go_sem] Oper.semAt_some
set_option maxHeartbeats 1000000
set_option maxRecDepth 100000
theorem Q5F(w:World):Calls Tryz.prog 180 #[.string s4,.int .u8 10] w λe w'=>e=.returned (.int .i64 3)/\w'=w:=by
 refine(Q5I _ _ _).mono ?_;rintro e w' ⟨rfl,rfl⟩
 exact⟨congrArg (λx=>Ending.returned (.int .i64 x)) (by decide),rfl⟩
theorem Q5D(n:Nat)(hn:1<=n)(l B:Nat)(W:World)(hB:W.heap[B]?=some (.cells #[.string s4] 9 (0,0)))(K:World->Prop)(hY:YieldAt Fence.wide (n-1) Tryz.prog l #[.string (s4.extract 0 4)] ((W.setCell ⟨B,0,none⟩ (.string ByteArray.empty)).drew) fun e W'=>e=.returned (.bool true)/\W'.heap[B]?=some (.cells #[.string ⟨#[]⟩] 9 (0,0))/\K W'):
  CallsIn Fence.wide n Tryz.prog 179 #[.func (.yield l) #[] #[],.pointer (some ⟨B,0,none⟩)] W λe W'=>(∃v,e=.returned v)/\K W':=by
 have k:W.cell? ⟨B,0,none⟩=some (.string s4):=by simp[World.cell?,hB]
 have o:W.frozen? ⟨B,0,none⟩=false:=by simp[World.frozen?,hB]
 have p:Fence.wide.fn 180:=trivial;refine callsIn_of_wp Tryz.func179 rfl trivial ?_ rfl
 simp only[Tryz.ntmps179,Ql7,Qb0,Qb6,Nat.reduceAdd,Nat.reduceSub,Qw6,Qw7,List.push_toArray,Qx1,Qk2,Qi6]
 gi_wp2
 refine wpIn_loop_rounds 2 ?_;rw[roundsIn_succ]
 gi_wp2_with (gi_at_call 180;refine(callsIn_wide.2 (Q5F _)).mono ?_;rintro e w' ⟨rfl,rfl⟩)
 gi_region
 obtain⟨m,d,a,f,j,h⟩:=hY
 gi_wp2
 refine h.mono ?_;rintro e i ⟨rfl,c,b⟩
 have g:i.cell? ⟨B,0,none⟩=some (.string ⟨#[]⟩):=by simp[World.cell?,c]
 gi_wp2
 rw[roundsIn_succ]
 gi_wp2
 go_end0
 exact⟨⟨_,rfl⟩,b⟩
end Go.Proofs
end
section
namespace Go.Proofs
open Go.Shelf Go.RowKit Go.Lib Go.Ab
attribute [local go_sem] Oper.semAt_some
set_option maxHeartbeats 2000000
set_option maxRecDepth 100000
theorem Q5V(w:World):Calls Tryz.prog 95 #[.string s4,.func (.func 96) #[] #[]] w λe w'=>e=.returned (.bool false)/\∃pos,w'=w.iter s4 pos:=by
 go_enter Tryz.func95,Tryz.ntmps95
 go_wp2_with (first
  |(go_at_call 178;go_enter Tryz.func178,Tryz.ntmps178)
  |(go_at_call 241;refine(Q5G _).mono ?_;rintro e w' ⟨rfl,pos,rfl⟩))
 all_goals(try (go_ret;exact⟨rfl,_,rfl⟩))
theorem Q5E(w:World):Calls Tryz.prog 98 #[.string s4] w λe w'=>e=.returned (.func (.func 179) #[] #[.pointer (some ⟨w.heap.size,0,none⟩)])/\w'=w.alloc (.cells #[.string s4] 9):=by
 go_enter Tryz.func98,Tryz.ntmps98
 go_wp2
 go_ret
 exact⟨rfl,rfl⟩
abbrev J2:Nat->Prop:=λ_=>False
theorem Q5K(w:World)(s:ByteArray)(pos:Nat):Stp J2 w (w.iter s pos):=by
 have h:=World.iter_extends w s pos;exact⟨h.os,h.tape,h.output,h.size,λb a _=>h.block b a,Qb3 _⟩
end Go.Proofs
end
section
namespace Go.Proofs
open Go.Shelf Go.RowKit Go.Lib Go.Ab
attribute [local go_sem] Oper.semAt_some
set_option maxHeartbeats 4000000
set_option maxRecDepth 100000
structure SpK (W0:World) (l D o:Nat) (W:World):Prop where
 res:∃(g b c:Nat) (Z:Array Value),W0.heap.size<=g/\W0.heap.size<=b/\g≠b/\g≠l/\b≠l/\g≠D/\b≠D/\1<=c/\c<=maxLen/\Z.size+1=c /\
  W.heap[o]?=some (.cells #[.slice (some ⟨g,0,none⟩) 1 c] 114 (0,0))/\W.heap[g]?=some (.cells (#[.slice (some ⟨b,0,none⟩) 2 2]++Z) 119 (0,0)) /\
  W.heap[b]?=some (.cells #[.string ⟨#[97]⟩,.string ⟨#[98]⟩] 9 (0,0))
 lp:∃r:Go.Loop,W.heap[l]?=some (.loop r)/\r.state=.ready/\r.pending=none
 df:W.heap[D]?=some (.deferred (some []))
 stp:Stp (λb=>W0.heap.size<=b) W0 W
theorem QT{a b c:World}(h:Stp J2 a b)(k:Stp J2 b c):Stp J2 a c:=h.trans (k.mono λ_ _ h=>h.elim)
theorem Q5P{a:Act}{assign body:Code}{Q:Exit->Act->World->Prop}{W1:World}{o:Nat}(s1:W1.heap.size=o+2)(ha:a.eval (.tmp 26)=.func (.func 179) #[] #[.pointer (some ⟨o+1,0,none⟩)])(h:∀ fn r,r=({ state:=.ready,pending:=none,fn:=fn,tmps:=a.tmps,params:= #[27],assign:=assign,body:=body,defers:=o+2 }:Go.Loop)->CallsIn Fence.wide 3 Tryz.prog 179 #[.func (.yield (o+3)) #[] #[],.pointer (some ⟨o+1,0,none⟩)] ((W1.alloc (.deferred (some []))).alloc (.loop r)) (rangePost Fence.wide 4 Tryz.prog (o+3) Q { a with defers:=[{ target:=.collected (o+2),args:= #[] }]++a.defers })):
  (Code.rangeFunc (.tmp 26) #[27] assign body).wpIn Fence.wide 4 Tryz.prog Q a W1:=by
 refine wpIn_rangeFunc ?_;intro fn c
 refine⟨o+3,[{target:=.collected (o+2),args:= #[]}],(W1.alloc (.deferred (some []))).alloc (.loop {state:=.ready,pending:=none,fn:=fn,tmps:=a.tmps,params:= #[27],assign:=assign,body:=body,defers:=o+2}), {target:=.fn (.func 179) #[.pointer (some ⟨o+1,0,none⟩)],args:= #[.func (.yield (o+3)) #[] #[]]},(W1.alloc (.deferred (some []))).alloc (.loop {state:=.ready,pending:=none,fn:=fn,tmps:=a.tmps,params:= #[27],assign:=assign,body:=body,defers:=o+2}),179,
  #[.func (.yield (o+3)) #[] #[],.pointer (some ⟨o+1,0,none⟩)],(W1.alloc (.deferred (some []))).alloc (.loop {state:=.ready,pending:=none,fn:=fn,tmps:=a.tmps,params:= #[27],assign:=assign,body:=body,defers:=o+2}),?_,?_,?_,?_,(λh=>by cases h),?_⟩
 .refine (run_enterLoop_outer _ _ _ _ _).trans ?_
  rw[s1]
 .have b : a.tmps[26]?.getD undef=.func (.func 179) #[] #[.pointer (some ⟨o+1,0,none⟩)]:=by
   have e:a.eval (.tmp 26)=a.tmps[26]?.getD undef:=by simp[go_sem]
   rw[<-e];exact ha
  simp[resolve,go_sem,b]
 .intro f d
  trivial
 .have e:=enters_of (P:=Tryz.prog) Tryz.func179 (by kernel_rfl) rfl
  simp[invoke,go_sem,e]
 .exact h fn _ rfl
structure OneOf (l:Nat) (a b:World):Prop where
 os:b.os=a.os
 tape:b.tape=a.tape
 output:b.output=a.output
 size:b.heap.size=a.heap.size
 dr:a.drawn=b.drawn
 blk:∀k,k≠l->b.heap[k]?=a.heap[k]?
theorem To(l:Nat)(w:World)(x:Go.Obj):OneOf l w (w.putObj l x):=⟨rfl,rfl,rfl,by simp[World.putObj],rfl,λ_ a=>World.putObj_heap_other a⟩
theorem OneOf.stp{l:Nat}{a b c:World}(h:OneOf l b c)(k:Stp J2 a b)(hl:a.heap.size<=l):Stp J2 a c:=
 ⟨h.os.trans k.os,h.tape.trans k.tape,h.output.trans k.output,by rw[h.size];exact k.size,λx d _=>(h.blk x (by omega)).trans (k.block x d λh=>h),h.dr ▸ k.dr⟩
theorem Q5W{F:Fence}{n l:Nat}{body:Code}{Q:Exit->Act->World->Prop}{a:Act}{W3:World}{r:Go.Loop}(l3:W3.heap[l]?=some (.loop r))(hr:r.state=.ready)(h:∀W4,OneOf l W3 W4->(∃r' : Go.Loop,W4.heap[l]?=some (.loop r'))->body.wpIn F n Tryz.prog Q a W4):∃w₂,(Instr.beginRound l).run Tryz.prog W3=.ok () w₂/\body.wpIn F n Tryz.prog Q a w₂:=
 ⟨_,run_beginRound l3 hr,h _ (To _ _ _) ⟨_,World.putObj_heap_same (Qh3.1 l3).1⟩⟩
theorem Q5O{W0 W4:World}{o c:Nat}{Z:Array Value}{a:Act}(s4' : W4.heap.size=o+4)(a4:W4.heap[o]?=some (.cells #[.slice none 0 0] 114 (0,0)))(b4:W4.heap[o+1]?=some (.cells #[.string ⟨#[]⟩] 9 (0,0)))(d4:W4.heap[o+2]?=some (.deferred (some [])))(l4:∃ r:Go.Loop,W4.heap[o+3]?=some (.loop r))(st:Stp J2 W0 W4)(hw:W0.heap.size<=o)(c1:1<=c)(c2:c<=maxLen)(c3:Z.size+1=c):
  roundPost Tryz.prog (o+3) (λe W'=>e=.returned (.bool true)/\W'.heap[o+1]?=some (.cells #[.string ⟨#[]⟩] 9 (0,0))/\SpK W0 (o+3) (o+2) o W') Exit.normal a
   ((((W4.setCell ⟨o,0,none⟩ (.slice (some ⟨o+4+1+1,0,none⟩) 1 c)).alloc (.cells #[.string ⟨#[97]⟩,.string ⟨#[98]⟩] 9)).alloc (.cells #[.slice (some ⟨o+4,0,none⟩) 2 2] 119)).alloc (.cells (#[.slice (some ⟨o+4,0,none⟩) 2 2]++Z) 119)).drew.drew:=by
 obtain⟨W5,hW⟩:∃W5,((((W4.setCell ⟨o,0,none⟩ (.slice (some ⟨o+4+1+1,0,none⟩) 1 c)).alloc (.cells #[.string ⟨#[97]⟩,.string ⟨#[98]⟩] 9)).alloc (.cells #[.slice (some ⟨o+4,0,none⟩) 2 2] 119)).alloc (.cells (#[.slice (some ⟨o+4,0,none⟩) 2 2]++Z) 119)).drew.drew=W5:=⟨_,rfl⟩;rw[hW]
 have f:∀k,k<o+4->W5.heap[k]?=(W4.setCell ⟨o,0,none⟩ (.slice (some ⟨o+4+1+1,0,none⟩) 1 c)).heap[k]?:=λk n=>by
  rw[<-hW];simp only[World.drew,World.alloc,World.setCell,Qk6,Qm3,Qm9,s4']
  rw[Qa1 (by omega),Qa1 (by omega),Qa1 (by omega)]
 have l:W5.heap[o+4]?=some (.cells #[.string ⟨#[97]⟩,.string ⟨#[98]⟩] 9 (0,0)):=by
  rw[<-hW];simp only[World.drew,World.alloc,World.setCell,Qk6,Qm3,Qm9,s4']
  rw[Qa1 (by omega),Qa1 (by omega),Qa2 trivial]
 have j:W5.heap[o+4+1+1]?=some (.cells (#[.slice (some ⟨o+4,0,none⟩) 2 2]++Z) 119 (0,0)):=by
  rw[<-hW];simp only[World.drew,World.alloc,World.setCell,Qk6,Qm3,Qm9,s4']
  rw[Qa2 trivial]
 have u:W5.heap.size=o+7:=by rw[<-hW];simp[World.drew,World.alloc,World.setCell,s4']
 have d:∀k,k<o+4->k≠o->W5.heap[k]?=W4.heap[k]?:=λk n t=>by
  rw[f k n];simp only[World.setCell,Qf5]
  rw[Qa1 (by omega)]
 have g:W5.heap[o]?=some (.cells #[.slice (some ⟨o+4+1+1,0,none⟩) 1 c] 114 (0,0)):=by
  rw[f o (by omega)];simp only[World.setCell,Qf5]
  rw[Qa2 trivial,a4];rfl
 have i:Stp J2 W0 W5:=by
  refine⟨?_,?_,?_,?_,λb v _=>(d b (by omega) (by omega)).trans (st.block b v λh=>h),?_⟩
  .rw [<-hW];exact st.os
  .rw [<-hW];exact st.tape
  .rw [<-hW];exact st.output
  .rw [u];omega
  .rw [<-hW];exact Qm5 (Qm5 st.dr)
 clear hW f
 obtain⟨r,p⟩:=l4;have m:=(d (o+3) (by omega) (by omega)).trans p
 have q:=To (o+3) W5 (.loop {r with state:=.ready,pending:=none});have s:o+3<W5.heap.size:=by omega
 refine⟨_,_,run_endRound none m,rfl,(q.blk (o+1) (by omega)).trans ((d _ (by omega) (by omega)).trans b4),⟨⟨o+4+1+1,o+4,c,Z,by omega,by omega,by omega,by omega,by omega,by omega,by omega,c1,c2,c3,?_,?_,?_⟩,⟨_,World.putObj_heap_same s,rfl,rfl⟩,?_,?_⟩⟩
 .exact (q.blk _ (by omega)).trans g
 .exact (q.blk _ (by omega)).trans j
 .exact (q.blk _ (by omega)).trans l
 .exact (q.blk _ (by omega)).trans ((d _ (by omega) (by omega)).trans d4)
 .exact (q.stp i (by omega)).mono λ_ _ h=>h.elim
theorem Q5C(w:World):CallsIn Fence.wide 4 Tryz.prog 44 #[.string s4] w fun e w'=>∃ (g b c:Nat) (Z:Array Value),w.heap.size<=g/\w.heap.size<=b/\1<=c/\c<=maxLen/\Z.size+1=c/\e=.returned (.tuple #[.slice (some ⟨g,0,none⟩) 1 c,.int .i64 0]) /\
  w'.heap[g]?=some (.cells (#[.slice (some ⟨b,0,none⟩) 2 2]++Z) 119 (0,0))/\w'.heap[b]?=some (.cells #[.string ⟨#[97]⟩,.string ⟨#[98]⟩] 9 (0,0))/\Stp J2 w w':=by
 have f1:Fence.wide.fn 93:=trivial;have f2:Fence.wide.fn 94:=trivial
 have f3:Fence.wide.fn 95:=trivial;have f4:Fence.wide.fn 98:=trivial
 refine callsIn_of_wp_marks Tryz.func44 rfl trivial ?_ rfl;simp only[Tryz.ntmps44,Ql7,Qb0,Qb6,Nat.reduceAdd,Nat.reduceSub,Qw6,Qw7,List.push_toArray,Qx1,Qk2,Qi6]
 gi_wp2_with (first
  |(gi_at_call 93;refine(callsIn_wide.2 (Q5T _)).mono ?_;rintro e w' ⟨rfl,rfl⟩)
  |(gi_at_call 94;refine(callsIn_wide.2 (Q5M _)).mono ?_;rintro e w' ⟨rfl,rfl⟩)
  |(gi_at_call 95;refine(callsIn_wide.2 (Q5V _)).mono ?_;rintro e w' ⟨rfl,pos,rfl⟩)
  |(gi_at_call 98;refine(callsIn_wide.2 (Q5E _)).mono ?_;rintro e w' ⟨rfl,rfl⟩))
 obtain⟨W0,hW0⟩:∃W0,w'.iter s4 pos=W0:=⟨_,rfl⟩;have i:Stp J2 w' W0:=hW0 ▸ Q5K _ _ _
 rw[hW0]
 clear hW0
 obtain⟨o,ho⟩:∃o,W0.heap.size=o:=⟨_,rfl⟩;have E:w'.heap.size<=o:=ho ▸ i.size
 rw[ho];obtain⟨W1,hW1⟩:∃W1,(W0.alloc (.cells #[.slice none 0 0] 114)).alloc (.cells #[.string s4] 9)=W1:=⟨_,rfl⟩
 have t:W1.heap.size=o+2:=by rw[<-hW1, <-ho];simp
 have R:W1.heap[o]?=some (.cells #[.slice none 0 0] 114 (0,0)):=by rw[<-hW1, <-ho];exact(Below.heap_alloc _ _ _ (by simp)).trans (World.alloc_heap_new _ _)
 have S:W1.heap[o+1]?=some (.cells #[.string s4] 9 (0,0)):=by
  have:=World.alloc_heap_new (W0.alloc (.cells #[.slice none 0 0] 114)) (.cells #[.string s4] 9)
  rwa [World.size_alloc,ho,hW1]at this
 have l:Stp J2 w' W1:=by rw[<-hW1];exact QT (QT i (Stp.alloc J2 _ _)) (Stp.alloc J2 _ _)
 rw[hW1]
 clear hW1 i
 refine Q5P t rfl ?_;intro fn r U
 obtain⟨W2,hW2⟩:∃W2,(W1.alloc (.deferred (some []))).alloc (.loop r)=W2:=⟨_,rfl⟩;have L:W2.heap.size=o+4:=by rw[<-hW2];simp[t]
 have k2:∀k,k<o+2->W2.heap[k]?=W1.heap[k]?:=λk hk=>by rw[<-hW2];exact(Below.heap_alloc _ _ k (by simp;omega)).trans (Below.heap_alloc _ _ k (by omega))
 have N:W2.heap[o+2]?=some (.deferred (some [])):=by rw[<-hW2];exact(Below.heap_alloc _ _ _ (by simp;omega)).trans (by have:=World.alloc_heap_new W1 (.deferred (some []));rwa [t]at this)
 have T:W2.heap[o+3]?=some (.loop r):=by
  have:=World.alloc_heap_new (W1.alloc (.deferred (some []))) (.loop r)
  rwa [World.size_alloc,t,hW2]at this
 have d:Stp J2 w' W2:=by rw[<-hW2];exact QT (QT l (Stp.alloc J2 _ _)) (Stp.alloc J2 _ _)
 rw[hW2]
 clear hW2 l
 have H:=(k2 o (by omega)).trans R;have B:=(k2 (o+1) (by omega)).trans S
 clear k2 R S t
 refine(Q5D 3 (by omega) (o+3) (o+1) W2 B (λW=>SpK w' (o+3) (o+2) o W) ?hY).mono ?hP
 case hP=>
  rintro e K ⟨⟨v,rfl⟩,m⟩;obtain⟨I,J,G,z⟩:=m.lp
  have a:=run_endLoop (P:=Tryz.prog) J (by rw[G];simp);obtain⟨g,b,c,Z,h1,V,h3,h4,h5,h6,Y,c1,c2,X,Q,M,O⟩:=m.res
  have p:=m.df;have n:=m.stp
  have q:=To (o+3) K (.loop {I with state:=.exhausted});generalize K.putObj (o+3) (.loop {I with state:=.exhausted})=W3 at q a
  rw[z]at a;refine⟨none,_,a,?_⟩
  clear a
  have e1:=(q.blk o (by omega)).trans Q;have e2:=(q.blk g h4).trans M
  have e3:=(q.blk b h5).trans O;have e4:=(q.blk (o+2) (by omega)).trans p
  have st:=q.stp (n.mono λx hx h=>absurd hx (Qt8.2 h)) (by omega)
  clear q Q M O p n J m
  have hc:W3.cell? ⟨o,0,none⟩=some (.slice (some ⟨g,0,none⟩) 1 c):=by simp[World.cell?,e1]
  gi_wp2
  refine⟨by simp,.inl ⟨_,_,rfl,run_takeDeferred e4,?_⟩⟩;have q:=To (o+2) W3 (.deferred none)
  exact⟨_,results_tmp2 rfl _ _ _,g,b,c,Z,h1,V,c1,c2,X,rfl,(q.blk g h6).trans e2,(q.blk b Y).trans e3,q.stp st (by omega)⟩
 case hY=>
  have u:((W2.setCell ⟨o+1,0,none⟩ (.string ByteArray.empty)).drew).heap[o+3]?=some (.loop r):=by
   simp only[World.drew,World.setCell,Qf5];rw[Qa1 (by omega)];exact T
  have d3:((W2.setCell ⟨o+1,0,none⟩ (.string ByteArray.empty)).drew).heap[o+2]?=some (.deferred (some [])):=by
   simp only[World.drew,World.setCell,Qf5];rw[Qa1 (by omega)];exact N
  have C:((W2.setCell ⟨o+1,0,none⟩ (.string ByteArray.empty)).drew).heap[o]?=some (.cells #[.slice none 0 0] 114 (0,0)):=by
   simp only[World.drew,World.setCell,Qf5];rw[Qa1 (by omega)];exact H
  have D:((W2.setCell ⟨o+1,0,none⟩ (.string ByteArray.empty)).drew).heap[o+1]?=some (.cells #[.string ⟨#[]⟩] 9 (0,0)):=by
   simp only[World.drew,World.setCell,Qf5];rw[Qa2 trivial,B];rfl
  have s3:((W2.setCell ⟨o+1,0,none⟩ (.string ByteArray.empty)).drew).heap.size=o+4:=by simp[World.drew,World.setCell,L]
  have f:Stp J2 w' ((W2.setCell ⟨o+1,0,none⟩ (.string ByteArray.empty)).drew):=by
   refine⟨d.os,d.tape,d.output,?_,λb hb _=>?_,Qm5 d.dr⟩
   .rw [s3];omega
   .simp only[World.drew,World.setCell,Qf5]
    rw[Qa1 (by omega)];exact d.block b hb λh=>h
  generalize ((W2.setCell ⟨o+1,0,none⟩ (.string ByteArray.empty)).drew)=W3 at u d3 C D s3 f⊢
  clear T N H B L d
  rw[show s4.extract 0 4=s4 from by decide];refine⟨_,_,_,_,run_yield (P:=Tryz.prog) (args:= #[.string s4]) u (by rw[U];rfl),?_⟩
  subst U;simp only[Ql7,Qb0,Qb6]
  refine roundIn_of_wpIn trivial ?_
  gi_wp2
  refine Q5W u rfl ?_;intro y j l4
  have A:=(j.blk o (by omega)).trans C;have b4:=(j.blk (o+1) (by omega)).trans D
  have d4:=(j.blk (o+2) (by omega)).trans d3;have s:=j.size.trans s3
  have F:=j.stp f (by omega)
  clear u C D d3 s3 f j
  have hA:(y.alloc (.cells #[.string ⟨#[97]⟩,.string ⟨#[98]⟩] 9)).heap[o+4]?=some (.cells #[.string ⟨#[97]⟩,.string ⟨#[98]⟩] 9 (0,0)):=by
   have:=World.alloc_heap_new y (.cells #[.string ⟨#[97]⟩,.string ⟨#[98]⟩] 9)
   rwa [s]at this
  have hc:y.cell? ⟨o,0,none⟩=some (.slice none 0 0):=by simp[World.cell?,A]
  have hf:y.frozen? ⟨o,0,none⟩=false:=by simp[World.frozen?,A]
  have b9:Tryz.prog.follows .mixedOrders=true:=by kernel_rfl
  gi_wp2_with (first
   |(refine⟨trivial,?_⟩;gi_at_call 100;refine(CallsIn.inRound _ (callsIn_wide.2 (Q5z _))).mono ?_;rintro e w' ⟨rfl,rfl⟩)
   |(refine⟨trivial,?_⟩;gi_at_call 99;refine(CallsIn.inRound _ (callsIn_wide.2 (Q5S _))).mono ?_;rintro e w' ⟨rfl,rfl⟩))
  have f5:Fence.wide.fn 102:=trivial;have f6:Fence.wide.fn 101:=trivial
  gi_region_with_o (first
   |(gi_at_call 102;refine(CallsIn.inRound _ (callsIn_wide.2 (Q5A _))).mono ?_;rintro e w' ⟨rfl,rfl⟩)
   |(gi_at_call 101;refine(CallsIn.inRound _ (callsIn_wide.2 (Q5Q _ _ (by exact hA)))).mono ?_;rintro e w' ⟨rfl,rfl⟩))
  all_goals
   simp only[Exit.inBlock];refine Q5O s A b4 d4 l4 F E (Qs4 w'.drew 1 0 119) (Qp1 w'.drew 1 0 119 (by simp only[maxLen];omega)) ?_
   rw[Qs0];have:=Qs4 w'.drew 1 0 119
   show(grownCap w'.drew 1 0 119-1)*1+1=grownCap w'.drew 1 0 119;omega
end Go.Proofs
end
section
namespace Go.Proofs
open Go.Shelf Go.RowKit Go.Lib Go.Ab
set_option maxHeartbeats 2000000
set_option maxRecDepth 100000
abbrev iv(n:Int):Value:=.int .i64 n
abbrev pv(a b:Int):Value:=.agg #[iv a,iv b]
abbrev ev(a b c d:Int):Value:=.agg #[iv a,iv b,iv c,iv d]
theorem HA{w:World}{g T:Nat}{p q r s:Value}{Z:Array Value}(h:w.heap[g]?=some (.cells (#[p,q,r,s]++Z) T (0,0))):w.cell? ⟨g,0,none⟩=some p/\w.cell? ⟨g,1,none⟩=some q/\w.cell? ⟨g,2,none⟩=some r/\w.cell? ⟨g,3,none⟩=some s:=by
 refine⟨?_,?_,?_,?_⟩<;>simp[World.cell?,h,Qg2]
theorem Us(w:World):Stp J2 w w.drew:=⟨rfl,rfl,rfl,Qb3 _,λ_ _ _=>rfl,Qm4 _⟩
theorem Q8h(ad:Option Addr)(c:Nat)(a b x y:Int)(w:World):Calls Tryz.prog 164 #[.slice ad 0 c,ev a b x y] w λe w'=>e=.returned (iv (-1))/\Stp J2 w w':=by
 go_enter Tryz.func164,Tryz.ntmps164
 go_wp2
 refine wp_loop_rounds 1 ?_;rw[rounds_succ]
 go_wp2
 go_ret
 exact⟨rfl,Stp.alloc J2 _ _⟩
theorem Q8g(g c:Nat)(Z:Array Value)(a b x y:Int)(w:World)(h:w.heap[g]?=some (.cells (#[iv a,iv b,iv x,iv y]++Z) 160 (0,0))):Calls Tryz.prog 164 #[.slice (some ⟨g,0,none⟩) 1 c,ev a b x y] w λe w'=>e=.returned (iv 0)/\Stp J2 w w':=by
 have k:g<w.heap.size:=(Qh3.1 h).1;obtain⟨f,d,j,i⟩:=HA h
 go_enter Tryz.func164,Tryz.ntmps164
 go_wp2
 refine wp_loop_rounds 1 ?_;rw[rounds_succ]
 go_wp2
 go_region
 go_wp2
 go_ret
 exact⟨rfl,QT (Stp.alloc J2 _ _) (Us _)⟩
theorem qC(ad:Option Addr)(c:Nat)(a b x y:Int)(w:World):Calls Tryz.prog 84 #[.slice ad 0 c,ev a b x y] w λe w'=>e=.returned (.bool false)/\Stp J2 w w':=by
 go_enter Tryz.func84,Tryz.ntmps84
 go_wp2_with (go_at_call 164;refine(Q8h _ _ _ _ _ _ _).mono ?_;rintro e w' ⟨rfl,st⟩)
 go_ret
 exact⟨rfl,QT (Stp.alloc J2 _ _) st⟩
theorem Q8o(g c:Nat)(Z:Array Value)(a b x y:Int)(w:World)(h:w.heap[g]?=some (.cells (#[iv a,iv b,iv x,iv y]++Z) 160 (0,0))):Calls Tryz.prog 84 #[.slice (some ⟨g,0,none⟩) 1 c,ev a b x y] w λe w'=>e=.returned (.bool true)/\Stp J2 w w':=by
 have d:g<w.heap.size:=(Qh3.1 h).1;have f : ∀o,(w.alloc o).heap[g]?=some (.cells (#[iv a,iv b,iv x,iv y]++Z) 160 (0,0)):=λo=>(Below.heap_alloc _ _ _ d).trans h
 go_enter Tryz.func84,Tryz.ntmps84
 go_wp2_with (go_at_call 164;refine(Q8g _ _ _ _ _ _ _ _ (f _)).mono ?_;rintro e w' ⟨rfl,st⟩)
 go_ret
 exact⟨rfl,QT (Stp.alloc J2 _ _) st⟩
theorem Q8p(g k:Nat)(cur:Array Value)(W:World)(h:W.heap[g]?=some (.cells cur 160 (0,0)))(hc:4<=cur.size):(Builtin.clear_ #[154] 0 #[.slice (some ⟨g,0,none⟩) 1 k]).run Tryz.prog W=.ok (.tuple #[]) (W.setRow g ([iv 0,iv 0,iv 0,iv 0]++cur.toList.drop 4).toArray):=by
 have c:Tryz.prog.underlying 154=some (.slice 160):=by kernel_rfl
 have d:∀W,(zeroValue 160).run Tryz.prog W=.ok (ev 0 0 0 0) W:=λW=>by kernel_rfl
 have a:=Qp5 Tryz.prog g 0 160 [iv 0,iv 0,iv 0,iv 0] 0 cur W h (by simpa using hc) (by simp[Value.oneCell']);have b:(Builtin.zeroCells (ev 0 0 0 0).cells 1).toList=[iv 0,iv 0,iv 0,iv 0]:=by kernel_rfl
 simp only[Ql2,Qn7,Qk2,Qb0,Qb6,Qd2,Nat.reduceAdd]at a;simp[Builtin.clear_,Qb9 c,d,b,a]
theorem setRow_stp(w:World)(g:Nat)(x:Array Value):Stp (λb=>b=g) w (w.drew.setRow g x)/\(w.drew.setRow g x).heap.size=w.heap.size:=by
 have e:(w.drew.setRow g x).heap.size=w.heap.size:=by simp only[World.setRow,Qm9];rfl
 refine⟨⟨rfl,rfl,rfl,Nat.le_of_eq e.symm,λb _ a=>?_,Qm4 _⟩,e⟩;simp only[World.setRow,World.drew,Qf5]
 rw[Qa1 (λe=>a e.symm)]
theorem Q8n(g c:Nat)(cur:Array Value)(w:World)(h:w.heap[g]?=some (.cells cur 160 (0,0)))(hc:cur.size=c*4)(h1:1<=c)(h2:c<=maxLen):Calls Tryz.prog 167 #[.slice (some ⟨g,0,none⟩) 1 c,iv 0,iv 1] w λe w'=>e=.returned (.slice (some ⟨g,0,none⟩) 0 c)/\Stp (λb=>b=g) w w' /\ w'.heap.size=w.heap.size:=by
 have d:=λk=>Q8p g k cur w.drew h (by omega)
 rcases Nat.eq_or_lt_of_le h1 with a|a
 .subst a
  go_enter Tryz.func167,Tryz.ntmps167
  go_wp2
  go_region
  go_wp2
  go_ret
  exact⟨rfl,setRow_stp _ _ _⟩
 .have f:¬c=1:=by omega
  go_enter Tryz.func167,Tryz.ntmps167
  go_wp2
  go_region
  go_wp2
  go_ret
  exact⟨rfl,setRow_stp _ _ _⟩
end Go.Proofs
end
section
namespace Go.Proofs
open Go.Shelf Go.RowKit Go.Lib Go.Ab
set_option maxHeartbeats 2000000
set_option maxRecDepth 100000
abbrev ZI(v:Value):MapEntry:=⟨pv 0 0,v,0⟩
abbrev ZW(v:Value):MapEntry:=⟨pv 0 10,v,1⟩
abbrev Yo(v:Value):MapEntry:=⟨pv 10 0,v,2⟩
abbrev YM(v:Value):MapEntry:=⟨pv 10 10,v,3⟩
theorem qB:Tryz.prog.underlying 156=some (.map 158 154):=by kernel_rfl
theorem qD(b:Bool)(x y:Int)(W:World):(Instr.checkKey b 10000 158 (pv x y)).run Tryz.prog W=.ok () W:=by cases b<;>kernel_rfl
theorem Q7Y(W:World):(zeroValue 154).run Tryz.prog W=.ok (.slice none 0 0) W:=by kernel_rfl
theorem Jl{m ck:Nat}{es:Array MapEntry}{x y:Int}{i:Nat}{v:Value}{w:World}(h:w.heap[m]?=some (.map es ck))(hf:∀W,(Instr.findKey 158 (pv x y) es.toList).run Tryz.prog W=.ok (some (i,v)) W):(Instr.lookup 156 (.map (some m)) (pv x y) false).run Tryz.prog w=.ok v w:=by
 simp[Instr.lookup,Qb9 qB,Qi3 h,qD,hf,Result.andThen]
theorem Q8d{m ck:Nat}{es:Array MapEntry}{x y:Int}{w:World}(h:w.heap[m]?=some (.map es ck))(hf:∀W,(Instr.findKey 158 (pv x y) es.toList).run Tryz.prog W=.ok none W):(Instr.mapEntry 156 (.map (some m)) (pv x y)).run Tryz.prog w=.ok (.tuple #[.slice none 0 0,iv ck]) {w with heap:=w.heap.setIfInBounds m (.map (es.push {key:=pv x y,val:=.slice none 0 0,born:=ck}) (ck+1))}:=by
 simp[Instr.mapEntry,Qb9 qB,Qi3 h,Ql1 _ h,qD,Q7Y,hf,Result.andThen,goInt]
theorem Q8l{m ck:Nat}{es:Array MapEntry}{born i:Nat}{v:Value}{w:World}(h:w.heap[m]?=some (.map es ck))(hf:es.findIdx? (λe=>(e.born:Int)==(born:Int))=some i):(Instr.entryStore 156 (.map (some m)) (iv born) v).run Tryz.prog w=.ok () {w with heap:=w.heap.setIfInBounds m (.map (es.modify i λe=> {e with val:=v}) ck)}:=by
 simp[Instr.entryStore,Qi3 h,Ql1 _ h,asInt,asIntOf,hf,Result.andThen]
theorem RF{m ck:Nat}{es:Array MapEntry}{x y:Int}{i:Nat}{u v:Value}{w:World}(h:w.heap[m]?=some (.map es ck))(hf:∀W,(Instr.findKey 158 (pv x y) es.toList).run Tryz.prog W=.ok (some (i,u)) W)(hi:(es[i]?).map (·.key)=some (pv x y)):(Instr.mapUpdate 156 (.map (some m)) (pv x y) v).run Tryz.prog w=.ok () {w with heap:=w.heap.setIfInBounds m (.map (es.modify i λe=> {e with key:=pv x y,val:=v}) ck)}:=by
 have a:∀W,(Instr.keyThatStays (pv x y) (pv x y)).run Tryz.prog W=.ok (pv x y) W:=λW=>by
  simp[Instr.keyThatStays,Instr.sameBits]
 simp[Instr.mapUpdate,Qb9 qB,Qi3 h,Ql1 _ h,qD,hf,hi,a,Result.andThen]
theorem fk0(W:World):(Instr.findKey 158 (pv 0 0) (#[]:Array MapEntry).toList).run Tryz.prog W=.ok none W:=by kernel_rfl
theorem fk1(a:Value)(W:World):(Instr.findKey 158 (pv 0 10) (#[ZI a]:Array MapEntry).toList).run Tryz.prog W=.ok none W:=by kernel_rfl
theorem fk2(a b:Value)(W:World):(Instr.findKey 158 (pv 10 0) (#[ZI a,ZW b]:Array MapEntry).toList).run Tryz.prog W=.ok none W:=by kernel_rfl
theorem fk3(a b c:Value)(W:World):(Instr.findKey 158 (pv 10 10) (#[ZI a,ZW b,Yo c]:Array MapEntry).toList).run Tryz.prog W=.ok none W:=by kernel_rfl
section
variable (a b c d:Value) (W:World)
theorem vC:(Instr.findKey 158 (pv 0 0) (#[ZI a,ZW b,Yo c,YM d]:Array MapEntry).toList).run Tryz.prog W=.ok (some (0,a)) W:=by kernel_rfl
theorem vB:(Instr.findKey 158 (pv 0 10) (#[ZI a,ZW b,Yo c,YM d]:Array MapEntry).toList).run Tryz.prog W=.ok (some (1,b)) W:=by kernel_rfl
theorem vz:(Instr.findKey 158 (pv 10 0) (#[ZI a,ZW b,Yo c,YM d]:Array MapEntry).toList).run Tryz.prog W=.ok (some (2,c)) W:=by kernel_rfl
theorem vy:(Instr.findKey 158 (pv 10 10) (#[ZI a,ZW b,Yo c,YM d]:Array MapEntry).toList).run Tryz.prog W=.ok (some (3,d)) W:=by kernel_rfl
end
end Go.Proofs
end
section
namespace Go.Proofs
open Go.Shelf Go.RowKit Go.Lib Go.Ab
set_option maxHeartbeats 2000000
set_option maxRecDepth 100000
theorem Q8t{w:World}{base t e:Nat}{i:TypeInfo}{z:Value}{size:Nat}(ht:Tryz.prog.underlying t=some (.slice e))(hi:Tryz.prog.info? e=some i)(hz:i.zero=some z)(hsize:i.size=size)(hby:i.bytes<=1000)(hzs:z.cells.size=size)(hsz:0<size){v:Value}{n:Nat}{xs:List Value}(hown:w.ownsRow base e size v n xs){ad:Addr}{c:Nat}{news:List Value}(hl:news.length=size)(hnews:∀ j u,news[j]?=some u->w.cell? (ad.add j)=some u)(h1:∀ u ∈ news,u.oneCell'=true)(hn:n<=1000)(hbase:base<=w.heap.size):
  ∃v' w',(Builtin.append_ #[t,t] t #[v,.slice (some ad) 1 c]).run Tryz.prog w=.ok v' w' /\ w'.ownsRow base e size v' (n+1) (xs++news)/\w.grownBy w' v.ownBlock/\(v'.ownBlock=v.ownBlock\/v'.ownBlock=some w.heap.size)/\w.drawn<=w'.drawn:=by
 have x:(n+1)*i.bytes<=140737488355328:=by
  have:(n+1)*i.bytes<=1001*1000:=Qn1 (by omega) hby
  omega
 obtain⟨v',w',h,p,r,_,y⟩:=run_append_own_at (P:=Tryz.prog) w base t t e i z size i.bytes ht hi hz hsize rfl hzs hsz v n xs hown ad 1 c news (by omega) hnews h1 (by unfold maxLen;omega) x hbase;refine⟨v',w',h,p,r,y,?_⟩
 rcases hown.2 with ⟨rfl,rfl⟩|⟨g,f,o,rfl,B,l,A,s,m,q⟩
 .have e:=run_append_nil (P:=Tryz.prog) w t t e i z ht hi hz ad 1 c news (by omega) hnews (by omega) (by omega) (by omega)
  rw[e]at h;cases h
  exact Qm4 _
 .by_cases hroom:n+1<=f
  .have e:=run_append_room (P:=Tryz.prog) w t t e i ht hi g n f o l ad 1 c news (by omega) hnews h1 hroom (by
    rw[hsize,m,hl];have:(n+1)*size<=f*size:=Qb4 _ hroom
    rw[Qg8]at this;omega)
   rw[e]at h;cases h
   exact Qb3 _
  .have k:f<=1000:=by omega
   have e:=run_append_grow (P:=Tryz.prog) w t t e i z ht hi hz ⟨g,0,none⟩ n f xs (by rw[hown.1,hsize]) (hown.cells rfl) ad 1 c news (by omega) hnews (by omega) (by omega) (growslice_fits (by omega) (by
    have:(n+1)*i.bytes<=1001*1000:=Qn1 (by omega) hby
    omega))
   rw[e]at h;cases h
   exact Qm4 _
theorem Uq{ops:Array Oper}{rest:List Oper}{o:Oper}{a:Act}{Q:Exit->Act->World->Prop}{w:World}(hgd:o.guard=none)(s x:Operand)(t:TypeId)(ho:o.op=.call {callee:=.builtin .append,args:= #[s,x],argTypes:= #[t,t]})(hty:o.type=t){base e:Nat}{i:TypeInfo}{z:Value}{size:Nat}(ht:Tryz.prog.underlying t=some (.slice e))(hi:Tryz.prog.info? e=some i)(hz:i.zero=some z)(hsize:i.size=size)(hby:i.bytes<=1000)(hzs:z.cells.size=size)(hsz:0<size){v:Value}{n:Nat}{xs:List Value}(hs:a.eval s=v)(hown:w.ownsRow base e size v n xs){ad:Addr}{c:Nat}{news:List Value}(hx:a.eval x=.slice (some ad) 1 c)(hl:news.length=size)(hnews:∀j u,news[j]?=some u->w.cell? (ad.add j)=some u)(h1:∀u∈news,u.oneCell'=true)(hn:n<=1000)(hbase:base<=w.heap.size)(h:∀v' w',w'.ownsRow base e size v' (n+1) (xs++news)->w.grownBy w' v.ownBlock->(v'.ownBlock=v.ownBlock\/v'.ownBlock=some w.heap.size)->w.drawn<=w'.drawn->wpList Tryz.prog ops Q rest (a.put o.dst v') w'):wpList Tryz.prog ops Q (o::rest) a w:=by
 refine Qx5 hgd λK m=>?_
 obtain⟨v',w',g,f,k,l,p⟩:=Q8t ht hi hz hsize hby hzs hsz hown (c:=c) hl hnews h1 hn hbase;unfold Oper.wp execOp
 simp only[ho,hty,resolve,invoke,builtin,Qd8,Qf3,Qc5,List.map_toArray,Qg4,Qu4,hs,hx,g];exact m _ _ (h v' w' f k l p)
end Go.Proofs
end
section
namespace Go.Proofs
open Go.Shelf Go.RowKit Go.Lib Go.Ab
set_option maxHeartbeats 4000000
set_option maxRecDepth 100000
theorem RG{F:Nat}{x y:Ab.Edge}{n:Int}(h:Xo F x y=some n)(w:World):Calls Tryz.prog 166 #[ev x.F_.x_ x.F_.y_ x.to_.x_ x.to_.y_,ev y.F_.x_ y.F_.y_ y.to_.x_ y.to_.y_] w λe w'=>e=.returned (iv n)/\Stp J2 w w':=by
 refine(Z0u h w J2 (λ_=>undef) _ (λb l=>l.elim) (λb ⟨i,o,f,_⟩=>by cases f) (λi o f=>by cases f) (λi j b f=>absurd rfl f) rfl (λj m=>?_)).mono λe w' q=>?_
 .have g:∀ x:Ab.Edge,∀ C,ARep w J2 (fun _=>undef) C (ev x.F_.x_ x.F_.y_ x.to_.x_ x.to_.y_) (gE x):=fun x C=>by
   refine .v _ _ (.g _ _ ⟨rfl,λj m=>?_⟩);have m:j<4:=m
   have:j=0\/j=1\/j=2\/j=3:=by omega
   rcases this with rfl|rfl|rfl|rfl<;>exact .d _ _ (.int _ _)
  have:j=0\/j=1:=by simp at m;omega
  rcases this with rfl|rfl
  .exact g x _
  .exact g y _
 .obtain ⟨v,s,p,l⟩:=q
  refine⟨?_,l.stp.mono λb _ r=>by obtain⟨i,o,f,_⟩:=r;cases f⟩;rw[p]
  have k:=l.res
  cases k with|v _ _ h=>cases h with|c _ _ h=>cases h with|d _ _ h=>cases h;rfl
theorem tn1(F:Nat):Xo F ⟨⟨0,0⟩,⟨10,0⟩⟩ ⟨⟨10,0⟩,⟨10,10⟩⟩=some 1:=by kernel_rfl
theorem tn2(F:Nat):Xo F ⟨⟨10,0⟩,⟨10,10⟩⟩ ⟨⟨10,10⟩,⟨0,10⟩⟩=some 1:=by kernel_rfl
theorem tn3(F:Nat):Xo F ⟨⟨10,10⟩,⟨0,10⟩⟩ ⟨⟨0,10⟩,⟨0,0⟩⟩=some 1:=by kernel_rfl
theorem tn4(F:Nat):Xo F ⟨⟨0,10⟩,⟨0,0⟩⟩ ⟨⟨0,0⟩,⟨10,0⟩⟩=some 1:=by kernel_rfl
end Go.Proofs
end
section
namespace Go.Proofs
open Go.Shelf Go.RowKit Go.Lib Go.Ab
set_option maxHeartbeats 8000000
set_option maxRecDepth 100000
abbrev sv(g n c:Nat):Value:=.slice (some ⟨g,0,none⟩) n c
structure Fo (w W:World) (m ck o:Nat) (es:Array MapEntry) (a b x y:Int) (gs:Nat->Nat) (row:Nat->Array Value) (lv:Nat->Bool) (v:Value) (n:Nat) (xs:List Value):Prop where
 mp:W.heap[m]?=some (.map es ck)
 e3:W.heap[o]?=some (.cells #[iv 0,iv 0,iv 10,iv 0] 160 (0,0))
 e6:W.heap[o+1]?=some (.cells #[iv a,iv b,iv x,iv y] 160 (0,0))
 li:∀i,i<4->lv i=true->W.heap[gs i]?=some (.cells (row i) 160 (0,0))
 mo:m<o
 go:∀i,gs i<o
 cor:W.ownsRow (o+2) 158 2 v n xs
 ws:w.heap.size=o
 stp:Stp (λb=>b=m\/∃i,b=gs i) w W
 sz:o+2<=W.heap.size
abbrev WD(w:World)(m:Nat)(es:Array MapEntry)(ck:Nat):World:= {w with heap:=w.heap.setIfInBounds m (.map es ck)}
theorem Fo.del{w W W' : World}{m ck o:Nat}{es es' : Array MapEntry}{a b x y:Int}{gs:Nat->Nat}{row:Nat->Array Value}{lv:Nat->Bool}{v:Value}{n:Nat}{xs:List Value}(F:Fo w W m ck o es a b x y gs row lv v n xs)(k:Nat)(hk:k<4)(st:Stp (fun b=>b=gs k) W.drew W')(hs:W'.heap.size=W.drew.heap.size)(hd:∀ i j,i<4->j<4->gs i=gs j->i=j)(hmg:∀ i,m≠gs i):
  Fo w (WD W' m es' ck) m ck o es' a b x y gs row (λi=>lv i&&i != k) v n xs/\∀j,j<W.heap.size->j≠m->j≠gs k->(WD W' m es' ck).heap[j]?=W.heap[j]?:=by
 have hs:W'.heap.size=W.heap.size:=hs;have H:=F.go k
 have G:=F.mo;have D:=F.sz
 have f:∀j,j<W.heap.size->j≠m->j≠gs k->(WD W' m es' ck).heap[j]?=W.heap[j]?:=λj E q p=>by
  have e:(WD W' m es' ck).heap[j]?=W'.heap[j]?:=by
   simp only[WD,Ql0];rw[Qa1 (λe=>q e.symm)]
  exact e.trans (st.block j E p)
 have r:∀{j:Nat} {ob:Go.Obj},W.heap[j]?=some ob->j<W.heap.size:=λh=>J8 h
 refine⟨⟨?_,(f _ (r F.e3) (by omega) (by omega)).trans F.e3,(f _ (r F.e6) (by omega) (by omega)).trans F.e6,λi s z=>?_,F.mo,F.go,?_,F.ws,?_,?_⟩,f⟩
 .simp only[WD,Ql0]
  rw[Qa2 trivial,Qa2 (by rw[hs];omega)]
 .simp only[Qa4,bne_iff_ne]at z
  have h:=F.li i s z.1;exact(f _ (r h) (λe=>hmg i e.symm) (λe=>z.2 (hd i k s hk e))).trans h
 .refine ⟨F.cor.1,?_⟩
  rcases F.cor.2 with h|⟨g,A,t,q,p,B,s⟩
  .exact .inl h
  .exact .inr ⟨g,A,t,q,p,(f g (r B) (by omega) (by omega)).trans B,s⟩
 .have l:=F.stp
  refine⟨st.os.trans l.os,st.tape.trans l.tape,st.output.trans l.output,?_,λb C u=>?_,Qc9 l.dr (Qc9 (Qm4 _) st.dr)⟩
  .simp only[WD,Qu7]
   rw[hs];exact l.size
  .have q:b≠m:=λe=>u (.inl e)
   have p:b≠gs k:=λe=>u (.inr ⟨k,e⟩)
   exact(f b (Qc4 C l.size) q p).trans (l.block b C u)
 .simp only[WD,Qu7]
  rw[hs];exact D
section
variable {w W W' : World} {m ck o:Nat} {es:Array MapEntry} {a b x y:Int} {gs:Nat->Nat} {row:Nat->Array Value} {lv:Nat->Bool} {v:Value} {n:Nat} {xs:List Value}
theorem Fo.mono(F:Fo w W m ck o es a b x y gs row lv v n xs)(st:Stp J2 W W'):Fo w W' m ck o es a b x y gs row lv v n xs:=by
 have e:∀{j:Nat} {ob:Go.Obj},W.heap[j]?=some ob->W'.heap[j]?=some ob:=λh=>(st.block _ (J8 h) λh=>h).trans h
 refine⟨e F.mp,e F.e3,e F.e6,λi f r=>e (F.li i f r),F.mo,F.go,⟨F.cor.1,?_⟩,F.ws,F.stp.trans (st.mono λ_ _ h=>h.elim),Qc9 F.sz st.size⟩;rcases F.cor.2 with h|⟨g,k,l,s,p,q,f⟩
 .exact .inl h
 .exact .inr ⟨g,k,l,s,p,e q,f⟩
theorem Fo.app(F:Fo w W m ck o es a b x y gs row lv v n xs){v' : Value}{ys:List Value}(hr:W'.ownsRow (o+2) 158 2 v' (n+1) ys)(hg:W.grownBy W' v.ownBlock)(hdr:W.drawn<=W'.drawn):Fo w W' m ck o es a b x y gs row lv v' (n+1) ys/\∀j,j<W.heap.size->some j≠v.ownBlock->W'.heap[j]?=W.heap[j]?:=by
 have f:∀j,j<W.heap.size->some j≠v.ownBlock->W'.heap[j]?=W.heap[j]?:=λj q l=>hg.block j q l
 have g:∀{j:Nat} {ob:Go.Obj},j<o+2->W.heap[j]?=some ob->W'.heap[j]?=some ob:=λq h=>(f _ (J8 h) λe=>by
  have:=(F.cor.lt _ e.symm).1
  omega).trans h
 have u:=F.mo;refine⟨⟨g (by omega) F.mp,g (by omega) F.e3,g (by omega) F.e6,λi s t=>g (by have:=F.go i;omega) (F.li i s t),F.mo,F.go,hr,F.ws,?_,Qc9 F.sz hg.size⟩,f⟩
 have k:=F.stp;have z:=F.ws
 refine⟨hg.os.trans k.os,hg.tape.trans k.tape,hg.output.trans k.output,Qc9 k.size hg.size,λb p r=>?_,Qc9 k.dr hdr⟩;exact(f b (Qc4 p k.size) λe=>by
  have:=(F.cor.lt _ e.symm).1
  omega).trans (k.block b p r)
theorem Fo.now(F:Fo w W m ck o es a b x y gs row lv v n xs)(a' b' x' y' : Int):Fo w ((((W.setCell ⟨o+1,0,none⟩ (iv a')).setCell ⟨o+1,1,none⟩ (iv b')).setCell ⟨o+1,2,none⟩ (iv x')).setCell ⟨o+1,3,none⟩ (iv y')) m ck o es a' b' x' y' gs row lv v n xs:=by
 obtain⟨W',hW⟩:∃W',((((W.setCell ⟨o+1,0,none⟩ (iv a')).setCell ⟨o+1,1,none⟩ (iv b')).setCell ⟨o+1,2,none⟩ (iv x')).setCell ⟨o+1,3,none⟩ (iv y'))=W':=⟨_,rfl⟩;rw[hW]
 have e:∀j,j≠o+1->W'.heap[j]?=W.heap[j]?:=λj E=>by
  rw[<-hW];simp only[World.setCell,Qf5]
  rw[Qa1 (by omega),Qa1 (by omega),Qa1 (by omega),Qa1 (by omega)]
 have k:W'.heap[o+1]?=some (.cells #[iv a',iv b',iv x',iv y'] 160 (0,0)):=by
  rw[<-hW];simp only[World.setCell,Qf5]
  rw[Qa2 trivial,Qa2 trivial,Qa2 trivial,Qa2 trivial,F.e6];rfl
 have r:W'.heap.size=W.heap.size:=by rw[<-hW];simp[World.setCell]
 have C:=F.mo;have D:=F.ws
 have f:=F.stp;refine⟨(e m (by omega)).trans F.mp,(e o (by omega)).trans F.e3,k,λi p B=>(e _ (by have:=F.go i;omega)).trans (F.li i p B),F.mo,F.go,⟨F.cor.1,?_⟩,F.ws,⟨?_,?_,?_,by rw[r];exact f.size,λb A z=>(e b (by omega)).trans (f.block b A z),?_⟩,by rw[r];exact F.sz⟩
 .rcases F.cor.2 with h|⟨g,q,l,u,s,t,p⟩
  .exact .inl h
  .exact .inr ⟨g,q,l,u,s,(e g (by omega)).trans t,p⟩
 .rw [<-hW];exact f.os
 .rw [<-hW];exact f.tape
 .rw [<-hW];exact f.output
 .rw [<-hW];exact f.dr
end
end Go.Proofs
end
section
namespace Go.Proofs
open Go.Shelf Go.RowKit Go.Lib Go.Ab
set_option maxHeartbeats 4000000
set_option maxRecDepth 100000
theorem cm{w:World}{v:Value}{R:List Rect}(hv:DRep w J2 v (DL R))(C:Ctx):ARep w J2 (λ_=>undef) C (.agg #[v]) (.v (.g [.d (DL R)])):=by
 refine .v _ _ (.g _ _ ⟨rfl,λj e=>?_⟩);have e:j<1:=e
 obtain rfl:j=0:=by omega
 exact .d _ _ hv
theorem Q7Z{F:Nat}{a:Re_}{b:Bool}(h:Wa F a=some b){w:World}{v:Value}(hv:DRep w J2 v (DL a.t_)):Calls Tryz.prog 82 #[.agg #[v]] w λe w'=>e=.returned (.bool b)/\Stp J2 w w':=by
 refine(YH h w J2 (λ_=>undef) _ (λb k=>k.elim) (λb ⟨i,o,f,_⟩=>by cases f) (λi o f=>by cases f) (λi j b f=>absurd rfl f) rfl (λj q=>?_)).mono λe w' p=>?_
 .obtain rfl:j=0:=by simp at q;omega
  exact cm hv _
 .obtain ⟨v,s,l,k⟩:=p
  refine⟨?_,k.stp.mono λb _ r=>by obtain⟨i,o,f,_⟩:=r;cases f⟩;rw[l]
  have g:=k.res
  cases g with|v _ _ h=>cases h with|c _ _ h=>cases h with|d _ _ h=>cases h;rfl
theorem qA{w:World}{X:Nat->Prop}{η η' : Nat->Value}:XS (Qk [] w X η) (ls []) η'=X:=by
 funext b
 apply propext;constructor
 .rintro (⟨h,_⟩|⟨i,o,h,_⟩)
  .exact h
  .cases h
 .intro h;exact .inl ⟨h,λ⟨i,o,hi,_⟩=>by cases hi⟩
theorem Q8m{F:Nat}{a:Re_}{r:List Ab.Edge}(h:Dx F a=some r){w:World}{v:Value}(hv:DRep w J2 v (DL a.t_)):Calls Tryz.prog 83 #[.agg #[v]] w λe w'=>∃u,e=.returned u/\DRep w' J2 u (DL r)/\Stp J2 w w':=by
 refine(Z0z h w J2 (λ_=>undef) _ (λb k=>k.elim) (λb ⟨i,o,g,_⟩=>by cases g) (λi o g=>by cases g) (λi j b g=>absurd rfl g) rfl (λj q=>?_)).mono λe w' p=>?_
 .obtain rfl:j=0:=by simp at q;omega
  exact cm hv _
 .obtain ⟨v,t,l,k⟩:=p
  have f:=k.res;rw[qA]at f
  refine⟨v,l,?_,k.stp.mono λb _ s=>by obtain⟨i,o,g,_⟩:=s;cases g⟩
  cases f with|v _ _ h=>cases h with|c _ _ h=>cases h with|d _ _ h=>exact h
theorem Q8s{F:Nat}{a r:List Ab.Point}(h:Q0A F a=some r){w:World}{v:Value}{X:Nat->Prop}(hX:∀b,X b->b<w.heap.size)(hv:DRep w X v (DL a)):Calls Tryz.prog 85 #[v] w λe w'=>∃u,e=.returned u/\DRep w' X u (DL r)/\Stp J2 w w':=by
 refine(Z0B h w X (λ_=>undef) _ hX (λb ⟨i,o,g,_⟩=>by cases g) (λi o g=>by cases g) (λi j b g=>absurd rfl g) rfl (λj q=>?_)).mono λe w' p=>?_
 .obtain rfl:j=0:=by simp at q;omega
  exact .v _ _ (.c _ _ (.d _ _ hv))
 .obtain ⟨v,t,l,k⟩:=p
  have f:=k.res;rw[qA]at f
  refine⟨v,l,?_,k.stp.mono λb _ s=>by obtain⟨i,o,g,_⟩:=s;cases g⟩
  cases f with|v _ _ h=>cases h with|c _ _ h=>cases h with|d _ _ h=>exact h
structure Ed (w:World) (v:Value) (ga off cap:Nat):Prop where
 eq:v=.slice (some ⟨ga,off,none⟩) 4 cap
 lt:ga<w.heap.size
 at_:∀k,k<16->w.cell? ⟨ga,off+k,none⟩=some (([iv 0,iv 0,iv 10,iv 0,iv 0,iv 10,iv 0,iv 0,iv 10,iv 0,iv 10,iv 10,iv 10,iv 10,iv 0,iv 10]:List Value).getD k undef)
theorem Ed.of{w:World}{v:Value}(h:DRep w J2 v (DL (α:=Ab.Edge) [⟨⟨0,0⟩,⟨10,0⟩⟩,⟨⟨0,10⟩,⟨0,0⟩⟩,⟨⟨10,0⟩,⟨10,10⟩⟩,⟨⟨10,10⟩,⟨0,10⟩⟩])):∃ga off cap,Ed w v ga off cap:=by
 generalize hl:([⟨⟨0,0⟩,⟨10,0⟩⟩,⟨⟨0,10⟩,⟨0,0⟩⟩,⟨⟨10,0⟩,⟨10,10⟩⟩,⟨⟨10,10⟩,⟨0,10⟩⟩]:List Ab.Edge)=l at h;have r:l.length=4:=by rw[<-hl];rfl
 unfold DL at h;rw[r]at h
 cases h with|lst b off _ cap c e fz _ es h1 h2 h3 h4 h5 h6=>
 have i:=h5 0 (by omega);have g:(LF l 0).length=4:=by rw[<-hl];rfl
 obtain rfl:es=4:=i.symm.trans g;refine⟨b,off,cap,rfl,J8 h2,λk p=>?_⟩
 have f:off+k<c.size:=by omega
 have q:w.cell? ⟨b,off+k,none⟩=some (c.getD (off+k) undef):=by
  simp[World.cell?,h2,f]
 rw[q];congr 1
 have j:=h6 (k / 4) (k % 4) (by omega) (by omega);have e:k / 4*4+k % 4=k:=by omega
 rw[e]at j;generalize c.getD (off+k) undef=u at j⊢
 clear q h6 h2 f
 have p:k=0\/k=1\/k=2\/k=3\/k=4\/k=5\/k=6\/k=7\/k=8\/k=9\/k=10\/k=11\/k=12\/k=13\/k=14\/k=15:=by omega
 subst hl;rcases p with rfl|rfl|rfl|rfl|rfl|rfl|rfl|rfl|rfl|rfl|rfl|rfl|rfl|rfl|rfl|rfl<;>(cases j;rfl)
end Go.Proofs
end
section
namespace Go.Proofs
open Go.Shelf Go.RowKit Go.Lib Go.Ab
set_option maxHeartbeats 4000000
set_option maxRecDepth 100000
theorem Z4B{W:World}{g T:Nat}{u:Value}{Z:Array Value}(h:W.heap[g]?=some (.cells (#[u]++Z) T (0,0))):W.cell? ⟨g,0,none⟩=some u:=by
 simp[World.cell?,h,Qg2]
theorem Q8j{W:World}{g c b off cp:Nat}{Z:Array Value}(h:W.heap[g]?=some (.cells (#[.slice (some ⟨b,off,none⟩) 4 cp]++Z) 118 (0,0))):
  Calls Tryz.prog 168 #[.slice (some ⟨g,0,none⟩) 1 c,.func (.func 88) #[] #[]] W λe w'=>e=.returned (iv (-1))/\Stp J2 W w':=by
 have f:=Z4B h
 go_enter Tryz.func168,Tryz.ntmps168
 go_wp2
 refine wp_loop_rounds 2 ?_;rw[rounds_succ]
 go_wp2
 rw[rounds_succ]
 go_wp2
 go_ret
 exact⟨rfl,Stp.refl _ _⟩
theorem Q8q{W:World}{g c b off cp:Nat}{Z:Array Value}(h:W.heap[g]?=some (.cells (#[.slice (some ⟨b,off,none⟩) 4 cp]++Z) 118 (0,0))):
  Calls Tryz.prog 87 #[.slice (some ⟨g,0,none⟩) 1 c,.func (.func 88) #[] #[]] W λe w'=>e=.returned (.bool false)/\Stp J2 W w':=by
 go_enter Tryz.func87,Tryz.ntmps87
 go_wp2_with (go_at_call 168;refine(Q8j h).mono ?_;rintro e w' ⟨rfl,st⟩)
 go_ret
 exact⟨rfl,st⟩
theorem Q8i{W:World}{g c:Nat}(f:Value):Calls Tryz.prog 228 #[.slice (some ⟨g,0,none⟩) 1 c,iv 0,iv 1,f] W λe w'=>(∃v,e=.returned v)/\Stp J2 W w':=by
 go_enter Tryz.func228,Tryz.ntmps228
 go_wp2
 refine wp_loop_rounds 1 ?_;rw[rounds_succ]
 go_wp2
 go_returns
 exact⟨⟨_,rfl⟩,Stp.refl _ _⟩
theorem Q8c{W:World}{g c:Nat}(n:Int)(f:Value):Calls Tryz.prog 169 #[.slice (some ⟨g,0,none⟩) 1 c,iv 0,iv 1,iv n,f] W λe w'=>(∃v,e=.returned v)/\Stp J2 W w':=by
 go_enter Tryz.func169,Tryz.ntmps169
 go_wp2
 refine wp_loop_rounds 1 ?_;rw[rounds_succ]
 go_wp2_with (go_at_call 228;refine(Q8i _).mono ?_;rintro e w' ⟨⟨v,rfl⟩,st⟩)
 go_returns
 exact⟨⟨_,rfl⟩,st⟩
theorem Q8f(W:World):Calls Tryz.prog 237 #[.int .u64 1] W λe w'=>e=.returned (iv 1)/\w'=W:=by
 go_enter Tryz.func237,Tryz.ntmps237
 go_wp2
 go_ret
 exact⟨by kernel_rfl,rfl⟩
theorem Q8e(W:World):Calls Tryz.prog 170 #[.int .u64 1] W λe w'=>e=.returned (iv 1)/\w'=W:=by
 go_enter Tryz.func170,Tryz.ntmps170
 go_wp2_with (go_at_call 237;refine(Q8f _).mono ?_;rintro e w' ⟨rfl,rfl⟩)
 go_ret
 exact⟨rfl,rfl⟩
theorem Q8a{W:World}{g c:Nat}(f:Value):Calls Tryz.prog 89 #[.slice (some ⟨g,0,none⟩) 1 c,f] W λe w'=>(∃v,e=.returned v)/\Stp J2 W w':=by
 go_enter Tryz.func89,Tryz.ntmps89
 go_wp2_with (first
  |(go_at_call 170;refine(Q8e _).mono ?_;rintro e w' ⟨rfl,rfl⟩)
  |(go_at_call 169;refine(Q8c _ _).mono ?_;rintro e w' ⟨⟨v,rfl⟩,st⟩))
 go_returns
 exact⟨⟨_,rfl⟩,st⟩
end Go.Proofs
end
section
namespace Go.Proofs
open Go.Shelf Go.RowKit Go.Lib Go.Ab
set_option maxHeartbeats 8000000
set_option maxRecDepth 100000
theorem FC(W:World)(T:Nat)(p q:Value):∀j u,[p,q][j]?=some u->(W.alloc (.cells #[p,q] T)).cell? ((⟨W.heap.size,0,none⟩:Addr).add j)=some u:=by
 intro j u e
 match j,e with
 |0,e=>
  simp at e
  subst e;simp[Addr.add]
 |1,e=>
  simp at e
  subst e;simp[Addr.add]
theorem Tk:∃i z,Tryz.prog.info? 158=some i/\i.zero=some z/\i.size=2/\i.bytes<=1000/\z.cells.size=2:=by
 obtain⟨i,dd,z,h⟩:=QZ 158 ⟨.struct [(0,3),(1,3)],2,16,[.d (.int .i64 0),.d (.int .i64 0)]⟩ (by kernel_rfl);exact⟨i,z,h.info,h.zero,h.size,by rw[h.bytes];decide,(h.zrep default (λ_=>False) (λ_=>undef) (Qk [] default (λ_=>False) λ_=>undef)).1⟩
theorem Tm:Tryz.prog.underlying 118=some (.slice 158):=by kernel_rfl
theorem Qo{w:World}{g:Nat}{p q r s:Value}(h:w.heap[g]?=some (.cells #[p,q,r,s] 160 (0,0))):(w.cell? ⟨g,0,none⟩=some p/\w.cell? ⟨g,1,none⟩=some q/\w.cell? ⟨g,2,none⟩=some r/\w.cell? ⟨g,3,none⟩=some s)/\w.frozen? ⟨g,0,none⟩=false/\w.frozen? ⟨g,1,none⟩=false/\w.frozen? ⟨g,2,none⟩=false/\w.frozen? ⟨g,3,none⟩=false:=by
 refine⟨⟨?_,?_,?_,?_⟩,?_,?_,?_,?_⟩<;>first|(simp[World.cell?,h];done)|(simp[World.frozen?,h];done)
theorem RI(g c:Nat)(cur:Array Value)(w:World)(h:w.heap[g]?=some (.cells cur 160 (0,0)))(hc:cur.size=c*4)(h1:1<=c)(h2:c<=maxLen):Calls Tryz.prog 167 #[.slice (some ⟨g,0,none⟩) 1 c,iv 0,.int .i64 (IntKind.i64.wrap 1)] w λe w'=>e=.returned (.slice (some ⟨g,0,none⟩) 0 c)/\Stp (λb=>b=g) w w' /\ w'.heap.size=w.heap.size:=by
 have e:IntKind.i64.wrap 1=1:=by decide
 rw[e];exact Q8n g c cur w h hc h1 h2
theorem Q8k{w:World}{m ck:Nat}{gs cs:Nat->Nat}{row:Nat->Array Value}(hm:w.heap[m]?=some (.map #[ZI (sv (gs 0) 1 (cs 0)),ZW (sv (gs 1) 1 (cs 1)),Yo (sv (gs 2) 1 (cs 2)),YM (sv (gs 3) 1 (cs 3))] ck))(hr:∀ i,w.heap[gs i]?=some (.cells (row i) 160 (0,0)))(r0:∃ Z,row 0=#[iv 0,iv 0,iv 10,iv 0]++Z)(r1:∃ Z,row 1=#[iv 0,iv 10,iv 0,iv 0]++Z)(r2:∃ Z,row 2=#[iv 10,iv 0,iv 10,iv 10]++Z)(r3:∃ Z,row 3=#[iv 10,iv 10,iv 0,iv 10]++Z)(hc:∀ i,(row i).size=cs i*4/\1<=cs i/\cs i<=maxLen)(hd:∀ i j,i<4->j<4->gs i=gs j->i=j)(hmg:∀ i,m≠gs i):
  Calls Tryz.prog 86 #[.map (some m),ev 0 0 10 0] w λe w'=>∃v,e=.returned v/\w'.ownsRow w.heap.size 158 2 v 4 [iv 10,iv 0,iv 10,iv 10,iv 0,iv 10,iv 0,iv 0]/\w'.heap[m]?=some (.map #[ZI (sv (gs 0) 0 (cs 0)),ZW (sv (gs 1) 0 (cs 1)),Yo (sv (gs 2) 0 (cs 2)),YM (sv (gs 3) 0 (cs 3))] ck)/\Stp (λb=>b=m\/∃i,b=gs i) w w':=by
 obtain⟨o,ho⟩:∃o,w.heap.size=o:=⟨_,rfl⟩;have e1:m<o:=ho ▸ J8 hm
 have b6:∀i,gs i<o:=λi=>ho ▸ J8 (hr i)
 go_enter Tryz.func86,Tryz.ntmps86
 go_wp2
 obtain⟨W,hW⟩:∃W,(w.alloc (.cells #[iv 0,iv 0,iv 10,iv 0] 160)).alloc (.cells #[iv 0,iv 0,iv 10,iv 0] 160)=W:=⟨_,rfl⟩;have F:Fo w W m ck o #[ZI (sv (gs 0) 1 (cs 0)),ZW (sv (gs 1) 1 (cs 1)),Yo (sv (gs 2) 1 (cs 2)),YM (sv (gs 3) 1 (cs 3))] 0 0 10 0 gs row (λ_=>true) (.slice none 0 0) 0 []:=by
  have e0:∀k,k<o->W.heap[k]?=w.heap[k]?:=λk hk=>by
   rw[<-hW];exact(Below.heap_alloc _ _ k (by simp;omega)).trans (Below.heap_alloc _ _ k (by omega))
  refine⟨(e0 m e1).trans hm,?_,?_,λi _ _=>(e0 _ (b6 i)).trans (hr i),e1,b6,World.ownsRow_nil _ _ _ _,ho,?_,?_⟩
  .rw [<-hW, <-ho];exact(Below.heap_alloc _ _ _ (by simp)).trans (World.alloc_heap_new _ _)
  .have:=World.alloc_heap_new (w.alloc (.cells #[iv 0,iv 0,iv 10,iv 0] 160)) (.cells #[iv 0,iv 0,iv 10,iv 0] 160)
   rwa [World.size_alloc,ho,hW]at this
  .rw [<-hW];exact(QT (Stp.alloc J2 _ _) (Stp.alloc J2 _ _)).mono λ_ _ h=>h.elim
  .rw [<-hW, <-ho];simp
 change Code.wp _ _ _ _ ((w.alloc (.cells #[iv 0,iv 0,iv 10,iv 0] 160)).alloc (.cells #[iv 0,iv 0,iv 10,iv 0] 160));rw[hW]
 clear hW
 refine wp_loop_rounds 4 ?_;rw[rounds_succ]
 have lk:=Jl F.mp (vz _ _ _ _);obtain⟨Z,hZ⟩:=r2
 have p:=F.li 2 (by omega) rfl;have hl:=p
 have sz:=F.sz;have b4:=b6 2
 have n3:gs 2<W.heap.size:=by omega
 rw[hZ]at hl;obtain⟨q0,q1,q2,q3⟩:=HA hl
 obtain⟨⟨X,Y,V,U⟩, -⟩:=Qo F.e6
 go_wp2
 go_region
 go_wp2
 have B:Stp J2 W ((W.alloc (.cells #[iv 10,iv 0,iv 10,iv 10] 160)).drew):=QT (Stp.alloc J2 W _) (Us _);have l:=F.mono B
 clear B
 have C:((W.alloc (.cells #[iv 10,iv 0,iv 10,iv 10] 160)).drew).heap[W.heap.size]?=some (.cells #[iv 10,iv 0,iv 10,iv 10] 160 (0,0)):=World.alloc_heap_new _ _;change Code.wp _ _ _ _ ((W.alloc (.cells #[iv 10,iv 0,iv 10,iv 10] 160)).drew)
 generalize ((W.alloc (.cells #[iv 10,iv 0,iv 10,iv 10] 160)).drew)=W5 at l C⊢;obtain⟨o9,ho9⟩:∃o9,W.heap.size=o9:=⟨_,rfl⟩
 rw[ho9]at C sz⊢;have H:some o9≠((.slice none 0 0):Value).ownBlock:=λe=>by
  have:=(F.cor.lt _ e.symm).2
  omega
 clear lk p hl X Y V U q0 q1 q2 q3 n3 F hZ Z
 apply Qq7 (Q:=(λ(A:Act) e a' W2=>match e with|.normal=>a'=A/\Fo w W2 m ck o #[ZI (sv (gs 0) 1 (cs 0)),ZW (sv (gs 1) 1 (cs 1)),Yo (sv (gs 2) 0 (cs 2)),YM (sv (gs 3) 1 (cs 3))] 0 0 10 0 gs row (λi=>true&&i != 2) (.slice none 0 0) 0 []/\W2.heap[o9]?=some (.cells #[iv 10,iv 0,iv 10,iv 10] 160 (0,0))|_=>False) _)
 case h=>
  have p:=l.li 2 (by omega) rfl;have c2:Tryz.prog.follows .mixedOrders=true:=by kernel_rfl
  have a6:=J8 l.e6;have c3:=J8 C
  have a2:=J8 l.mp;obtain⟨⟨X,Y,V,U⟩, -⟩:=Qo l.e6
  go_region_with_o (go_at_call 167;refine(RI (gs 2) (cs 2) (row 2) _ (by exact p) (hc 2).1 (hc 2).2.1 (hc 2).2.2).mono ?_;rintro e W' ⟨rfl,st,hs⟩;have a4 : W'.heap[m]?=_:=(st.block m (by exact a2) (hmg 2)).trans l.mp;have up:=RF a4 (vz _ _ _ _) rfl (v:=sv (gs 2) 0 (cs 2));have a1 : W'.heap[o+1]?=_:=(st.block (o+1) (by exact a6) (by omega)).trans l.e6;obtain⟨⟨R,O,S,P⟩, -⟩:=Qo a1)
  all_goals
   obtain⟨D,k6⟩:=l.del (es':=#[ZI (sv (gs 0) 1 (cs 0)),ZW (sv (gs 1) 1 (cs 1)),Yo (sv (gs 2) 0 (cs 2)),YM (sv (gs 3) 1 (cs 3))]) (ck:=ck) 2 (by omega) st hs hd hmg;exact⟨rfl,D,(k6 _ (by assumption) (by omega) (by omega)).trans C⟩
 intro e a' W6 h;have hn:e=.normal:=by cases e<;>first|rfl|exact(h:False).elim
 subst hn;obtain⟨rfl,D,r⟩:=h
 clear l C
 obtain⟨⟨X,Y,V,U⟩, -⟩:=Qo D.e6;obtain⟨⟨q0,q1,q2,q3⟩, -⟩:=Qo r
 obtain⟨pi,pz,N,J,G,K,t⟩:=Tk;simp only[Exit.then]
 go_wp2_with (first
  |(go_at_call 166;refine(RG (tn1 0) _).mono ?_;rintro e I ⟨rfl,u⟩;have E:=D.mono u;have q:I.heap[o9]?=_:=(u.block o9 (by exact J8 r) λh=>h).trans r;obtain⟨⟨R,O,S,P⟩, -⟩:=Qo E.e6)
  |(at_builtin;refine Uq rfl _ _ 118 rfl rfl Tm N J G K t (by decide) rfl (E.mono (W':=I.alloc (.cells #[iv 10,iv 0] 158)) (Stp.alloc J2 _ _)).cor rfl rfl (FC _ _ _ _) (by simp[Value.oneCell']) (by omega) (by have:=E.sz;simp;omega) ?_;intro v0 W8 s f T L;have z:=(E.mono (W':=I.alloc (.cells #[iv 10,iv 0] 158)) (Stp.alloc J2 _ _)).app s f L;have M:W8.heap[o9]?=_:=(z.2 o9 (by have:=J8 q;simp;omega) H).trans ((Below.heap_alloc _ _ o9 (J8 q)).trans q);obtain⟨⟨b5,b3,b1,b2⟩, -⟩:=Qo M;obtain⟨⟨t0,t1,t2,t3⟩, -⟩:=Qo z.1.e3;obtain⟨⟨s0,s1,s2,s3⟩,f0,f1,f2,f3⟩:=Qo z.1.e6))
 have F:=z.1.now 10 0 10 10;change Code.rounds _ _ _ _ _ ((((W8.setCell ⟨o+1,0,none⟩ (iv 10)).setCell ⟨o+1,1,none⟩ (iv 0)).setCell ⟨o+1,2,none⟩ (iv 10)).setCell ⟨o+1,3,none⟩ (iv 10))
 generalize ((((W8.setCell ⟨o+1,0,none⟩ (iv 10)).setCell ⟨o+1,1,none⟩ (iv 0)).setCell ⟨o+1,2,none⟩ (iv 10)).setCell ⟨o+1,3,none⟩ (iv 10))=W at F⊢;generalize I.heap.size=o7
 clear D r H X Y V U q0 q1 q2 q3 pi pz N J G K t s f T L z M b5 b3 b1 b2 t0 t1 t2 t3 s0 s1 s2 s3 f0 f1 f2 f3 E q R O S P u sz b4 ho9 W8 I W6
 rw[rounds_succ];have lk:=Jl F.mp (vy _ _ _ _)
 obtain⟨Z,hZ⟩:=r3;have p:=F.li 3 (by omega) rfl
 have hl:=p;have sz:=F.sz
 have b4:=b6 3;have n3:gs 3<W.heap.size:=by omega
 rw[hZ]at hl;obtain⟨q0,q1,q2,q3⟩:=HA hl
 obtain⟨⟨X,Y,V,U⟩, -⟩:=Qo F.e6
 go_wp2
 go_region
 go_wp2
 have B:Stp J2 W ((W.alloc (.cells #[iv 10,iv 10,iv 0,iv 10] 160)).drew):=QT (Stp.alloc J2 W _) (Us _);have l:=F.mono B
 clear B
 have C:((W.alloc (.cells #[iv 10,iv 10,iv 0,iv 10] 160)).drew).heap[W.heap.size]?=some (.cells #[iv 10,iv 10,iv 0,iv 10] 160 (0,0)):=World.alloc_heap_new _ _;change Code.wp _ _ _ _ ((W.alloc (.cells #[iv 10,iv 10,iv 0,iv 10] 160)).drew)
 generalize ((W.alloc (.cells #[iv 10,iv 10,iv 0,iv 10] 160)).drew)=W5 at l C⊢;obtain⟨o9,ho9⟩:∃o9,W.heap.size=o9:=⟨_,rfl⟩
 rw[ho9]at C sz⊢;have H:some o9≠(v0:Value).ownBlock:=λe=>by
  have:=(F.cor.lt _ e.symm).2
  omega
 clear lk p hl X Y V U q0 q1 q2 q3 n3 F hZ Z
 apply Qq7 (Q:=(λ(A:Act) e a' W2=>match e with|.normal=>a'=A/\Fo w W2 m ck o #[ZI (sv (gs 0) 1 (cs 0)),ZW (sv (gs 1) 1 (cs 1)),Yo (sv (gs 2) 0 (cs 2)),YM (sv (gs 3) 0 (cs 3))] 10 0 10 10 gs row (λi=>((true&&i != 2)&&i != 3)) v0 1 ([]++[iv 10,iv 0])/\W2.heap[o9]?=some (.cells #[iv 10,iv 10,iv 0,iv 10] 160 (0,0))|_=>False) _)
 case h=>
  have p:=l.li 3 (by omega) rfl;have c2:Tryz.prog.follows .mixedOrders=true:=by kernel_rfl
  have a6:=J8 l.e6;have c3:=J8 C
  have a2:=J8 l.mp;obtain⟨⟨X,Y,V,U⟩, -⟩:=Qo l.e6
  go_region_with_o (go_at_call 167;refine(RI (gs 3) (cs 3) (row 3) _ (by exact p) (hc 3).1 (hc 3).2.1 (hc 3).2.2).mono ?_;rintro e W' ⟨rfl,st,hs⟩;have a4 : W'.heap[m]?=_:=(st.block m (by exact a2) (hmg 3)).trans l.mp;have up:=RF a4 (vy _ _ _ _) rfl (v:=sv (gs 3) 0 (cs 3));have a1 : W'.heap[o+1]?=_:=(st.block (o+1) (by exact a6) (by omega)).trans l.e6;obtain⟨⟨R,O,S,P⟩, -⟩:=Qo a1)
  all_goals
   obtain⟨D,k6⟩:=l.del (es':=#[ZI (sv (gs 0) 1 (cs 0)),ZW (sv (gs 1) 1 (cs 1)),Yo (sv (gs 2) 0 (cs 2)),YM (sv (gs 3) 0 (cs 3))]) (ck:=ck) 3 (by omega) st hs hd hmg;exact⟨rfl,D,(k6 _ (by assumption) (by omega) (by omega)).trans C⟩
 intro e a' W6 h;have hn:e=.normal:=by cases e<;>first|rfl|exact(h:False).elim
 subst hn;obtain⟨rfl,D,r⟩:=h
 clear l C
 obtain⟨⟨X,Y,V,U⟩, -⟩:=Qo D.e6;obtain⟨⟨q0,q1,q2,q3⟩, -⟩:=Qo r
 obtain⟨pi,pz,N,J,G,K,t⟩:=Tk;simp only[Exit.then]
 go_wp2_with (first
  |(go_at_call 166;refine(RG (tn2 0) _).mono ?_;rintro e I ⟨rfl,u⟩;have E:=D.mono u;have q:I.heap[o9]?=_:=(u.block o9 (by exact J8 r) λh=>h).trans r;obtain⟨⟨R,O,S,P⟩, -⟩:=Qo E.e6)
  |(at_builtin;refine Uq rfl _ _ 118 rfl rfl Tm N J G K t (by decide) rfl (E.mono (W':=I.alloc (.cells #[iv 10,iv 10] 158)) (Stp.alloc J2 _ _)).cor rfl rfl (FC _ _ _ _) (by simp[Value.oneCell']) (by omega) (by have:=E.sz;simp;omega) ?_;intro v1 W8 s f T L;have z:=(E.mono (W':=I.alloc (.cells #[iv 10,iv 10] 158)) (Stp.alloc J2 _ _)).app s f L;have M:W8.heap[o9]?=_:=(z.2 o9 (by have:=J8 q;simp;omega) H).trans ((Below.heap_alloc _ _ o9 (J8 q)).trans q);obtain⟨⟨b5,b3,b1,b2⟩, -⟩:=Qo M;obtain⟨⟨t0,t1,t2,t3⟩, -⟩:=Qo z.1.e3;obtain⟨⟨s0,s1,s2,s3⟩,f0,f1,f2,f3⟩:=Qo z.1.e6))
 have F:=z.1.now 10 10 0 10;change Code.rounds _ _ _ _ _ ((((W8.setCell ⟨o+1,0,none⟩ (iv 10)).setCell ⟨o+1,1,none⟩ (iv 10)).setCell ⟨o+1,2,none⟩ (iv 0)).setCell ⟨o+1,3,none⟩ (iv 10))
 generalize ((((W8.setCell ⟨o+1,0,none⟩ (iv 10)).setCell ⟨o+1,1,none⟩ (iv 10)).setCell ⟨o+1,2,none⟩ (iv 0)).setCell ⟨o+1,3,none⟩ (iv 10))=W at F⊢;generalize I.heap.size=o7
 clear D r H X Y V U q0 q1 q2 q3 pi pz N J G K t s f T L z M b5 b3 b1 b2 t0 t1 t2 t3 s0 s1 s2 s3 f0 f1 f2 f3 E q R O S P u sz b4 ho9 W8 I W6
 rw[rounds_succ];have lk:=Jl F.mp (vB _ _ _ _)
 obtain⟨Z,hZ⟩:=r1;have p:=F.li 1 (by omega) rfl
 have hl:=p;have sz:=F.sz
 have b4:=b6 1;have n3:gs 1<W.heap.size:=by omega
 rw[hZ]at hl;obtain⟨q0,q1,q2,q3⟩:=HA hl
 obtain⟨⟨X,Y,V,U⟩, -⟩:=Qo F.e6
 go_wp2
 go_region
 go_wp2
 have B:Stp J2 W ((W.alloc (.cells #[iv 0,iv 10,iv 0,iv 0] 160)).drew):=QT (Stp.alloc J2 W _) (Us _);have l:=F.mono B
 clear B
 have C:((W.alloc (.cells #[iv 0,iv 10,iv 0,iv 0] 160)).drew).heap[W.heap.size]?=some (.cells #[iv 0,iv 10,iv 0,iv 0] 160 (0,0)):=World.alloc_heap_new _ _;change Code.wp _ _ _ _ ((W.alloc (.cells #[iv 0,iv 10,iv 0,iv 0] 160)).drew)
 generalize ((W.alloc (.cells #[iv 0,iv 10,iv 0,iv 0] 160)).drew)=W5 at l C⊢;obtain⟨o9,ho9⟩:∃o9,W.heap.size=o9:=⟨_,rfl⟩
 rw[ho9]at C sz⊢;have H:some o9≠(v1:Value).ownBlock:=λe=>by
  have:=(F.cor.lt _ e.symm).2
  omega
 clear lk p hl X Y V U q0 q1 q2 q3 n3 F hZ Z
 apply Qq7 (Q:=(λ(A:Act) e a' W2=>match e with|.normal=>a'=A/\Fo w W2 m ck o #[ZI (sv (gs 0) 1 (cs 0)),ZW (sv (gs 1) 0 (cs 1)),Yo (sv (gs 2) 0 (cs 2)),YM (sv (gs 3) 0 (cs 3))] 10 10 0 10 gs row (λi=>(((true&&i != 2)&&i != 3)&&i != 1)) v1 2 (([]++[iv 10,iv 0])++[iv 10,iv 10])/\W2.heap[o9]?=some (.cells #[iv 0,iv 10,iv 0,iv 0] 160 (0,0))|_=>False) _)
 case h=>
  have p:=l.li 1 (by omega) rfl;have c2:Tryz.prog.follows .mixedOrders=true:=by kernel_rfl
  have a6:=J8 l.e6;have c3:=J8 C
  have a2:=J8 l.mp;obtain⟨⟨X,Y,V,U⟩, -⟩:=Qo l.e6
  go_region_with_o (go_at_call 167;refine(RI (gs 1) (cs 1) (row 1) _ (by exact p) (hc 1).1 (hc 1).2.1 (hc 1).2.2).mono ?_;rintro e W' ⟨rfl,st,hs⟩;have a4 : W'.heap[m]?=_:=(st.block m (by exact a2) (hmg 1)).trans l.mp;have up:=RF a4 (vB _ _ _ _) rfl (v:=sv (gs 1) 0 (cs 1));have a1 : W'.heap[o+1]?=_:=(st.block (o+1) (by exact a6) (by omega)).trans l.e6;obtain⟨⟨R,O,S,P⟩, -⟩:=Qo a1)
  all_goals
   obtain⟨D,k6⟩:=l.del (es':=#[ZI (sv (gs 0) 1 (cs 0)),ZW (sv (gs 1) 0 (cs 1)),Yo (sv (gs 2) 0 (cs 2)),YM (sv (gs 3) 0 (cs 3))]) (ck:=ck) 1 (by omega) st hs hd hmg;exact⟨rfl,D,(k6 _ (by assumption) (by omega) (by omega)).trans C⟩
 intro e a' W6 h;have hn:e=.normal:=by cases e<;>first|rfl|exact(h:False).elim
 subst hn;obtain⟨rfl,D,r⟩:=h
 clear l C
 obtain⟨⟨X,Y,V,U⟩, -⟩:=Qo D.e6;obtain⟨⟨q0,q1,q2,q3⟩, -⟩:=Qo r
 obtain⟨pi,pz,N,J,G,K,t⟩:=Tk;simp only[Exit.then]
 go_wp2_with (first
  |(go_at_call 166;refine(RG (tn3 0) _).mono ?_;rintro e I ⟨rfl,u⟩;have E:=D.mono u;have q:I.heap[o9]?=_:=(u.block o9 (by exact J8 r) λh=>h).trans r;obtain⟨⟨R,O,S,P⟩, -⟩:=Qo E.e6)
  |(at_builtin;refine Uq rfl _ _ 118 rfl rfl Tm N J G K t (by decide) rfl (E.mono (W':=I.alloc (.cells #[iv 0,iv 10] 158)) (Stp.alloc J2 _ _)).cor rfl rfl (FC _ _ _ _) (by simp[Value.oneCell']) (by omega) (by have:=E.sz;simp;omega) ?_;intro v2 W8 s f T L;have z:=(E.mono (W':=I.alloc (.cells #[iv 0,iv 10] 158)) (Stp.alloc J2 _ _)).app s f L;have M:W8.heap[o9]?=_:=(z.2 o9 (by have:=J8 q;simp;omega) H).trans ((Below.heap_alloc _ _ o9 (J8 q)).trans q);obtain⟨⟨b5,b3,b1,b2⟩, -⟩:=Qo M;obtain⟨⟨t0,t1,t2,t3⟩, -⟩:=Qo z.1.e3;obtain⟨⟨s0,s1,s2,s3⟩,f0,f1,f2,f3⟩:=Qo z.1.e6))
 have F:=z.1.now 0 10 0 0;change Code.rounds _ _ _ _ _ ((((W8.setCell ⟨o+1,0,none⟩ (iv 0)).setCell ⟨o+1,1,none⟩ (iv 10)).setCell ⟨o+1,2,none⟩ (iv 0)).setCell ⟨o+1,3,none⟩ (iv 0))
 generalize ((((W8.setCell ⟨o+1,0,none⟩ (iv 0)).setCell ⟨o+1,1,none⟩ (iv 10)).setCell ⟨o+1,2,none⟩ (iv 0)).setCell ⟨o+1,3,none⟩ (iv 0))=W at F⊢;generalize I.heap.size=o7
 clear D r H X Y V U q0 q1 q2 q3 pi pz N J G K t s f T L z M b5 b3 b1 b2 t0 t1 t2 t3 s0 s1 s2 s3 f0 f1 f2 f3 E q R O S P u sz b4 ho9 W8 I W6
 rw[rounds_succ];have lk:=Jl F.mp (vC _ _ _ _)
 obtain⟨Z,hZ⟩:=r0;have p:=F.li 0 (by omega) rfl
 have hl:=p;have sz:=F.sz
 have b4:=b6 0;have n3:gs 0<W.heap.size:=by omega
 rw[hZ]at hl;obtain⟨q0,q1,q2,q3⟩:=HA hl
 obtain⟨⟨X,Y,V,U⟩, -⟩:=Qo F.e6
 go_wp2
 go_region
 go_wp2
 have B:Stp J2 W ((W.alloc (.cells #[iv 0,iv 0,iv 10,iv 0] 160)).drew):=QT (Stp.alloc J2 W _) (Us _);have l:=F.mono B
 clear B
 have C:((W.alloc (.cells #[iv 0,iv 0,iv 10,iv 0] 160)).drew).heap[W.heap.size]?=some (.cells #[iv 0,iv 0,iv 10,iv 0] 160 (0,0)):=World.alloc_heap_new _ _;change Code.wp _ _ _ _ ((W.alloc (.cells #[iv 0,iv 0,iv 10,iv 0] 160)).drew)
 generalize ((W.alloc (.cells #[iv 0,iv 0,iv 10,iv 0] 160)).drew)=W5 at l C⊢;obtain⟨o9,ho9⟩:∃o9,W.heap.size=o9:=⟨_,rfl⟩
 rw[ho9]at C sz⊢;have H:some o9≠(v2:Value).ownBlock:=λe=>by
  have:=(F.cor.lt _ e.symm).2
  omega
 clear lk p hl X Y V U q0 q1 q2 q3 n3 F hZ Z
 apply Qq7 (Q:=(λ(A:Act) e a' W2=>match e with|.normal=>a'=A/\Fo w W2 m ck o #[ZI (sv (gs 0) 0 (cs 0)),ZW (sv (gs 1) 0 (cs 1)),Yo (sv (gs 2) 0 (cs 2)),YM (sv (gs 3) 0 (cs 3))] 0 10 0 0 gs row (λi=>((((true&&i != 2)&&i != 3)&&i != 1)&&i != 0)) v2 3 ((([]++[iv 10,iv 0])++[iv 10,iv 10])++[iv 0,iv 10])/\W2.heap[o9]?=some (.cells #[iv 0,iv 0,iv 10,iv 0] 160 (0,0))|_=>False) _)
 case h=>
  have p:=l.li 0 (by omega) rfl;have c2:Tryz.prog.follows .mixedOrders=true:=by kernel_rfl
  have a6:=J8 l.e6;have c3:=J8 C
  have a2:=J8 l.mp;obtain⟨⟨X,Y,V,U⟩, -⟩:=Qo l.e6
  go_region_with_o (go_at_call 167;refine(RI (gs 0) (cs 0) (row 0) _ (by exact p) (hc 0).1 (hc 0).2.1 (hc 0).2.2).mono ?_;rintro e W' ⟨rfl,st,hs⟩;have a4 : W'.heap[m]?=_:=(st.block m (by exact a2) (hmg 0)).trans l.mp;have up:=RF a4 (vC _ _ _ _) rfl (v:=sv (gs 0) 0 (cs 0));have a1 : W'.heap[o+1]?=_:=(st.block (o+1) (by exact a6) (by omega)).trans l.e6;obtain⟨⟨R,O,S,P⟩, -⟩:=Qo a1)
  all_goals
   obtain⟨D,k6⟩:=l.del (es':=#[ZI (sv (gs 0) 0 (cs 0)),ZW (sv (gs 1) 0 (cs 1)),Yo (sv (gs 2) 0 (cs 2)),YM (sv (gs 3) 0 (cs 3))]) (ck:=ck) 0 (by omega) st hs hd hmg;exact⟨rfl,D,(k6 _ (by assumption) (by omega) (by omega)).trans C⟩
 intro e a' W6 h;have hn:e=.normal:=by cases e<;>first|rfl|exact(h:False).elim
 subst hn;obtain⟨rfl,D,r⟩:=h
 clear l C
 obtain⟨⟨X,Y,V,U⟩, -⟩:=Qo D.e6;obtain⟨⟨q0,q1,q2,q3⟩, -⟩:=Qo r
 obtain⟨pi,pz,N,J,G,K,t⟩:=Tk;simp only[Exit.then]
 go_wp2_with (first
  |(go_at_call 166;refine(RG (tn4 0) _).mono ?_;rintro e I ⟨rfl,u⟩;have E:=D.mono u;have q:I.heap[o9]?=_:=(u.block o9 (by exact J8 r) λh=>h).trans r;obtain⟨⟨R,O,S,P⟩, -⟩:=Qo E.e6)
  |(at_builtin;refine Uq rfl _ _ 118 rfl rfl Tm N J G K t (by decide) rfl (E.mono (W':=I.alloc (.cells #[iv 0,iv 0] 158)) (Stp.alloc J2 _ _)).cor rfl rfl (FC _ _ _ _) (by simp[Value.oneCell']) (by omega) (by have:=E.sz;simp;omega) ?_;intro v3 W8 s f T L;have z:=(E.mono (W':=I.alloc (.cells #[iv 0,iv 0] 158)) (Stp.alloc J2 _ _)).app s f L;have M:W8.heap[o9]?=_:=(z.2 o9 (by have:=J8 q;simp;omega) H).trans ((Below.heap_alloc _ _ o9 (J8 q)).trans q);obtain⟨⟨b5,b3,b1,b2⟩, -⟩:=Qo M;obtain⟨⟨t0,t1,t2,t3⟩, -⟩:=Qo z.1.e3;obtain⟨⟨s0,s1,s2,s3⟩,f0,f1,f2,f3⟩:=Qo z.1.e6))
 go_ret
 refine⟨v3,rfl,⟨z.1.cor.1,?_⟩,z.1.mp,z.1.stp⟩;rcases z.1.cor.2 with h|⟨g,e2,e4,h1,h2,h3⟩
 .exact .inl h
 .exact .inr ⟨g,e2,e4,h1,by omega,h3⟩
end Go.Proofs
end
section
namespace Go.Proofs
open Go.Shelf Go.RowKit Go.Lib Go.Ab
set_option maxHeartbeats 4000000
set_option maxRecDepth 100000
theorem qr(W:World)(m:Nat)(es:Array MapEntry)(k:Nat):Stp (λb=>b=m) W (WD W m es k):=⟨rfl,rfl,rfl,by simp[WD],λb _ h=>by
 simp only[WD,Ql0];rw[Qa1 (λe=>h e.symm)],Qb3 _⟩
theorem jJ{W:World}{m:Nat}{o:Go.Obj}(h:W.heap[m]?=some o)(es:Array MapEntry)(k:Nat):(WD W m es k).heap[m]?=some (.map es k):=by
 have:=J8 h
 simp only[WD,Ql0];rw[Qa2 trivial,Qa2 this]
theorem Ti{m k:Nat}{es:Array MapEntry}{x y:Int}{W:World}(X Y:Go.Obj)(h:W.heap[m]?=some (.map es k))(hf:∀ W,(Instr.findKey 158 (pv x y) es.toList).run Tryz.prog W=.ok none W):
  ∃Wm,(Instr.mapEntry 156 (.map (some m)) (pv x y)).run Tryz.prog ((W.alloc X).alloc Y)=.ok (.tuple #[.slice none 0 0,iv k]) Wm/\Wm.heap[m]?=some (.map (es.push ⟨pv x y,.slice none 0 0,k⟩) (k+1))/\Wm.heap.size=W.heap.size+2/\Wm.heap[W.heap.size+1]?=some Y/\Stp (λb=>b=m) W Wm:=by
 have g:=J8 h;have e:((W.alloc X).alloc Y).heap[m]?=some (.map es k):=(Below.heap_alloc _ _ m (by simp;omega)).trans ((Below.heap_alloc _ _ m g).trans h)
 refine⟨_,Q8d e hf,jJ e _ _,by simp,?_,?_⟩
 .have f:=World.alloc_heap_new (W.alloc X) Y
  rw[World.size_alloc]at f;exact((qr _ m _ _).block (W.heap.size+1) (by simp) (by omega)).trans f
 .exact ((QT (Stp.alloc J2 W X) (Stp.alloc J2 _ Y)).mono (λ_ _ h=>h.elim)).trans ((qr _ m _ _).mono λb i h=>.inl h)
theorem Tj{m k born i:Nat}{es:Array MapEntry}{W:World}(v:Value)(z:Int)(hz:z=born)(h:W.heap[m]?=some (.map es k))(hf:es.findIdx? (fun e=>(e.born:Int)==(born:Int))=some i):
  ∃W9,(Instr.entryStore 156 (.map (some m)) (iv z) v).run Tryz.prog W=.ok () W9/\W9.heap[m]?=some (.map (es.modify i λe=> {e with val:=v}) k)/\W9.heap.size=W.heap.size/\Stp (λb=>b=m) W W9:=by
 subst hz;exact⟨_,Q8l h hf,jJ h _ _,by simp,qr _ m _ _⟩
theorem FD(W:World)(g T:Nat)(p q r s:Value)(h:W.heap[g]?=some (.cells #[p,q,r,s] T (0,0))):∀j u,[p,q,r,s][j]?=some u->W.cell? ((⟨g,0,none⟩:Addr).add j)=some u:=by
 intro j u e;have f:j=0\/j=1\/j=2\/j=3:=by
  have:j<4:=by
   rcases Qc8 j 4 with i|i
   .exact i
   .rw [Qh0 (by simpa using i)]at e
    cases e
  omega
 rcases f with rfl|rfl|rfl|rfl<;>(simp at e;subst e;simp[World.cell?,h,Addr.add])
theorem Z3X:∃i z,Tryz.prog.info? 160=some i/\i.zero=some z/\i.size=4/\i.bytes<=1000/\z.cells.size=4:=by
 have h:((Tryz.prog.info? 160).map λi=>(i.size,decide (i.bytes<=1000),i.zero.map λz=>z.cells.size))=some (4,true,some 4):=by kernel_rfl
 cases hi:Tryz.prog.info? 160 with
 |none=>rw[hi]at h;cases h
 |some i=>
  rw[hi]at h;simp only[Qj0,Qi9,Prod.mk.injEq,Qb7]at h
  cases hz:i.zero with
  |none=>rw[hz]at h;cases h.2.2
  |some z=>
   rw[hz]at h;simp only[Qj0,Qi9]at h
   exact⟨i,z,rfl,hz,h.1,h.2.1,h.2.2⟩
theorem Ft:Tryz.prog.underlying 154=some (.slice 160):=by kernel_rfl
abbrev LW:Re_:=⟨[⟨0,0,10,10⟩]⟩
abbrev eds:List Ab.Edge:=[⟨⟨0,0⟩,⟨10,0⟩⟩,⟨⟨0,10⟩,⟨0,0⟩⟩,⟨⟨10,0⟩,⟨10,10⟩⟩,⟨⟨10,10⟩,⟨0,10⟩⟩]
structure Rm (w2 W:World) (m:Nat) (es:Array MapEntry) (ck:Nat) (L:List (Nat×Nat×Array Value)):Prop where
 mp:W.heap[m]?=some (.map es ck)
 st:Stp J2 w2 W
 ms:w2.heap.size<=m
 li:∀p∈L,W.heap[p.1]?=some (.cells p.2.2 160 (0,0))/\m<p.1/\p.2.2.size=p.2.1*4/\1<=p.2.1/\p.2.1<=maxLen
 up:L.Pairwise λp q=>p.1<q.1
theorem Rm.next{w2 W Wm W8 W9:World}{m:Nat}{es es' : Array MapEntry}{ck ck' : Nat}{L:List (Nat×Nat×Array Value)}{g c:Nat}{cur:Array Value}(R:Rm w2 W m es ck L)(st:Stp (fun b=>b=m) W Wm)(szm:Wm.heap.size=W.heap.size+2)(hg:Wm.grownBy W8 none)(hdr:Wm.drawn<=W8.drawn)(hh:W8.heap[g]?=some (.cells cur 160 (0,0)))(hf:Wm.heap.size<=g)(m9:W9.heap[m]?=some (.map es' ck'))(st9:Stp (fun b=>b=m) W8 W9)(h1:cur.size=c*4)(h2:1<=c)(h3:c<=maxLen):
  Rm w2 W9 m es' ck' (L++[(g,c,cur)]):=by
 have C:=J8 R.mp;have l:=J8 hh
 have e:∀j,j<W.heap.size->j≠m->W9.heap[j]?=W.heap[j]?:=λj A k=>
  (st9.block j (Qc4 (by omega) hg.size) k).trans ((hg.block j (by omega) (by intro h;cases h)).trans (st.block j A k))
 have f:=R.st;have t:=R.ms
 refine⟨m9,⟨?_,?_,?_,?_,λb r _=>(e b (Qc4 r f.size) (by omega)).trans (f.block b r λh=>h),?_⟩,t,λp i=>?_,?_⟩
 .exact st9.os.trans (hg.os.trans (st.os.trans f.os))
 .exact st9.tape.trans (hg.tape.trans (st.tape.trans f.tape))
 .exact st9.output.trans (hg.output.trans (st.output.trans f.output))
 .exact Qc9 f.size (Qc9 st.size (Qc9 hg.size st9.size))
 .exact Qc9 f.dr (Qc9 st.dr (Qc9 hdr st9.dr))
 .rcases Qb2.1 i with i|i
  .obtain ⟨s,B,u⟩:=R.li p i
   exact⟨(e _ (J8 s) (by omega)).trans s,B,u⟩
  .rw [Qb1.1 i]
   exact⟨(st9.block g l (by omega)).trans hh,by simp only;omega,h1,h2,h3⟩
 .rw [Qe8]
  refine⟨R.up,by simp,λp i q z=>?_⟩;rw[Qb1.1 z]
  have:=J8 (R.li p i).1
  simp only
  omega
end Go.Proofs
end
section
namespace Go.Proofs
open Go.Shelf Go.RowKit Go.Lib Go.Ab
set_option maxHeartbeats 4000000
set_option maxRecDepth 100000
abbrev Du:List Ab.Point:=[⟨0,0⟩,⟨10,0⟩,⟨10,10⟩,⟨0,10⟩]
theorem RH{W W' : World}{X:Nat->Prop}{v:Value}{d:DVal}(h:DRep W X v d)(st:Stp J2 W W'):DRep W' X v d:=h.mono λb f e=>⟨st.block b f λh=>h,e⟩
theorem Ed.stp{W W' : World}{v:Value}{ga off cap:Nat}(h:Ed W v ga off cap)(st:Stp J2 W W'):Ed W' v ga off cap:=⟨h.eq,Qc4 h.lt st.size,λk e=>by
 have:=h.at_ k e
 simp only[World.cell?]at this⊢;rw[st.block ga h.lt λh=>h]
 exact this⟩
theorem Q8r{W:World}{k T:Nat}{v:Value}(h:W.heap[k]?=some (.cells #[v] T (0,0))):W.cell? ⟨k,0,none⟩=some v:=by simp[World.cell?,h]
theorem Rz{W:World}{b:Nat}{v p q r s:Value}(h:W.ownsRow b 160 4 v (0+1) ([]++[p,q,r,s])):∃g c cur Z,v=sv g 1 c/\b<=g/\W.heap[g]?=some (.cells cur 160 (0,0))/\cur.size=c*4/\1<=c/\c<=maxLen/\cur=#[p,q,r,s]++Z:=by
 rcases h.2 with ⟨_,h⟩|⟨g,j,cur,rfl,t,f,l,i,k,e⟩
 .exact absurd h (by omega)
 .refine ⟨g,j,cur,(cur.toList.drop 4).toArray,rfl,t,f,k,l,i,?_⟩
  apply Qu8.1;have:cur.toList.take 4=[p,q,r,s]:=e
  rw[Qo7, <-this,Qh2]
theorem Q7U{W:World}{b:Nat}{v u:Value}(h:W.ownsRow b 118 1 v (0+1) ([]++[u])):∃g c Z,v=sv g 1 c/\b<=g/\W.heap[g]?=some (.cells (#[u]++Z) 118 (0,0))/\1<=c:=by
 rcases h.2 with ⟨_,h⟩|⟨g,j,e,rfl,l,i,k,p,q,f⟩
 .exact absurd h (by omega)
 .refine ⟨g,j,(e.toList.drop 1).toArray,rfl,l,?_,k⟩
  have:e=#[u]++(e.toList.drop 1).toArray:=by
   apply Qu8.1;have:e.toList.take 1=[u]:=f
   rw[Qo7, <-this,Qh2]
  rw[<-this];exact i
theorem Cs{W W' : World}{m:Nat}{o:Go.Obj}(hg:W.grownBy W' (Value.slice none 0 0).ownBlock)(h:W.heap[m]?=some o):W'.heap[m]?=some o:=(hg.block m (J8 h) (by intro h;cases h)).trans h
theorem Z2z{W W' : World}(hg:W.grownBy W' (Value.slice none 0 0).ownBlock)(hd:W.drawn<=W'.drawn):Stp J2 W W':=⟨hg.os,hg.tape,hg.output,hg.size,λb e _=>hg.block b e (by intro h;cases h),hd⟩
theorem Z0s{W:World}{b:Nat}{v:Value}{X:Nat->Prop}(hX:∀g,b<=g->¬X g)(h:W.ownsRow b 158 2 v 4 [iv 10,iv 0,iv 10,iv 10,iv 0,iv 10,iv 0,iv 0]):DRep W X v (DL (α:=Ab.Point) [⟨10,0⟩,⟨10,10⟩,⟨0,10⟩,⟨0,0⟩]):=by
 rcases h.2 with ⟨_,h⟩|⟨g,q,e,rfl,u,l,s,z,A,k⟩
 .exact absurd h (by omega)
 .have t:e=#[iv 10,iv 0,iv 10,iv 10,iv 0,iv 10,iv 0,iv 0]++(e.toList.drop 8).toArray:=by
   apply Qu8.1;have:e.toList.take 8=[iv 10,iv 0,iv 10,iv 10,iv 0,iv 10,iv 0,iv 0]:=k
   rw[Qo7, <-this,Qh2]
  generalize (e.toList.drop 8).toArray=Z at t;refine .lst g 0 4 q e _ (0,0) _ 2 (hX g u) l s (by omega) (λi f=>?_) (λi j f B=>?_)
  .have f:i<4:=f
   have:i=0\/i=1\/i=2\/i=3:=by omega
   rcases this with rfl|rfl|rfl|rfl<;>rfl
  .subst t
   have f:i<4:=f;have p:i=0\/i=1\/i=2\/i=3:=by omega
   have r:j=0\/j=1:=by omega
   rcases p with rfl|rfl|rfl|rfl<;>rcases r with rfl|rfl<;>(simp[Array.getD];rw[Qa2 (by omega)];exact .int _ _)
theorem Q7o{W:World}{X:Nat->Prop}{u:Value}(h:DRep W X u (DL Du)):∃b off cp,u=.slice (some ⟨b,off,none⟩) 4 cp:=by
 unfold DL at h;have:Du.length=4:=rfl
 rw[this]at h
 cases h with|lst b off n cap c e fz f es h1 h2 h3 h4 h5 h6=>exact⟨_,_,_,rfl⟩
structure Rr (X:Nat->Prop) (w2 W:World) (m:Nat) (es:Array MapEntry) (gr:Nat) (Z:Array Value) (b off cp:Nat):Prop where
 mp:W.heap[m]?=some (.map es 4)
 rw:W.heap[gr]?=some (.cells (#[.slice (some ⟨b,off,none⟩) 4 cp]++Z) 118 (0,0))
 du:DRep W X (.slice (some ⟨b,off,none⟩) 4 cp) (DL Du)
 st:Stp J2 w2 W
theorem Rr.mono{X:Nat->Prop}{w2 W W' : World}{m:Nat}{es:Array MapEntry}{gr:Nat}{Z:Array Value}{b off cp:Nat}(R:Rr X w2 W m es gr Z b off cp)(st:Stp J2 W W'):Rr X w2 W' m es gr Z b off cp:=
 ⟨(st.block _ (J8 R.mp) λh=>h).trans R.mp,(st.block _ (J8 R.rw) λh=>h).trans R.rw,RH R.du st,QT R.st st⟩
theorem Rr.res{X:Nat->Prop}{w2 W:World}{m:Nat}{es:Array MapEntry}{gr:Nat}{Z:Array Value}{b off cp c:Nat}(R:Rr X w2 W m es gr Z b off cp)(hX:¬X gr)(h1:1<=c):DRep W X (sv gr 1 c) (DL (α:=List Ab.Point) [Du]):=by
 refine .lst gr 0 1 c _ _ (0,0) _ 1 hX R.rw h1 (by simp) (λi f=>?_) (λi j f g=>?_)
 .have f:i<1:=f
  obtain rfl:i=0:=by omega
  rfl
 .have f:i<1:=f
  obtain rfl:i=0:=by omega
  obtain rfl:j=0:=by omega
  have e:(#[Value.slice (some ⟨b,off,none⟩) 4 cp]++Z).getD (0+(0*1+0)) undef=.slice (some ⟨b,off,none⟩) 4 cp:=by simp[Array.getD]
  rw[e];exact R.du
theorem Z0k:∃i z,Tryz.prog.info? 118=some i/\i.zero=some z/\i.size=1/\i.bytes<=1000/\z.cells.size=1:=by
 have h:((Tryz.prog.info? 118).map λi=>(i.size,decide (i.bytes<=1000),i.zero.map λz=>z.cells.size))=some (1,true,some 1):=by kernel_rfl
 cases hi:Tryz.prog.info? 118 with
 |none=>rw[hi]at h;cases h
 |some i=>
  rw[hi]at h;simp only[Qj0,Qi9,Prod.mk.injEq,Qb7]at h
  cases hz:i.zero with
  |none=>rw[hz]at h;cases h.2.2
  |some z=>
   rw[hz]at h;simp only[Qj0,Qi9]at h
   exact⟨i,z,rfl,hz,h.1,h.2.1,h.2.2⟩
theorem Z0j:Tryz.prog.underlying 109=some (.slice 118):=by kernel_rfl
end Go.Proofs
end
section
namespace Go.Proofs
open Go.Shelf Go.RowKit Go.Lib Go.Ab
set_option maxHeartbeats 8000000
set_option maxRecDepth 100000
theorem Z4A(W:World)(T:Nat)(p:Value):∀j u,[p][j]?=some u->(W.alloc (.cells #[p] T)).cell? ((⟨W.heap.size,0,none⟩:Addr).add j)=some u:=by
 intro j u e
 match j,e with
 |0,e=>
  simp at e
  subst e;simp[Addr.add]
def Vz{α:Type}(a b c d:α):Nat->α
 |0=>a
 |1=>b
 |2=>c
 |_=>d
theorem Z0m{α:Type}{a b c d:α}{P:α->Prop}(h0:P a)(h1:P b)(h2:P c)(h3:P d):∀i,P (Vz a b c d i)
 |0=>h0
 |1=>h1
 |2=>h2
 |_+3=>h3
theorem Q0p{α β:Type}{a b c d:α}{a' b' c' d' : β}{P:α->β->Prop}(h0:P a a')(h1:P b b')(h2:P c c')(h3:P d d'):∀i,P (Vz a b c d i) (Vz a' b' c' d' i)
 |0=>h0
 |1=>h1
 |2=>h2
 |_+3=>h3
theorem Z0l{a b c d:Nat}(h:(a<b/\a<c/\a<d)/\(b<c/\b<d)/\c<d):∀i j,i<4->j<4->Vz a b c d i=Vz a b c d j->i=j:=by
 intro i j l k e;have f:i=0\/i=1\/i=2\/i=3:=by omega
 have g:j=0\/j=1\/j=2\/j=3:=by omega
 rcases f with rfl|rfl|rfl|rfl<;>rcases g with rfl|rfl|rfl|rfl<;>first|rfl|(simp only[Vz]at e;omega)
theorem Q8b{F:Nat}{w:World}{v:Value}(hv:DRep w J2 v (DL LW.t_))(hV:Wa F LW=some true)(hE:Dx F LW=some eds):
  Calls Tryz.prog 41 #[.agg #[v]] w λe w'=>∃u,e=.returned (.tuple #[u,iv 0])/\DRep w' (λb=>b<w.heap.size) u (DL (α:=List Ab.Point) [[⟨0,0⟩,⟨10,0⟩,⟨10,10⟩,⟨0,10⟩]])/\Stp J2 w w':=by
 have f1:Stp J2 w (w.alloc (.cells #[v] 74)):=Stp.alloc J2 _ _;have c0:=World.alloc_heap_new w (.cells #[v] 74)
 have a8:=RH hv f1;have mk:=λW=>run_makeMap (P:=Tryz.prog) 156 W
 go_enter Tryz.func41,Tryz.ntmps41
 go_wp2_with (first
  |(go_at_call 82;refine(Q7Z hV a8).mono ?_;rintro e w1 ⟨rfl,d2⟩;have c1:=Q8r ((d2.block _ (J8 c0) λh=>h).trans c0);have d0:=RH a8 d2)
  |(go_at_call 83;refine(Q8m hE d0).mono ?_;rintro e w2 ⟨u,rfl,hu,h6⟩;have hu:=hu;obtain⟨B,k,m4,Eu⟩:=Ed.of hu;obtain rfl:=Eu.eq))
 have R0:Rm w2 (w2.alloc (.map #[] 0)) w2.heap.size #[] 0 []:=⟨World.alloc_heap_new _ _,Stp.alloc J2 _ _,Qb3 _,by simp,by simp⟩;have h8:Stp J2 w w2:=QT (QT f1 d2) h6
 generalize (w2.alloc (.map #[] 0))=W0 at R0⊢;obtain⟨m,hm⟩:∃m,w2.heap.size=m:=⟨_,rfl⟩
 rw[hm]at R0⊢;have i7:=h8.size
 obtain⟨o1,ho1⟩:∃o1,w.heap.size=o1:=⟨_,rfl⟩;rw[ho1]
 rw[ho1]at i7
 clear mk f1 c0 a8 c1 d0 d2 h6 hu w1
 obtain⟨ei,ez,d4,d5,c5,c7,a3⟩:=Z3X;refine wp_loop_rounds 5 ?_
 rw[rounds_succ];have f:=Eu.stp R0.st
 have V:W0.cell? ⟨B,k,none⟩=some (iv 0):=f.at_ 0 (by omega);have U:W0.cell? ⟨B,k+1,none⟩=some (iv 0):=f.at_ 1 (by omega)
 have q2:W0.cell? ⟨B,k+2,none⟩=some (iv 10):=f.at_ 2 (by omega);have Z:W0.cell? ⟨B,k+3,none⟩=some (iv 0):=f.at_ 3 (by omega)
 obtain⟨Wm,T,I,N,hY,O⟩:=Ti (.cells #[iv 0,iv 0,iv 10,iv 0] 160) (.cells #[iv 0,iv 0,iv 10,iv 0] 160) R0.mp (fk0)
 go_wp2_with (at_builtin;refine Uq (base:=Wm.heap.size) rfl _ _ 154 rfl rfl Ft d4 d5 c5 c7 a3 (by decide) rfl (World.ownsRow_nil _ _ _ _) rfl rfl (FD _ _ _ _ _ _ _ hY) (by simp[Value.oneCell']) (by omega) (Qb3 _) ?_;intro v0 W8 p l M E;obtain⟨g0,c0,e0,Z0,a8,R,hh,K,J,H,b1⟩:=Rz p;subst a8;have C:=Cs l I;obtain⟨W1,L,G,a0,z⟩:=Tj (i:=0) (born:=0) (sv g0 1 c0) 0 rfl C (by kernel_rfl))
 have s : W1.heap[m]?=some (.map #[ZI (sv g0 1 c0)] 1):=G;have R1:=R0.next O N l E hh R s z K J H
 generalize W0.heap.size=o9
 clear R0 T I N hY O p l M C E L G s a0 z V U q2 Z f R hh K J H W8 Wm W0
 rw[rounds_succ];have f:=Eu.stp R1.st
 have V:W1.cell? ⟨B,k+4,none⟩=some (iv 0):=f.at_ 4 (by omega);have U:W1.cell? ⟨B,k+5,none⟩=some (iv 10):=f.at_ 5 (by omega)
 have q2:W1.cell? ⟨B,k+6,none⟩=some (iv 0):=f.at_ 6 (by omega);have Z:W1.cell? ⟨B,k+7,none⟩=some (iv 0):=f.at_ 7 (by omega)
 obtain⟨Wm,T,I,N,hY,O⟩:=Ti (.cells #[iv 0,iv 10,iv 0,iv 0] 160) (.cells #[iv 0,iv 10,iv 0,iv 0] 160) R1.mp (fk1 _)
 go_wp2_with (at_builtin;refine Uq (base:=Wm.heap.size) rfl _ _ 154 rfl rfl Ft d4 d5 c5 c7 a3 (by decide) rfl (World.ownsRow_nil _ _ _ _) rfl rfl (FD _ _ _ _ _ _ _ hY) (by simp[Value.oneCell']) (by omega) (Qb3 _) ?_;intro v1 W8 p l M E;obtain⟨g1,c1,d6,Z1,d0,R,hh,K,J,H,d8⟩:=Rz p;subst d0;have C:=Cs l I;obtain⟨Y,L,G,a0,z⟩:=Tj (i:=1) (born:=1) (sv g1 1 c1) 1 rfl C (by kernel_rfl))
 have s : Y.heap[m]?=some (.map #[ZI (sv g0 1 c0),ZW (sv g1 1 c1)] 2):=G;have R2:=R1.next O N l E hh R s z K J H
 generalize W1.heap.size=o9
 clear R1 T I N hY O p l M C E L G s a0 z V U q2 Z f R hh K J H W8 Wm W1
 rw[rounds_succ];have f:=Eu.stp R2.st
 have V:Y.cell? ⟨B,k+8,none⟩=some (iv 10):=f.at_ 8 (by omega);have U:Y.cell? ⟨B,k+9,none⟩=some (iv 0):=f.at_ 9 (by omega)
 have q2:Y.cell? ⟨B,k+10,none⟩=some (iv 10):=f.at_ 10 (by omega);have Z:Y.cell? ⟨B,k+11,none⟩=some (iv 10):=f.at_ 11 (by omega)
 obtain⟨Wm,T,I,N,hY,O⟩:=Ti (.cells #[iv 10,iv 0,iv 10,iv 10] 160) (.cells #[iv 10,iv 0,iv 10,iv 10] 160) R2.mp (fk2 _ _)
 go_wp2_with (at_builtin;refine Uq (base:=Wm.heap.size) rfl _ _ 154 rfl rfl Ft d4 d5 c5 c7 a3 (by decide) rfl (World.ownsRow_nil _ _ _ _) rfl rfl (FD _ _ _ _ _ _ _ hY) (by simp[Value.oneCell']) (by omega) (Qb3 _) ?_;intro v2 W8 p l M E;obtain⟨g2,c2,e5,Z2,k3,R,hh,K,J,H,e2⟩:=Rz p;subst k3;have C:=Cs l I;obtain⟨W3,L,G,a0,z⟩:=Tj (i:=2) (born:=2) (sv g2 1 c2) 2 rfl C (by kernel_rfl))
 have s : W3.heap[m]?=some (.map #[ZI (sv g0 1 c0),ZW (sv g1 1 c1),Yo (sv g2 1 c2)] 3):=G;have R3:=R2.next O N l E hh R s z K J H
 generalize Y.heap.size=o9
 clear R2 T I N hY O p l M C E L G s a0 z V U q2 Z f R hh K J H W8 Wm Y
 rw[rounds_succ];have f:=Eu.stp R3.st
 have V:W3.cell? ⟨B,k+12,none⟩=some (iv 10):=f.at_ 12 (by omega);have U:W3.cell? ⟨B,k+13,none⟩=some (iv 10):=f.at_ 13 (by omega)
 have q2:W3.cell? ⟨B,k+14,none⟩=some (iv 0):=f.at_ 14 (by omega);have Z:W3.cell? ⟨B,k+15,none⟩=some (iv 10):=f.at_ 15 (by omega)
 obtain⟨Wm,T,I,N,hY,O⟩:=Ti (.cells #[iv 10,iv 10,iv 0,iv 10] 160) (.cells #[iv 10,iv 10,iv 0,iv 10] 160) R3.mp (fk3 _ _ _)
 go_wp2_with (at_builtin;refine Uq (base:=Wm.heap.size) rfl _ _ 154 rfl rfl Ft d4 d5 c5 c7 a3 (by decide) rfl (World.ownsRow_nil _ _ _ _) rfl rfl (FD _ _ _ _ _ _ _ hY) (by simp[Value.oneCell']) (by omega) (Qb3 _) ?_;intro v3 W8 p l M E;obtain⟨g3,c3,d7,Z3,k0,R,hh,K,J,H,e4⟩:=Rz p;subst k0;have C:=Cs l I;obtain⟨W4,L,G,a0,z⟩:=Tj (i:=3) (born:=3) (sv g3 1 c3) 3 rfl C (by kernel_rfl))
 have s : W4.heap[m]?=some (.map #[ZI (sv g0 1 c0),ZW (sv g1 1 c1),Yo (sv g2 1 c2),YM (sv g3 1 c3)] 4):=G;have R4:=R3.next O N l E hh R s z K J H
 generalize W3.heap.size=o9
 clear R3 T I N hY O p l M C E L G s a0 z V U q2 Z f R hh K J H W8 Wm W3
 rw[rounds_succ]
 go_wp2
 have L0:=R4.li (g0,c0,e0) (by simp);have L1:=R4.li (g1,c1,d6) (by simp)
 have L2:=R4.li (g2,c2,e5) (by simp);have L3:=R4.li (g3,c3,d7) (by simp)
 have up:=R4.up;simp only[Qk2,Qi6,Qd5,Qe1,Qg0,or_false,forall_eq_or_imp,forall_eq,List.Pairwise.nil,and_true]at up
 simp only at L0 L1 L2 L3;refine wp_loop_rounds 5 ?_
 rw[rounds_succ];have f:=Eu.stp R4.st
 have V:W4.cell? ⟨B,k,none⟩=some (iv 0):=f.at_ 0 (by omega);have U:W4.cell? ⟨B,k+1,none⟩=some (iv 0):=f.at_ 1 (by omega)
 have q2:W4.cell? ⟨B,k+2,none⟩=some (iv 10):=f.at_ 2 (by omega);have Z:W4.cell? ⟨B,k+3,none⟩=some (iv 0):=f.at_ 3 (by omega)
 have q:Stp J2 W4 (W4.alloc (.cells #[iv 0,iv 0,iv 10,iv 0] 160)).drew:=QT (Stp.alloc J2 _ _) (Us _);have S:∀j o,W4.heap[j]?=some o->(W4.alloc (.cells #[iv 0,iv 0,iv 10,iv 0] 160)).drew.heap[j]?=some o:=λj o h=>(q.block j (J8 h) λh=>h).trans h
 have lk:=Jl (S _ _ R4.mp) (vC _ _ _ _);have g5:=S _ _ L0.1
 rw[b1]at g5;have e9:(W4.alloc (.cells #[iv 0,iv 0,iv 10,iv 0] 160)).drew.heap[W4.heap.size]?=some (.cells #[iv 0,iv 0,iv 10,iv 0] 160):=World.alloc_heap_new _ _
 obtain⟨⟨p0,p1,p2,p3⟩, -⟩:=Qo e9
 go_wp2
 apply Qq7 (Q:=(λ(A:Act) e a' Y=>match e with|.normal=>a'=A/\Stp J2 (W4.alloc (.cells #[iv 0,iv 0,iv 10,iv 0] 160)).drew Y|_=>False) _)
 case h=>
  have f5:Tryz.prog.follows .mixedOrders=true:=by kernel_rfl
  go_region_with_o (go_at_call 84;refine(Q8o _ _ _ _ _ _ _ _ (by exact g5)).mono ?_;rintro e W' ⟨rfl,st⟩)
  all_goals exact⟨rfl,st⟩
 intro e a' W6 h;have hn:e=.normal:=by cases e<;>first|rfl|exact(h:False).elim
 subst hn;obtain⟨rfl,t⟩:=h
 have D:∀j o,W4.heap[j]?=some o->W6.heap[j]?=some o:=λj o h=>(t.block j (J8 (S j o h)) λh=>h).trans (S j o h)
 have i3:=(t.block _ (J8 e9) λh=>h).trans e9;obtain⟨⟨k9,j5,j8,j7⟩, -⟩:=Qo i3
 have e7:∀i,m<(Vz g0 g1 g2 g3) i:=Z0m L0.2.1 L1.2.1 L2.2.1 L3.2.1;have ms:=R4.ms
 obtain⟨pi,pz,k6,j4,j9,k4,i8⟩:=Z0k;have hz:∀b,(b=m\/∃i,b=(Vz g0 g1 g2 g3) i)->w2.heap.size<=b:=by
  rintro b (rfl|⟨i,rfl⟩)
  .exact ms
  .exact Qc9 ms (Nat.le_of_lt (e7 i))
 have g7:o1<=W6.heap.size:=Qc9 i7 (Qc9 R4.st.size (Qc9 q.size t.size));have fo:=Q8k (gs:=(Vz g0 g1 g2 g3)) (cs:=(Vz c0 c1 c2 c3)) (row:=(Vz e0 d6 e5 d7)) (D _ _ R4.mp) (Q0p (P:=λg e8=>W6.heap[g]?=some (.cells e8 160 (0,0))) (D _ _ L0.1) (D _ _ L1.1) (D _ _ L2.1) (D _ _ L3.1)) ⟨Z0,b1⟩ ⟨Z1,d8⟩ ⟨Z2,e2⟩ ⟨Z3,e4⟩ (Q0p (P:=λc (e8:Array Value)=>e8.size=c*4/\1<=c/\c<=maxLen) L0.2.2 L1.2.2 L2.2.2 L3.2.2) (Z0l ⟨up.1,up.2.1,up.2.2.1⟩) (λi=>Nat.ne_of_lt (e7 i))
 simp only[Exit.then]
 go_wp2_with (first
  |(go_at_call 86;refine fo.mono ?_;rintro e W7 ⟨vf,rfl,p,f9,g6⟩;have e1 : Stp (λb=>w2.heap.size<=b) W6 W7:=g6.mono λb _ h=>hz b h;have f8:=Qc9 g7 g6.size)
  |(go_at_call 85;refine(Q8s (F:=100) (r:=Du) (by kernel_rfl) (X:=λb=>b<o1) (λb hb=>Qc4 hb f8) (Z0s (λg hg hb=>Qt8.2 (Qc9 g7 hg) hb) p)).mono ?_;rintro e W8 ⟨u,rfl,du,c8⟩;obtain⟨b,i4,cp,rfl⟩:=Q7o du)
  |(at_builtin;refine Uq (base:=W8.heap.size) rfl _ _ 109 rfl rfl Z0j k6 j4 j9 k4 i8 (by decide) rfl (World.ownsRow_nil _ _ _ _) rfl rfl (Z4A _ _ _) (by simp[Value.oneCell']) (by omega) (by simp) ?_;intro v9 W9 a9 a4 g4 d9;obtain⟨gr,cr,Zr,rfl,i6,h5,k8⟩:=Q7U a9))
 have z:=QT (Stp.alloc J2 _ _) (Z2z a4 d9);have C:=(c8.block _ (J8 f9) λh=>h).trans f9
 have j6:¬gr<o1:=Qt8.2 (Qc9 f8 (Qc9 c8.size i6));have r1:Rr (λb=>b<o1) w2 W9 m #[ZI (sv g0 0 c0),ZW (sv g1 0 c1),Yo (sv g2 0 c2),YM (sv g3 0 c3)] gr Zr b i4 cp:=⟨(z.block _ (J8 C) λh=>h).trans C,h5,RH du z,QT (QT (((QT R4.st (QT q t))).trans (e1.mono λb _ h=>.inr h)) c8) z⟩
 generalize W9=V1 at r1 h5⊢;generalize W8.heap.size=o8
 generalize W4.heap.size=o4;have l9:=R4.st
 clear hz g7 f8 z C fo c8 du e1 g6 p f9 a4 d9 g4 a9 i6 S D i3 k9 j5 j8 j7 e7 t p0 p1 p2 p3 e9 g5 lk q V U q2 Z f up L0 L1 L2 L3 R4 b1 d8 e2 e4
 rw[rounds_succ];have f:=Eu.stp r1.st
 have V:V1.cell? ⟨B,k+4,none⟩=some (iv 0):=f.at_ 4 (by omega);have U:V1.cell? ⟨B,k+5,none⟩=some (iv 10):=f.at_ 5 (by omega)
 have q2:V1.cell? ⟨B,k+6,none⟩=some (iv 0):=f.at_ 6 (by omega);have Z:V1.cell? ⟨B,k+7,none⟩=some (iv 0):=f.at_ 7 (by omega)
 have q:Stp J2 V1 (V1.alloc (.cells #[iv 0,iv 10,iv 0,iv 0] 160)).drew:=QT (Stp.alloc J2 _ _) (Us _);have lk:=Jl ((q.block _ (J8 r1.mp) λh=>h).trans r1.mp) (vB _ _ _ _)
 have e9:(V1.alloc (.cells #[iv 0,iv 10,iv 0,iv 0] 160)).drew.heap[V1.heap.size]?=some (.cells #[iv 0,iv 10,iv 0,iv 0] 160):=World.alloc_heap_new _ _;obtain⟨⟨p0,p1,p2,p3⟩, -⟩:=Qo e9
 go_wp2
 apply Qq7 (Q:=(λ(A:Act) e a' Y=>match e with|.normal=>a'=A/\Stp J2 (V1.alloc (.cells #[iv 0,iv 10,iv 0,iv 0] 160)).drew Y|_=>False) _)
 case h=>
  have f5:Tryz.prog.follows .mixedOrders=true:=by kernel_rfl
  go_region_with_o (go_at_call 84;refine(qC _ _ _ _ _ _ _).mono ?_;rintro e W' ⟨rfl,st⟩)
  all_goals exact⟨rfl,st⟩
 intro e a' V2 h;have hn:e=.normal:=by cases e<;>first|rfl|exact(h:False).elim
 subst hn;obtain⟨rfl,t⟩:=h
 simp only[Exit.then]
 go_wp2
 have r2:=r1.mono (QT q t);generalize V1.heap.size=sz1
 clear t p0 p1 p2 p3 e9 lk q V U q2 Z f r1
 rw[rounds_succ];have f:=Eu.stp r2.st
 have V:V2.cell? ⟨B,k+8,none⟩=some (iv 10):=f.at_ 8 (by omega);have U:V2.cell? ⟨B,k+9,none⟩=some (iv 0):=f.at_ 9 (by omega)
 have q2:V2.cell? ⟨B,k+10,none⟩=some (iv 10):=f.at_ 10 (by omega);have Z:V2.cell? ⟨B,k+11,none⟩=some (iv 10):=f.at_ 11 (by omega)
 have q:Stp J2 V2 (V2.alloc (.cells #[iv 10,iv 0,iv 10,iv 10] 160)).drew:=QT (Stp.alloc J2 _ _) (Us _);have lk:=Jl ((q.block _ (J8 r2.mp) λh=>h).trans r2.mp) (vz _ _ _ _)
 have e9:(V2.alloc (.cells #[iv 10,iv 0,iv 10,iv 10] 160)).drew.heap[V2.heap.size]?=some (.cells #[iv 10,iv 0,iv 10,iv 10] 160):=World.alloc_heap_new _ _;obtain⟨⟨p0,p1,p2,p3⟩, -⟩:=Qo e9
 go_wp2
 apply Qq7 (Q:=(λ(A:Act) e a' Y=>match e with|.normal=>a'=A/\Stp J2 (V2.alloc (.cells #[iv 10,iv 0,iv 10,iv 10] 160)).drew Y|_=>False) _)
 case h=>
  have f5:Tryz.prog.follows .mixedOrders=true:=by kernel_rfl
  go_region_with_o (go_at_call 84;refine(qC _ _ _ _ _ _ _).mono ?_;rintro e W' ⟨rfl,st⟩)
  all_goals exact⟨rfl,st⟩
 intro e a' V3 h;have hn:e=.normal:=by cases e<;>first|rfl|exact(h:False).elim
 subst hn;obtain⟨rfl,t⟩:=h
 simp only[Exit.then]
 go_wp2
 have r3:=r2.mono (QT q t);generalize V2.heap.size=sz2
 clear t p0 p1 p2 p3 e9 lk q V U q2 Z f r2
 rw[rounds_succ];have f:=Eu.stp r3.st
 have V:V3.cell? ⟨B,k+12,none⟩=some (iv 10):=f.at_ 12 (by omega);have U:V3.cell? ⟨B,k+13,none⟩=some (iv 10):=f.at_ 13 (by omega)
 have q2:V3.cell? ⟨B,k+14,none⟩=some (iv 0):=f.at_ 14 (by omega);have Z:V3.cell? ⟨B,k+15,none⟩=some (iv 10):=f.at_ 15 (by omega)
 have q:Stp J2 V3 (V3.alloc (.cells #[iv 10,iv 10,iv 0,iv 10] 160)).drew:=QT (Stp.alloc J2 _ _) (Us _);have lk:=Jl ((q.block _ (J8 r3.mp) λh=>h).trans r3.mp) (vy _ _ _ _)
 have e9:(V3.alloc (.cells #[iv 10,iv 10,iv 0,iv 10] 160)).drew.heap[V3.heap.size]?=some (.cells #[iv 10,iv 10,iv 0,iv 10] 160):=World.alloc_heap_new _ _;obtain⟨⟨p0,p1,p2,p3⟩, -⟩:=Qo e9
 go_wp2
 apply Qq7 (Q:=(λ(A:Act) e a' Y=>match e with|.normal=>a'=A/\Stp J2 (V3.alloc (.cells #[iv 10,iv 10,iv 0,iv 10] 160)).drew Y|_=>False) _)
 case h=>
  have f5:Tryz.prog.follows .mixedOrders=true:=by kernel_rfl
  go_region_with_o (go_at_call 84;refine(qC _ _ _ _ _ _ _).mono ?_;rintro e W' ⟨rfl,st⟩)
  all_goals exact⟨rfl,st⟩
 intro e a' V4 h;have hn:e=.normal:=by cases e<;>first|rfl|exact(h:False).elim
 subst hn;obtain⟨rfl,t⟩:=h
 simp only[Exit.then]
 go_wp2
 have r4:=r3.mono (QT q t);generalize V3.heap.size=sz3
 clear t p0 p1 p2 p3 e9 lk q V U q2 Z f r3
 rw[rounds_succ]
 go_wp2_with (first
  |(go_at_call 87;refine(Q8q (by exact r4.rw)).mono ?_;rintro e V5 ⟨rfl,q⟩)
  |(go_at_call 89;refine(Q8a _).mono ?_;rintro e V6 ⟨⟨vs,rfl⟩,t⟩))
 go_ret2
 have r5:=(r4.mono q).mono t;subst ho1
 exact⟨_,rfl,r5.res j6 k8,QT h8 r5.st⟩
end Go.Proofs
end
section
namespace Go.Ab
open Go.Proofs Go.Shelf Go.RowKit Go.Lib
set_option maxHeartbeats 2000000
set_option maxRecDepth 100000
theorem xU{vs:Array Value}(h:vs.size=1):vs=#[vs.getD 0 undef]:=by
 apply Array.ext
 .rw [h];rfl
 .intro i e f
  obtain rfl:i=0:=by omega
  simp[Array.getD,h]
theorem Q3i{w:Go.World}{X:Nat->Prop}{η:Nat->Value}{r:AVal}{v:Value}{w' : Go.World}(st:Stp J2 w w')(hr:ARep w' X η (Qk [] w X η) v r):Behind (Qk [] w X η) r [] v η w' :=
 ⟨st.mono λb _ h=>h.elim,(by rw[qA];exact hr),λi o h=>(by cases h),λi j b h=>absurd rfl h,λi o b h=>(by cases h),λi v h=>(by simp[Qk]at h)⟩
theorem Z0D{F:Nat}{a:Re_}{r:(List (List Point))×Int}(h:Dy F a=some r):G4 Tryz.prog 41 [.v (.g [.d (DL a.t_)])] [] (.t [.c (.d (DL r.1)),.c (ci r.2)]) []:=by
 unfold Dy at h;split at h
 .rename_i D
  subst D;cases h
  intro w X η G C _ _ _ i f;have l:=f 0 (by simp)
  have k:=xU i;generalize G.getD 0 undef=x at l k
  subst k
  cases l with|v _ _ h=>cases h with|g us _ h=>
   have q:=xU h.1;have p:=h.2 0 (by simp)
   generalize us.getD 0 undef=y at p q;subst q
   cases p with|d _ _ h=>
    refine(Q8b (h.mono λb _ s=>⟨rfl,λh=>h⟩) (Q5q (Qb3 Q7)) (Q5u (Qb3 Q7))).mono λe I B=>?_
    obtain⟨u,A,E,H⟩:=B;refine⟨_,η,A,Q3i H (.t _ _ rfl λj z=>?_)⟩
    have z:j<2:=z;have:j=0\/j=1:=by omega
    rcases this with rfl|rfl
    .exact .c _ _ (.d _ _ (E.mono λb _ s=>⟨rfl,λh=>s (C b h)⟩))
    .exact .c _ _ (.d _ _ (.int _ _))
 .cases h
theorem Q4n{F:Nat}{s:ByteArray}{r:(List (List ByteArray))×Int}(h:Ps F s=some r):G4 Tryz.prog 44 [.v (.c (.d (.str s)))] [] (.t [.c (.d (DL r.1)),.c (ci r.2)]) []:=by
 unfold Ps at h;split at h
 .rename_i E
  subst E;cases h
  intro w X η I u _ _ _ p k;have z:=k 0 (by simp)
  have q:=xU p;generalize I.getD 0 undef=x at z q
  subst q
  cases z with|v _ _ h=>cases h with|c _ _ h=>cases h with|d _ _ h=>cases h with|str _=>
   refine(callsIn_wide.1 (Q5C w)).mono λe M C=>?_
   obtain⟨g,b,c,Z,D,H,J,N,L,B,G,A,K⟩:=C;refine⟨_,η,B,Q3i K (.t _ _ rfl λj l=>?_)⟩
   have l:j<2:=l;have:j=0\/j=1:=by omega
   rcases this with rfl|rfl
   .refine .c _ _ (.d _ _ (.lst g 0 1 c _ _ (0,0) _ 1 (λh=>Qt8.2 D (u g h)) G J (by simp) (λi f=>?_) λi j f l=>?_))
    .have f:i<1:=f
     obtain rfl:i=0:=by omega
     rfl
    .have f:i<1:=f
     obtain rfl:i=0:=by omega
     obtain rfl:j=0:=by omega
     have e:(#[Value.slice (some ⟨b,0,none⟩) 2 2]++Z).getD (0+(0*1+0)) undef=.slice (some ⟨b,0,none⟩) 2 2:=by simp[Array.getD]
     rw[e];refine .lst b 0 2 2 _ _ (0,0) _ 1 (λh=>Qt8.2 H (u b h)) A (Qb3 _) (by simp) (λi f=>?_) λi j f l=>?_
     .have f:i<2:=f
      have:i=0\/i=1:=by omega
      rcases this with rfl|rfl<;>rfl
     .have f:i<2:=f
      obtain rfl:j=0:=by omega
      have:i=0\/i=1:=by omega
      rcases this with rfl|rfl
      .exact .str _
      .exact .str _
   .exact .c _ _ (.d _ _ (.int _ _))
 .cases h
end Go.Ab
end
section
namespace Go.Ab
open Go.Proofs Go.RowKit
set_option maxRecDepth 100000
set_option maxHeartbeats 4000000
theorem Z1o{w:Go.World}{b g:Nat}{T:TypeId}(h2:w.heap[g]?=some (.cells #[.int .i64 0] T (0,0)))(u:FrameMode):
  CallsD Tryz.prog 68 #[.pointer (some ⟨b,0,none⟩),.pointer (some ⟨g,0,none⟩)] u w λe u' w'=>u'=u/\(e=.returned (.tuple #[])/\w'=w):=by
 have p:w.cell? ⟨g,0,none⟩=some (.int .i64 0):=by simp[Go.World.cell?,h2]
 go_enter_d Tryz.func68,Tryz.ntmps68
 go_wp2
 go_end0
 exact⟨rfl,rfl⟩
theorem Z2a{w:Go.World}{X:Nat->Prop}{η:Nat->Value}{C:Ctx}{v:Value}{a:Act}(h:ARep w X η C v (gE a)):v=.agg #[.int .i64 a.k_,.int .i64 a.farm_,.int .i64 a.to_,.int .i64 a.lot_,.int .i64 a.squares_,.int .i64 a.value_,.int .i64 a.keep_,.int .i64 a.year_]:=by
 cases h with|v _ _ h=>cases h with|g us _ h=>
 have f:∀j (n:Int),j<8->(gC a).getD j (.d .any)=.d (.int .i64 n)->us.getD j undef=.int .i64 n:=λj n f e=>by
  have:=h.2 j f
  rw[e]at this;generalize us.getD j undef=u at this⊢
  cases this with|d _ _ h=>cases h with|int=>rfl
 have i:us.size=8:=h.1;obtain⟨l⟩:=us
 obtain⟨u0,u1,u2,u3,u4,u5,u6,u7,rfl⟩:∃u0 u1 u2 u3 u4 u5 u6 u7,l=[u0,u1,u2,u3,u4,u5,u6,u7]:=by
  match l,i with
  |[u0,u1,u2,u3,u4,u5,u6,u7],_=>exact⟨u0,u1,u2,u3,u4,u5,u6,u7,rfl⟩
 obtain rfl:u0=.int .i64 a.k_:=f 0 _ (by decide) rfl;obtain rfl:u1=.int .i64 a.farm_:=f 1 _ (by decide) rfl
 obtain rfl:u2=.int .i64 a.to_:=f 2 _ (by decide) rfl;obtain rfl:u3=.int .i64 a.lot_:=f 3 _ (by decide) rfl
 obtain rfl:u4=.int .i64 a.squares_:=f 4 _ (by decide) rfl;obtain rfl:u5=.int .i64 a.value_:=f 5 _ (by decide) rfl
 obtain rfl:u6=.int .i64 a.keep_:=f 6 _ (by decide) rfl;obtain rfl:u7=.int .i64 a.year_:=f 7 _ (by decide) rfl
 rfl
theorem Z3C{F:Nat}{x:Undo}{a:Act}{r:Undo×Int}(h:Fb F x a=some r):SP 38 [pt 0,gE a] [(0,bx [.own 60,ci x.now_.reserve_,ci x.now_.next_,.own 61,ci x.before_.reserve_,ci x.before_.next_]),(60,AO x.now_.lots_),(61,AO x.before_.lots_)] (vi r.2) [(0,bx [.own 70,ci r.1.now_.reserve_,ci r.1.now_.next_,.own 71,ci r.1.before_.reserve_,ci r.1.before_.next_]),(70,AO (α:=Lot) r.1.now_.lots_),(71,AO (α:=Lot) r.1.before_.lots_)]:=by
 obtain⟨hk,h⟩:=Ct h;obtain⟨z,hz,h⟩:=Q3j h
 obtain⟨a4,h⟩:=Ct h;cases h
 have U:=Z3y hz;rw[a4]at U⊢
 generalize hS:([(0,bx [.own 60,ci x.now_.reserve_,ci x.now_.next_,.own 61,ci x.before_.reserve_,ci x.before_.next_]),(60,AO x.now_.lots_),(61,AO x.before_.lots_)]:List (Nat×Obj))=S at U⊢;generalize hS' : ([(0,bx [.own 70,ci r.1.now_.reserve_,ci r.1.now_.next_,.own 71,ci r.1.before_.reserve_,ci r.1.before_.next_]),(70,AO (α:=Lot) r.1.now_.lots_),(71,AO (α:=Lot) r.1.before_.lots_)]:List (Nat×Obj))=S' at U⊢
 have a8:∀i o,ls S i=some o->o.noSem=true:=λi o k=>by
  subst hS;simp only[Qe]at k
  repeat' split at k
  all_goals first|(cases k;rfl)|cases k
 have L : ∀i o,ls S' i=some o->o.noSem=true:=λi o k=>by
  subst hS';simp only[Qe]at k
  repeat' split at k
  all_goals first|(cases k;rfl)|cases k
 clear hS hS' hz
 intro w X η vs hX A T a6 P C;have J:=C 0 (show 0<2 by omega)
 have a1:=C 1 (show 1<2 by omega);obtain⟨v0,v1,rfl⟩:∃v0 v1,vs=#[v0,v1]:=by
  obtain⟨l⟩:=vs
  match l,P with
  |[v0,v1],_=>exact⟨v0,v1,rfl⟩
 have J:ARep w X η (Qk S w X η) v0 (pt 0):=J;obtain rfl:=Z2a (v:=v1) a1
 rw[hk];obtain⟨b,he,rfl⟩:∃b,η 0=.pointer (some ⟨b,0,none⟩)/\v0=.pointer (some ⟨b,0,none⟩):=by
  cases J with|v _ _ J=>cases J with|c _ _ J=>cases J with|ptr b _ _ he=>exact⟨b,he,rfl⟩
 obtain⟨W1,hW1⟩:∃W1,w.alloc (.cells #[.int .i64 6,.int .i64 a.farm_,.int .i64 a.to_,.int .i64 a.lot_,.int .i64 a.squares_,.int .i64 a.value_,.int .i64 a.keep_,.int .i64 a.year_] 63)=W1:=⟨_,rfl⟩;obtain⟨W2,hW2⟩:∃W2,W1.alloc (.cells #[.int .i64 0] 38)=W2:=⟨_,rfl⟩
 have E:Stp (λ_=>False) w W1:=hW1 ▸ Stp.alloc _ _ _;have G:Stp (λ_=>False) W1 W2:=hW2 ▸ Stp.alloc _ _ _
 obtain⟨g1,hg1⟩:∃g,w.heap.size=g:=⟨_,rfl⟩;obtain⟨g2,hg2⟩:∃g,W1.heap.size=g:=⟨_,rfl⟩
 have n1:W1.heap[g1]?=some (.cells #[.int .i64 6,.int .i64 a.farm_,.int .i64 a.to_,.int .i64 a.lot_,.int .i64 a.squares_,.int .i64 a.value_,.int .i64 a.keep_,.int .i64 a.year_] 63 (0,0)):=hg1 ▸ hW1 ▸ Go.World.alloc_heap_new _ _;have n2:W2.heap[g2]?=some (.cells #[.int .i64 0] 38 (0,0)):=hg2 ▸ hW2 ▸ Go.World.alloc_heap_new _ _
 have d6:g1<g2:=by rw[<-hg2];exact J8 n1
 have s:g2<W2.heap.size:=J8 n2;have b0 : W2.heap[g1]?=some (.cells #[.int .i64 6,.int .i64 a.farm_,.int .i64 a.to_,.int .i64 a.lot_,.int .i64 a.squares_,.int .i64 a.value_,.int .i64 a.keep_,.int .i64 a.year_] 63 (0,0)):=(G.block g1 (by omega) λh=>h).trans n1
 have st:∀c,c<w.heap.size->W2.heap[c]?=w.heap[c]?:=λc p=>(G.block c (Qc4 p E.size) λh=>h).trans (E.block c p λh=>h)
 have hM:∀c,(∃i o,ls S i=some o/\o.ro=false/\c∈V8 (η i))->c<g1:=λc ⟨i,o,k,_,p⟩=>by rw[<-hg1];exact hX c (A c ⟨i,o,k,p⟩)
 have p:∀V,Stp (λ_=>False) W2 V->Calls Tryz.prog 74 #[.pointer (some ⟨b,0,none⟩),.agg #[.int .i64 6,.int .i64 a.farm_,.int .i64 a.to_,.int .i64 a.lot_,.int .i64 a.squares_,.int .i64 a.value_,.int .i64 a.keep_,.int .i64 a.year_]] V λe w'=>∃H,e=.returned (.int .i64 0)/\Behind (Qk S V X η) (vi 0) S' (.int .i64 0) H w':=λV t=>by
  have N:∀c,c<w.heap.size->V.heap[c]?=w.heap[c]?:=λc p=>(t.block c (by omega) λh=>h).trans (st c p)
  refine(U V X η #[.pointer (some ⟨b,0,none⟩),.agg #[.int .i64 6,.int .i64 a.farm_,.int .i64 a.to_,.int .i64 a.lot_,.int .i64 a.squares_,.int .i64 a.value_,.int .i64 a.keep_,.int .i64 a.year_]] (λc p=>?_) A (λi o k=>?_) a6 rfl (λj hj=>?_)).mono λe w' Z=>?_
  .have:=hX c p;have:=t.size;omega
  .exact ((T i o k).mono (λc p hx=>⟨N c p,hx⟩) (λ_ _=>rfl) λc p=>N c (hX c (A c ⟨i,o,k,p⟩))).ctx (a8 i o k)
  .have hj:j=0\/j=1:=by have:j<2:=hj;omega
   rcases hj with rfl|rfl
   .exact .v _ _ (.c _ _ (.ptr _ _ _ he))
   .refine .v _ _ (.g _ _ ⟨rfl,λq hq=>?_⟩)
    have hq:q<8:=hq;rw[<-hk]
    match q,hq with
    |0,_|1,_|2,_|3,_|4,_|5,_|6,_|7,_=>exact .d _ _ (.int _ _)
  .obtain ⟨v,H,rfl,u⟩:=Z
   obtain rfl:v=.int .i64 0:=by
    have:=u.res
    cases this with|v _ _ h=>cases h with|c _ _ h=>cases h with|d _ _ h=>cases h with|int=>rfl
   exact⟨H,rfl,u⟩
 have cs:∀ W:Go.World,W.heap[g1]?=some (.cells #[.int .i64 6,.int .i64 a.farm_,.int .i64 a.to_,.int .i64 a.lot_,.int .i64 a.squares_,.int .i64 a.value_,.int .i64 a.keep_,.int .i64 a.year_] 63 (0,0)) ->
   W.cell? ⟨g1,0,none⟩=some (.int .i64 6)/\W.cell? ⟨g1,1,none⟩=some (.int .i64 a.farm_)/\W.cell? ⟨g1,2,none⟩=some (.int .i64 a.to_)/\W.cell? ⟨g1,3,none⟩=some (.int .i64 a.lot_)/\W.cell? ⟨g1,4,none⟩=some (.int .i64 a.squares_)/\W.cell? ⟨g1,5,none⟩=some (.int .i64 a.value_)/\W.cell? ⟨g1,6,none⟩=some (.int .i64 a.keep_)/\W.cell? ⟨g1,7,none⟩=some (.int .i64 a.year_):=λW h=>by
  refine⟨?_,?_,?_,?_,?_,?_,?_,?_⟩<;>simp[Go.World.cell?,h]
 obtain⟨c0,c1,c2,c3,c4,c5,c6,c7⟩:=cs W2 b0;have q0:W2.cell? ⟨g2,0,none⟩=some (.int .i64 0):=by simp[Go.World.cell?,n2]
 go_enter_defers Tryz.func38,Tryz.ntmps38
 go_wp2
 apply Qq7 (Q:=(λ(B:Go.Act) e a' W=>match e with|.normal=>∃H V D,a'=B/\Stp (λ_=>False) W2 V/\Behind (Qk S V X η) (vi 0) S' (.int .i64 0) H D/\W=D.setCell ⟨g2,0,none⟩ (.int .i64 0)|_=>False) _)
 case h=>
  have d5:Tryz.prog.follows .mixedOrders=true:=by kernel_rfl
  have t:Stp (λ_=>False) W2 W2.drew:=Stp.drew _ _
  go_region_with_o (go_at_call 74;refine(p _ t).mono ?_;rintro e W3 ⟨H,rfl,u⟩;have O:=(u.stp.block g2 (Qc4 s t.size) (λh=>absurd (hM _ h) (by omega))).trans ((t.block g2 s λh=>h).trans n2);have q3:W3.cell? ⟨g2,0,none⟩=some (.int .i64 0):=(by simp[Go.World.cell?,O]);have f3:W3.frozen? ⟨g2,0,none⟩=false:=(by simp[Go.World.frozen?,O]))
  all_goals exact⟨H,_,_,rfl,t,u,rfl⟩
 intro e a' W8 Z;have R:e=.normal:=by cases e<;>first|rfl|exact(Z:False).elim
 subst R;obtain⟨H,V,D,rfl,t,u,rfl⟩:=Z
 have O:D.heap[g2]?=some (.cells #[.int .i64 0] 38 (0,0)):=(u.stp.block g2 (Qc4 s t.size) (λh=>absurd (hM _ h) (by omega))).trans ((t.block g2 s λh=>h).trans n2);have Y:(D.setCell ⟨g2,0,none⟩ (.int .i64 0)).heap[g2]?=some (.cells #[.int .i64 0] 38 (0,0)):=(heap_setCell_same _ _ _ _ _ _ O).trans rfl
 have I:∀c,(D.setCell ⟨g2,0,none⟩ (.int .i64 0)).heap[c]?=D.heap[c]?:=λc=>by
  by_cases h:c=g2
  .rw [h,Y,O]
  .exact heap_setCell_other _ _ _ _ h
 have K:Stp (Qk S w X η).M w D:=(((E.mono λ_ _ h=>h.elim).trans (G.mono λ_ _ h=>h.elim)).trans (t.mono λ_ _ h=>h.elim)).trans (u.stp.mono λ_ _ h=>.inl h);have a9:w.heap.size<=V.heap.size:=Qc9 E.size (Qc9 G.size t.size)
 have s9:Stp (Qk S w X η).M w (D.setCell ⟨g2,0,none⟩ (.int .i64 0)):=⟨K.os,K.tape,K.output,by simp only[Go.World.setCell,Qm9];exact K.size,λc p hn=>(I c).trans (K.block c p hn),K.dr⟩;generalize D.setCell ⟨g2,0,none⟩ (.int .i64 0)=W9 at Y I s9⊢
 have q9:W9.cell? ⟨g2,0,none⟩=some (.int .i64 0):=by simp[Go.World.cell?,Y]
 try simp only[Exit.then]
 go_wp2
 refine leaves_cons (f:=68) (args:= #[.pointer (some ⟨b,0,none⟩),.pointer (some ⟨g2,0,none⟩)]) (by simp) (by simp[go_sem]) ?_;refine(Z1o Y .returning).mono ?_
 rintro e u' d0 ⟨rfl,rfl,rfl⟩;refine⟨.int .i64 0,by simp[results,go_sem,q9],.int .i64 0,H,rfl,s9,.v _ _ (.c _ _ (.d _ _ (.int _ _))),λi o k=>((u.objs i o k).mono (λc _ hx=>⟨I c,hx⟩) (λ_ _=>rfl) λc _=>I c).ctx (L i o k),u.ds,λi o c k p=>?_,u.pn⟩
 rcases u.ow i o c k p with h|h|h
 .exact .inl h
 .exact .inr (.inl h)
 .exact .inr (.inr (Qc9 a9 h))
end Go.Ab
end
