/- Two functions walked at the one input that the example gives them. -/
import Derived.Test.YtjafnaffdfaokaaGreatDoorProg
import Derived.WalkKit
import Derived.Lib.Strings
import Derived.Lib.Slices
import Derived.Lib.Walk
import Derived.Lib.Bytealg
import Derived.StillTactics
import Derived.Deep.RegionHeld3
import Derived.Deep.RegionLaw
import Derived.Lib.Hide
import Derived.Handy
import Derived.Laws.RangeString
import Derived.Laws.RangeAny
import Derived.LoopTactic
import Derived.FnLit
import Derived.RangeFuncNested
import Derived.RangeFuncBound
import Derived.RangeFuncCalls
import Derived.RangeFuncLeaves
import Derived.RangeFuncGives
import Derived.Shelf.Abstract
import Derived.Shelf.RegionOpen
import Derived.OwnWalkIn
import Derived.TacticsInMore
import Derived.LoopNIn
import Derived.LoopIn
import Derived.Maps.AppendAt
import Derived.Test.YtjafnaffdfaokaaGreatDoorAbA
import Derived.Maps.Own
import Derived.Test.YtjafnaffdfaokaaGreatDoorSpA
import Derived.Test.YtjafnaffdfaokaaGreatDoorSpB
import Derived.Shelf.RegionOpenPlain
import Derived.Lib.BitFns
import Derived.Test.YtjafnaffdfaokaaGreatDoorAbI
set_option linter.unusedVariables false
set_option linter.unusedSimpArgs false
section
namespace Go.Proofs
open Go.RowKit Go.Lib
set_option maxHeartbeats 1000000
set_option maxRecDepth 100000
abbrev s4:ByteArray:=⟨#[97,32,98,10]⟩
abbrev s3:ByteArray:=⟨#[97,32,98]⟩
theorem xP(s:ByteArray)(c:Int)(w:World):Calls Tryz.prog 202 #[.string s,.int .u8 c] w fun e w'=>e=.returned (.int .i64 (Lib.indexByte s.data.toList c.toNat.toUInt8))/\w'=w:=by
 go_enter Tryz.func202,Tryz.ntmps202
 go_wp2
 rw [run_callFunc_extern Tryz.func243 (by kernel_rfl) (by kernel_rfl) (by kernel_rfl) (e:=Extern.BytealgIndexByte.indexByte) (by kernel_rfl),Lib.run_indexByteString];simp only [Result.andThen]
 rw [Oper.upon_value]
 go_wp2
 go_ret
 exact ⟨rfl,rfl⟩
theorem Q4B(s:ByteArray)(c:Int)(w:World):Calls Tryz.prog 144 #[.string s,.int .u8 c] w fun e w'=>e=.returned (.int .i64 (Lib.indexByte s.data.toList c.toNat.toUInt8))/\w'=w:=by
 go_enter Tryz.func144,Tryz.ntmps144
 go_wp2_with (go_at_call 202;refine (xP _ _ _).mono ?_;rintro e w' ⟨rfl,rfl⟩)
 go_ret
 exact ⟨rfl,rfl⟩
theorem Q4M(w:World):Calls Tryz.prog 73 #[.string s4,.string ⟨#[10]⟩] w fun e w'=>e=.returned (.int .i64 1)/\w'=w:=by
 go_enter Tryz.func73,Tryz.ntmps73
 go_wp2
 rw [run_callFunc_extern Tryz.func139 (by kernel_rfl) (by kernel_rfl) (by kernel_rfl) (e:=Extern.BytealgCount.count) (by kernel_rfl),Lib.run_countString];simp only [Result.andThen]
 rw [Oper.upon_value]
 go_wp2
 go_ret
 exact ⟨rfl,rfl⟩
end Go.Proofs
end
section
namespace Go.Proofs
open Go.RowKit Go.Lib
set_option maxHeartbeats 1000000
set_option maxRecDepth 100000
theorem xR:((s4.extract 3 4).toList==[10])=true:=by kernel_rfl
theorem Q4F(w:World):Calls Tryz.prog 74 #[.string s4,.string ⟨#[10]⟩] w fun e w'=>e=.returned (.bool true)/\w'=w:=by
 have a:=xR
 go_enter Tryz.func74,Tryz.ntmps74
 go_wp2
 go_ret
 exact ⟨by first|rfl|rw [a] | simp [a],rfl⟩
theorem Q4s(w:World):Calls Tryz.prog 80 #[.string s4,.string ⟨#[10]⟩] w fun e w'=>e=.returned (.string s3)/\w'=w:=by
 have a:=xR
 go_enter Tryz.func80,Tryz.ntmps80
 go_wp2
 go_ret
 exact ⟨rfl,rfl⟩
theorem Q4u(c:Nat)(h:c=10\/32<=c/\c<=126)(w:World):Calls Tryz.prog 76 #[.int .i32 c] w fun e w'=>e=.returned (.bool false)/\w'=w:=by
 go_enter Tryz.func76,Tryz.ntmps76
 go_wp2
 all_goals first | (exfalso;omega) | (go_ret;exact ⟨rfl,rfl⟩) | (go_ret;refine ⟨?_,rfl⟩;simp;omega)
theorem xS(i:Nat)(h:i<s4.size):(s4[i]'h).toNat=10\/32<=(s4[i]'h).toNat/\(s4[i]'h).toNat<=126:=by
 have h:i<4:=h;obtain rfl|rfl|rfl|rfl:i=0\/i=1\/i=2\/i=3:=by omega
 .exact .inr (show 32<=97/\97<=126 by decide)
 .exact .inr (show 32<=32/\32<=126 by decide)
 .exact .inr (show 32<=98/\98<=126 by decide)
 .exact .inl rfl
theorem Q4z(w:World):Calls Tryz.prog 201 #[.string s4,.func (.func 76) #[] #[],.bool true] w fun e w'=>e=.returned (.int .i64 (-1))/\∃ pos,w'=w.iter s4 pos:=by
 have d:∀ i (h:i<s4.size),(s4[i]'h).toNat<128:=fun i h=>by have:=xS i h;omega
 go_enter Tryz.func201,Tryz.ntmps201
 go_wp2
 go_loopw [] (fun w'=>∃ pos:Nat,pos<=4/\w'=w.iter s4 pos) (fun w'=>s4.size-w'.iterPos w.heap.size)
 case atStart=>exact ⟨0,by omega,rfl⟩
 case round=>
  obtain ⟨pos,c,rfl⟩:=hrel
  by_cases hp:pos<s4.size
  .have b:∀ a,(Instr.next (.pointer (some ⟨w.heap.size,0,none⟩)) true a).run Tryz.prog (w.iter s4 pos)=_:=fun a=>run_next_ascii w s4 pos a hp (d pos hp)
   go_wp2_with (go_at_call 76;refine (Q4u _ (xS pos hp) _).mono ?_;rintro e w' ⟨rfl,rfl⟩)
   go_roundw
   case rel=>exact ⟨pos+1,hp,rfl⟩
   case measure=>simp;omega
  .have b:∀ a,(Instr.next (.pointer (some ⟨w.heap.size,0,none⟩)) true a).run Tryz.prog (w.iter s4 pos)=_:=fun a=>run_next_end w s4 pos a hp
   go_wp2
   go_ret
   exact ⟨rfl,_,rfl⟩
end Go.Proofs
end
section
namespace Go.Proofs
open Go.RowKit Go.Lib
set_option maxHeartbeats 1000000
set_option maxRecDepth 100000
theorem Q4A(c:UInt8)(k:Int)(hk:Lib.indexByte s3.data.toList (((c.toNat:Nat):Int).toNat.toUInt8)=k)(w:World):Calls Tryz.prog 202 #[.string s3,.int .u8 ((⟨#[c]⟩:ByteArray)[0]'(show 0<1 by decide)).toNat] w fun e w'=>e=.returned (.int .i64 k)/\w'=w:=by
 refine (xP _ _ _).mono ?_;rintro e w' ⟨rfl,rfl⟩
 exact ⟨congrArg (fun x=>Ending.returned (.int .i64 x)) hk,rfl⟩
theorem xQ(c:UInt8)(k:Int)(hc:((⟨#[c]⟩:ByteArray)==s3)=false)(hk:Lib.indexByte s3.data.toList (((c.toNat:Nat):Int).toNat.toUInt8)=k)(w:World):Calls Tryz.prog 200 #[.string s3,.string ⟨#[c]⟩] w fun e w'=>e=.returned (.int .i64 k)/\w'=w:=by
 go_enter Tryz.func200,Tryz.ntmps200
 go_wp2_with (go_at_call 202;refine (Q4A c k hk _).mono ?_;rintro e w' ⟨rfl,rfl⟩)
 go_ret
 exact ⟨rfl,rfl⟩
theorem Q4C(c:UInt8)(k:Int)(hc:((⟨#[c]⟩:ByteArray)==s3)=false)(hk:Lib.indexByte s3.data.toList (((c.toNat:Nat):Int).toNat.toUInt8)=k)(w:World):Calls Tryz.prog 140 #[.string s3,.string ⟨#[c]⟩] w fun e w'=>e=.returned (.int .i64 k)/\w'=w:=by
 go_enter Tryz.func140,Tryz.ntmps140
 go_wp2_with (go_at_call 200;refine (xQ c k hc hk _).mono ?_;rintro e w' ⟨rfl,rfl⟩)
 go_ret
 exact ⟨rfl,rfl⟩
theorem Q4K(w:World):Calls Tryz.prog 145 #[.string s3,.string ⟨#[35]⟩] w fun e w'=>e=.returned (.tuple #[.string s3,.string ⟨#[]⟩,.bool false])/\w'=w:=by
 go_enter Tryz.func145,Tryz.ntmps145
 go_wp2_with (go_at_call 200;refine (xQ 35 (-1) (by decide) (by decide) _).mono ?_;rintro e w' ⟨rfl,rfl⟩)
 go_ret3
 exact ⟨rfl,rfl⟩
theorem Q4L(w:World):Calls Tryz.prog 79 #[.string s3,.string ⟨#[35]⟩] w fun e w'=>e=.returned (.tuple #[.string s3,.string ⟨#[]⟩,.bool false])/\w'=w:=by
 go_enter Tryz.func79,Tryz.ntmps79
 go_wp2_with (go_at_call 145;refine (Q4K _).mono ?_;rintro e w' ⟨rfl,rfl⟩)
 go_ret3
 exact ⟨rfl,rfl⟩
theorem Q4N(w:World):Calls Tryz.prog 73 #[.string s3,.string ⟨#[32]⟩] w fun e w'=>e=.returned (.int .i64 1)/\w'=w:=by
 go_enter Tryz.func73,Tryz.ntmps73
 go_wp2
 rw [run_callFunc_extern Tryz.func139 (by kernel_rfl) (by kernel_rfl) (by kernel_rfl) (e:=Extern.BytealgCount.count) (by kernel_rfl),Lib.run_countString];simp only [Result.andThen]
 rw [Oper.upon_value]
 go_wp2
 go_ret
 exact ⟨rfl,rfl⟩
theorem Q4G(w:World):Calls Tryz.prog 148 #[.string s3,.string ⟨#[32]⟩,.int .i64 0,.int .i64 (-1)] w fun e w'=>e=.returned (.slice (some ⟨w.heap.size,0,none⟩) 2 2)/\w'=w.alloc (.cells #[.string ⟨#[97]⟩,.string ⟨#[98]⟩] 9):=by
 have b:(min 2 4:Int)=2:=by decide
 have a:∀ W:World,(Instr.makeSlice 99 (.int .i64 2) (.int .i64 2)).run Tryz.prog W=.ok (.slice (some ⟨W.heap.size,0,none⟩) 2 2) (W.alloc (.cells #[.string ⟨#[]⟩,.string ⟨#[]⟩] 9)):=fun W=>by kernel_rfl
 go_enter Tryz.func148,Tryz.ntmps148
 go_wp2_with (go_at_call 73;refine (Q4N _).mono ?_;rintro e w' ⟨rfl,rfl⟩)
 refine wp_loop_rounds 2 ?_;rw [rounds_succ]
 go_wp2_with (go_at_call 140;refine (Q4C 32 1 (by decide) (by decide) _).mono ?_;rintro e w' ⟨rfl,rfl⟩)
 rw [rounds_succ]
 go_wp2
 go_ret
 exact ⟨rfl,rfl⟩
end Go.Proofs
end
section
namespace Go.Proofs
open Go.RowKit Go.Lib
set_option maxHeartbeats 1000000
set_option maxRecDepth 100000
theorem Q4t(w:World):Calls Tryz.prog 82 #[.string s3,.string ⟨#[32]⟩] w fun e w'=>e=.returned (.slice (some ⟨w.heap.size,0,none⟩) 2 2)/\w'=w.alloc (.cells #[.string ⟨#[97]⟩,.string ⟨#[98]⟩] 9):=by
 go_enter Tryz.func82,Tryz.ntmps82
 go_wp2_with (go_at_call 148;refine (Q4G _).mono ?_;rintro e w' ⟨rfl,rfl⟩)
 go_ret
 exact ⟨rfl,rfl⟩
theorem xO(s:ByteArray)(h:(s.toList==[])=false)(w:World):Calls Tryz.prog 83 #[.string s] w fun e w'=>e=.returned (.bool false)/\w'=w:=by
 go_enter Tryz.func83,Tryz.ntmps83
 go_wp2
 go_ret
 exact ⟨by simp,rfl⟩
theorem Q4E(b:Nat)(w:World)(h:w.heap[b]?=some (.cells #[.string ⟨#[97]⟩,.string ⟨#[98]⟩] 9 (0,0))):Calls Tryz.prog 147 #[.slice (some ⟨b,0,none⟩) 2 2,.func (.func 83) #[] #[]] w fun e w'=>e=.returned (.int .i64 (-1))/\w'=w:=by
 have c:w.cell? ⟨b,0,none⟩=some (.string ⟨#[97]⟩):=by simp [World.cell?,h]
 have a:w.cell? ⟨b,1,none⟩=some (.string ⟨#[98]⟩):=by simp [World.cell?,h]
 clear h
 go_enter Tryz.func147,Tryz.ntmps147
 go_wp2
 refine wp_loop_rounds 3 ?_;rw [rounds_succ]
 go_wp2_with (go_at_call 83;refine (xO _ (by kernel_rfl) _).mono ?_;rintro e w' ⟨rfl,rfl⟩)
 rw [rounds_succ]
 go_wp2_with (go_at_call 83;refine (xO _ (by kernel_rfl) _).mono ?_;rintro e w' ⟨rfl,rfl⟩)
 rw [rounds_succ]
 go_wp2
 go_ret
 exact ⟨rfl,rfl⟩
theorem Q4J(b:Nat)(w:World)(h:w.heap[b]?=some (.cells #[.string ⟨#[97]⟩,.string ⟨#[98]⟩] 9 (0,0))):Calls Tryz.prog 81 #[.slice (some ⟨b,0,none⟩) 2 2,.func (.func 83) #[] #[]] w fun e w'=>e=.returned (.slice (some ⟨b,0,none⟩) 2 2)/\w'=w:=by
 go_enter Tryz.func81,Tryz.ntmps81
 go_wp2_with (go_at_call 147;refine (Q4E b _ h).mono ?_;rintro e w' ⟨rfl,rfl⟩)
 go_ret
 exact ⟨rfl,rfl⟩
end Go.Proofs
end
section
namespace Go.Proofs
open Go.Shelf Go.RowKit Go.Lib
attribute [local go_sem] Oper.semAt_some
set_option maxHeartbeats 1000000
set_option maxRecDepth 100000
theorem Q4y(w:World):Calls Tryz.prog 144 #[.string s4,.int .u8 10] w fun e w'=>e=.returned (.int .i64 3)/\w'=w:=by
 refine (Q4B _ _ _).mono ?_;rintro e w' ⟨rfl,rfl⟩
 exact ⟨congrArg (fun x=>Ending.returned (.int .i64 x)) (by decide),rfl⟩
theorem Q4w(n:Nat)(hn:1<=n)(l B:Nat)(W:World)(hB:W.heap[B]?=some (.cells #[.string s4] 9 (0,0)))(K:World->Prop)(hY:YieldAt Fence.wide (n-1) Tryz.prog l #[.string (s4.extract 0 4)] ((W.setCell ⟨B,0,none⟩ (.string ByteArray.empty)).drew) fun e W'=>e=.returned (.bool true)/\W'.heap[B]?=some (.cells #[.string ⟨#[]⟩] 9 (0,0))/\K W'):
  CallsIn Fence.wide n Tryz.prog 143 #[.func (.yield l) #[] #[],.pointer (some ⟨B,0,none⟩)] W fun e W'=>(∃ v,e=.returned v)/\K W':=by
 have k:W.cell? ⟨B,0,none⟩=some (.string s4):=by simp [World.cell?,hB]
 have p:W.frozen? ⟨B,0,none⟩=false:=by simp [World.frozen?,hB]
 have j:Fence.wide.fn 144:=trivial;refine callsIn_of_wp Tryz.func143 rfl trivial ?_ rfl
 simp only [Tryz.ntmps143,List.size_toArray,List.length_cons,List.length_nil,Nat.reduceAdd,Nat.reduceSub,Array.replicate_succ,Array.replicate_zero,List.push_toArray,List.append_toArray,List.nil_append,List.cons_append]
 gi_wp2
 refine wpIn_loop_rounds 2 ?_;rw [roundsIn_succ]
 gi_wp2_with (gi_at_call 144;refine (callsIn_wide.2 (Q4y _)).mono ?_;rintro e w' ⟨rfl,rfl⟩)
 gi_region
 obtain ⟨m,f,a,d,o,g⟩:=hY
 gi_wp2
 refine g.mono ?_;rintro e h ⟨rfl,b,c⟩
 have i:h.cell? ⟨B,0,none⟩=some (.string ⟨#[]⟩):=by simp [World.cell?,b]
 gi_wp2
 rw [roundsIn_succ]
 gi_wp2
 go_end0
 exact ⟨⟨_,rfl⟩,c⟩
end Go.Proofs
end
section
namespace Go.Proofs
open Go.Shelf Go.RowKit Go.Lib Go.Ab
attribute [local go_sem] Oper.semAt_some
set_option maxHeartbeats 2000000
set_option maxRecDepth 100000
theorem Q4O(w:World):Calls Tryz.prog 75 #[.string s4,.func (.func 76) #[] #[]] w fun e w'=>e=.returned (.bool false)/\∃ pos,w'=w.iter s4 pos:=by
 go_enter Tryz.func75,Tryz.ntmps75
 go_wp2_with (first
  | (go_at_call 142;go_enter Tryz.func142,Tryz.ntmps142)
  | (go_at_call 201;refine (Q4z _).mono ?_;rintro e w' ⟨rfl,pos,rfl⟩))
 all_goals (try (go_ret;exact ⟨rfl,_,rfl⟩))
theorem Q4x(w:World):Calls Tryz.prog 78 #[.string s4] w fun e w'=>e=.returned (.func (.func 143) #[] #[.pointer (some ⟨w.heap.size,0,none⟩)])/\w'=w.alloc (.cells #[.string s4] 9):=by
 go_enter Tryz.func78,Tryz.ntmps78
 go_wp2
 go_ret
 exact ⟨rfl,rfl⟩
abbrev U8:Nat->Prop:=fun _=>False
theorem Q4D(w:World)(s:ByteArray)(pos:Nat):Stp U8 w (w.iter s pos):=by
 have h:=World.iter_extends w s pos;exact ⟨h.os,h.tape,h.output,h.size,fun b a _=>h.block b a,Nat.le_refl _⟩
end Go.Proofs
end
section
namespace Go.Proofs
open Go.Shelf Go.RowKit Go.Lib Go.Ab
attribute [local go_sem] Oper.semAt_some
set_option maxHeartbeats 4000000
set_option maxRecDepth 100000
structure SpK (W0:World) (l D o:Nat) (W:World):Prop where
 res:∃ (g b c:Nat) (Z:Array Value),W0.heap.size<=g/\W0.heap.size<=b/\g≠b/\g≠l/\b≠l/\g≠D/\b≠D/\1<=c/\c<=maxLen/\Z.size+1=c /\
  W.heap[o]?=some (.cells #[.slice (some ⟨g,0,none⟩) 1 c] 94 (0,0))/\W.heap[g]?=some (.cells (#[.slice (some ⟨b,0,none⟩) 2 2]++Z) 99 (0,0)) /\
  W.heap[b]?=some (.cells #[.string ⟨#[97]⟩,.string ⟨#[98]⟩] 9 (0,0))
 lp:∃ r:Go.Loop,W.heap[l]?=some (.loop r)/\r.state=.ready/\r.pending=none
 df:W.heap[D]?=some (.deferred (some []))
 stp:Stp (fun b=>W0.heap.size<=b) W0 W
theorem QT{a b c:World}(h:Stp U8 a b)(k:Stp U8 b c):Stp U8 a c:=h.trans (k.mono fun _ _ h=>h.elim)
theorem Q4I{a:Act}{assign body:Code}{Q:Exit->Act->World->Prop}{W1:World}{o:Nat}(s1:W1.heap.size=o+2)(ha:a.eval (.tmp 26)=.func (.func 143) #[] #[.pointer (some ⟨o+1,0,none⟩)])(h:∀ fn r,r=({ state:=.ready,pending:=none,fn:=fn,tmps:=a.tmps,params:= #[27],assign:=assign,body:=body,defers:=o+2 }:Go.Loop)->CallsIn Fence.wide 3 Tryz.prog 143 #[.func (.yield (o+3)) #[] #[],.pointer (some ⟨o+1,0,none⟩)] ((W1.alloc (.deferred (some []))).alloc (.loop r)) (rangePost Fence.wide 4 Tryz.prog (o+3) Q { a with defers:=[{ target:=.collected (o+2),args:= #[] }]++a.defers })):
  (Code.rangeFunc (.tmp 26) #[27] assign body).wpIn Fence.wide 4 Tryz.prog Q a W1:=by
 refine wpIn_rangeFunc ?_;intro fn d
 refine ⟨o+3,[{ target:=.collected (o+2),args:= #[] }],(W1.alloc (.deferred (some []))).alloc (.loop { state:=.ready,pending:=none,fn:=fn,tmps:=a.tmps,params:= #[27],assign:=assign,body:=body,defers:=o+2 }), { target:=.fn (.func 143) #[.pointer (some ⟨o+1,0,none⟩)],args:= #[.func (.yield (o+3)) #[] #[]] },(W1.alloc (.deferred (some []))).alloc (.loop { state:=.ready,pending:=none,fn:=fn,tmps:=a.tmps,params:= #[27],assign:=assign,body:=body,defers:=o+2 }),143,
  #[.func (.yield (o+3)) #[] #[],.pointer (some ⟨o+1,0,none⟩)],(W1.alloc (.deferred (some []))).alloc (.loop { state:=.ready,pending:=none,fn:=fn,tmps:=a.tmps,params:= #[27],assign:=assign,body:=body,defers:=o+2 }),?_,?_,?_,?_,(fun h=>by cases h),?_⟩
 .refine (run_enterLoop_outer _ _ _ _ _).trans ?_
  rw [s1]
 .have b : a.tmps[26]?.getD undef=.func (.func 143) #[] #[.pointer (some ⟨o+1,0,none⟩)]:=by
   have e:a.eval (.tmp 26)=a.tmps[26]?.getD undef:=by simp [go_sem]
   rw [<-e];exact ha
  simp [resolve,go_sem,b]
 .intro f c
  trivial
 .have e:=enters_of (P:=Tryz.prog) Tryz.func143 (by kernel_rfl) rfl
  simp [invoke,go_sem,e]
 .exact h fn _ rfl
structure OneOf (l:Nat) (a b:World):Prop where
 os:b.os=a.os
 tape:b.tape=a.tape
 output:b.output=a.output
 size:b.heap.size=a.heap.size
 dr:a.drawn=b.drawn
 blk:∀ k,k≠l->b.heap[k]?=a.heap[k]?
theorem Sx(l:Nat)(w:World)(x:Go.Obj):OneOf l w (w.putObj l x):=⟨rfl,rfl,rfl,by simp [World.putObj],rfl,fun _ a=>World.putObj_heap_other a⟩
theorem OneOf.stp{l:Nat}{a b c:World}(h:OneOf l b c)(k:Stp U8 a b)(hl:a.heap.size<=l):Stp U8 a c:=
 ⟨h.os.trans k.os,h.tape.trans k.tape,h.output.trans k.output,by rw [h.size];exact k.size,fun x d _=>(h.blk x (by omega)).trans (k.block x d fun h=>h),h.dr ▸ k.dr⟩
theorem Q4P{F:Fence}{n l:Nat}{body:Code}{Q:Exit->Act->World->Prop}{a:Act}{W3:World}{r:Go.Loop}(l3:W3.heap[l]?=some (.loop r))(hr:r.state=.ready)(h:∀ W4,OneOf l W3 W4->(∃ r' : Go.Loop,W4.heap[l]?=some (.loop r'))->body.wpIn F n Tryz.prog Q a W4):∃ w₂,(Instr.beginRound l).run Tryz.prog W3=.ok () w₂/\body.wpIn F n Tryz.prog Q a w₂:=
 ⟨_,run_beginRound l3 hr,h _ (Sx _ _ _) ⟨_,World.putObj_heap_same (Array.getElem?_eq_some_iff.1 l3).1⟩⟩
theorem Q4H{W0 W4:World}{o c:Nat}{Z:Array Value}{a:Act}(s4' : W4.heap.size=o+4)(a4:W4.heap[o]?=some (.cells #[.slice none 0 0] 94 (0,0)))(b4:W4.heap[o+1]?=some (.cells #[.string ⟨#[]⟩] 9 (0,0)))(d4:W4.heap[o+2]?=some (.deferred (some [])))(l4:∃ r:Go.Loop,W4.heap[o+3]?=some (.loop r))(st:Stp U8 W0 W4)(hw:W0.heap.size<=o)(c1:1<=c)(c2:c<=maxLen)(c3:Z.size+1=c):
  roundPost Tryz.prog (o+3) (fun e W'=>e=.returned (.bool true)/\W'.heap[o+1]?=some (.cells #[.string ⟨#[]⟩] 9 (0,0))/\SpK W0 (o+3) (o+2) o W') Exit.normal a
   ((((W4.setCell ⟨o,0,none⟩ (.slice (some ⟨o+4+1+1,0,none⟩) 1 c)).alloc (.cells #[.string ⟨#[97]⟩,.string ⟨#[98]⟩] 9)).alloc (.cells #[.slice (some ⟨o+4,0,none⟩) 2 2] 99)).alloc (.cells (#[.slice (some ⟨o+4,0,none⟩) 2 2]++Z) 99)).drew.drew:=by
 obtain ⟨W5,hW⟩:∃ W5,((((W4.setCell ⟨o,0,none⟩ (.slice (some ⟨o+4+1+1,0,none⟩) 1 c)).alloc (.cells #[.string ⟨#[97]⟩,.string ⟨#[98]⟩] 9)).alloc (.cells #[.slice (some ⟨o+4,0,none⟩) 2 2] 99)).alloc (.cells (#[.slice (some ⟨o+4,0,none⟩) 2 2]++Z) 99)).drew.drew=W5:=⟨_,rfl⟩;rw [hW]
 have f:∀ k,k<o+4->W5.heap[k]?=(W4.setCell ⟨o,0,none⟩ (.slice (some ⟨o+4+1+1,0,none⟩) 1 c)).heap[k]?:=fun k n=>by
  rw [<-hW];simp only [World.drew,World.alloc,World.setCell,Array.getElem?_push,Array.size_push,Array.size_modify,s4']
  rw [if_neg (by omega),if_neg (by omega),if_neg (by omega)]
 have i:W5.heap[o+4]?=some (.cells #[.string ⟨#[97]⟩,.string ⟨#[98]⟩] 9 (0,0)):=by
  rw [<-hW];simp only [World.drew,World.alloc,World.setCell,Array.getElem?_push,Array.size_push,Array.size_modify,s4']
  rw [if_neg (by omega),if_neg (by omega),if_pos trivial]
 have j:W5.heap[o+4+1+1]?=some (.cells (#[.slice (some ⟨o+4,0,none⟩) 2 2]++Z) 99 (0,0)):=by
  rw [<-hW];simp only [World.drew,World.alloc,World.setCell,Array.getElem?_push,Array.size_push,Array.size_modify,s4']
  rw [if_pos trivial]
 have p:W5.heap.size=o+7:=by rw [<-hW];simp [World.drew,World.alloc,World.setCell,s4']
 have d:∀ k,k<o+4->k≠o->W5.heap[k]?=W4.heap[k]?:=fun k n s=>by
  rw [f k n];simp only [World.setCell,Array.getElem?_modify]
  rw [if_neg (by omega)]
 have g:W5.heap[o]?=some (.cells #[.slice (some ⟨o+4+1+1,0,none⟩) 1 c] 94 (0,0)):=by
  rw [f o (by omega)];simp only [World.setCell,Array.getElem?_modify]
  rw [if_pos trivial,a4];rfl
 have m:Stp U8 W0 W5:=by
  refine ⟨?_,?_,?_,?_,fun b v _=>(d b (by omega) (by omega)).trans (st.block b v fun h=>h),?_⟩
  .rw [<-hW];exact st.os
  .rw [<-hW];exact st.tape
  .rw [<-hW];exact st.output
  .rw [p];omega
  .rw [<-hW];exact Nat.le_succ_of_le (Nat.le_succ_of_le st.dr)
 clear hW f
 obtain ⟨r,t⟩:=l4;have l:=(d (o+3) (by omega) (by omega)).trans t
 have q:=Sx (o+3) W5 (.loop { r with state:=.ready,pending:=none });have u:o+3<W5.heap.size:=by omega
 refine ⟨_,_,run_endRound none l,rfl,(q.blk (o+1) (by omega)).trans ((d _ (by omega) (by omega)).trans b4),⟨⟨o+4+1+1,o+4,c,Z,by omega,by omega,by omega,by omega,by omega,by omega,by omega,c1,c2,c3,?_,?_,?_⟩,⟨_,World.putObj_heap_same u,rfl,rfl⟩,?_,?_⟩⟩
 .exact (q.blk _ (by omega)).trans g
 .exact (q.blk _ (by omega)).trans j
 .exact (q.blk _ (by omega)).trans i
 .exact (q.blk _ (by omega)).trans ((d _ (by omega) (by omega)).trans d4)
 .exact (q.stp m (by omega)).mono fun _ _ h=>h.elim
theorem Q4v(w:World):CallsIn Fence.wide 4 Tryz.prog 38 #[.string s4] w fun e w'=>∃ (g b c:Nat) (Z:Array Value),w.heap.size<=g/\w.heap.size<=b/\1<=c/\c<=maxLen/\Z.size+1=c/\e=.returned (.tuple #[.slice (some ⟨g,0,none⟩) 1 c,.int .i64 0]) /\
  w'.heap[g]?=some (.cells (#[.slice (some ⟨b,0,none⟩) 2 2]++Z) 99 (0,0))/\w'.heap[b]?=some (.cells #[.string ⟨#[97]⟩,.string ⟨#[98]⟩] 9 (0,0))/\Stp U8 w w':=by
 have f1:Fence.wide.fn 73:=trivial;have f2:Fence.wide.fn 74:=trivial
 have f3:Fence.wide.fn 75:=trivial;have f4:Fence.wide.fn 78:=trivial
 refine callsIn_of_wp_marks Tryz.func38 rfl trivial ?_ rfl;simp only [Tryz.ntmps38,List.size_toArray,List.length_cons,List.length_nil,Nat.reduceAdd,Nat.reduceSub,Array.replicate_succ,Array.replicate_zero,List.push_toArray,List.append_toArray,List.nil_append,List.cons_append]
 gi_wp2_with (first
  | (gi_at_call 73;refine (callsIn_wide.2 (Q4M _)).mono ?_;rintro e w' ⟨rfl,rfl⟩)
  | (gi_at_call 74;refine (callsIn_wide.2 (Q4F _)).mono ?_;rintro e w' ⟨rfl,rfl⟩)
  | (gi_at_call 75;refine (callsIn_wide.2 (Q4O _)).mono ?_;rintro e w' ⟨rfl,pos,rfl⟩)
  | (gi_at_call 78;refine (callsIn_wide.2 (Q4x _)).mono ?_;rintro e w' ⟨rfl,rfl⟩))
 obtain ⟨W0,hW0⟩:∃ W0,w'.iter s4 pos=W0:=⟨_,rfl⟩;have f:Stp U8 w' W0:=hW0 ▸ Q4D _ _ _
 rw [hW0]
 clear hW0
 obtain ⟨o,ho⟩:∃ o,W0.heap.size=o:=⟨_,rfl⟩;have B:w'.heap.size<=o:=ho ▸ f.size
 rw [ho];obtain ⟨W1,hW1⟩:∃ W1,(W0.alloc (.cells #[.slice none 0 0] 94)).alloc (.cells #[.string s4] 9)=W1:=⟨_,rfl⟩
 have p:W1.heap.size=o+2:=by rw [<-hW1, <-ho];simp
 have T:W1.heap[o]?=some (.cells #[.slice none 0 0] 94 (0,0)):=by rw [<-hW1, <-ho];exact (Below.heap_alloc _ _ _ (by simp)).trans (World.alloc_heap_new _ _)
 have N:W1.heap[o+1]?=some (.cells #[.string s4] 9 (0,0)):=by
  have:=World.alloc_heap_new (W0.alloc (.cells #[.slice none 0 0] 94)) (.cells #[.string s4] 9)
  rwa [World.size_alloc,ho,hW1] at this
 have t:Stp U8 w' W1:=by rw [<-hW1];exact QT (QT f (Stp.alloc U8 _ _)) (Stp.alloc U8 _ _)
 rw [hW1]
 clear hW1 f
 refine Q4I p rfl ?_;intro fn r Q
 obtain ⟨W2,hW2⟩:∃ W2,(W1.alloc (.deferred (some []))).alloc (.loop r)=W2:=⟨_,rfl⟩;have R:W2.heap.size=o+4:=by rw [<-hW2];simp [p]
 have k2:∀ k,k<o+2->W2.heap[k]?=W1.heap[k]?:=fun k hk=>by rw [<-hW2];exact (Below.heap_alloc _ _ k (by simp;omega)).trans (Below.heap_alloc _ _ k (by omega))
 have S:W2.heap[o+2]?=some (.deferred (some [])):=by rw [<-hW2];exact (Below.heap_alloc _ _ _ (by simp;omega)).trans (by have:=World.alloc_heap_new W1 (.deferred (some []));rwa [p] at this)
 have O:W2.heap[o+3]?=some (.loop r):=by
  have:=World.alloc_heap_new (W1.alloc (.deferred (some []))) (.loop r)
  rwa [World.size_alloc,p,hW2] at this
 have d:Stp U8 w' W2:=by rw [<-hW2];exact QT (QT t (Stp.alloc U8 _ _)) (Stp.alloc U8 _ _)
 rw [hW2]
 clear hW2 t
 have I:=(k2 o (by omega)).trans T;have F:=(k2 (o+1) (by omega)).trans N
 clear k2 T N p
 refine (Q4w 3 (by omega) (o+3) (o+1) W2 F (fun W=>SpK w' (o+3) (o+2) o W) ?hY).mono ?hP
 case hP=>
  rintro e J ⟨⟨v,rfl⟩,s⟩;obtain ⟨L,H,C,D⟩:=s.lp
  have a:=run_endLoop (P:=Tryz.prog) H (by rw [C];simp);obtain ⟨g,b,c,Z,h1,h2,h3,h4,h5,h6,h7,Y,c2,c3,M,K,U⟩:=s.res
  have l:=s.df;have m:=s.stp
  have q:=Sx (o+3) J (.loop { L with state:=.exhausted });generalize J.putObj (o+3) (.loop { L with state:=.exhausted })=W3 at q a
  rw [D] at a;refine ⟨none,_,a,?_⟩
  clear a
  have e1:=(q.blk o (by omega)).trans M;have e2:=(q.blk g h4).trans K
  have X:=(q.blk b h5).trans U;have V:=(q.blk (o+2) (by omega)).trans l
  have st:=q.stp (m.mono fun x hx h=>absurd hx (Nat.not_lt.2 h)) (by omega)
  clear q M K U l m H s
  have hc:W3.cell? ⟨o,0,none⟩=some (.slice (some ⟨g,0,none⟩) 1 c):=by simp [World.cell?,e1]
  gi_wp2
  refine ⟨by simp,.inl ⟨_,_,rfl,run_takeDeferred V,?_⟩⟩;have q:=Sx (o+2) W3 (.deferred none)
  exact ⟨_,results_tmp2 rfl _ _ _,g,b,c,Z,h1,h2,Y,c2,c3,rfl,(q.blk g h6).trans e2,(q.blk b h7).trans X,q.stp st (by omega)⟩
 case hY=>
  have y:((W2.setCell ⟨o+1,0,none⟩ (.string ByteArray.empty)).drew).heap[o+3]?=some (.loop r):=by
   simp only [World.drew,World.setCell,Array.getElem?_modify];rw [if_neg (by omega)];exact O
  have d3:((W2.setCell ⟨o+1,0,none⟩ (.string ByteArray.empty)).drew).heap[o+2]?=some (.deferred (some [])):=by
   simp only [World.drew,World.setCell,Array.getElem?_modify];rw [if_neg (by omega)];exact S
  have A:((W2.setCell ⟨o+1,0,none⟩ (.string ByteArray.empty)).drew).heap[o]?=some (.cells #[.slice none 0 0] 94 (0,0)):=by
   simp only [World.drew,World.setCell,Array.getElem?_modify];rw [if_neg (by omega)];exact I
  have E:((W2.setCell ⟨o+1,0,none⟩ (.string ByteArray.empty)).drew).heap[o+1]?=some (.cells #[.string ⟨#[]⟩] 9 (0,0)):=by
   simp only [World.drew,World.setCell,Array.getElem?_modify];rw [if_pos trivial,F];rfl
  have s3:((W2.setCell ⟨o+1,0,none⟩ (.string ByteArray.empty)).drew).heap.size=o+4:=by simp [World.drew,World.setCell,R]
  have i:Stp U8 w' ((W2.setCell ⟨o+1,0,none⟩ (.string ByteArray.empty)).drew):=by
   refine ⟨d.os,d.tape,d.output,?_,fun b hb _=>?_,Nat.le_succ_of_le d.dr⟩
   .rw [s3];omega
   .simp only [World.drew,World.setCell,Array.getElem?_modify]
    rw [if_neg (by omega)];exact d.block b hb fun h=>h
  generalize ((W2.setCell ⟨o+1,0,none⟩ (.string ByteArray.empty)).drew)=W3 at y d3 A E s3 i ⊢
  clear O S I F R d
  rw [show s4.extract 0 4=s4 from by decide];refine ⟨_,_,_,_,run_yield (P:=Tryz.prog) (args:= #[.string s4]) y (by rw [Q];rfl),?_⟩
  subst Q;simp only [List.size_toArray,List.length_cons,List.length_nil]
  refine roundIn_of_wpIn trivial ?_
  gi_wp2
  refine Q4P y rfl ?_;intro u j l4
  have G:=(j.blk o (by omega)).trans A;have b4:=(j.blk (o+1) (by omega)).trans E
  have d4:=(j.blk (o+2) (by omega)).trans d3;have n:=j.size.trans s3
  have z:=j.stp i (by omega)
  clear y A E d3 s3 i j
  have hA:(u.alloc (.cells #[.string ⟨#[97]⟩,.string ⟨#[98]⟩] 9)).heap[o+4]?=some (.cells #[.string ⟨#[97]⟩,.string ⟨#[98]⟩] 9 (0,0)):=by
   have:=World.alloc_heap_new u (.cells #[.string ⟨#[97]⟩,.string ⟨#[98]⟩] 9)
   rwa [n] at this
  have hc:u.cell? ⟨o,0,none⟩=some (.slice none 0 0):=by simp [World.cell?,G]
  have hf:u.frozen? ⟨o,0,none⟩=false:=by simp [World.frozen?,G]
  have c7:Tryz.prog.follows .mixedOrders=true:=by kernel_rfl
  gi_wp2_with (first
   | (refine ⟨trivial,?_⟩;gi_at_call 80;refine (CallsIn.inRound _ (callsIn_wide.2 (Q4s _))).mono ?_;rintro e w' ⟨rfl,rfl⟩)
   | (refine ⟨trivial,?_⟩;gi_at_call 79;refine (CallsIn.inRound _ (callsIn_wide.2 (Q4L _))).mono ?_;rintro e w' ⟨rfl,rfl⟩))
  have f5:Fence.wide.fn 82:=trivial;have f6:Fence.wide.fn 81:=trivial
  gi_region_with_o (first
   | (gi_at_call 82;refine (CallsIn.inRound _ (callsIn_wide.2 (Q4t _))).mono ?_;rintro e w' ⟨rfl,rfl⟩)
   | (gi_at_call 81;refine (CallsIn.inRound _ (callsIn_wide.2 (Q4J _ _ (by exact hA)))).mono ?_;rintro e w' ⟨rfl,rfl⟩))
  all_goals
   simp only [Exit.inBlock];refine Q4H n G b4 d4 l4 z B (grownCap_ge w'.drew 1 0 99) (grownCap_le_maxLen w'.drew 1 0 99 (by simp only [maxLen];omega)) ?_
   rw [size_zeroCells];have:=grownCap_ge w'.drew 1 0 99
   show (grownCap w'.drew 1 0 99-1)*1+1=grownCap w'.drew 1 0 99;omega
end Go.Proofs
end
section
namespace Go.Proofs
open Go.Shelf Go.RowKit Go.Lib Go.Ab
set_option maxHeartbeats 2000000
set_option maxRecDepth 100000
abbrev iv(n:Int):Value:=.int .i64 n
abbrev pv(a b:Int):Value:=.agg #[iv a,iv b]
abbrev ev(a b c d:Int):Value:=.agg #[iv a,iv b,iv c,iv d]
theorem DY{w:World}{g T:Nat}{p q r s:Value}{Z:Array Value}(h:w.heap[g]?=some (.cells (#[p,q,r,s]++Z) T (0,0))):w.cell? ⟨g,0,none⟩=some p/\w.cell? ⟨g,1,none⟩=some q/\w.cell? ⟨g,2,none⟩=some r/\w.cell? ⟨g,3,none⟩=some s:=by
 refine ⟨?_,?_,?_,?_⟩ <;> simp [World.cell?,h,Array.getElem?_append]
theorem Uw(w:World):Stp U8 w w.drew:=⟨rfl,rfl,rfl,Nat.le_refl _,fun _ _ _=>rfl,Nat.le_succ _⟩
theorem Q7e(ad:Option Addr)(c:Nat)(a b x y:Int)(w:World):Calls Tryz.prog 131 #[.slice ad 0 c,ev a b x y] w fun e w'=>e=.returned (iv (-1))/\Stp U8 w w':=by
 go_enter Tryz.func131,Tryz.ntmps131
 go_wp2
 refine wp_loop_rounds 1 ?_;rw [rounds_succ]
 go_wp2
 go_ret
 exact ⟨rfl,Stp.alloc U8 _ _⟩
theorem Q7d(g c:Nat)(Z:Array Value)(a b x y:Int)(w:World)(h:w.heap[g]?=some (.cells (#[iv a,iv b,iv x,iv y]++Z) 136 (0,0))):Calls Tryz.prog 131 #[.slice (some ⟨g,0,none⟩) 1 c,ev a b x y] w fun e w'=>e=.returned (iv 0)/\Stp U8 w w':=by
 have f:g<w.heap.size:=(Array.getElem?_eq_some_iff.1 h).1;obtain ⟨k,d,i,j⟩:=DY h
 go_enter Tryz.func131,Tryz.ntmps131
 go_wp2
 refine wp_loop_rounds 1 ?_;rw [rounds_succ]
 go_wp2
 go_region
 go_wp2
 go_ret
 exact ⟨rfl,QT (Stp.alloc U8 _ _) (Uw _)⟩
theorem Lu(ad:Option Addr)(c:Nat)(a b x y:Int)(w:World):Calls Tryz.prog 65 #[.slice ad 0 c,ev a b x y] w fun e w'=>e=.returned (.bool false)/\Stp U8 w w':=by
 go_enter Tryz.func65,Tryz.ntmps65
 go_wp2_with (go_at_call 131;refine (Q7e _ _ _ _ _ _ _).mono ?_;rintro e w' ⟨rfl,st⟩)
 go_ret
 exact ⟨rfl,QT (Stp.alloc U8 _ _) st⟩
theorem Q7l(g c:Nat)(Z:Array Value)(a b x y:Int)(w:World)(h:w.heap[g]?=some (.cells (#[iv a,iv b,iv x,iv y]++Z) 136 (0,0))):Calls Tryz.prog 65 #[.slice (some ⟨g,0,none⟩) 1 c,ev a b x y] w fun e w'=>e=.returned (.bool true)/\Stp U8 w w':=by
 have d:g<w.heap.size:=(Array.getElem?_eq_some_iff.1 h).1;have f : ∀ o,(w.alloc o).heap[g]?=some (.cells (#[iv a,iv b,iv x,iv y]++Z) 136 (0,0)):=fun o=>(Below.heap_alloc _ _ _ d).trans h
 go_enter Tryz.func65,Tryz.ntmps65
 go_wp2_with (go_at_call 131;refine (Q7d _ _ _ _ _ _ _ _ (f _)).mono ?_;rintro e w' ⟨rfl,st⟩)
 go_ret
 exact ⟨rfl,QT (Stp.alloc U8 _ _) st⟩
theorem Q7m(g k:Nat)(cur:Array Value)(W:World)(h:W.heap[g]?=some (.cells cur 136 (0,0)))(hc:4<=cur.size):(Builtin.clear_ #[130] 0 #[.slice (some ⟨g,0,none⟩) 1 k]).run Tryz.prog W=.ok (.tuple #[]) (W.setRow g ([iv 0,iv 0,iv 0,iv 0]++cur.toList.drop 4).toArray):=by
 have d:Tryz.prog.underlying 130=some (.slice 136):=by kernel_rfl
 have c:∀ W,(zeroValue 136).run Tryz.prog W=.ok (ev 0 0 0 0) W:=fun W=>by kernel_rfl
 have a:=run_storeCells_at Tryz.prog g 0 136 [iv 0,iv 0,iv 0,iv 0] 0 cur W h (by simpa using hc) (by simp [Value.oneCell']);have b:(Builtin.zeroCells (ev 0 0 0 0).cells 1).toList=[iv 0,iv 0,iv 0,iv 0]:=by kernel_rfl
 simp only [Nat.add_zero,List.take_zero,List.nil_append,List.length_cons,List.length_nil,Nat.zero_add,Nat.reduceAdd] at a;simp [Builtin.clear_,run_underlying d,c,b,a]
theorem setRow_stp(w:World)(g:Nat)(x:Array Value):Stp (fun b=>b=g) w (w.drew.setRow g x)/\(w.drew.setRow g x).heap.size=w.heap.size:=by
 have e:(w.drew.setRow g x).heap.size=w.heap.size:=by simp only [World.setRow,Array.size_modify];rfl
 refine ⟨⟨rfl,rfl,rfl,Nat.le_of_eq e.symm,fun b _ a=>?_,Nat.le_succ _⟩,e⟩;simp only [World.setRow,World.drew,Array.getElem?_modify]
 rw [if_neg (fun e=>a e.symm)]
theorem Q7k(g c:Nat)(cur:Array Value)(w:World)(h:w.heap[g]?=some (.cells cur 136 (0,0)))(hc:cur.size=c*4)(h1:1<=c)(h2:c<=maxLen):Calls Tryz.prog 134 #[.slice (some ⟨g,0,none⟩) 1 c,iv 0,iv 1] w fun e w'=>e=.returned (.slice (some ⟨g,0,none⟩) 0 c)/\Stp (fun b=>b=g) w w' /\ w'.heap.size=w.heap.size:=by
 have d:=fun k=>Q7m g k cur w.drew h (by omega)
 rcases Nat.eq_or_lt_of_le h1 with a|a
 .subst a
  go_enter Tryz.func134,Tryz.ntmps134
  go_wp2
  go_region
  go_wp2
  go_ret
  exact ⟨rfl,setRow_stp _ _ _⟩
 .have f:¬ c=1:=by omega
  go_enter Tryz.func134,Tryz.ntmps134
  go_wp2
  go_region
  go_wp2
  go_ret
  exact ⟨rfl,setRow_stp _ _ _⟩
end Go.Proofs
end
section
namespace Go.Proofs
open Go.Shelf Go.RowKit Go.Lib Go.Ab
set_option maxHeartbeats 2000000
set_option maxRecDepth 100000
abbrev ZK(v:Value):MapEntry:=⟨pv 0 0,v,0⟩
abbrev ZW(v:Value):MapEntry:=⟨pv 0 10,v,1⟩
abbrev Ym(v:Value):MapEntry:=⟨pv 10 0,v,2⟩
abbrev YM(v:Value):MapEntry:=⟨pv 10 10,v,3⟩
theorem Lt:Tryz.prog.underlying 132=some (.map 134 130):=by kernel_rfl
theorem Lw(b:Bool)(x y:Int)(W:World):(Instr.checkKey b 10000 134 (pv x y)).run Tryz.prog W=.ok () W:=by cases b <;> kernel_rfl
theorem Q6V(W:World):(zeroValue 130).run Tryz.prog W=.ok (.slice none 0 0) W:=by kernel_rfl
theorem Jn{m ck:Nat}{es:Array MapEntry}{x y:Int}{i:Nat}{v:Value}{w:World}(h:w.heap[m]?=some (.map es ck))(hf:∀ W,(Instr.findKey 134 (pv x y) es.toList).run Tryz.prog W=.ok (some (i,v)) W):(Instr.lookup 132 (.map (some m)) (pv x y) false).run Tryz.prog w=.ok v w:=by
 simp [Instr.lookup,run_underlying Lt,MapKept.run_getObj_map h,Lw,hf,Result.andThen]
theorem Q7a{m ck:Nat}{es:Array MapEntry}{x y:Int}{w:World}(h:w.heap[m]?=some (.map es ck))(hf:∀ W,(Instr.findKey 134 (pv x y) es.toList).run Tryz.prog W=.ok none W):(Instr.mapEntry 132 (.map (some m)) (pv x y)).run Tryz.prog w=.ok (.tuple #[.slice none 0 0,iv ck]) { w with heap:=w.heap.setIfInBounds m (.map (es.push { key:=pv x y,val:=.slice none 0 0,born:=ck }) (ck+1)) }:=by
 simp [Instr.mapEntry,run_underlying Lt,MapKept.run_getObj_map h,MapKept.run_setObj_map _ h,Lw,Q6V,hf,Result.andThen,goInt]
theorem Q7i{m ck:Nat}{es:Array MapEntry}{born i:Nat}{v:Value}{w:World}(h:w.heap[m]?=some (.map es ck))(hf:es.findIdx? (fun e=>(e.born:Int)==(born:Int))=some i):(Instr.entryStore 132 (.map (some m)) (iv born) v).run Tryz.prog w=.ok () { w with heap:=w.heap.setIfInBounds m (.map (es.modify i fun e=> { e with val:=v }) ck) }:=by
 simp [Instr.entryStore,MapKept.run_getObj_map h,MapKept.run_setObj_map _ h,asInt,asIntOf,hf,Result.andThen]
theorem Rb{m ck:Nat}{es:Array MapEntry}{x y:Int}{i:Nat}{u v:Value}{w:World}(h:w.heap[m]?=some (.map es ck))(hf:∀ W,(Instr.findKey 134 (pv x y) es.toList).run Tryz.prog W=.ok (some (i,u)) W)(hi:(es[i]?).map (·.key)=some (pv x y)):(Instr.mapUpdate 132 (.map (some m)) (pv x y) v).run Tryz.prog w=.ok () { w with heap:=w.heap.setIfInBounds m (.map (es.modify i fun e=> { e with key:=pv x y,val:=v }) ck) }:=by
 have a:∀ W,(Instr.keyThatStays (pv x y) (pv x y)).run Tryz.prog W=.ok (pv x y) W:=fun W=>by
  simp [Instr.keyThatStays,Instr.sameBits]
 simp [Instr.mapUpdate,run_underlying Lt,MapKept.run_getObj_map h,MapKept.run_setObj_map _ h,Lw,hf,hi,a,Result.andThen]
theorem fk0(W:World):(Instr.findKey 134 (pv 0 0) (#[]:Array MapEntry).toList).run Tryz.prog W=.ok none W:=by kernel_rfl
theorem fk1(a:Value)(W:World):(Instr.findKey 134 (pv 0 10) (#[ZK a]:Array MapEntry).toList).run Tryz.prog W=.ok none W:=by kernel_rfl
theorem fk2(a b:Value)(W:World):(Instr.findKey 134 (pv 10 0) (#[ZK a,ZW b]:Array MapEntry).toList).run Tryz.prog W=.ok none W:=by kernel_rfl
theorem fk3(a b c:Value)(W:World):(Instr.findKey 134 (pv 10 10) (#[ZK a,ZW b,Ym c]:Array MapEntry).toList).run Tryz.prog W=.ok none W:=by kernel_rfl
section
variable (a b c d:Value) (W:World)
theorem yb:(Instr.findKey 134 (pv 0 0) (#[ZK a,ZW b,Ym c,YM d]:Array MapEntry).toList).run Tryz.prog W=.ok (some (0,a)) W:=by kernel_rfl
theorem ya:(Instr.findKey 134 (pv 0 10) (#[ZK a,ZW b,Ym c,YM d]:Array MapEntry).toList).run Tryz.prog W=.ok (some (1,b)) W:=by kernel_rfl
theorem zZ:(Instr.findKey 134 (pv 10 0) (#[ZK a,ZW b,Ym c,YM d]:Array MapEntry).toList).run Tryz.prog W=.ok (some (2,c)) W:=by kernel_rfl
theorem zY:(Instr.findKey 134 (pv 10 10) (#[ZK a,ZW b,Ym c,YM d]:Array MapEntry).toList).run Tryz.prog W=.ok (some (3,d)) W:=by kernel_rfl
end
end Go.Proofs
end
section
namespace Go.Proofs
open Go.Shelf Go.RowKit Go.Lib Go.Ab
set_option maxHeartbeats 2000000
set_option maxRecDepth 100000
theorem Q7q{w:World}{base t e:Nat}{i:TypeInfo}{z:Value}{size:Nat}(ht:Tryz.prog.underlying t=some (.slice e))(hi:Tryz.prog.info? e=some i)(hz:i.zero=some z)(hsize:i.size=size)(hby:i.bytes<=1000)(hzs:z.cells.size=size)(hsz:0<size){v:Value}{n:Nat}{xs:List Value}(hown:w.ownsRow base e size v n xs){ad:Addr}{c:Nat}{news:List Value}(hl:news.length=size)(hnews:∀ j u,news[j]?=some u->w.cell? (ad.add j)=some u)(h1:∀ u ∈ news,u.oneCell'=true)(hn:n<=1000)(hbase:base<=w.heap.size):
  ∃ v' w',(Builtin.append_ #[t,t] t #[v,.slice (some ad) 1 c]).run Tryz.prog w=.ok v' w' /\ w'.ownsRow base e size v' (n+1) (xs++news)/\w.grownBy w' v.ownBlock/\(v'.ownBlock=v.ownBlock\/v'.ownBlock=some w.heap.size)/\w.drawn<=w'.drawn:=by
 have A:(n+1)*i.bytes<=140737488355328:=by
  have:(n+1)*i.bytes<=1001*1000:=Nat.mul_le_mul (by omega) hby
  omega
 obtain ⟨v',w',h,x,s,_,y⟩:=run_append_own_at (P:=Tryz.prog) w base t t e i z size i.bytes ht hi hz hsize rfl hzs hsz v n xs hown ad 1 c news (by omega) hnews h1 (by unfold maxLen;omega) A hbase;refine ⟨v',w',h,x,s,y,?_⟩
 rcases hown.2 with ⟨rfl,rfl⟩|⟨g,f,m,rfl,B,l,r,q,o,p⟩
 .have e:=run_append_nil (P:=Tryz.prog) w t t e i z ht hi hz ad 1 c news (by omega) hnews (by omega) (by omega) (by omega)
  rw [e] at h;cases h
  exact Nat.le_succ _
 .by_cases hroom:n+1<=f
  .have e:=run_append_room (P:=Tryz.prog) w t t e i ht hi g n f m l ad 1 c news (by omega) hnews h1 hroom (by
    rw [hsize,o,hl];have:(n+1)*size<=f*size:=Nat.mul_le_mul_right _ hroom
    rw [Nat.add_mul] at this;omega)
   rw [e] at h;cases h
   exact Nat.le_refl _
  .have k:f<=1000:=by omega
   have e:=run_append_grow (P:=Tryz.prog) w t t e i z ht hi hz ⟨g,0,none⟩ n f xs (by rw [hown.1,hsize]) (hown.cells rfl) ad 1 c news (by omega) hnews (by omega) (by omega) (growslice_fits (by omega) (by
    have:(n+1)*i.bytes<=1001*1000:=Nat.mul_le_mul (by omega) hby
    omega))
   rw [e] at h;cases h
   exact Nat.le_succ _
theorem Uu{ops:Array Oper}{rest:List Oper}{o:Oper}{a:Act}{Q:Exit->Act->World->Prop}{w:World}(hgd:o.guard=none)(s x:Operand)(t:TypeId)(ho:o.op=.call { callee:=.builtin .append,args:= #[s,x],argTypes:= #[t,t] })(hty:o.type=t){base e:Nat}{i:TypeInfo}{z:Value}{size:Nat}(ht:Tryz.prog.underlying t=some (.slice e))(hi:Tryz.prog.info? e=some i)(hz:i.zero=some z)(hsize:i.size=size)(hby:i.bytes<=1000)(hzs:z.cells.size=size)(hsz:0<size){v:Value}{n:Nat}{xs:List Value}(hs:a.eval s=v)(hown:w.ownsRow base e size v n xs){ad:Addr}{c:Nat}{news:List Value}(hx:a.eval x=.slice (some ad) 1 c)(hl:news.length=size)(hnews:∀ j u,news[j]?=some u->w.cell? (ad.add j)=some u)(h1:∀ u ∈ news,u.oneCell'=true)(hn:n<=1000)(hbase:base<=w.heap.size)(h:∀ v' w',w'.ownsRow base e size v' (n+1) (xs++news)->w.grownBy w' v.ownBlock->(v'.ownBlock=v.ownBlock\/v'.ownBlock=some w.heap.size)->w.drawn<=w'.drawn->wpList Tryz.prog ops Q rest (a.put o.dst v') w'):wpList Tryz.prog ops Q (o::rest) a w:=by
 refine wpList_plain hgd fun K l=>?_
 obtain ⟨v',w',m,g,f,p,k⟩:=Q7q ht hi hz hsize hby hzs hsz hown (c:=c) hl hnews h1 hn hbase;unfold Oper.wp execOp
 simp only [ho,hty,resolve,invoke,builtin,Sem.run_bind,Sem.run_pure,Result.andThen_ok,List.map_toArray,List.map_cons,List.map_nil,hs,hx,m];exact l _ _ (h v' w' g f p k)
end Go.Proofs
end
section
namespace Go.Proofs
open Go.Shelf Go.RowKit Go.Lib Go.Ab
set_option maxHeartbeats 4000000
set_option maxRecDepth 100000
theorem Rc{F:Nat}{x y:Ab.Edge}{n:Int}(h:Xq F x y=some n)(w:World):Calls Tryz.prog 133 #[ev x.F_.x_ x.F_.y_ x.to_.x_ x.to_.y_,ev y.F_.x_ y.F_.y_ y.to_.x_ y.to_.y_] w fun e w'=>e=.returned (iv n)/\Stp U8 w w':=by
 refine (Q9k h w U8 (fun _=>undef) _ (fun b m=>m.elim) (fun b ⟨i,o,f,_⟩=>by cases f) (fun i o f=>by cases f) (fun i j b f=>absurd rfl f) rfl (fun j l=>?_)).mono fun e w' r=>?_
 .have g:∀ x:Ab.Edge,∀ C,ARep w U8 (fun _=>undef) C (ev x.F_.x_ x.F_.y_ x.to_.x_ x.to_.y_) (gE x):=fun x C=>by
   refine .v _ _ (.g _ _ ⟨rfl,fun j l=>?_⟩);have l:j<4:=l
   have:j=0\/j=1\/j=2\/j=3:=by omega
   rcases this with rfl|rfl|rfl|rfl <;> exact .d _ _ (.int _ _)
  have:j=0\/j=1:=by simp at l;omega
  rcases this with rfl|rfl
  .exact g x _
  .exact g y _
 .obtain ⟨v,s,q,m⟩:=r
  refine ⟨?_,m.stp.mono fun b _ p=>by obtain ⟨i,o,f,_⟩:=p;cases f⟩;rw [q]
  have k:=m.res
  cases k with|v _ _ h=>cases h with|c _ _ h=>cases h with|d _ _ h=>cases h;rfl
theorem tn1(F:Nat):Xq F ⟨⟨0,0⟩,⟨10,0⟩⟩ ⟨⟨10,0⟩,⟨10,10⟩⟩=some 1:=by kernel_rfl
theorem tn2(F:Nat):Xq F ⟨⟨10,0⟩,⟨10,10⟩⟩ ⟨⟨10,10⟩,⟨0,10⟩⟩=some 1:=by kernel_rfl
theorem tn3(F:Nat):Xq F ⟨⟨10,10⟩,⟨0,10⟩⟩ ⟨⟨0,10⟩,⟨0,0⟩⟩=some 1:=by kernel_rfl
theorem tn4(F:Nat):Xq F ⟨⟨0,10⟩,⟨0,0⟩⟩ ⟨⟨0,0⟩,⟨10,0⟩⟩=some 1:=by kernel_rfl
end Go.Proofs
end
section
namespace Go.Proofs
open Go.Shelf Go.RowKit Go.Lib Go.Ab
set_option maxHeartbeats 8000000
set_option maxRecDepth 100000
abbrev sv(g n c:Nat):Value:=.slice (some ⟨g,0,none⟩) n c
structure Fo (w W:World) (m ck o:Nat) (es:Array MapEntry) (a b x y:Int) (gs:Nat->Nat) (row:Nat->Array Value) (lv:Nat->Bool) (v:Value) (n:Nat) (xs:List Value):Prop where
 mp:W.heap[m]?=some (.map es ck)
 e3:W.heap[o]?=some (.cells #[iv 0,iv 0,iv 10,iv 0] 136 (0,0))
 e6:W.heap[o+1]?=some (.cells #[iv a,iv b,iv x,iv y] 136 (0,0))
 li:∀ i,i<4->lv i=true->W.heap[gs i]?=some (.cells (row i) 136 (0,0))
 mo:m<o
 go:∀ i,gs i<o
 cor:W.ownsRow (o+2) 134 2 v n xs
 ws:w.heap.size=o
 stp:Stp (fun b=>b=m\/∃ i,b=gs i) w W
 sz:o+2<=W.heap.size
abbrev WK(w:World)(m:Nat)(es:Array MapEntry)(ck:Nat):World:= { w with heap:=w.heap.setIfInBounds m (.map es ck) }
theorem Fo.del{w W W' : World}{m ck o:Nat}{es es' : Array MapEntry}{a b x y:Int}{gs:Nat->Nat}{row:Nat->Array Value}{lv:Nat->Bool}{v:Value}{n:Nat}{xs:List Value}(F:Fo w W m ck o es a b x y gs row lv v n xs)(k:Nat)(hk:k<4)(st:Stp (fun b=>b=gs k) W.drew W')(hs:W'.heap.size=W.drew.heap.size)(hd:∀ i j,i<4->j<4->gs i=gs j->i=j)(hmg:∀ i,m≠gs i):
  Fo w (WK W' m es' ck) m ck o es' a b x y gs row (fun i=>lv i&&i != k) v n xs/\∀ j,j<W.heap.size->j≠m->j≠gs k->(WK W' m es' ck).heap[j]?=W.heap[j]?:=by
 have hs:W'.heap.size=W.heap.size:=hs;have H:=F.go k
 have G:=F.mo;have E:=F.sz
 have f:∀ j,j<W.heap.size->j≠m->j≠gs k->(WK W' m es' ck).heap[j]?=W.heap[j]?:=fun j D p q=>by
  have e:(WK W' m es' ck).heap[j]?=W'.heap[j]?:=by
   simp only [WK,Array.getElem?_setIfInBounds];rw [if_neg (fun e=>p e.symm)]
  exact e.trans (st.block j D q)
 have s:∀ {j:Nat} {ob:Go.Obj},W.heap[j]?=some ob->j<W.heap.size:=fun h=>J5 h
 refine ⟨⟨?_,(f _ (s F.e3) (by omega) (by omega)).trans F.e3,(f _ (s F.e6) (by omega) (by omega)).trans F.e6,fun i r A=>?_,F.mo,F.go,?_,F.ws,?_,?_⟩,f⟩
 .simp only [WK,Array.getElem?_setIfInBounds]
  rw [if_pos trivial,if_pos (by rw [hs];omega)]
 .simp only [Bool.and_eq_true,bne_iff_ne] at A
  have h:=F.li i r A.1;exact (f _ (s h) (fun e=>hmg i e.symm) (fun e=>A.2 (hd i k r hk e))).trans h
 .refine ⟨F.cor.1,?_⟩
  rcases F.cor.2 with h|⟨g,u,z,p,q,B,r⟩
  .exact .inl h
  .exact .inr ⟨g,u,z,p,q,(f g (s B) (by omega) (by omega)).trans B,r⟩
 .have l:=F.stp
  refine ⟨st.os.trans l.os,st.tape.trans l.tape,st.output.trans l.output,?_,fun b C t=>?_,Nat.le_trans l.dr (Nat.le_trans (Nat.le_succ _) st.dr)⟩
  .simp only [WK,Array.size_setIfInBounds]
   rw [hs];exact l.size
  .have p:b≠m:=fun e=>t (.inl e)
   have q:b≠gs k:=fun e=>t (.inr ⟨k,e⟩)
   exact (f b (Nat.lt_of_lt_of_le C l.size) p q).trans (l.block b C t)
 .simp only [WK,Array.size_setIfInBounds]
  rw [hs];exact E
section
variable {w W W' : World} {m ck o:Nat} {es:Array MapEntry} {a b x y:Int} {gs:Nat->Nat} {row:Nat->Array Value} {lv:Nat->Bool} {v:Value} {n:Nat} {xs:List Value}
theorem Fo.mono(F:Fo w W m ck o es a b x y gs row lv v n xs)(st:Stp U8 W W'):Fo w W' m ck o es a b x y gs row lv v n xs:=by
 have e:∀ {j:Nat} {ob:Go.Obj},W.heap[j]?=some ob->W'.heap[j]?=some ob:=fun h=>(st.block _ (J5 h) fun h=>h).trans h
 refine ⟨e F.mp,e F.e3,e F.e6,fun i l s=>e (F.li i l s),F.mo,F.go,⟨F.cor.1,?_⟩,F.ws,F.stp.trans (st.mono fun _ _ h=>h.elim),Nat.le_trans F.sz st.size⟩;rcases F.cor.2 with h|⟨g,f,k,p,r,q,l⟩
 .exact .inl h
 .exact .inr ⟨g,f,k,p,r,e q,l⟩
theorem Fo.app(F:Fo w W m ck o es a b x y gs row lv v n xs){v' : Value}{ys:List Value}(hr:W'.ownsRow (o+2) 134 2 v' (n+1) ys)(hg:W.grownBy W' v.ownBlock)(hdr:W.drawn<=W'.drawn):Fo w W' m ck o es a b x y gs row lv v' (n+1) ys/\∀ j,j<W.heap.size->some j≠v.ownBlock->W'.heap[j]?=W.heap[j]?:=by
 have f:∀ j,j<W.heap.size->some j≠v.ownBlock->W'.heap[j]?=W.heap[j]?:=fun j p l=>hg.block j p l
 have g:∀ {j:Nat} {ob:Go.Obj},j<o+2->W.heap[j]?=some ob->W'.heap[j]?=some ob:=fun p h=>(f _ (J5 h) fun e=>by
  have:=(F.cor.lt _ e.symm).1
  omega).trans h
 have z:=F.mo;refine ⟨⟨g (by omega) F.mp,g (by omega) F.e3,g (by omega) F.e6,fun i t s=>g (by have:=F.go i;omega) (F.li i t s),F.mo,F.go,hr,F.ws,?_,Nat.le_trans F.sz hg.size⟩,f⟩
 have k:=F.stp;have u:=F.ws
 refine ⟨hg.os.trans k.os,hg.tape.trans k.tape,hg.output.trans k.output,Nat.le_trans k.size hg.size,fun b q r=>?_,Nat.le_trans k.dr hdr⟩;exact (f b (Nat.lt_of_lt_of_le q k.size) fun e=>by
  have:=(F.cor.lt _ e.symm).1
  omega).trans (k.block b q r)
theorem Fo.now(F:Fo w W m ck o es a b x y gs row lv v n xs)(a' b' x' y' : Int):Fo w ((((W.setCell ⟨o+1,0,none⟩ (iv a')).setCell ⟨o+1,1,none⟩ (iv b')).setCell ⟨o+1,2,none⟩ (iv x')).setCell ⟨o+1,3,none⟩ (iv y')) m ck o es a' b' x' y' gs row lv v n xs:=by
 obtain ⟨W',hW⟩:∃ W',((((W.setCell ⟨o+1,0,none⟩ (iv a')).setCell ⟨o+1,1,none⟩ (iv b')).setCell ⟨o+1,2,none⟩ (iv x')).setCell ⟨o+1,3,none⟩ (iv y'))=W':=⟨_,rfl⟩;rw [hW]
 have e:∀ j,j≠o+1->W'.heap[j]?=W.heap[j]?:=fun j D=>by
  rw [<-hW];simp only [World.setCell,Array.getElem?_modify]
  rw [if_neg (by omega),if_neg (by omega),if_neg (by omega),if_neg (by omega)]
 have p:W'.heap[o+1]?=some (.cells #[iv a',iv b',iv x',iv y'] 136 (0,0)):=by
  rw [<-hW];simp only [World.setCell,Array.getElem?_modify]
  rw [if_pos trivial,if_pos trivial,if_pos trivial,if_pos trivial,F.e6];rfl
 have r:W'.heap.size=W.heap.size:=by rw [<-hW];simp [World.setCell]
 have E:=F.mo;have C:=F.ws
 have f:=F.stp;refine ⟨(e m (by omega)).trans F.mp,(e o (by omega)).trans F.e3,p,fun i l B=>(e _ (by have:=F.go i;omega)).trans (F.li i l B),F.mo,F.go,⟨F.cor.1,?_⟩,F.ws,⟨?_,?_,?_,by rw [r];exact f.size,fun b A s=>(e b (by omega)).trans (f.block b A s),?_⟩,by rw [r];exact F.sz⟩
 .rcases F.cor.2 with h|⟨g,k,q,t,z,u,l⟩
  .exact .inl h
  .exact .inr ⟨g,k,q,t,z,(e g (by omega)).trans u,l⟩
 .rw [<-hW];exact f.os
 .rw [<-hW];exact f.tape
 .rw [<-hW];exact f.output
 .rw [<-hW];exact f.dr
end
end Go.Proofs
end
section
namespace Go.Proofs
open Go.Shelf Go.RowKit Go.Lib Go.Ab
set_option maxHeartbeats 4000000
set_option maxRecDepth 100000
theorem gL{w:World}{v:Value}{R:List Rect}(hv:DRep w U8 v (DL R))(C:Ctx):ARep w U8 (fun _=>undef) C (.agg #[v]) (.v (.g [.d (DL R)])):=by
 refine .v _ _ (.g _ _ ⟨rfl,fun j e=>?_⟩);have e:j<1:=e
 obtain rfl:j=0:=by omega
 exact .d _ _ hv
theorem Q6W{F:Nat}{a:Re_}{b:Bool}(h:Yx F a=some b){w:World}{v:Value}(hv:DRep w U8 v (DL a.t_)):Calls Tryz.prog 48 #[.agg #[v]] w fun e w'=>e=.returned (.bool b)/\Stp U8 w w':=by
 refine (Yb h w U8 (fun _=>undef) _ (fun b k=>k.elim) (fun b ⟨i,o,f,_⟩=>by cases f) (fun i o f=>by cases f) (fun i j b f=>absurd rfl f) rfl (fun j p=>?_)).mono fun e w' l=>?_
 .obtain rfl:j=0:=by simp at p;omega
  exact gL hv _
 .obtain ⟨v,s,r,k⟩:=l
  refine ⟨?_,k.stp.mono fun b _ q=>by obtain ⟨i,o,f,_⟩:=q;cases f⟩;rw [r]
  have g:=k.res
  cases g with|v _ _ h=>cases h with|c _ _ h=>cases h with|d _ _ h=>cases h;rfl
theorem Ls{w:World}{X:Nat->Prop}{η η' : Nat->Value}:XS (Qr [] w X η) (ls []) η'=X:=by
 funext b
 apply propext;constructor
 .rintro (⟨h,_⟩|⟨i,o,h,_⟩)
  .exact h
  .cases h
 .intro h;exact .inl ⟨h,fun ⟨i,o,hi,_⟩=>by cases hi⟩
theorem Q7j{F:Nat}{a:Re_}{r:List Ab.Edge}(h:Dg F a=some r){w:World}{v:Value}(hv:DRep w U8 v (DL a.t_)):Calls Tryz.prog 64 #[.agg #[v]] w fun e w'=>∃ u,e=.returned u/\DRep w' U8 u (DL r)/\Stp U8 w w':=by
 refine (Q9p h w U8 (fun _=>undef) _ (fun b k=>k.elim) (fun b ⟨i,o,g,_⟩=>by cases g) (fun i o g=>by cases g) (fun i j b g=>absurd rfl g) rfl (fun j p=>?_)).mono fun e w' l=>?_
 .obtain rfl:j=0:=by simp at p;omega
  exact gL hv _
 .obtain ⟨v,t,s,k⟩:=l
  have f:=k.res;rw [Ls] at f
  refine ⟨v,s,?_,k.stp.mono fun b _ q=>by obtain ⟨i,o,g,_⟩:=q;cases g⟩
  cases f with|v _ _ h=>cases h with|c _ _ h=>cases h with|d _ _ h=>exact h
theorem Q7p{F:Nat}{a r:List Ab.Point}(h:cP F a=some r){w:World}{v:Value}{X:Nat->Prop}(hX:∀ b,X b->b<w.heap.size)(hv:DRep w X v (DL a)):Calls Tryz.prog 66 #[v] w fun e w'=>∃ u,e=.returned u/\DRep w' X u (DL r)/\Stp U8 w w':=by
 refine (Q9r h w X (fun _=>undef) _ hX (fun b ⟨i,o,g,_⟩=>by cases g) (fun i o g=>by cases g) (fun i j b g=>absurd rfl g) rfl (fun j p=>?_)).mono fun e w' l=>?_
 .obtain rfl:j=0:=by simp at p;omega
  exact .v _ _ (.c _ _ (.d _ _ hv))
 .obtain ⟨v,t,s,k⟩:=l
  have f:=k.res;rw [Ls] at f
  refine ⟨v,s,?_,k.stp.mono fun b _ q=>by obtain ⟨i,o,g,_⟩:=q;cases g⟩
  cases f with|v _ _ h=>cases h with|c _ _ h=>cases h with|d _ _ h=>exact h
structure Ed (w:World) (v:Value) (ga off cap:Nat):Prop where
 eq:v=.slice (some ⟨ga,off,none⟩) 4 cap
 lt:ga<w.heap.size
 at_:∀ k,k<16->w.cell? ⟨ga,off+k,none⟩=some (([iv 0,iv 0,iv 10,iv 0,iv 0,iv 10,iv 0,iv 0,iv 10,iv 0,iv 10,iv 10,iv 10,iv 10,iv 0,iv 10]:List Value).getD k undef)
theorem Ed.of{w:World}{v:Value}(h:DRep w U8 v (DL (α:=Ab.Edge) [⟨⟨0,0⟩,⟨10,0⟩⟩,⟨⟨0,10⟩,⟨0,0⟩⟩,⟨⟨10,0⟩,⟨10,10⟩⟩,⟨⟨10,10⟩,⟨0,10⟩⟩])):∃ ga off cap,Ed w v ga off cap:=by
 generalize hl:([⟨⟨0,0⟩,⟨10,0⟩⟩,⟨⟨0,10⟩,⟨0,0⟩⟩,⟨⟨10,0⟩,⟨10,10⟩⟩,⟨⟨10,10⟩,⟨0,10⟩⟩]:List Ab.Edge)=l at h;have r:l.length=4:=by rw [<-hl];rfl
 unfold DL at h;rw [r] at h
 cases h with|lst b off _ cap c e fz _ es h1 h2 h3 h4 h5 h6=>
 have j:=h5 0 (by omega);have g:(LF l 0).length=4:=by rw [<-hl];rfl
 obtain rfl:es=4:=j.symm.trans g;refine ⟨b,off,cap,rfl,J5 h2,fun k q=>?_⟩
 have f:off+k<c.size:=by omega
 have p:w.cell? ⟨b,off+k,none⟩=some (c.getD (off+k) undef):=by
  simp [World.cell?,h2,f]
 rw [p];congr 1
 have i:=h6 (k / 4) (k % 4) (by omega) (by omega);have e:k / 4*4+k % 4=k:=by omega
 rw [e] at i;generalize c.getD (off+k) undef=u at i ⊢
 clear p h6 h2 f
 have q:k=0\/k=1\/k=2\/k=3\/k=4\/k=5\/k=6\/k=7\/k=8\/k=9\/k=10\/k=11\/k=12\/k=13\/k=14\/k=15:=by omega
 subst hl;rcases q with rfl|rfl|rfl|rfl|rfl|rfl|rfl|rfl|rfl|rfl|rfl|rfl|rfl|rfl|rfl|rfl <;> (cases i;rfl)
end Go.Proofs
end
section
namespace Go.Proofs
open Go.Shelf Go.RowKit Go.Lib Go.Ab
set_option maxHeartbeats 4000000
set_option maxRecDepth 100000
theorem Z3a{W:World}{g T:Nat}{u:Value}{Z:Array Value}(h:W.heap[g]?=some (.cells (#[u]++Z) T (0,0))):W.cell? ⟨g,0,none⟩=some u:=by
 simp [World.cell?,h,Array.getElem?_append]
theorem Q7g{W:World}{g c b off cp:Nat}{Z:Array Value}(h:W.heap[g]?=some (.cells (#[.slice (some ⟨b,off,none⟩) 4 cp]++Z) 98 (0,0))):
  Calls Tryz.prog 135 #[.slice (some ⟨g,0,none⟩) 1 c,.func (.func 69) #[] #[]] W fun e w'=>e=.returned (iv (-1))/\Stp U8 W w':=by
 have f:=Z3a h
 go_enter Tryz.func135,Tryz.ntmps135
 go_wp2
 refine wp_loop_rounds 2 ?_;rw [rounds_succ]
 go_wp2
 rw [rounds_succ]
 go_wp2
 go_ret
 exact ⟨rfl,Stp.refl _ _⟩
theorem Q7n{W:World}{g c b off cp:Nat}{Z:Array Value}(h:W.heap[g]?=some (.cells (#[.slice (some ⟨b,off,none⟩) 4 cp]++Z) 98 (0,0))):
  Calls Tryz.prog 68 #[.slice (some ⟨g,0,none⟩) 1 c,.func (.func 69) #[] #[]] W fun e w'=>e=.returned (.bool false)/\Stp U8 W w':=by
 go_enter Tryz.func68,Tryz.ntmps68
 go_wp2_with (go_at_call 135;refine (Q7g h).mono ?_;rintro e w' ⟨rfl,st⟩)
 go_ret
 exact ⟨rfl,st⟩
theorem Q7f{W:World}{g c:Nat}(f:Value):Calls Tryz.prog 190 #[.slice (some ⟨g,0,none⟩) 1 c,iv 0,iv 1,f] W fun e w'=>(∃ v,e=.returned v)/\Stp U8 W w':=by
 go_enter Tryz.func190,Tryz.ntmps190
 go_wp2
 refine wp_loop_rounds 1 ?_;rw [rounds_succ]
 go_wp2
 go_returns
 exact ⟨⟨_,rfl⟩,Stp.refl _ _⟩
theorem Q6Z{W:World}{g c:Nat}(n:Int)(f:Value):Calls Tryz.prog 136 #[.slice (some ⟨g,0,none⟩) 1 c,iv 0,iv 1,iv n,f] W fun e w'=>(∃ v,e=.returned v)/\Stp U8 W w':=by
 go_enter Tryz.func136,Tryz.ntmps136
 go_wp2
 refine wp_loop_rounds 1 ?_;rw [rounds_succ]
 go_wp2_with (go_at_call 190;refine (Q7f _).mono ?_;rintro e w' ⟨⟨v,rfl⟩,st⟩)
 go_returns
 exact ⟨⟨_,rfl⟩,st⟩
theorem Q7c(W:World):Calls Tryz.prog 199 #[.int .u64 1] W fun e w'=>e=.returned (iv 1)/\w'=W:=by
 go_enter Tryz.func199,Tryz.ntmps199
 go_wp2
 go_ret
 exact ⟨by kernel_rfl,rfl⟩
theorem Q7b(W:World):Calls Tryz.prog 137 #[.int .u64 1] W fun e w'=>e=.returned (iv 1)/\w'=W:=by
 go_enter Tryz.func137,Tryz.ntmps137
 go_wp2_with (go_at_call 199;refine (Q7c _).mono ?_;rintro e w' ⟨rfl,rfl⟩)
 go_ret
 exact ⟨rfl,rfl⟩
theorem Q6X{W:World}{g c:Nat}(f:Value):Calls Tryz.prog 70 #[.slice (some ⟨g,0,none⟩) 1 c,f] W fun e w'=>(∃ v,e=.returned v)/\Stp U8 W w':=by
 go_enter Tryz.func70,Tryz.ntmps70
 go_wp2_with (first
  | (go_at_call 137;refine (Q7b _).mono ?_;rintro e w' ⟨rfl,rfl⟩)
  | (go_at_call 136;refine (Q6Z _ _).mono ?_;rintro e w' ⟨⟨v,rfl⟩,st⟩))
 go_returns
 exact ⟨⟨_,rfl⟩,st⟩
end Go.Proofs
end
section
namespace Go.Proofs
open Go.Shelf Go.RowKit Go.Lib Go.Ab
set_option maxHeartbeats 8000000
set_option maxRecDepth 100000
theorem Cs(W:World)(T:Nat)(p q:Value):∀ j u,[p,q][j]?=some u->(W.alloc (.cells #[p,q] T)).cell? ((⟨W.heap.size,0,none⟩:Addr).add j)=some u:=by
 intro j u e
 match j,e with
 | 0,e=>
  simp at e
  subst e;simp [Addr.add]
 | 1,e=>
  simp at e
  subst e;simp [Addr.add]
theorem Ss:∃ i z,Tryz.prog.info? 134=some i/\i.zero=some z/\i.size=2/\i.bytes<=1000/\z.cells.size=2:=by
 obtain ⟨i,dd,z,h⟩:=Zw 134 ⟨.struct [(0,3),(1,3)],2,16,[.d (.int .i64 0),.d (.int .i64 0)]⟩ (by kernel_rfl);exact ⟨i,z,h.info,h.zero,h.size,by rw [h.bytes];decide,(h.zrep default (fun _=>False) (fun _=>undef) (Qr [] default (fun _=>False) fun _=>undef)).1⟩
theorem Su:Tryz.prog.underlying 98=some (.slice 134):=by kernel_rfl
theorem Qm{w:World}{g:Nat}{p q r s:Value}(h:w.heap[g]?=some (.cells #[p,q,r,s] 136 (0,0))):(w.cell? ⟨g,0,none⟩=some p/\w.cell? ⟨g,1,none⟩=some q/\w.cell? ⟨g,2,none⟩=some r/\w.cell? ⟨g,3,none⟩=some s)/\w.frozen? ⟨g,0,none⟩=false/\w.frozen? ⟨g,1,none⟩=false/\w.frozen? ⟨g,2,none⟩=false/\w.frozen? ⟨g,3,none⟩=false:=by
 refine ⟨⟨?_,?_,?_,?_⟩,?_,?_,?_,?_⟩ <;> first | (simp [World.cell?,h];done) | (simp [World.frozen?,h];done)
theorem Re(g c:Nat)(cur:Array Value)(w:World)(h:w.heap[g]?=some (.cells cur 136 (0,0)))(hc:cur.size=c*4)(h1:1<=c)(h2:c<=maxLen):Calls Tryz.prog 134 #[.slice (some ⟨g,0,none⟩) 1 c,iv 0,.int .i64 (IntKind.i64.wrap 1)] w fun e w'=>e=.returned (.slice (some ⟨g,0,none⟩) 0 c)/\Stp (fun b=>b=g) w w' /\ w'.heap.size=w.heap.size:=by
 have e:IntKind.i64.wrap 1=1:=by decide
 rw [e];exact Q7k g c cur w h hc h1 h2
theorem Q7h{w:World}{m ck:Nat}{gs cs:Nat->Nat}{row:Nat->Array Value}(hm:w.heap[m]?=some (.map #[ZK (sv (gs 0) 1 (cs 0)),ZW (sv (gs 1) 1 (cs 1)),Ym (sv (gs 2) 1 (cs 2)),YM (sv (gs 3) 1 (cs 3))] ck))(hr:∀ i,w.heap[gs i]?=some (.cells (row i) 136 (0,0)))(r0:∃ Z,row 0=#[iv 0,iv 0,iv 10,iv 0]++Z)(r1:∃ Z,row 1=#[iv 0,iv 10,iv 0,iv 0]++Z)(r2:∃ Z,row 2=#[iv 10,iv 0,iv 10,iv 10]++Z)(r3:∃ Z,row 3=#[iv 10,iv 10,iv 0,iv 10]++Z)(hc:∀ i,(row i).size=cs i*4/\1<=cs i/\cs i<=maxLen)(hd:∀ i j,i<4->j<4->gs i=gs j->i=j)(hmg:∀ i,m≠gs i):
  Calls Tryz.prog 67 #[.map (some m),ev 0 0 10 0] w fun e w'=>∃ v,e=.returned v/\w'.ownsRow w.heap.size 134 2 v 4 [iv 10,iv 0,iv 10,iv 10,iv 0,iv 10,iv 0,iv 0]/\w'.heap[m]?=some (.map #[ZK (sv (gs 0) 0 (cs 0)),ZW (sv (gs 1) 0 (cs 1)),Ym (sv (gs 2) 0 (cs 2)),YM (sv (gs 3) 0 (cs 3))] ck)/\Stp (fun b=>b=m\/∃ i,b=gs i) w w':=by
 obtain ⟨o,ho⟩:∃ o,w.heap.size=o:=⟨_,rfl⟩;have e0:m<o:=ho ▸ J5 hm
 have b1:∀ i,gs i<o:=fun i=>ho ▸ J5 (hr i)
 go_enter Tryz.func67,Tryz.ntmps67
 go_wp2
 obtain ⟨W,hW⟩:∃ W,(w.alloc (.cells #[iv 0,iv 0,iv 10,iv 0] 136)).alloc (.cells #[iv 0,iv 0,iv 10,iv 0] 136)=W:=⟨_,rfl⟩;have F:Fo w W m ck o #[ZK (sv (gs 0) 1 (cs 0)),ZW (sv (gs 1) 1 (cs 1)),Ym (sv (gs 2) 1 (cs 2)),YM (sv (gs 3) 1 (cs 3))] 0 0 10 0 gs row (fun _=>true) (.slice none 0 0) 0 []:=by
  have e1:∀ k,k<o->W.heap[k]?=w.heap[k]?:=fun k hk=>by
   rw [<-hW];exact (Below.heap_alloc _ _ k (by simp;omega)).trans (Below.heap_alloc _ _ k (by omega))
  refine ⟨(e1 m e0).trans hm,?_,?_,fun i _ _=>(e1 _ (b1 i)).trans (hr i),e0,b1,World.ownsRow_nil _ _ _ _,ho,?_,?_⟩
  .rw [<-hW, <-ho];exact (Below.heap_alloc _ _ _ (by simp)).trans (World.alloc_heap_new _ _)
  .have:=World.alloc_heap_new (w.alloc (.cells #[iv 0,iv 0,iv 10,iv 0] 136)) (.cells #[iv 0,iv 0,iv 10,iv 0] 136)
   rwa [World.size_alloc,ho,hW] at this
  .rw [<-hW];exact (QT (Stp.alloc U8 _ _) (Stp.alloc U8 _ _)).mono fun _ _ h=>h.elim
  .rw [<-hW, <-ho];simp
 change Code.wp _ _ _ _ ((w.alloc (.cells #[iv 0,iv 0,iv 10,iv 0] 136)).alloc (.cells #[iv 0,iv 0,iv 10,iv 0] 136));rw [hW]
 clear hW
 refine wp_loop_rounds 4 ?_;rw [rounds_succ]
 have lk:=Jn F.mp (zZ _ _ _ _);obtain ⟨Z,hZ⟩:=r2
 have p:=F.li 2 (by omega) rfl;have hl:=p
 have sz:=F.sz;have b4:=b1 2
 have n3:gs 2<W.heap.size:=by omega
 rw [hZ] at hl;obtain ⟨q0,q1,q2,q3⟩:=DY hl
 obtain ⟨⟨U,X,V,Y⟩, -⟩:=Qm F.e6
 go_wp2
 go_region
 go_wp2
 have B:Stp U8 W ((W.alloc (.cells #[iv 10,iv 0,iv 10,iv 10] 136)).drew):=QT (Stp.alloc U8 W _) (Uw _);have l:=F.mono B
 clear B
 have C:((W.alloc (.cells #[iv 10,iv 0,iv 10,iv 10] 136)).drew).heap[W.heap.size]?=some (.cells #[iv 10,iv 0,iv 10,iv 10] 136 (0,0)):=World.alloc_heap_new _ _;change Code.wp _ _ _ _ ((W.alloc (.cells #[iv 10,iv 0,iv 10,iv 10] 136)).drew)
 generalize ((W.alloc (.cells #[iv 10,iv 0,iv 10,iv 10] 136)).drew)=W5 at l C ⊢;obtain ⟨o9,ho9⟩:∃ o9,W.heap.size=o9:=⟨_,rfl⟩
 rw [ho9] at C sz ⊢;have M:some o9≠((.slice none 0 0):Value).ownBlock:=fun e=>by
  have:=(F.cor.lt _ e.symm).2
  omega
 clear lk p hl U X V Y q0 q1 q2 q3 n3 F hZ Z
 apply wp_mono (Q:=(fun (A:Act) e a' W2=>match e with | .normal=>a'=A/\Fo w W2 m ck o #[ZK (sv (gs 0) 1 (cs 0)),ZW (sv (gs 1) 1 (cs 1)),Ym (sv (gs 2) 0 (cs 2)),YM (sv (gs 3) 1 (cs 3))] 0 0 10 0 gs row (fun i=>true&&i != 2) (.slice none 0 0) 0 []/\W2.heap[o9]?=some (.cells #[iv 10,iv 0,iv 10,iv 10] 136 (0,0)) | _=>False) _)
 case h=>
  have p:=l.li 2 (by omega) rfl;have c4:Tryz.prog.follows .mixedOrders=true:=by kernel_rfl
  have a4:=J5 l.e6;have c0:=J5 C
  have a2:=J5 l.mp;obtain ⟨⟨U,X,V,Y⟩, -⟩:=Qm l.e6
  go_region_with_o (go_at_call 134;refine (Re (gs 2) (cs 2) (row 2) _ (by exact p) (hc 2).1 (hc 2).2.1 (hc 2).2.2).mono ?_;rintro e W' ⟨rfl,st,hs⟩;have a5 : W'.heap[m]?=_:=(st.block m (by exact a2) (hmg 2)).trans l.mp;have up:=Rb a5 (zZ _ _ _ _) rfl (v:=sv (gs 2) 0 (cs 2));have a6 : W'.heap[o+1]?=_:=(st.block (o+1) (by exact a4) (by omega)).trans l.e6;obtain ⟨⟨S,I,P,R⟩, -⟩:=Qm a6)
  all_goals
   obtain ⟨E,k6⟩:=l.del (es':=#[ZK (sv (gs 0) 1 (cs 0)),ZW (sv (gs 1) 1 (cs 1)),Ym (sv (gs 2) 0 (cs 2)),YM (sv (gs 3) 1 (cs 3))]) (ck:=ck) 2 (by omega) st hs hd hmg;exact ⟨rfl,E,(k6 _ (by assumption) (by omega) (by omega)).trans C⟩
 intro e a' W6 h;have hn:e=.normal:=by cases e <;> first|rfl|exact (h:False).elim
 subst hn;obtain ⟨rfl,E,r⟩:=h
 clear l C
 obtain ⟨⟨U,X,V,Y⟩, -⟩:=Qm E.e6;obtain ⟨⟨q0,q1,q2,q3⟩, -⟩:=Qm r
 obtain ⟨pi,pz,N,L,G,O,t⟩:=Ss;simp only [Exit.then]
 go_wp2_with (first
  | (go_at_call 133;refine (Rc (tn1 0) _).mono ?_;rintro e J ⟨rfl,u⟩;have D:=E.mono u;have q:J.heap[o9]?=_:=(u.block o9 (by exact J5 r) fun h=>h).trans r;obtain ⟨⟨S,I,P,R⟩, -⟩:=Qm D.e6)
  | (at_builtin;refine Uu rfl _ _ 98 rfl rfl Su N L G O t (by decide) rfl (D.mono (W':=J.alloc (.cells #[iv 10,iv 0] 134)) (Stp.alloc U8 _ _)).cor rfl rfl (Cs _ _ _ _) (by simp [Value.oneCell']) (by omega) (by have:=D.sz;simp;omega) ?_;intro v0 W8 s f T K;have z:=(D.mono (W':=J.alloc (.cells #[iv 10,iv 0] 134)) (Stp.alloc U8 _ _)).app s f K;have H:W8.heap[o9]?=_:=(z.2 o9 (by have:=J5 q;simp;omega) M).trans ((Below.heap_alloc _ _ o9 (J5 q)).trans q);obtain ⟨⟨b6,b2,b5,b3⟩, -⟩:=Qm H;obtain ⟨⟨t0,t1,t2,t3⟩, -⟩:=Qm z.1.e3;obtain ⟨⟨s0,s1,s2,s3⟩,f0,f1,f2,f3⟩:=Qm z.1.e6))
 have F:=z.1.now 10 0 10 10;change Code.rounds _ _ _ _ _ ((((W8.setCell ⟨o+1,0,none⟩ (iv 10)).setCell ⟨o+1,1,none⟩ (iv 0)).setCell ⟨o+1,2,none⟩ (iv 10)).setCell ⟨o+1,3,none⟩ (iv 10))
 generalize ((((W8.setCell ⟨o+1,0,none⟩ (iv 10)).setCell ⟨o+1,1,none⟩ (iv 0)).setCell ⟨o+1,2,none⟩ (iv 10)).setCell ⟨o+1,3,none⟩ (iv 10))=W at F ⊢;generalize J.heap.size=o7
 clear E r M U X V Y q0 q1 q2 q3 pi pz N L G O t s f T K z H b6 b2 b5 b3 t0 t1 t2 t3 s0 s1 s2 s3 f0 f1 f2 f3 D q S I P R u sz b4 ho9 W8 J W6
 rw [rounds_succ];have lk:=Jn F.mp (zY _ _ _ _)
 obtain ⟨Z,hZ⟩:=r3;have p:=F.li 3 (by omega) rfl
 have hl:=p;have sz:=F.sz
 have b4:=b1 3;have n3:gs 3<W.heap.size:=by omega
 rw [hZ] at hl;obtain ⟨q0,q1,q2,q3⟩:=DY hl
 obtain ⟨⟨U,X,V,Y⟩, -⟩:=Qm F.e6
 go_wp2
 go_region
 go_wp2
 have B:Stp U8 W ((W.alloc (.cells #[iv 10,iv 10,iv 0,iv 10] 136)).drew):=QT (Stp.alloc U8 W _) (Uw _);have l:=F.mono B
 clear B
 have C:((W.alloc (.cells #[iv 10,iv 10,iv 0,iv 10] 136)).drew).heap[W.heap.size]?=some (.cells #[iv 10,iv 10,iv 0,iv 10] 136 (0,0)):=World.alloc_heap_new _ _;change Code.wp _ _ _ _ ((W.alloc (.cells #[iv 10,iv 10,iv 0,iv 10] 136)).drew)
 generalize ((W.alloc (.cells #[iv 10,iv 10,iv 0,iv 10] 136)).drew)=W5 at l C ⊢;obtain ⟨o9,ho9⟩:∃ o9,W.heap.size=o9:=⟨_,rfl⟩
 rw [ho9] at C sz ⊢;have M:some o9≠(v0:Value).ownBlock:=fun e=>by
  have:=(F.cor.lt _ e.symm).2
  omega
 clear lk p hl U X V Y q0 q1 q2 q3 n3 F hZ Z
 apply wp_mono (Q:=(fun (A:Act) e a' W2=>match e with | .normal=>a'=A/\Fo w W2 m ck o #[ZK (sv (gs 0) 1 (cs 0)),ZW (sv (gs 1) 1 (cs 1)),Ym (sv (gs 2) 0 (cs 2)),YM (sv (gs 3) 0 (cs 3))] 10 0 10 10 gs row (fun i=>((true&&i != 2)&&i != 3)) v0 1 ([]++[iv 10,iv 0])/\W2.heap[o9]?=some (.cells #[iv 10,iv 10,iv 0,iv 10] 136 (0,0)) | _=>False) _)
 case h=>
  have p:=l.li 3 (by omega) rfl;have c4:Tryz.prog.follows .mixedOrders=true:=by kernel_rfl
  have a4:=J5 l.e6;have c0:=J5 C
  have a2:=J5 l.mp;obtain ⟨⟨U,X,V,Y⟩, -⟩:=Qm l.e6
  go_region_with_o (go_at_call 134;refine (Re (gs 3) (cs 3) (row 3) _ (by exact p) (hc 3).1 (hc 3).2.1 (hc 3).2.2).mono ?_;rintro e W' ⟨rfl,st,hs⟩;have a5 : W'.heap[m]?=_:=(st.block m (by exact a2) (hmg 3)).trans l.mp;have up:=Rb a5 (zY _ _ _ _) rfl (v:=sv (gs 3) 0 (cs 3));have a6 : W'.heap[o+1]?=_:=(st.block (o+1) (by exact a4) (by omega)).trans l.e6;obtain ⟨⟨S,I,P,R⟩, -⟩:=Qm a6)
  all_goals
   obtain ⟨E,k6⟩:=l.del (es':=#[ZK (sv (gs 0) 1 (cs 0)),ZW (sv (gs 1) 1 (cs 1)),Ym (sv (gs 2) 0 (cs 2)),YM (sv (gs 3) 0 (cs 3))]) (ck:=ck) 3 (by omega) st hs hd hmg;exact ⟨rfl,E,(k6 _ (by assumption) (by omega) (by omega)).trans C⟩
 intro e a' W6 h;have hn:e=.normal:=by cases e <;> first|rfl|exact (h:False).elim
 subst hn;obtain ⟨rfl,E,r⟩:=h
 clear l C
 obtain ⟨⟨U,X,V,Y⟩, -⟩:=Qm E.e6;obtain ⟨⟨q0,q1,q2,q3⟩, -⟩:=Qm r
 obtain ⟨pi,pz,N,L,G,O,t⟩:=Ss;simp only [Exit.then]
 go_wp2_with (first
  | (go_at_call 133;refine (Rc (tn2 0) _).mono ?_;rintro e J ⟨rfl,u⟩;have D:=E.mono u;have q:J.heap[o9]?=_:=(u.block o9 (by exact J5 r) fun h=>h).trans r;obtain ⟨⟨S,I,P,R⟩, -⟩:=Qm D.e6)
  | (at_builtin;refine Uu rfl _ _ 98 rfl rfl Su N L G O t (by decide) rfl (D.mono (W':=J.alloc (.cells #[iv 10,iv 10] 134)) (Stp.alloc U8 _ _)).cor rfl rfl (Cs _ _ _ _) (by simp [Value.oneCell']) (by omega) (by have:=D.sz;simp;omega) ?_;intro v1 W8 s f T K;have z:=(D.mono (W':=J.alloc (.cells #[iv 10,iv 10] 134)) (Stp.alloc U8 _ _)).app s f K;have H:W8.heap[o9]?=_:=(z.2 o9 (by have:=J5 q;simp;omega) M).trans ((Below.heap_alloc _ _ o9 (J5 q)).trans q);obtain ⟨⟨b6,b2,b5,b3⟩, -⟩:=Qm H;obtain ⟨⟨t0,t1,t2,t3⟩, -⟩:=Qm z.1.e3;obtain ⟨⟨s0,s1,s2,s3⟩,f0,f1,f2,f3⟩:=Qm z.1.e6))
 have F:=z.1.now 10 10 0 10;change Code.rounds _ _ _ _ _ ((((W8.setCell ⟨o+1,0,none⟩ (iv 10)).setCell ⟨o+1,1,none⟩ (iv 10)).setCell ⟨o+1,2,none⟩ (iv 0)).setCell ⟨o+1,3,none⟩ (iv 10))
 generalize ((((W8.setCell ⟨o+1,0,none⟩ (iv 10)).setCell ⟨o+1,1,none⟩ (iv 10)).setCell ⟨o+1,2,none⟩ (iv 0)).setCell ⟨o+1,3,none⟩ (iv 10))=W at F ⊢;generalize J.heap.size=o7
 clear E r M U X V Y q0 q1 q2 q3 pi pz N L G O t s f T K z H b6 b2 b5 b3 t0 t1 t2 t3 s0 s1 s2 s3 f0 f1 f2 f3 D q S I P R u sz b4 ho9 W8 J W6
 rw [rounds_succ];have lk:=Jn F.mp (ya _ _ _ _)
 obtain ⟨Z,hZ⟩:=r1;have p:=F.li 1 (by omega) rfl
 have hl:=p;have sz:=F.sz
 have b4:=b1 1;have n3:gs 1<W.heap.size:=by omega
 rw [hZ] at hl;obtain ⟨q0,q1,q2,q3⟩:=DY hl
 obtain ⟨⟨U,X,V,Y⟩, -⟩:=Qm F.e6
 go_wp2
 go_region
 go_wp2
 have B:Stp U8 W ((W.alloc (.cells #[iv 0,iv 10,iv 0,iv 0] 136)).drew):=QT (Stp.alloc U8 W _) (Uw _);have l:=F.mono B
 clear B
 have C:((W.alloc (.cells #[iv 0,iv 10,iv 0,iv 0] 136)).drew).heap[W.heap.size]?=some (.cells #[iv 0,iv 10,iv 0,iv 0] 136 (0,0)):=World.alloc_heap_new _ _;change Code.wp _ _ _ _ ((W.alloc (.cells #[iv 0,iv 10,iv 0,iv 0] 136)).drew)
 generalize ((W.alloc (.cells #[iv 0,iv 10,iv 0,iv 0] 136)).drew)=W5 at l C ⊢;obtain ⟨o9,ho9⟩:∃ o9,W.heap.size=o9:=⟨_,rfl⟩
 rw [ho9] at C sz ⊢;have M:some o9≠(v1:Value).ownBlock:=fun e=>by
  have:=(F.cor.lt _ e.symm).2
  omega
 clear lk p hl U X V Y q0 q1 q2 q3 n3 F hZ Z
 apply wp_mono (Q:=(fun (A:Act) e a' W2=>match e with | .normal=>a'=A/\Fo w W2 m ck o #[ZK (sv (gs 0) 1 (cs 0)),ZW (sv (gs 1) 0 (cs 1)),Ym (sv (gs 2) 0 (cs 2)),YM (sv (gs 3) 0 (cs 3))] 10 10 0 10 gs row (fun i=>(((true&&i != 2)&&i != 3)&&i != 1)) v1 2 (([]++[iv 10,iv 0])++[iv 10,iv 10])/\W2.heap[o9]?=some (.cells #[iv 0,iv 10,iv 0,iv 0] 136 (0,0)) | _=>False) _)
 case h=>
  have p:=l.li 1 (by omega) rfl;have c4:Tryz.prog.follows .mixedOrders=true:=by kernel_rfl
  have a4:=J5 l.e6;have c0:=J5 C
  have a2:=J5 l.mp;obtain ⟨⟨U,X,V,Y⟩, -⟩:=Qm l.e6
  go_region_with_o (go_at_call 134;refine (Re (gs 1) (cs 1) (row 1) _ (by exact p) (hc 1).1 (hc 1).2.1 (hc 1).2.2).mono ?_;rintro e W' ⟨rfl,st,hs⟩;have a5 : W'.heap[m]?=_:=(st.block m (by exact a2) (hmg 1)).trans l.mp;have up:=Rb a5 (ya _ _ _ _) rfl (v:=sv (gs 1) 0 (cs 1));have a6 : W'.heap[o+1]?=_:=(st.block (o+1) (by exact a4) (by omega)).trans l.e6;obtain ⟨⟨S,I,P,R⟩, -⟩:=Qm a6)
  all_goals
   obtain ⟨E,k6⟩:=l.del (es':=#[ZK (sv (gs 0) 1 (cs 0)),ZW (sv (gs 1) 0 (cs 1)),Ym (sv (gs 2) 0 (cs 2)),YM (sv (gs 3) 0 (cs 3))]) (ck:=ck) 1 (by omega) st hs hd hmg;exact ⟨rfl,E,(k6 _ (by assumption) (by omega) (by omega)).trans C⟩
 intro e a' W6 h;have hn:e=.normal:=by cases e <;> first|rfl|exact (h:False).elim
 subst hn;obtain ⟨rfl,E,r⟩:=h
 clear l C
 obtain ⟨⟨U,X,V,Y⟩, -⟩:=Qm E.e6;obtain ⟨⟨q0,q1,q2,q3⟩, -⟩:=Qm r
 obtain ⟨pi,pz,N,L,G,O,t⟩:=Ss;simp only [Exit.then]
 go_wp2_with (first
  | (go_at_call 133;refine (Rc (tn3 0) _).mono ?_;rintro e J ⟨rfl,u⟩;have D:=E.mono u;have q:J.heap[o9]?=_:=(u.block o9 (by exact J5 r) fun h=>h).trans r;obtain ⟨⟨S,I,P,R⟩, -⟩:=Qm D.e6)
  | (at_builtin;refine Uu rfl _ _ 98 rfl rfl Su N L G O t (by decide) rfl (D.mono (W':=J.alloc (.cells #[iv 0,iv 10] 134)) (Stp.alloc U8 _ _)).cor rfl rfl (Cs _ _ _ _) (by simp [Value.oneCell']) (by omega) (by have:=D.sz;simp;omega) ?_;intro v2 W8 s f T K;have z:=(D.mono (W':=J.alloc (.cells #[iv 0,iv 10] 134)) (Stp.alloc U8 _ _)).app s f K;have H:W8.heap[o9]?=_:=(z.2 o9 (by have:=J5 q;simp;omega) M).trans ((Below.heap_alloc _ _ o9 (J5 q)).trans q);obtain ⟨⟨b6,b2,b5,b3⟩, -⟩:=Qm H;obtain ⟨⟨t0,t1,t2,t3⟩, -⟩:=Qm z.1.e3;obtain ⟨⟨s0,s1,s2,s3⟩,f0,f1,f2,f3⟩:=Qm z.1.e6))
 have F:=z.1.now 0 10 0 0;change Code.rounds _ _ _ _ _ ((((W8.setCell ⟨o+1,0,none⟩ (iv 0)).setCell ⟨o+1,1,none⟩ (iv 10)).setCell ⟨o+1,2,none⟩ (iv 0)).setCell ⟨o+1,3,none⟩ (iv 0))
 generalize ((((W8.setCell ⟨o+1,0,none⟩ (iv 0)).setCell ⟨o+1,1,none⟩ (iv 10)).setCell ⟨o+1,2,none⟩ (iv 0)).setCell ⟨o+1,3,none⟩ (iv 0))=W at F ⊢;generalize J.heap.size=o7
 clear E r M U X V Y q0 q1 q2 q3 pi pz N L G O t s f T K z H b6 b2 b5 b3 t0 t1 t2 t3 s0 s1 s2 s3 f0 f1 f2 f3 D q S I P R u sz b4 ho9 W8 J W6
 rw [rounds_succ];have lk:=Jn F.mp (yb _ _ _ _)
 obtain ⟨Z,hZ⟩:=r0;have p:=F.li 0 (by omega) rfl
 have hl:=p;have sz:=F.sz
 have b4:=b1 0;have n3:gs 0<W.heap.size:=by omega
 rw [hZ] at hl;obtain ⟨q0,q1,q2,q3⟩:=DY hl
 obtain ⟨⟨U,X,V,Y⟩, -⟩:=Qm F.e6
 go_wp2
 go_region
 go_wp2
 have B:Stp U8 W ((W.alloc (.cells #[iv 0,iv 0,iv 10,iv 0] 136)).drew):=QT (Stp.alloc U8 W _) (Uw _);have l:=F.mono B
 clear B
 have C:((W.alloc (.cells #[iv 0,iv 0,iv 10,iv 0] 136)).drew).heap[W.heap.size]?=some (.cells #[iv 0,iv 0,iv 10,iv 0] 136 (0,0)):=World.alloc_heap_new _ _;change Code.wp _ _ _ _ ((W.alloc (.cells #[iv 0,iv 0,iv 10,iv 0] 136)).drew)
 generalize ((W.alloc (.cells #[iv 0,iv 0,iv 10,iv 0] 136)).drew)=W5 at l C ⊢;obtain ⟨o9,ho9⟩:∃ o9,W.heap.size=o9:=⟨_,rfl⟩
 rw [ho9] at C sz ⊢;have M:some o9≠(v2:Value).ownBlock:=fun e=>by
  have:=(F.cor.lt _ e.symm).2
  omega
 clear lk p hl U X V Y q0 q1 q2 q3 n3 F hZ Z
 apply wp_mono (Q:=(fun (A:Act) e a' W2=>match e with | .normal=>a'=A/\Fo w W2 m ck o #[ZK (sv (gs 0) 0 (cs 0)),ZW (sv (gs 1) 0 (cs 1)),Ym (sv (gs 2) 0 (cs 2)),YM (sv (gs 3) 0 (cs 3))] 0 10 0 0 gs row (fun i=>((((true&&i != 2)&&i != 3)&&i != 1)&&i != 0)) v2 3 ((([]++[iv 10,iv 0])++[iv 10,iv 10])++[iv 0,iv 10])/\W2.heap[o9]?=some (.cells #[iv 0,iv 0,iv 10,iv 0] 136 (0,0)) | _=>False) _)
 case h=>
  have p:=l.li 0 (by omega) rfl;have c4:Tryz.prog.follows .mixedOrders=true:=by kernel_rfl
  have a4:=J5 l.e6;have c0:=J5 C
  have a2:=J5 l.mp;obtain ⟨⟨U,X,V,Y⟩, -⟩:=Qm l.e6
  go_region_with_o (go_at_call 134;refine (Re (gs 0) (cs 0) (row 0) _ (by exact p) (hc 0).1 (hc 0).2.1 (hc 0).2.2).mono ?_;rintro e W' ⟨rfl,st,hs⟩;have a5 : W'.heap[m]?=_:=(st.block m (by exact a2) (hmg 0)).trans l.mp;have up:=Rb a5 (yb _ _ _ _) rfl (v:=sv (gs 0) 0 (cs 0));have a6 : W'.heap[o+1]?=_:=(st.block (o+1) (by exact a4) (by omega)).trans l.e6;obtain ⟨⟨S,I,P,R⟩, -⟩:=Qm a6)
  all_goals
   obtain ⟨E,k6⟩:=l.del (es':=#[ZK (sv (gs 0) 0 (cs 0)),ZW (sv (gs 1) 0 (cs 1)),Ym (sv (gs 2) 0 (cs 2)),YM (sv (gs 3) 0 (cs 3))]) (ck:=ck) 0 (by omega) st hs hd hmg;exact ⟨rfl,E,(k6 _ (by assumption) (by omega) (by omega)).trans C⟩
 intro e a' W6 h;have hn:e=.normal:=by cases e <;> first|rfl|exact (h:False).elim
 subst hn;obtain ⟨rfl,E,r⟩:=h
 clear l C
 obtain ⟨⟨U,X,V,Y⟩, -⟩:=Qm E.e6;obtain ⟨⟨q0,q1,q2,q3⟩, -⟩:=Qm r
 obtain ⟨pi,pz,N,L,G,O,t⟩:=Ss;simp only [Exit.then]
 go_wp2_with (first
  | (go_at_call 133;refine (Rc (tn4 0) _).mono ?_;rintro e J ⟨rfl,u⟩;have D:=E.mono u;have q:J.heap[o9]?=_:=(u.block o9 (by exact J5 r) fun h=>h).trans r;obtain ⟨⟨S,I,P,R⟩, -⟩:=Qm D.e6)
  | (at_builtin;refine Uu rfl _ _ 98 rfl rfl Su N L G O t (by decide) rfl (D.mono (W':=J.alloc (.cells #[iv 0,iv 0] 134)) (Stp.alloc U8 _ _)).cor rfl rfl (Cs _ _ _ _) (by simp [Value.oneCell']) (by omega) (by have:=D.sz;simp;omega) ?_;intro v3 W8 s f T K;have z:=(D.mono (W':=J.alloc (.cells #[iv 0,iv 0] 134)) (Stp.alloc U8 _ _)).app s f K;have H:W8.heap[o9]?=_:=(z.2 o9 (by have:=J5 q;simp;omega) M).trans ((Below.heap_alloc _ _ o9 (J5 q)).trans q);obtain ⟨⟨b6,b2,b5,b3⟩, -⟩:=Qm H;obtain ⟨⟨t0,t1,t2,t3⟩, -⟩:=Qm z.1.e3;obtain ⟨⟨s0,s1,s2,s3⟩,f0,f1,f2,f3⟩:=Qm z.1.e6))
 go_ret
 refine ⟨v3,rfl,⟨z.1.cor.1,?_⟩,z.1.mp,z.1.stp⟩;rcases z.1.cor.2 with h|⟨g,e2,e4,h1,h2,h3⟩
 .exact .inl h
 .exact .inr ⟨g,e2,e4,h1,by omega,h3⟩
end Go.Proofs
end
section
namespace Go.Proofs
open Go.Shelf Go.RowKit Go.Lib Go.Ab
set_option maxHeartbeats 4000000
set_option maxRecDepth 100000
theorem Lj(W:World)(m:Nat)(es:Array MapEntry)(k:Nat):Stp (fun b=>b=m) W (WK W m es k):=⟨rfl,rfl,rfl,by simp [WK],fun b _ h=>by
 simp only [WK,Array.getElem?_setIfInBounds];rw [if_neg (fun e=>h e.symm)],Nat.le_refl _⟩
theorem gm{W:World}{m:Nat}{o:Go.Obj}(h:W.heap[m]?=some o)(es:Array MapEntry)(k:Nat):(WK W m es k).heap[m]?=some (.map es k):=by
 have:=J5 h
 simp only [WK,Array.getElem?_setIfInBounds];rw [if_pos trivial,if_pos this]
theorem Sp{m k:Nat}{es:Array MapEntry}{x y:Int}{W:World}(X Y:Go.Obj)(h:W.heap[m]?=some (.map es k))(hf:∀ W,(Instr.findKey 134 (pv x y) es.toList).run Tryz.prog W=.ok none W):
  ∃ Wm,(Instr.mapEntry 132 (.map (some m)) (pv x y)).run Tryz.prog ((W.alloc X).alloc Y)=.ok (.tuple #[.slice none 0 0,iv k]) Wm/\Wm.heap[m]?=some (.map (es.push ⟨pv x y,.slice none 0 0,k⟩) (k+1))/\Wm.heap.size=W.heap.size+2/\Wm.heap[W.heap.size+1]?=some Y/\Stp (fun b=>b=m) W Wm:=by
 have g:=J5 h;have f:((W.alloc X).alloc Y).heap[m]?=some (.map es k):=(Below.heap_alloc _ _ m (by simp;omega)).trans ((Below.heap_alloc _ _ m g).trans h)
 refine ⟨_,Q7a f hf,gm f _ _,by simp,?_,?_⟩
 .have e:=World.alloc_heap_new (W.alloc X) Y
  rw [World.size_alloc] at e;exact ((Lj _ m _ _).block (W.heap.size+1) (by simp) (by omega)).trans e
 .exact ((QT (Stp.alloc U8 W X) (Stp.alloc U8 _ Y)).mono (fun _ _ h=>h.elim)).trans ((Lj _ m _ _).mono fun b i h=>.inl h)
theorem Sr{m k born i:Nat}{es:Array MapEntry}{W:World}(v:Value)(z:Int)(hz:z=born)(h:W.heap[m]?=some (.map es k))(hf:es.findIdx? (fun e=>(e.born:Int)==(born:Int))=some i):
  ∃ W9,(Instr.entryStore 132 (.map (some m)) (iv z) v).run Tryz.prog W=.ok () W9/\W9.heap[m]?=some (.map (es.modify i fun e=> { e with val:=v }) k)/\W9.heap.size=W.heap.size/\Stp (fun b=>b=m) W W9:=by
 subst hz;exact ⟨_,Q7i h hf,gm h _ _,by simp,Lj _ m _ _⟩
theorem Ct(W:World)(g T:Nat)(p q r s:Value)(h:W.heap[g]?=some (.cells #[p,q,r,s] T (0,0))):∀ j u,[p,q,r,s][j]?=some u->W.cell? ((⟨g,0,none⟩:Addr).add j)=some u:=by
 intro j u e;have i:j=0\/j=1\/j=2\/j=3:=by
  have:j<4:=by
   rcases Nat.lt_or_ge j 4 with f|f
   .exact f
   .rw [List.getElem?_eq_none (by simpa using f)] at e
    cases e
  omega
 rcases i with rfl|rfl|rfl|rfl <;> (simp at e;subst e;simp [World.cell?,h,Addr.add])
theorem Z2u:∃ i z,Tryz.prog.info? 136=some i/\i.zero=some z/\i.size=4/\i.bytes<=1000/\z.cells.size=4:=by
 have h:((Tryz.prog.info? 136).map fun i=>(i.size,decide (i.bytes<=1000),i.zero.map fun z=>z.cells.size))=some (4,true,some 4):=by kernel_rfl
 cases hi:Tryz.prog.info? 136 with
 | none=>rw [hi] at h;cases h
 | some i=>
  rw [hi] at h;simp only [Option.map_some,Option.some.injEq,Prod.mk.injEq,decide_eq_true_eq] at h
  cases hz:i.zero with
  | none=>rw [hz] at h;cases h.2.2
  | some z=>
   rw [hz] at h;simp only [Option.map_some,Option.some.injEq] at h
   exact ⟨i,z,rfl,hz,h.1,h.2.1,h.2.2⟩
theorem Ck:Tryz.prog.underlying 130=some (.slice 136):=by kernel_rfl
abbrev FO:Re_:=⟨[⟨0,0,10,10⟩]⟩
abbrev eds:List Ab.Edge:=[⟨⟨0,0⟩,⟨10,0⟩⟩,⟨⟨0,10⟩,⟨0,0⟩⟩,⟨⟨10,0⟩,⟨10,10⟩⟩,⟨⟨10,10⟩,⟨0,10⟩⟩]
structure Rm (w2 W:World) (m:Nat) (es:Array MapEntry) (ck:Nat) (L:List (Nat×Nat×Array Value)):Prop where
 mp:W.heap[m]?=some (.map es ck)
 st:Stp U8 w2 W
 ms:w2.heap.size<=m
 li:∀ p ∈ L,W.heap[p.1]?=some (.cells p.2.2 136 (0,0))/\m<p.1/\p.2.2.size=p.2.1*4/\1<=p.2.1/\p.2.1<=maxLen
 up:L.Pairwise fun p q=>p.1<q.1
theorem Rm.next{w2 W Wm W8 W9:World}{m:Nat}{es es' : Array MapEntry}{ck ck' : Nat}{L:List (Nat×Nat×Array Value)}{g c:Nat}{cur:Array Value}(R:Rm w2 W m es ck L)(st:Stp (fun b=>b=m) W Wm)(szm:Wm.heap.size=W.heap.size+2)(hg:Wm.grownBy W8 none)(hdr:Wm.drawn<=W8.drawn)(hh:W8.heap[g]?=some (.cells cur 136 (0,0)))(hf:Wm.heap.size<=g)(m9:W9.heap[m]?=some (.map es' ck'))(st9:Stp (fun b=>b=m) W8 W9)(h1:cur.size=c*4)(h2:1<=c)(h3:c<=maxLen):
  Rm w2 W9 m es' ck' (L++[(g,c,cur)]):=by
 have C:=J5 R.mp;have l:=J5 hh
 have e:∀ j,j<W.heap.size->j≠m->W9.heap[j]?=W.heap[j]?:=fun j t k=>
  (st9.block j (Nat.lt_of_lt_of_le (by omega) hg.size) k).trans ((hg.block j (by omega) (by intro h;cases h)).trans (st.block j t k))
 have i:=R.st;have B:=R.ms
 refine ⟨m9,⟨?_,?_,?_,?_,fun b s _=>(e b (Nat.lt_of_lt_of_le s i.size) (by omega)).trans (i.block b s fun h=>h),?_⟩,B,fun p f=>?_,?_⟩
 .exact st9.os.trans (hg.os.trans (st.os.trans i.os))
 .exact st9.tape.trans (hg.tape.trans (st.tape.trans i.tape))
 .exact st9.output.trans (hg.output.trans (st.output.trans i.output))
 .exact Nat.le_trans i.size (Nat.le_trans st.size (Nat.le_trans hg.size st9.size))
 .exact Nat.le_trans i.dr (Nat.le_trans st.dr (Nat.le_trans hdr st9.dr))
 .rcases List.mem_append.1 f with f|f
  .obtain ⟨r,A,z⟩:=R.li p f
   exact ⟨(e _ (J5 r) (by omega)).trans r,A,z⟩
  .rw [List.mem_singleton.1 f]
   exact ⟨(st9.block g l (by omega)).trans hh,by simp only;omega,h1,h2,h3⟩
 .rw [List.pairwise_append]
  refine ⟨R.up,by simp,fun p f q u=>?_⟩;rw [List.mem_singleton.1 u]
  have:=J5 (R.li p f).1
  simp only
  omega
end Go.Proofs
end
section
namespace Go.Proofs
open Go.Shelf Go.RowKit Go.Lib Go.Ab
set_option maxHeartbeats 4000000
set_option maxRecDepth 100000
abbrev Dd:List Ab.Point:=[⟨0,0⟩,⟨10,0⟩,⟨10,10⟩,⟨0,10⟩]
theorem Rd{W W' : World}{X:Nat->Prop}{v:Value}{d:DVal}(h:DRep W X v d)(st:Stp U8 W W'):DRep W' X v d:=h.mono fun b e f=>⟨st.block b e fun h=>h,f⟩
theorem Ed.stp{W W' : World}{v:Value}{ga off cap:Nat}(h:Ed W v ga off cap)(st:Stp U8 W W'):Ed W' v ga off cap:=⟨h.eq,Nat.lt_of_lt_of_le h.lt st.size,fun k e=>by
 have:=h.at_ k e
 simp only [World.cell?] at this ⊢;rw [st.block ga h.lt fun h=>h]
 exact this⟩
theorem Q7o{W:World}{k T:Nat}{v:Value}(h:W.heap[k]?=some (.cells #[v] T (0,0))):W.cell? ⟨k,0,none⟩=some v:=by simp [World.cell?,h]
theorem MV{W:World}{b:Nat}{v p q r s:Value}(h:W.ownsRow b 136 4 v (0+1) ([]++[p,q,r,s])):∃ g c cur Z,v=sv g 1 c/\b<=g/\W.heap[g]?=some (.cells cur 136 (0,0))/\cur.size=c*4/\1<=c/\c<=maxLen/\cur=#[p,q,r,s]++Z:=by
 rcases h.2 with ⟨_,h⟩|⟨g,j,cur,rfl,t,k,i,f,l,e⟩
 .exact absurd h (by omega)
 .refine ⟨g,j,cur,(cur.toList.drop 4).toArray,rfl,t,k,l,i,f,?_⟩
  apply Array.toList_inj.1;have:cur.toList.take 4=[p,q,r,s]:=e
  rw [Array.toList_append, <-this,List.take_append_drop]
theorem Q6Q{W:World}{b:Nat}{v u:Value}(h:W.ownsRow b 98 1 v (0+1) ([]++[u])):∃ g c Z,v=sv g 1 c/\b<=g/\W.heap[g]?=some (.cells (#[u]++Z) 98 (0,0))/\1<=c:=by
 rcases h.2 with ⟨_,h⟩|⟨g,j,e,rfl,l,k,i,p,q,f⟩
 .exact absurd h (by omega)
 .refine ⟨g,j,(e.toList.drop 1).toArray,rfl,l,?_,i⟩
  have:e=#[u]++(e.toList.drop 1).toArray:=by
   apply Array.toList_inj.1;have:e.toList.take 1=[u]:=f
   rw [Array.toList_append, <-this,List.take_append_drop]
  rw [<-this];exact k
theorem Tu{W W' : World}{m:Nat}{o:Go.Obj}(hg:W.grownBy W' (Value.slice none 0 0).ownBlock)(h:W.heap[m]?=some o):W'.heap[m]?=some o:=(hg.block m (J5 h) (by intro h;cases h)).trans h
theorem Z1k{W W' : World}(hg:W.grownBy W' (Value.slice none 0 0).ownBlock)(hd:W.drawn<=W'.drawn):Stp U8 W W':=⟨hg.os,hg.tape,hg.output,hg.size,fun b e _=>hg.block b e (by intro h;cases h),hd⟩
theorem Q9i{W:World}{b:Nat}{v:Value}{X:Nat->Prop}(hX:∀ g,b<=g->¬ X g)(h:W.ownsRow b 134 2 v 4 [iv 10,iv 0,iv 10,iv 10,iv 0,iv 10,iv 0,iv 0]):DRep W X v (DL (α:=Ab.Point) [⟨10,0⟩,⟨10,10⟩,⟨0,10⟩,⟨0,0⟩]):=by
 rcases h.2 with ⟨_,h⟩|⟨g,p,e,rfl,z,r,l,u,A,k⟩
 .exact absurd h (by omega)
 .have t:e=#[iv 10,iv 0,iv 10,iv 10,iv 0,iv 10,iv 0,iv 0]++(e.toList.drop 8).toArray:=by
   apply Array.toList_inj.1;have:e.toList.take 8=[iv 10,iv 0,iv 10,iv 10,iv 0,iv 10,iv 0,iv 0]:=k
   rw [Array.toList_append, <-this,List.take_append_drop]
  generalize (e.toList.drop 8).toArray=Z at t;refine .lst g 0 4 p e _ (0,0) _ 2 (hX g z) r l (by omega) (fun i f=>?_) (fun i j f B=>?_)
  .have f:i<4:=f
   have:i=0\/i=1\/i=2\/i=3:=by omega
   rcases this with rfl|rfl|rfl|rfl <;> rfl
  .subst t
   have f:i<4:=f;have q:i=0\/i=1\/i=2\/i=3:=by omega
   have s:j=0\/j=1:=by omega
   rcases q with rfl|rfl|rfl|rfl <;> rcases s with rfl|rfl <;> (simp [Array.getD];rw [if_pos (by omega)];exact .int _ _)
theorem Q6o{W:World}{X:Nat->Prop}{u:Value}(h:DRep W X u (DL Dd)):∃ b off cp,u=.slice (some ⟨b,off,none⟩) 4 cp:=by
 unfold DL at h;have:Dd.length=4:=rfl
 rw [this] at h
 cases h with|lst b off n cap c e fz f es h1 h2 h3 h4 h5 h6=>exact ⟨_,_,_,rfl⟩
structure Rr (X:Nat->Prop) (w2 W:World) (m:Nat) (es:Array MapEntry) (gr:Nat) (Z:Array Value) (b off cp:Nat):Prop where
 mp:W.heap[m]?=some (.map es 4)
 rw:W.heap[gr]?=some (.cells (#[.slice (some ⟨b,off,none⟩) 4 cp]++Z) 98 (0,0))
 du:DRep W X (.slice (some ⟨b,off,none⟩) 4 cp) (DL Dd)
 st:Stp U8 w2 W
theorem Rr.mono{X:Nat->Prop}{w2 W W' : World}{m:Nat}{es:Array MapEntry}{gr:Nat}{Z:Array Value}{b off cp:Nat}(R:Rr X w2 W m es gr Z b off cp)(st:Stp U8 W W'):Rr X w2 W' m es gr Z b off cp:=
 ⟨(st.block _ (J5 R.mp) fun h=>h).trans R.mp,(st.block _ (J5 R.rw) fun h=>h).trans R.rw,Rd R.du st,QT R.st st⟩
theorem Rr.res{X:Nat->Prop}{w2 W:World}{m:Nat}{es:Array MapEntry}{gr:Nat}{Z:Array Value}{b off cp c:Nat}(R:Rr X w2 W m es gr Z b off cp)(hX:¬ X gr)(h1:1<=c):DRep W X (sv gr 1 c) (DL (α:=List Ab.Point) [Dd]):=by
 refine .lst gr 0 1 c _ _ (0,0) _ 1 hX R.rw h1 (by simp) (fun i f=>?_) (fun i j f g=>?_)
 .have f:i<1:=f
  obtain rfl:i=0:=by omega
  rfl
 .have f:i<1:=f
  obtain rfl:i=0:=by omega
  obtain rfl:j=0:=by omega
  have e:(#[Value.slice (some ⟨b,off,none⟩) 4 cp]++Z).getD (0+(0*1+0)) undef=.slice (some ⟨b,off,none⟩) 4 cp:=by simp [Array.getD]
  rw [e];exact R.du
theorem Q8Z:∃ i z,Tryz.prog.info? 98=some i/\i.zero=some z/\i.size=1/\i.bytes<=1000/\z.cells.size=1:=by
 have h:((Tryz.prog.info? 98).map fun i=>(i.size,decide (i.bytes<=1000),i.zero.map fun z=>z.cells.size))=some (1,true,some 1):=by kernel_rfl
 cases hi:Tryz.prog.info? 98 with
 | none=>rw [hi] at h;cases h
 | some i=>
  rw [hi] at h;simp only [Option.map_some,Option.some.injEq,Prod.mk.injEq,decide_eq_true_eq] at h
  cases hz:i.zero with
  | none=>rw [hz] at h;cases h.2.2
  | some z=>
   rw [hz] at h;simp only [Option.map_some,Option.some.injEq] at h
   exact ⟨i,z,rfl,hz,h.1,h.2.1,h.2.2⟩
theorem Q8Y:Tryz.prog.underlying 90=some (.slice 98):=by kernel_rfl
end Go.Proofs
end
section
namespace Go.Proofs
open Go.Shelf Go.RowKit Go.Lib Go.Ab
set_option maxHeartbeats 8000000
set_option maxRecDepth 100000
theorem Z2Z(W:World)(T:Nat)(p:Value):∀ j u,[p][j]?=some u->(W.alloc (.cells #[p] T)).cell? ((⟨W.heap.size,0,none⟩:Addr).add j)=some u:=by
 intro j u e
 match j,e with
 | 0,e=>
  simp at e
  subst e;simp [Addr.add]
def VH{α:Type}(a b c d:α):Nat->α
 | 0=>a
 | 1=>b
 | 2=>c
 | _=>d
theorem Q9b{α:Type}{a b c d:α}{P:α->Prop}(h0:P a)(h1:P b)(h2:P c)(h3:P d):∀ i,P (VH a b c d i)
 | 0=>h0
 | 1=>h1
 | 2=>h2
 | _+3=>h3
theorem cu{α β:Type}{a b c d:α}{a' b' c' d' : β}{P:α->β->Prop}(h0:P a a')(h1:P b b')(h2:P c c')(h3:P d d'):∀ i,P (VH a b c d i) (VH a' b' c' d' i)
 | 0=>h0
 | 1=>h1
 | 2=>h2
 | _+3=>h3
theorem Q9a{a b c d:Nat}(h:(a<b/\a<c/\a<d)/\(b<c/\b<d)/\c<d):∀ i j,i<4->j<4->VH a b c d i=VH a b c d j->i=j:=by
 intro i j k l e;have g:i=0\/i=1\/i=2\/i=3:=by omega
 have f:j=0\/j=1\/j=2\/j=3:=by omega
 rcases g with rfl|rfl|rfl|rfl <;> rcases f with rfl|rfl|rfl|rfl <;> first|rfl | (simp only [VH] at e;omega)
theorem Q6Y{F:Nat}{w:World}{v:Value}(hv:DRep w U8 v (DL FO.t_))(hV:Yx F FO=some true)(hE:Dg F FO=some eds):
  Calls Tryz.prog 36 #[.agg #[v]] w fun e w'=>∃ u,e=.returned (.tuple #[u,iv 0])/\DRep w' (fun b=>b<w.heap.size) u (DL (α:=List Ab.Point) [[⟨0,0⟩,⟨10,0⟩,⟨10,10⟩,⟨0,10⟩]])/\Stp U8 w w':=by
 have f1:Stp U8 w (w.alloc (.cells #[v] 44)):=Stp.alloc U8 _ _;have c0:=World.alloc_heap_new w (.cells #[v] 44)
 have a9:=Rd hv f1;have mk:=fun W=>run_makeMap (P:=Tryz.prog) 132 W
 go_enter Tryz.func36,Tryz.ntmps36
 go_wp2_with (first
  | (go_at_call 48;refine (Q6W hV a9).mono ?_;rintro e w1 ⟨rfl,c9⟩;have c1:=Q7o ((c9.block _ (J5 c0) fun h=>h).trans c0);have d2:=Rd a9 c9)
  | (go_at_call 64;refine (Q7j hE d2).mono ?_;rintro e w2 ⟨u,rfl,hu,i7⟩;have hu:=hu;obtain ⟨B,k,l8,Eu⟩:=Ed.of hu;obtain rfl:=Eu.eq))
 have R0:Rm w2 (w2.alloc (.map #[] 0)) w2.heap.size #[] 0 []:=⟨World.alloc_heap_new _ _,Stp.alloc U8 _ _,Nat.le_refl _,by simp,by simp⟩;have i5:Stp U8 w w2:=QT (QT f1 c9) i7
 generalize (w2.alloc (.map #[] 0))=W0 at R0 ⊢;obtain ⟨m,hm⟩:∃ m,w2.heap.size=m:=⟨_,rfl⟩
 rw [hm] at R0 ⊢;have h6:=i5.size
 obtain ⟨o1,ho1⟩:∃ o1,w.heap.size=o1:=⟨_,rfl⟩;rw [ho1]
 rw [ho1] at h6
 clear mk f1 c0 a9 c1 d2 c9 i7 hu w1
 obtain ⟨ei,ez,c8,c4,c5,d4,a4⟩:=Z2u;refine wp_loop_rounds 5 ?_
 rw [rounds_succ];have f:=Eu.stp R0.st
 have Y:W0.cell? ⟨B,k,none⟩=some (iv 0):=f.at_ 0 (by omega);have q1:W0.cell? ⟨B,k+1,none⟩=some (iv 0):=f.at_ 1 (by omega)
 have U:W0.cell? ⟨B,k+2,none⟩=some (iv 10):=f.at_ 2 (by omega);have T:W0.cell? ⟨B,k+3,none⟩=some (iv 0):=f.at_ 3 (by omega)
 obtain ⟨Wm,a1,K,H,hY,O⟩:=Sp (.cells #[iv 0,iv 0,iv 10,iv 0] 136) (.cells #[iv 0,iv 0,iv 10,iv 0] 136) R0.mp (fk0)
 go_wp2_with (at_builtin;refine Uu (base:=Wm.heap.size) rfl _ _ 130 rfl rfl Ck c8 c4 c5 d4 a4 (by decide) rfl (World.ownsRow_nil _ _ _ _) rfl rfl (Ct _ _ _ _ _ _ _ hY) (by simp [Value.oneCell']) (by omega) (Nat.le_refl _) ?_;intro v0 W8 p l L J;obtain ⟨g0,c0,d8,Z0,a9,R,hh,E,M,I,a8⟩:=MV p;subst a9;have C:=Tu l K;obtain ⟨W1,N,G,Z,t⟩:=Sr (i:=0) (born:=0) (sv g0 1 c0) 0 rfl C (by kernel_rfl))
 have s : W1.heap[m]?=some (.map #[ZK (sv g0 1 c0)] 1):=G;have R1:=R0.next O H l J hh R s t E M I
 generalize W0.heap.size=o9
 clear R0 a1 K H hY O p l L C J N G s Z t Y q1 U T f R hh E M I W8 Wm W0
 rw [rounds_succ];have f:=Eu.stp R1.st
 have Y:W1.cell? ⟨B,k+4,none⟩=some (iv 0):=f.at_ 4 (by omega);have q1:W1.cell? ⟨B,k+5,none⟩=some (iv 10):=f.at_ 5 (by omega)
 have U:W1.cell? ⟨B,k+6,none⟩=some (iv 0):=f.at_ 6 (by omega);have T:W1.cell? ⟨B,k+7,none⟩=some (iv 0):=f.at_ 7 (by omega)
 obtain ⟨Wm,a1,K,H,hY,O⟩:=Sp (.cells #[iv 0,iv 10,iv 0,iv 0] 136) (.cells #[iv 0,iv 10,iv 0,iv 0] 136) R1.mp (fk1 _)
 go_wp2_with (at_builtin;refine Uu (base:=Wm.heap.size) rfl _ _ 130 rfl rfl Ck c8 c4 c5 d4 a4 (by decide) rfl (World.ownsRow_nil _ _ _ _) rfl rfl (Ct _ _ _ _ _ _ _ hY) (by simp [Value.oneCell']) (by omega) (Nat.le_refl _) ?_;intro v1 W8 p l L J;obtain ⟨g1,c1,e4,Z1,d2,R,hh,E,M,I,e5⟩:=MV p;subst d2;have C:=Tu l K;obtain ⟨V,N,G,Z,t⟩:=Sr (i:=1) (born:=1) (sv g1 1 c1) 1 rfl C (by kernel_rfl))
 have s : V.heap[m]?=some (.map #[ZK (sv g0 1 c0),ZW (sv g1 1 c1)] 2):=G;have R2:=R1.next O H l J hh R s t E M I
 generalize W1.heap.size=o9
 clear R1 a1 K H hY O p l L C J N G s Z t Y q1 U T f R hh E M I W8 Wm W1
 rw [rounds_succ];have f:=Eu.stp R2.st
 have Y:V.cell? ⟨B,k+8,none⟩=some (iv 10):=f.at_ 8 (by omega);have q1:V.cell? ⟨B,k+9,none⟩=some (iv 0):=f.at_ 9 (by omega)
 have U:V.cell? ⟨B,k+10,none⟩=some (iv 10):=f.at_ 10 (by omega);have T:V.cell? ⟨B,k+11,none⟩=some (iv 10):=f.at_ 11 (by omega)
 obtain ⟨Wm,a1,K,H,hY,O⟩:=Sp (.cells #[iv 10,iv 0,iv 10,iv 10] 136) (.cells #[iv 10,iv 0,iv 10,iv 10] 136) R2.mp (fk2 _ _)
 go_wp2_with (at_builtin;refine Uu (base:=Wm.heap.size) rfl _ _ 130 rfl rfl Ck c8 c4 c5 d4 a4 (by decide) rfl (World.ownsRow_nil _ _ _ _) rfl rfl (Ct _ _ _ _ _ _ _ hY) (by simp [Value.oneCell']) (by omega) (Nat.le_refl _) ?_;intro v2 W8 p l L J;obtain ⟨g2,c2,d7,Z2,j6,R,hh,E,M,I,e2⟩:=MV p;subst j6;have C:=Tu l K;obtain ⟨W3,N,G,Z,t⟩:=Sr (i:=2) (born:=2) (sv g2 1 c2) 2 rfl C (by kernel_rfl))
 have s : W3.heap[m]?=some (.map #[ZK (sv g0 1 c0),ZW (sv g1 1 c1),Ym (sv g2 1 c2)] 3):=G;have R3:=R2.next O H l J hh R s t E M I
 generalize V.heap.size=o9
 clear R2 a1 K H hY O p l L C J N G s Z t Y q1 U T f R hh E M I W8 Wm V
 rw [rounds_succ];have f:=Eu.stp R3.st
 have Y:W3.cell? ⟨B,k+12,none⟩=some (iv 10):=f.at_ 12 (by omega);have q1:W3.cell? ⟨B,k+13,none⟩=some (iv 10):=f.at_ 13 (by omega)
 have U:W3.cell? ⟨B,k+14,none⟩=some (iv 0):=f.at_ 14 (by omega);have T:W3.cell? ⟨B,k+15,none⟩=some (iv 10):=f.at_ 15 (by omega)
 obtain ⟨Wm,a1,K,H,hY,O⟩:=Sp (.cells #[iv 10,iv 10,iv 0,iv 10] 136) (.cells #[iv 10,iv 10,iv 0,iv 10] 136) R3.mp (fk3 _ _ _)
 go_wp2_with (at_builtin;refine Uu (base:=Wm.heap.size) rfl _ _ 130 rfl rfl Ck c8 c4 c5 d4 a4 (by decide) rfl (World.ownsRow_nil _ _ _ _) rfl rfl (Ct _ _ _ _ _ _ _ hY) (by simp [Value.oneCell']) (by omega) (Nat.le_refl _) ?_;intro v3 W8 p l L J;obtain ⟨g3,c3,e3,Z3,k8,R,hh,E,M,I,d9⟩:=MV p;subst k8;have C:=Tu l K;obtain ⟨W4,N,G,Z,t⟩:=Sr (i:=3) (born:=3) (sv g3 1 c3) 3 rfl C (by kernel_rfl))
 have s : W4.heap[m]?=some (.map #[ZK (sv g0 1 c0),ZW (sv g1 1 c1),Ym (sv g2 1 c2),YM (sv g3 1 c3)] 4):=G;have R4:=R3.next O H l J hh R s t E M I
 generalize W3.heap.size=o9
 clear R3 a1 K H hY O p l L C J N G s Z t Y q1 U T f R hh E M I W8 Wm W3
 rw [rounds_succ]
 go_wp2
 have L0:=R4.li (g0,c0,d8) (by simp);have L1:=R4.li (g1,c1,e4) (by simp)
 have L2:=R4.li (g2,c2,d7) (by simp);have L3:=R4.li (g3,c3,e3) (by simp)
 have up:=R4.up;simp only [List.nil_append,List.cons_append,List.pairwise_cons,List.mem_cons,List.not_mem_nil,or_false,forall_eq_or_imp,forall_eq,List.Pairwise.nil,and_true] at up
 simp only at L0 L1 L2 L3;refine wp_loop_rounds 5 ?_
 rw [rounds_succ];have f:=Eu.stp R4.st
 have Y:W4.cell? ⟨B,k,none⟩=some (iv 0):=f.at_ 0 (by omega);have q1:W4.cell? ⟨B,k+1,none⟩=some (iv 0):=f.at_ 1 (by omega)
 have U:W4.cell? ⟨B,k+2,none⟩=some (iv 10):=f.at_ 2 (by omega);have T:W4.cell? ⟨B,k+3,none⟩=some (iv 0):=f.at_ 3 (by omega)
 have q:Stp U8 W4 (W4.alloc (.cells #[iv 0,iv 0,iv 10,iv 0] 136)).drew:=QT (Stp.alloc U8 _ _) (Uw _);have S:∀ j o,W4.heap[j]?=some o->(W4.alloc (.cells #[iv 0,iv 0,iv 10,iv 0] 136)).drew.heap[j]?=some o:=fun j o h=>(q.block j (J5 h) fun h=>h).trans h
 have lk:=Jn (S _ _ R4.mp) (yb _ _ _ _);have g7:=S _ _ L0.1
 rw [a8] at g7;have e9:(W4.alloc (.cells #[iv 0,iv 0,iv 10,iv 0] 136)).drew.heap[W4.heap.size]?=some (.cells #[iv 0,iv 0,iv 10,iv 0] 136):=World.alloc_heap_new _ _
 obtain ⟨⟨p0,p1,p2,p3⟩, -⟩:=Qm e9
 go_wp2
 apply wp_mono (Q:=(fun (A:Act) e a' V=>match e with | .normal=>a'=A/\Stp U8 (W4.alloc (.cells #[iv 0,iv 0,iv 10,iv 0] 136)).drew V|_=>False) _)
 case h=>
  have g8:Tryz.prog.follows .mixedOrders=true:=by kernel_rfl
  go_region_with_o (go_at_call 65;refine (Q7l _ _ _ _ _ _ _ _ (by exact g7)).mono ?_;rintro e W' ⟨rfl,st⟩)
  all_goals exact ⟨rfl,st⟩
 intro e a' W6 h;have hn:e=.normal:=by cases e <;> first|rfl|exact (h:False).elim
 subst hn;obtain ⟨rfl,z⟩:=h
 have D:∀ j o,W4.heap[j]?=some o->W6.heap[j]?=some o:=fun j o h=>(z.block j (J5 (S j o h)) fun h=>h).trans (S j o h)
 have i8:=(z.block _ (J5 e9) fun h=>h).trans e9;obtain ⟨⟨k4,k5,k3,k9⟩, -⟩:=Qm i8
 have g4:∀ i,m<(VH g0 g1 g2 g3) i:=Q9b L0.2.1 L1.2.1 L2.2.1 L3.2.1;have ms:=R4.ms
 obtain ⟨pi,pz,j9,k6,j4,k0,h7⟩:=Q8Z;have hz:∀ b,(b=m\/∃ i,b=(VH g0 g1 g2 g3) i)->w2.heap.size<=b:=by
  rintro b (rfl|⟨i,rfl⟩)
  .exact ms
  .exact Nat.le_trans ms (Nat.le_of_lt (g4 i))
 have g5:o1<=W6.heap.size:=Nat.le_trans h6 (Nat.le_trans R4.st.size (Nat.le_trans q.size z.size));have fo:=Q7h (gs:=(VH g0 g1 g2 g3)) (cs:=(VH c0 c1 c2 c3)) (row:=(VH d8 e4 d7 e3)) (D _ _ R4.mp) (cu (P:=fun g f2=>W6.heap[g]?=some (.cells f2 136 (0,0))) (D _ _ L0.1) (D _ _ L1.1) (D _ _ L2.1) (D _ _ L3.1)) ⟨Z0,a8⟩ ⟨Z1,e5⟩ ⟨Z2,e2⟩ ⟨Z3,d9⟩ (cu (P:=fun c (f2:Array Value)=>f2.size=c*4/\1<=c/\c<=maxLen) L0.2.2 L1.2.2 L2.2.2 L3.2.2) (Q9a ⟨up.1,up.2.1,up.2.2.1⟩) (fun i=>Nat.ne_of_lt (g4 i))
 simp only [Exit.then]
 go_wp2_with (first
  | (go_at_call 67;refine fo.mono ?_;rintro e W7 ⟨vf,rfl,p,e8,f3⟩;have e1 : Stp (fun b=>w2.heap.size<=b) W6 W7:=f3.mono fun b _ h=>hz b h;have f9:=Nat.le_trans g5 f3.size)
  | (go_at_call 66;refine (Q7p (F:=100) (r:=Dd) (by kernel_rfl) (X:=fun b=>b<o1) (fun b hb=>Nat.lt_of_lt_of_le hb f9) (Q9i (fun g hg hb=>Nat.not_lt.2 (Nat.le_trans g5 hg) hb) p)).mono ?_;rintro e W8 ⟨u,rfl,du,c6⟩;obtain ⟨b,h4,cp,rfl⟩:=Q6o du)
  | (at_builtin;refine Uu (base:=W8.heap.size) rfl _ _ 90 rfl rfl Q8Y j9 k6 j4 k0 h7 (by decide) rfl (World.ownsRow_nil _ _ _ _) rfl rfl (Z2Z _ _ _) (by simp [Value.oneCell']) (by omega) (by simp) ?_;intro v9 W9 b2 a3 f7 d6;obtain ⟨gr,cr,Zr,rfl,i4,h9,j8⟩:=Q6Q b2))
 have t:=QT (Stp.alloc U8 _ _) (Z1k a3 d6);have C:=(c6.block _ (J5 e8) fun h=>h).trans e8
 have j5:¬ gr<o1:=Nat.not_lt.2 (Nat.le_trans f9 (Nat.le_trans c6.size i4));have r1:Rr (fun b=>b<o1) w2 W9 m #[ZK (sv g0 0 c0),ZW (sv g1 0 c1),Ym (sv g2 0 c2),YM (sv g3 0 c3)] gr Zr b h4 cp:=⟨(t.block _ (J5 C) fun h=>h).trans C,h9,Rd du t,QT (QT (((QT R4.st (QT q z))).trans (e1.mono fun b _ h=>.inr h)) c6) t⟩
 generalize W9=V1 at r1 h9 ⊢;generalize W8.heap.size=o8
 generalize W4.heap.size=o4;have m7:=R4.st
 clear hz g5 f9 t C fo c6 du e1 f3 p e8 a3 d6 f7 b2 i4 S D i8 k4 k5 k3 k9 g4 z p0 p1 p2 p3 e9 g7 lk q Y q1 U T f up L0 L1 L2 L3 R4 a8 e5 e2 d9
 rw [rounds_succ];have f:=Eu.stp r1.st
 have Y:V1.cell? ⟨B,k+4,none⟩=some (iv 0):=f.at_ 4 (by omega);have q1:V1.cell? ⟨B,k+5,none⟩=some (iv 10):=f.at_ 5 (by omega)
 have U:V1.cell? ⟨B,k+6,none⟩=some (iv 0):=f.at_ 6 (by omega);have T:V1.cell? ⟨B,k+7,none⟩=some (iv 0):=f.at_ 7 (by omega)
 have q:Stp U8 V1 (V1.alloc (.cells #[iv 0,iv 10,iv 0,iv 0] 136)).drew:=QT (Stp.alloc U8 _ _) (Uw _);have lk:=Jn ((q.block _ (J5 r1.mp) fun h=>h).trans r1.mp) (ya _ _ _ _)
 have e9:(V1.alloc (.cells #[iv 0,iv 10,iv 0,iv 0] 136)).drew.heap[V1.heap.size]?=some (.cells #[iv 0,iv 10,iv 0,iv 0] 136):=World.alloc_heap_new _ _;obtain ⟨⟨p0,p1,p2,p3⟩, -⟩:=Qm e9
 go_wp2
 apply wp_mono (Q:=(fun (A:Act) e a' V=>match e with | .normal=>a'=A/\Stp U8 (V1.alloc (.cells #[iv 0,iv 10,iv 0,iv 0] 136)).drew V|_=>False) _)
 case h=>
  have g8:Tryz.prog.follows .mixedOrders=true:=by kernel_rfl
  go_region_with_o (go_at_call 65;refine (Lu _ _ _ _ _ _ _).mono ?_;rintro e W' ⟨rfl,st⟩)
  all_goals exact ⟨rfl,st⟩
 intro e a' V2 h;have hn:e=.normal:=by cases e <;> first|rfl|exact (h:False).elim
 subst hn;obtain ⟨rfl,z⟩:=h
 simp only [Exit.then]
 go_wp2
 have r2:=r1.mono (QT q z);generalize V1.heap.size=sz1
 clear z p0 p1 p2 p3 e9 lk q Y q1 U T f r1
 rw [rounds_succ];have f:=Eu.stp r2.st
 have Y:V2.cell? ⟨B,k+8,none⟩=some (iv 10):=f.at_ 8 (by omega);have q1:V2.cell? ⟨B,k+9,none⟩=some (iv 0):=f.at_ 9 (by omega)
 have U:V2.cell? ⟨B,k+10,none⟩=some (iv 10):=f.at_ 10 (by omega);have T:V2.cell? ⟨B,k+11,none⟩=some (iv 10):=f.at_ 11 (by omega)
 have q:Stp U8 V2 (V2.alloc (.cells #[iv 10,iv 0,iv 10,iv 10] 136)).drew:=QT (Stp.alloc U8 _ _) (Uw _);have lk:=Jn ((q.block _ (J5 r2.mp) fun h=>h).trans r2.mp) (zZ _ _ _ _)
 have e9:(V2.alloc (.cells #[iv 10,iv 0,iv 10,iv 10] 136)).drew.heap[V2.heap.size]?=some (.cells #[iv 10,iv 0,iv 10,iv 10] 136):=World.alloc_heap_new _ _;obtain ⟨⟨p0,p1,p2,p3⟩, -⟩:=Qm e9
 go_wp2
 apply wp_mono (Q:=(fun (A:Act) e a' V=>match e with | .normal=>a'=A/\Stp U8 (V2.alloc (.cells #[iv 10,iv 0,iv 10,iv 10] 136)).drew V|_=>False) _)
 case h=>
  have g8:Tryz.prog.follows .mixedOrders=true:=by kernel_rfl
  go_region_with_o (go_at_call 65;refine (Lu _ _ _ _ _ _ _).mono ?_;rintro e W' ⟨rfl,st⟩)
  all_goals exact ⟨rfl,st⟩
 intro e a' V3 h;have hn:e=.normal:=by cases e <;> first|rfl|exact (h:False).elim
 subst hn;obtain ⟨rfl,z⟩:=h
 simp only [Exit.then]
 go_wp2
 have r3:=r2.mono (QT q z);generalize V2.heap.size=sz2
 clear z p0 p1 p2 p3 e9 lk q Y q1 U T f r2
 rw [rounds_succ];have f:=Eu.stp r3.st
 have Y:V3.cell? ⟨B,k+12,none⟩=some (iv 10):=f.at_ 12 (by omega);have q1:V3.cell? ⟨B,k+13,none⟩=some (iv 10):=f.at_ 13 (by omega)
 have U:V3.cell? ⟨B,k+14,none⟩=some (iv 0):=f.at_ 14 (by omega);have T:V3.cell? ⟨B,k+15,none⟩=some (iv 10):=f.at_ 15 (by omega)
 have q:Stp U8 V3 (V3.alloc (.cells #[iv 10,iv 10,iv 0,iv 10] 136)).drew:=QT (Stp.alloc U8 _ _) (Uw _);have lk:=Jn ((q.block _ (J5 r3.mp) fun h=>h).trans r3.mp) (zY _ _ _ _)
 have e9:(V3.alloc (.cells #[iv 10,iv 10,iv 0,iv 10] 136)).drew.heap[V3.heap.size]?=some (.cells #[iv 10,iv 10,iv 0,iv 10] 136):=World.alloc_heap_new _ _;obtain ⟨⟨p0,p1,p2,p3⟩, -⟩:=Qm e9
 go_wp2
 apply wp_mono (Q:=(fun (A:Act) e a' V=>match e with | .normal=>a'=A/\Stp U8 (V3.alloc (.cells #[iv 10,iv 10,iv 0,iv 10] 136)).drew V|_=>False) _)
 case h=>
  have g8:Tryz.prog.follows .mixedOrders=true:=by kernel_rfl
  go_region_with_o (go_at_call 65;refine (Lu _ _ _ _ _ _ _).mono ?_;rintro e W' ⟨rfl,st⟩)
  all_goals exact ⟨rfl,st⟩
 intro e a' V4 h;have hn:e=.normal:=by cases e <;> first|rfl|exact (h:False).elim
 subst hn;obtain ⟨rfl,z⟩:=h
 simp only [Exit.then]
 go_wp2
 have r4:=r3.mono (QT q z);generalize V3.heap.size=sz3
 clear z p0 p1 p2 p3 e9 lk q Y q1 U T f r3
 rw [rounds_succ]
 go_wp2_with (first
  | (go_at_call 68;refine (Q7n (by exact r4.rw)).mono ?_;rintro e V5 ⟨rfl,q⟩)
  | (go_at_call 70;refine (Q6X _).mono ?_;rintro e V6 ⟨⟨vs,rfl⟩,z⟩))
 go_ret2
 have r5:=(r4.mono q).mono z;subst ho1
 exact ⟨_,rfl,r5.res j5 j8,QT i5 r5.st⟩
end Go.Proofs
end
section
namespace Go.Ab
open Go.Proofs Go.Shelf Go.RowKit Go.Lib
set_option maxHeartbeats 2000000
set_option maxRecDepth 100000
theorem vk{vs:Array Value}(h:vs.size=1):vs=#[vs.getD 0 undef]:=by
 apply Array.ext
 .rw [h];rfl
 .intro i e f
  obtain rfl:i=0:=by omega
  simp [Array.getD,h]
theorem Q1T{w:Go.World}{X:Nat->Prop}{η:Nat->Value}{r:AVal}{v:Value}{w' : Go.World}(st:Stp U8 w w')(hr:ARep w' X η (Qr [] w X η) v r):Behind (Qr [] w X η) r [] v η w' :=
 ⟨st.mono fun b _ h=>h.elim,(by rw [Ls];exact hr),fun i o h=>(by cases h),fun i j b h=>absurd rfl h,fun i o b h=>(by cases h),fun i v h=>(by simp [Qr] at h)⟩
theorem Q9t{F:Nat}{a:Re_}{r:(List (List Point))×Int}(h:Dh F a=some r):G6 Tryz.prog 36 [.v (.g [.d (DL a.t_)])] [] (.t [.c (.d (DL r.1)),.c (ci r.2)]) []:=by
 unfold Dh at h;split at h
 .rename_i E
  subst E;cases h
  intro w X η B H _ _ _ i f;have l:=f 0 (by simp)
  have s:=vk i;generalize B.getD 0 undef=x at l s
  subst s
  cases l with|v _ _ h=>cases h with|g us _ h=>
   have q:=vk h.1;have k:=h.2 0 (by simp)
   generalize us.getD 0 undef=y at k q;subst q
   cases k with|d _ _ h=>
    refine (Q6Y (h.mono fun b _ z=>⟨rfl,fun h=>h⟩) (Q4j (Nat.le_refl Q7)) (Q4n (Nat.le_refl Q7))).mono fun e I G=>?_
    obtain ⟨u,C,D,A⟩:=G;refine ⟨_,η,C,Q1T A (.t _ _ rfl fun j p=>?_)⟩
    have p:j<2:=p;have:j=0\/j=1:=by omega
    rcases this with rfl|rfl
    .exact .c _ _ (.d _ _ (D.mono fun b _ z=>⟨rfl,fun h=>z (H b h)⟩))
    .exact .c _ _ (.d _ _ (.int _ _))
 .cases h
theorem Q3e{F:Nat}{s:ByteArray}{r:(List (List ByteArray))×Int}(h:Pr F s=some r):G6 Tryz.prog 38 [.v (.c (.d (.str s)))] [] (.t [.c (.d (DL r.1)),.c (ci r.2)]) []:=by
 unfold Pr at h;split at h
 .rename_i I
  subst I;cases h
  intro w X η D z _ _ _ p k;have q:=k 0 (by simp)
  have u:=vk p;generalize D.getD 0 undef=x at q u
  subst u
  cases q with|v _ _ h=>cases h with|c _ _ h=>cases h with|d _ _ h=>cases h with|str _=>
   refine (callsIn_wide.1 (Q4v w)).mono fun e N J=>?_
   obtain ⟨g,b,c,Z,G,K,B,M,L,E,A,H,C⟩:=J;refine ⟨_,η,E,Q1T C (.t _ _ rfl fun j l=>?_)⟩
   have l:j<2:=l;have:j=0\/j=1:=by omega
   rcases this with rfl|rfl
   .refine .c _ _ (.d _ _ (.lst g 0 1 c _ _ (0,0) _ 1 (fun h=>Nat.not_lt.2 G (z g h)) A B (by simp) (fun i f=>?_) fun i j f l=>?_))
    .have f:i<1:=f
     obtain rfl:i=0:=by omega
     rfl
    .have f:i<1:=f
     obtain rfl:i=0:=by omega
     obtain rfl:j=0:=by omega
     have e:(#[Value.slice (some ⟨b,0,none⟩) 2 2]++Z).getD (0+(0*1+0)) undef=.slice (some ⟨b,0,none⟩) 2 2:=by simp [Array.getD]
     rw [e];refine .lst b 0 2 2 _ _ (0,0) _ 1 (fun h=>Nat.not_lt.2 K (z b h)) H (Nat.le_refl _) (by simp) (fun i f=>?_) fun i j f l=>?_
     .have f:i<2:=f
      have:i=0\/i=1:=by omega
      rcases this with rfl|rfl <;> rfl
     .have f:i<2:=f
      obtain rfl:j=0:=by omega
      have:i=0\/i=1:=by omega
      rcases this with rfl|rfl
      .exact .str _
      .exact .str _
   .exact .c _ _ (.d _ _ (.int _ _))
 .cases h
end Go.Ab
end
