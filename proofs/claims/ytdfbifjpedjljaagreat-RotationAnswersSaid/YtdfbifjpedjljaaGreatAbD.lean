/- Abstract states over the model. -/
import Derived.Shelf.SlGeneric
import Derived.Shelf.SlSortFuncK.WholeK
import Derived.Shelf.GgSortFunc.Tiny
import Derived.Ground.GgsProg
import Derived.Test.YtdfbifjpedjljaaGreatProg
import Derived.WalkKit
set_option linter.unusedVariables false
set_option linter.unusedSimpArgs false
section
namespace Go.Proofs
open Go.Shelf
def Tryz.lay170_ren:Go.Shelf.Ren:=⟨fun|6=>170|10=>232|11=>233|12=>234|13=>195|14=>235|24=>254|25=>255|26=>276|27=>277|28=>278|29=>279|30=>280|31=>281|32=>282|33=>283|34=>313|35=>314|36=>315|37=>316|38=>317|39=>334|n=>n,fun|20=>20|26=>182|35=>223|0=>0|37=>225|3=>3|41=>202|44=>230|49=>81|51=>174|4=>4|54=>268|53=>267|58=>147|5=>5|9=>9|60=>297|64=>282|66=>312|67=>171|17=>17|32=>220|33=>221|82=>333|12=>12|75=>326|76=>327|77=>328|78=>329|79=>330|80=>331|n=>n,fun|n=>n⟩
theorem Tryz.lay170:Go.Proofs.LaysGg.n6 Tryz.prog Tryz.lay170_ren:= {
 mixed:=by kernel_rfl
 f6:=Tryz.func170.trans (congrArg some (by kernel_rfl))
 f10:=Tryz.func232.trans (congrArg some (by kernel_rfl))
 f11:=Tryz.func233.trans (congrArg some (by kernel_rfl))
 f12:=Tryz.func234.trans (congrArg some (by kernel_rfl))
 f13:=Tryz.func195.trans (congrArg some (by kernel_rfl))
 f14:=Tryz.func235.trans (congrArg some (by kernel_rfl))
 f24:=Tryz.func254.trans (congrArg some (by kernel_rfl))
 f25:=Tryz.func255.trans (congrArg some (by kernel_rfl))
 f26:=Tryz.func276.trans (congrArg some (by kernel_rfl))
 f27:=Tryz.func277.trans (congrArg some (by kernel_rfl))
 f28:=Tryz.func278.trans (congrArg some (by kernel_rfl))
 f29:=Tryz.func279.trans (congrArg some (by kernel_rfl))
 f30:=Tryz.func280.trans (congrArg some (by kernel_rfl))
 f31:=Tryz.func281.trans (congrArg some (by kernel_rfl))
 f32:=Tryz.func282.trans (congrArg some (by kernel_rfl))
 f33:=Tryz.func283.trans (congrArg some (by kernel_rfl))
 f34:=Tryz.func313.trans (congrArg some (by kernel_rfl))
 f35:=Tryz.func314.trans (congrArg some (by kernel_rfl))
 f36:=Tryz.func315.trans (congrArg some (by kernel_rfl))
 f37:=Tryz.func316.trans (congrArg some (by kernel_rfl))
 f38:=Tryz.func317.trans (congrArg some (by kernel_rfl))
 f39:=Tryz.func334.trans (congrArg some (by kernel_rfl))
 t0:=Tryz.underlying0
 a0:=Tryz.isAgg0
 z0:=Tryz.sizeOf0
 v0:=Tryz.zeroValue0
 i0:=by kernel_rfl
 t3:=Tryz.underlying3
 a3:=Tryz.isAgg3
 z3:=Tryz.sizeOf3
 v3:=Tryz.zeroValue3
 i3:=by kernel_rfl
 t4:=Tryz.underlying4
 a4:=Tryz.isAgg4
 z4:=Tryz.sizeOf4
 v4:=Tryz.zeroValue4
 i4:=by kernel_rfl
 t5:=Tryz.underlying5
 a5:=Tryz.isAgg5
 z5:=Tryz.sizeOf5
 v5:=Tryz.zeroValue5
 i5:=by kernel_rfl
 t9:=Tryz.underlying9
 a9:=Tryz.isAgg9
 z9:=Tryz.sizeOf9
 v9:=Tryz.zeroValue9
 i9:=by kernel_rfl
 t12:=Tryz.underlying12
 a12:=Tryz.isAgg12
 z12:=Tryz.sizeOf12
 v12:=Tryz.zeroValue12
 i12:=by kernel_rfl
 t17:=Tryz.underlying17
 a17:=Tryz.isAgg17
 z17:=Tryz.sizeOf17
 v17:=Tryz.zeroValue17
 i17:=by kernel_rfl
 t20:=Tryz.underlying20
 a20:=Tryz.isAgg20
 z20:=Tryz.sizeOf20
 v20:=Tryz.zeroValue20
 i20:=by kernel_rfl
 t26:=Tryz.underlying182
 a26:=Tryz.isAgg182
 z26:=Tryz.sizeOf182
 v26:=Tryz.zeroValue182
 i26:=by kernel_rfl
 t32:=Tryz.underlying220
 a32:=Tryz.isAgg220
 z32:=Tryz.sizeOf220
 v32:=Tryz.zeroValue220
 i32:=by kernel_rfl
 t33:=Tryz.underlying221
 a33:=Tryz.isAgg221
 z33:=Tryz.sizeOf221
 v33:=Tryz.zeroValue221
 i33:=by kernel_rfl
 t35:=Tryz.underlying223
 a35:=Tryz.isAgg223
 z35:=Tryz.sizeOf223
 v35:=Tryz.zeroValue223
 i35:=by kernel_rfl
 t37:=Tryz.underlying225
 a37:=Tryz.isAgg225
 z37:=Tryz.sizeOf225
 v37:=Tryz.zeroValue225
 i37:=by kernel_rfl
 t41:=Tryz.underlying202
 a41:=Tryz.isAgg202
 z41:=Tryz.sizeOf202
 v41:=Tryz.zeroValue202
 i41:=by kernel_rfl
 t44:=Tryz.underlying230
 a44:=Tryz.isAgg230
 z44:=Tryz.sizeOf230
 v44:=Tryz.zeroValue230
 i44:=by kernel_rfl
 t49:=Tryz.underlying81
 a49:=Tryz.isAgg81
 z49:=Tryz.sizeOf81
 v49:=Tryz.zeroValue81
 i49:=by kernel_rfl
 t51:=Tryz.underlying174
 a51:=Tryz.isAgg174
 z51:=Tryz.sizeOf174
 v51:=Tryz.zeroValue174
 i51:=by kernel_rfl
 t53:=Tryz.underlying267
 a53:=Tryz.isAgg267
 z53:=Tryz.sizeOf267
 v53:=Tryz.zeroValue267
 i53:=by kernel_rfl
 t54:=Tryz.underlying268
 a54:=Tryz.isAgg268
 z54:=Tryz.sizeOf268
 v54:=Tryz.zeroValue268
 i54:=by kernel_rfl
 t58:=Tryz.underlying147
 a58:=Tryz.isAgg147
 z58:=Tryz.sizeOf147
 v58:=Tryz.zeroValue147
 i58:=by kernel_rfl
 t60:=Tryz.underlying297
 a60:=Tryz.isAgg297
 z60:=Tryz.sizeOf297
 v60:=Tryz.zeroValue297
 i60:=by kernel_rfl
 t64:=Tryz.underlying282
 a64:=Tryz.isAgg282
 z64:=Tryz.sizeOf282
 v64:=Tryz.zeroValue282
 i64:=by kernel_rfl
 t66:=Tryz.underlying312
 a66:=Tryz.isAgg312
 z66:=Tryz.sizeOf312
 v66:=Tryz.zeroValue312
 i66:=by kernel_rfl
 t67:=Tryz.underlying171
 a67:=Tryz.isAgg171
 z67:=Tryz.sizeOf171
 v67:=Tryz.zeroValue171
 i67:=by kernel_rfl
 t75:=Tryz.underlying326
 a75:=Tryz.isAgg326
 z75:=Tryz.sizeOf326
 v75:=Tryz.zeroValue326
 i75:=by kernel_rfl
 t76:=Tryz.underlying327
 a76:=Tryz.isAgg327
 z76:=Tryz.sizeOf327
 v76:=Tryz.zeroValue327
 i76:=by kernel_rfl
 t77:=Tryz.underlying328
 a77:=Tryz.isAgg328
 z77:=Tryz.sizeOf328
 v77:=Tryz.zeroValue328
 i77:=by kernel_rfl
 t78:=Tryz.underlying329
 a78:=Tryz.isAgg329
 z78:=Tryz.sizeOf329
 v78:=Tryz.zeroValue329
 i78:=by kernel_rfl
 t79:=Tryz.underlying330
 a79:=Tryz.isAgg330
 z79:=Tryz.sizeOf330
 v79:=Tryz.zeroValue330
 i79:=by kernel_rfl
 t80:=Tryz.underlying331
 a80:=Tryz.isAgg331
 z80:=Tryz.sizeOf331
 v80:=Tryz.zeroValue331
 i80:=by kernel_rfl
 t82:=Tryz.underlying333
 a82:=Tryz.isAgg333
 z82:=Tryz.sizeOf333
 v82:=Tryz.zeroValue333
 i82:=by kernel_rfl }
end Go.Proofs
end
section
namespace Go.Proofs
open Go.Shelf Go.RowKit Go.Lib Go.Sort
set_option maxHeartbeats 2000000 in
theorem Tryz.less171 (blk off c Bs size:Nat) (W:World) (G:Nat→Int) (hs:W.cell? ⟨Bs,0,none⟩=some (.slice (some ⟨blk,off,none⟩) size c))
  (hc:∀ t,t<size→W.cell? ⟨blk,off+t*2,none⟩=some (.int .i64 (G t))) (i j:Nat) (hi:i<size) (hj:j<size) (_hsz:size<4611686018427387904) :
  Calls Tryz.prog 171 #[.int .i64 i,.int .i64 j,.pointer (some ⟨Bs,0,none⟩)] W fun e w'=>e=.returned (.bool (decide (G i<G j)))∧∃ q,w'=W.drewN q:=by
 have ci:=hc i hi;have cj:=hc j hj
 go_enter Tryz.func171,Tryz.ntmps171
 go_wp2
 go_quiet (fail)
 go_wp2
 go_ret
 exact ⟨rfl,nq,rfl⟩
end Go.Proofs
end
