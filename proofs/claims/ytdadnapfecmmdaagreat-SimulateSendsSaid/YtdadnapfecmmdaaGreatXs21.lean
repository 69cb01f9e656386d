/- Own texts of a proof about layer 55's simulate (merged): Sl, Es. -/
import Derived.Test.YtdadnapfecmmdaaGreatProg
import Derived.Test.YtdadnapfecmmdaaGreatXs0
import Derived.Ground.SlgnProg
import Derived.Ground.SlsfProg
import Derived.Shelf.SlicesE.Compact
import Derived.Shelf.SlSortCmp.WholeK
import Derived.Shelf.SlSortCmp.NoneTotal
import Derived.WalkKit
import Derived.Ground.NamesProg
import Derived.Shelf.Sort.Plain
import Derived.Shelf.Slices.In.SortNone
import Derived.Sort.OwnSortedInts
namespace Go.Proofs.YtdadnapfecmmdaaGreat.P
set_option linter.unusedVariables false
set_option linter.unusedSimpArgs false
open Go.RowKit Go.Proofs.YtdadnapfecmmdaaGreatW.PrintWords
open Go.Shelf
def compRen:Ren where
 f:=fun x=>match x with
  | 43=>15
  | n=>n
 t:=fun x=>match x with
  | 22=>65
  | 23=>3
  | 3=>3
  | 4=>4
  | 0=>0
  | n=>n
 g:=fun x=>x
theorem laysComp:SlLaysE.n43 Tryz.prog compRen where
 mixed:=by kernel_rfl
 f43 := ⟨"slices.Compact[[]int,int]", of_decide_eq_true rfl, Eq.trans Tryz.func15 (congrArg some (by kernel_rfl))⟩
 t0:=Tryz.underlying0
 a0:=Tryz.isAgg0
 z0:=Tryz.sizeOf0
 v0:=Tryz.zeroValue0
 t3:=Tryz.underlying3
 a3:=Tryz.isAgg3
 z3:=Tryz.sizeOf3
 v3:=Tryz.zeroValue3
 t4:=Tryz.underlying4
 a4:=Tryz.isAgg4
 z4:=Tryz.sizeOf4
 v4:=Tryz.zeroValue4
 t22:=Tryz.underlying65
 a22:=Tryz.isAgg65
 z22:=Tryz.sizeOf65
 v22:=Tryz.zeroValue65
 a23:=Tryz.isAgg3
 z23:=Tryz.sizeOf3
def sortfRen:Ren where
 f:=fun x=>match x with
  | 6=>19
  | 15=>34
  | 14=>37
  | 28=>56
  | 29=>57
  | 20=>59
  | 21=>60
  | 22=>61
  | 23=>62
  | 24=>63
  | 25=>64
  | 26=>65
  | 27=>66
  | 46=>87
  | 47=>83
  | 48=>84
  | 49=>88
  | 50=>89
  | 57=>104
  | n=>n
 t:=fun x=>match x with
  | 22=>82
  | 24=>85
  | 25=>89
  | 3=>3
  | 39=>52
  | 0=>0
  | 53=>131
  | 55=>133
  | 4=>4
  | 46=>124
  | 45=>123
  | 50=>103
  | 5=>5
  | 9=>9
  | 66=>153
  | 70=>157
  | 76=>176
  | 77=>177
  | n=>n
 g:=fun x=>x
theorem laysSortf:SlLaysF0.n6 Tryz.prog sortfRen where
 mixed:=by kernel_rfl
 f6 := ⟨"slices.SortFunc[[]sleuth/simulate.arrival,sleuth/simulate.arrival]", of_decide_eq_true rfl, Eq.trans Tryz.func19 (congrArg some (by kernel_rfl))⟩
 f14 := ⟨"slices.pdqsortCmpFunc[sleuth/simulate.arrival]", of_decide_eq_true rfl, Eq.trans Tryz.func37 (congrArg some (by kernel_rfl))⟩
 f15:=Eq.trans Tryz.func34 (congrArg some (by kernel_rfl))
 f20 := ⟨"slices.insertionSortCmpFunc[sleuth/simulate.arrival]", of_decide_eq_true rfl, Eq.trans Tryz.func59 (congrArg some (by kernel_rfl))⟩
 f21 := ⟨"slices.heapSortCmpFunc[sleuth/simulate.arrival]", of_decide_eq_true rfl, Eq.trans Tryz.func60 (congrArg some (by kernel_rfl))⟩
 f22 := ⟨"slices.breakPatternsCmpFunc[sleuth/simulate.arrival]", of_decide_eq_true rfl, Eq.trans Tryz.func61 (congrArg some (by kernel_rfl))⟩
 f23 := ⟨"slices.choosePivotCmpFunc[sleuth/simulate.arrival]", of_decide_eq_true rfl, Eq.trans Tryz.func62 (congrArg some (by kernel_rfl))⟩
 f24 := ⟨"slices.reverseRangeCmpFunc[sleuth/simulate.arrival]", of_decide_eq_true rfl, Eq.trans Tryz.func63 (congrArg some (by kernel_rfl))⟩
 f25 := ⟨"slices.partialInsertionSortCmpFunc[sleuth/simulate.arrival]", of_decide_eq_true rfl, Eq.trans Tryz.func64 (congrArg some (by kernel_rfl))⟩
 f26 := ⟨"slices.partitionEqualCmpFunc[sleuth/simulate.arrival]", of_decide_eq_true rfl, Eq.trans Tryz.func65 (congrArg some (by kernel_rfl))⟩
 f27 := ⟨"slices.partitionCmpFunc[sleuth/simulate.arrival]", of_decide_eq_true rfl, Eq.trans Tryz.func66 (congrArg some (by kernel_rfl))⟩
 f28:=Eq.trans Tryz.func56 (congrArg some (by kernel_rfl))
 f29:=Eq.trans Tryz.func57 (congrArg some (by kernel_rfl))
 f46 := ⟨"slices.siftDownCmpFunc[sleuth/simulate.arrival]", of_decide_eq_true rfl, Eq.trans Tryz.func87 (congrArg some (by kernel_rfl))⟩
 f47:=Eq.trans Tryz.func83 (congrArg some (by kernel_rfl))
 f48:=Eq.trans Tryz.func84 (congrArg some (by kernel_rfl))
 f49 := ⟨"slices.medianAdjacentCmpFunc[sleuth/simulate.arrival]", of_decide_eq_true rfl, Eq.trans Tryz.func88 (congrArg some (by kernel_rfl))⟩
 f50 := ⟨"slices.medianCmpFunc[sleuth/simulate.arrival]", of_decide_eq_true rfl, Eq.trans Tryz.func89 (congrArg some (by kernel_rfl))⟩
 f57 := ⟨"slices.order2CmpFunc[sleuth/simulate.arrival]", of_decide_eq_true rfl, Eq.trans Tryz.func104 (congrArg some (by kernel_rfl))⟩
 t0:=Tryz.underlying0
 a0:=Tryz.isAgg0
 z0:=Tryz.sizeOf0
 v0:=Tryz.zeroValue0
 t3:=Tryz.underlying3
 a3:=Tryz.isAgg3
 z3:=Tryz.sizeOf3
 v3:=Tryz.zeroValue3
 t4:=Tryz.underlying4
 a4:=Tryz.isAgg4
 z4:=Tryz.sizeOf4
 v4:=Tryz.zeroValue4
 t5:=Tryz.underlying5
 a5:=Tryz.isAgg5
 z5:=Tryz.sizeOf5
 v5:=Tryz.zeroValue5
 t9:=Tryz.underlying9
 a9:=Tryz.isAgg9
 z9:=Tryz.sizeOf9
 v9:=Tryz.zeroValue9
 t22:=Tryz.underlying82
 a22:=Tryz.isAgg82
 z22:=Tryz.sizeOf82
 v22:=Tryz.zeroValue82
 t25:=Tryz.underlying89
 a25:=Tryz.isAgg89
 z25:=Tryz.sizeOf89
 v25:=Tryz.zeroValue89
 t39:=Tryz.underlying52
 a39:=Tryz.isAgg52
 z39:=Tryz.sizeOf52
 v39:=Tryz.zeroValue52
 t45:=Tryz.underlying123
 a45:=Tryz.isAgg123
 z45:=Tryz.sizeOf123
 v45:=Tryz.zeroValue123
 t46:=Tryz.underlying124
 a46:=Tryz.isAgg124
 z46:=Tryz.sizeOf124
 v46:=Tryz.zeroValue124
 t50:=Tryz.underlying103
 a50:=Tryz.isAgg103
 z50:=Tryz.sizeOf103
 v50:=Tryz.zeroValue103
 t53:=Tryz.underlying131
 a53:=Tryz.isAgg131
 z53:=Tryz.sizeOf131
 v53:=Tryz.zeroValue131
 t55:=Tryz.underlying133
 a55:=Tryz.isAgg133
 z55:=Tryz.sizeOf133
 v55:=Tryz.zeroValue133
 t66:=Tryz.underlying153
 a66:=Tryz.isAgg153
 z66:=Tryz.sizeOf153
 v66:=Tryz.zeroValue153
 t70:=Tryz.underlying157
 a70:=Tryz.isAgg157
 z70:=Tryz.sizeOf157
 v70:=Tryz.zeroValue157
 t76:=Tryz.underlying176
 a76:=Tryz.isAgg176
 z76:=Tryz.sizeOf176
 v76:=Tryz.zeroValue176
 t77:=Tryz.underlying177
 a77:=Tryz.isAgg177
 z77:=Tryz.sizeOf177
 v77:=Tryz.zeroValue177
def sortRen:Ren where
 f:=fun x=>match x with
  | 189=>14
  | 125=>34
  | 257=>33
  | 128=>56
  | 129=>57
  | 294=>47
  | 295=>48
  | 296=>49
  | 297=>50
  | 298=>51
  | 299=>52
  | 216=>53
  | 300=>54
  | 301=>55
  | 328=>82
  | 329=>83
  | 330=>84
  | 331=>85
  | 332=>86
  | 215=>38
  | 343=>103
  | n=>n
 t:=fun x=>match x with
  | 28=>65
  | 3=>3
  | 46=>52
  | 0=>0
  | 51=>131
  | 53=>133
  | 4=>4
  | 183=>124
  | 182=>123
  | 131=>103
  | 5=>5
  | 9=>9
  | 218=>153
  | 222=>157
  | 228=>176
  | 229=>177
  | n=>n
 g:=fun x=>x
theorem laysSort:Lays.n189 Tryz.prog sortRen where
 mixed:=by kernel_rfl
 f125:=Eq.trans Tryz.func34 (congrArg some (by kernel_rfl))
 f128:=Eq.trans Tryz.func56 (congrArg some (by kernel_rfl))
 f129:=Eq.trans Tryz.func57 (congrArg some (by kernel_rfl))
 f189:=Eq.trans Tryz.func14 (congrArg some (by kernel_rfl))
 f215:=Eq.trans Tryz.func38 (congrArg some (by kernel_rfl))
 f216:=Eq.trans Tryz.func53 (congrArg some (by kernel_rfl))
 f257:=Eq.trans Tryz.func33 (congrArg some (by kernel_rfl))
 f294:=Eq.trans Tryz.func47 (congrArg some (by kernel_rfl))
 f295:=Eq.trans Tryz.func48 (congrArg some (by kernel_rfl))
 f296:=Eq.trans Tryz.func49 (congrArg some (by kernel_rfl))
 f297:=Eq.trans Tryz.func50 (congrArg some (by kernel_rfl))
 f298:=Eq.trans Tryz.func51 (congrArg some (by kernel_rfl))
 f299:=Eq.trans Tryz.func52 (congrArg some (by kernel_rfl))
 f300:=Eq.trans Tryz.func54 (congrArg some (by kernel_rfl))
 f301:=Eq.trans Tryz.func55 (congrArg some (by kernel_rfl))
 f328:=Eq.trans Tryz.func82 (congrArg some (by kernel_rfl))
 f329:=Eq.trans Tryz.func83 (congrArg some (by kernel_rfl))
 f330:=Eq.trans Tryz.func84 (congrArg some (by kernel_rfl))
 f331:=Eq.trans Tryz.func85 (congrArg some (by kernel_rfl))
 f332:=Eq.trans Tryz.func86 (congrArg some (by kernel_rfl))
 f343:=Eq.trans Tryz.func103 (congrArg some (by kernel_rfl))
 t0:=Tryz.underlying0
 a0:=Tryz.isAgg0
 z0:=Tryz.sizeOf0
 v0:=Tryz.zeroValue0
 t3:=Tryz.underlying3
 a3:=Tryz.isAgg3
 z3:=Tryz.sizeOf3
 v3:=Tryz.zeroValue3
 t4:=Tryz.underlying4
 a4:=Tryz.isAgg4
 z4:=Tryz.sizeOf4
 v4:=Tryz.zeroValue4
 t5:=Tryz.underlying5
 a5:=Tryz.isAgg5
 z5:=Tryz.sizeOf5
 v5:=Tryz.zeroValue5
 t9:=Tryz.underlying9
 a9:=Tryz.isAgg9
 z9:=Tryz.sizeOf9
 v9:=Tryz.zeroValue9
 t28:=Tryz.underlying65
 a28:=Tryz.isAgg65
 z28:=Tryz.sizeOf65
 v28:=Tryz.zeroValue65
 t46:=Tryz.underlying52
 a46:=Tryz.isAgg52
 z46:=Tryz.sizeOf52
 v46:=Tryz.zeroValue52
 t51:=Tryz.underlying131
 a51:=Tryz.isAgg131
 z51:=Tryz.sizeOf131
 v51:=Tryz.zeroValue131
 t53:=Tryz.underlying133
 a53:=Tryz.isAgg133
 z53:=Tryz.sizeOf133
 v53:=Tryz.zeroValue133
 t131:=Tryz.underlying103
 a131:=Tryz.isAgg103
 z131:=Tryz.sizeOf103
 v131:=Tryz.zeroValue103
 t182:=Tryz.underlying123
 a182:=Tryz.isAgg123
 z182:=Tryz.sizeOf123
 v182:=Tryz.zeroValue123
 t183:=Tryz.underlying124
 a183:=Tryz.isAgg124
 z183:=Tryz.sizeOf124
 v183:=Tryz.zeroValue124
 t218:=Tryz.underlying153
 a218:=Tryz.isAgg153
 z218:=Tryz.sizeOf153
 v218:=Tryz.zeroValue153
 t222:=Tryz.underlying157
 a222:=Tryz.isAgg157
 z222:=Tryz.sizeOf157
 v222:=Tryz.zeroValue157
 t228:=Tryz.underlying176
 a228:=Tryz.isAgg176
 z228:=Tryz.sizeOf176
 v228:=Tryz.zeroValue176
 t229:=Tryz.underlying177
 a229:=Tryz.isAgg177
 z229:=Tryz.sizeOf177
 v229:=Tryz.zeroValue177
theorem sort_int (blk off cap:Nat) (zs:List Int) (w:World) (hH:Go.Sort.Holds (Value.int .i64) w blk off zs.toArray) (hblk:blk < w.heap.size) (hsz:zs.length < 4611686018427387904):
  Calls Tryz.prog 14 #[.slice (some ⟨blk,off,none⟩) zs.length cap] w fun e w'=>
   e = .returned (.tuple #[])∧∃ n os,w' = Go.Sort.grow (Go.Sort.putRow (Value.int .i64) (Sort.ahead w n) blk off (zs.mergeSort fun x y=>decide (x ≤ y)).toArray) os:=
 Any.slices_Sort_int laysSort blk off cap zs w hH hblk hsz
end Go.Proofs.YtdadnapfecmmdaaGreat.P
