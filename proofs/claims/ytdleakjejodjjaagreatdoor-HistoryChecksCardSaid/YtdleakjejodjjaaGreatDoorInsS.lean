/- History: the contract of slices.insertionSortCmpFunc, laid at this translation by the shelf's tool. -/
import Derived.Shelf.SlSortCmp.InsertionK
import Derived.Test.YtdleakjejodjjaaGreatDoorProg
namespace Go.Proofs
open Go.Shelf
def Tryz.insort_ren:Go.Shelf.Ren:=⟨fun|20=>99|n=>n,fun|24=>42|22=>23|3=>3|25=>82|4=>4|0=>0|n=>n,fun|n=>n⟩
theorem Tryz.insort:Go.Proofs.SlLaysF0.n20 Tryz.prog Tryz.insort_ren:={
 mixed:=by kernel_rfl
 f20:=⟨Tryz.f99.name,by decide,Tryz.func99.trans (congrArg some (by kernel_rfl))⟩
 t0:=Tryz.underlying0
 a0:=Tryz.isAgg0
 z0:=Tryz.sizeOf0
 v0:=Tryz.zeroValue0
 t3:=Tryz.underlying3
 a3:=Tryz.isAgg3
 z3:=Tryz.sizeOf3
 v3:=Tryz.zeroValue3
 t4:=Tryz.underlying4
 a4:=Tryz.isAgg4
 z4:=Tryz.sizeOf4
 v4:=Tryz.zeroValue4
 t22:=Tryz.underlying23
 a22:=Tryz.isAgg23
 z22:=Tryz.sizeOf23
 v22:=Tryz.zeroValue23
 t25:=Tryz.underlying82
 a25:=Tryz.isAgg82
 z25:=Tryz.sizeOf82
 v25:=Tryz.zeroValue82 }
end Go.Proofs
