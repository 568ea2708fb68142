/-
What the library gives, laid at this program.
-/
import Derived.Shelf.SlGeneric
import Derived.Shelf.SlSortCmp.NoneTotal
import Derived.Ground.SlsfProg
import Derived.Test.YtkojegdemoahlaaGreatDoorProg
namespace Go.Proofs
open Go.Shelf
def Tryz.sortFct_ren:Go.Shelf.Ren:=⟨fun|6=>139|15=>196|14=>203|28=>246|29=>247|20=>249|21=>250|22=>251|23=>252|24=>253|25=>254|26=>255|27=>256|46=>279|47=>274|48=>275|49=>280|50=>281|57=>302|n=>n,fun|22=>38|24=>54|25=>186|3=>3|39=>291|0=>0|53=>338|55=>340|4=>4|46=>332|45=>331|50=>168|5=>5|9=>9|66=>350|70=>354|76=>373|77=>143|n=>n,fun|n=>n⟩
def Tryz.sortSpn_ren:Go.Shelf.Ren:=⟨fun|6=>132|15=>196|14=>195|28=>246|29=>247|20=>238|21=>239|22=>240|23=>241|24=>242|25=>243|26=>244|27=>245|46=>273|47=>274|48=>275|49=>276|50=>277|57=>299|n=>n,fun|22=>40|24=>123|25=>235|3=>3|39=>291|0=>0|53=>338|55=>340|4=>4|46=>332|45=>331|50=>168|5=>5|9=>9|66=>350|70=>354|76=>373|77=>143|n=>n,fun|n=>n⟩
theorem Tryz.sortSpn:Go.Proofs.SlLaysF0.n6 Tryz.prog Tryz.sortSpn_ren:={
 mixed:=by kernel_rfl
 f6:=⟨Tryz.f132.name,by decide,Tryz.func132.trans (congrArg some (by kernel_rfl))⟩
 f14:=⟨Tryz.f195.name,by decide,Tryz.func195.trans (congrArg some (by kernel_rfl))⟩
 f15:=Tryz.func196.trans (congrArg some (by kernel_rfl))
 f20:=⟨Tryz.f238.name,by decide,Tryz.func238.trans (congrArg some (by kernel_rfl))⟩
 f21:=⟨Tryz.f239.name,by decide,Tryz.func239.trans (congrArg some (by kernel_rfl))⟩
 f22:=⟨Tryz.f240.name,by decide,Tryz.func240.trans (congrArg some (by kernel_rfl))⟩
 f23:=⟨Tryz.f241.name,by decide,Tryz.func241.trans (congrArg some (by kernel_rfl))⟩
 f24:=⟨Tryz.f242.name,by decide,Tryz.func242.trans (congrArg some (by kernel_rfl))⟩
 f25:=⟨Tryz.f243.name,by decide,Tryz.func243.trans (congrArg some (by kernel_rfl))⟩
 f26:=⟨Tryz.f244.name,by decide,Tryz.func244.trans (congrArg some (by kernel_rfl))⟩
 f27:=⟨Tryz.f245.name,by decide,Tryz.func245.trans (congrArg some (by kernel_rfl))⟩
 f28:=Tryz.func246.trans (congrArg some (by kernel_rfl))
 f29:=Tryz.func247.trans (congrArg some (by kernel_rfl))
 f46:=⟨Tryz.f273.name,by decide,Tryz.func273.trans (congrArg some (by kernel_rfl))⟩
 f47:=Tryz.func274.trans (congrArg some (by kernel_rfl))
 f48:=Tryz.func275.trans (congrArg some (by kernel_rfl))
 f49:=⟨Tryz.f276.name,by decide,Tryz.func276.trans (congrArg some (by kernel_rfl))⟩
 f50:=⟨Tryz.f277.name,by decide,Tryz.func277.trans (congrArg some (by kernel_rfl))⟩
 f57:=⟨Tryz.f299.name,by decide,Tryz.func299.trans (congrArg some (by kernel_rfl))⟩
 t0:=Tryz.underlying0
 a0:=Tryz.isAgg0
 z0:=Tryz.sizeOf0
 v0:=Tryz.zeroValue0
 t3:=Tryz.underlying3
 a3:=Tryz.isAgg3
 z3:=Tryz.sizeOf3
 v3:=Tryz.zeroValue3
 t4:=Tryz.underlying4
 a4:=Tryz.isAgg4
 z4:=Tryz.sizeOf4
 v4:=Tryz.zeroValue4
 t5:=Tryz.underlying5
 a5:=Tryz.isAgg5
 z5:=Tryz.sizeOf5
 v5:=Tryz.zeroValue5
 t9:=Tryz.underlying9
 a9:=Tryz.isAgg9
 z9:=Tryz.sizeOf9
 v9:=Tryz.zeroValue9
 t22:=Tryz.underlying40
 a22:=Tryz.isAgg40
 z22:=Tryz.sizeOf40
 v22:=Tryz.zeroValue40
 t25:=Tryz.underlying235
 a25:=Tryz.isAgg235
 z25:=Tryz.sizeOf235
 v25:=Tryz.zeroValue235
 t39:=Tryz.underlying291
 a39:=Tryz.isAgg291
 z39:=Tryz.sizeOf291
 v39:=Tryz.zeroValue291
 t45:=Tryz.underlying331
 a45:=Tryz.isAgg331
 z45:=Tryz.sizeOf331
 v45:=Tryz.zeroValue331
 t46:=Tryz.underlying332
 a46:=Tryz.isAgg332
 z46:=Tryz.sizeOf332
 v46:=Tryz.zeroValue332
 t50:=Tryz.underlying168
 a50:=Tryz.isAgg168
 z50:=Tryz.sizeOf168
 v50:=Tryz.zeroValue168
 t53:=Tryz.underlying338
 a53:=Tryz.isAgg338
 z53:=Tryz.sizeOf338
 v53:=Tryz.zeroValue338
 t55:=Tryz.underlying340
 a55:=Tryz.isAgg340
 z55:=Tryz.sizeOf340
 v55:=Tryz.zeroValue340
 t66:=Tryz.underlying350
 a66:=Tryz.isAgg350
 z66:=Tryz.sizeOf350
 v66:=Tryz.zeroValue350
 t70:=Tryz.underlying354
 a70:=Tryz.isAgg354
 z70:=Tryz.sizeOf354
 v70:=Tryz.zeroValue354
 t76:=Tryz.underlying373
 a76:=Tryz.isAgg373
 z76:=Tryz.sizeOf373
 v76:=Tryz.zeroValue373
 t77:=Tryz.underlying143
 a77:=Tryz.isAgg143
 z77:=Tryz.sizeOf143
 v77:=Tryz.zeroValue143 }
end Go.Proofs
