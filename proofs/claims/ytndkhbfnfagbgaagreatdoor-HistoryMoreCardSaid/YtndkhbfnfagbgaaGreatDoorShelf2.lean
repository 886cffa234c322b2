/- A part of the proof. -/
import Derived.KernelRfl
import Derived.Shelf.Unicode.ValidAny
import Derived.Test.YtndkhbfnfagbgaaGreatDoorShelf
set_option linter.all false
namespace Go.Proofs
open Tryz
def Tryz.lays196_ren:Go.Shelf.Ren:=⟨fun|196=>108|259=>149|n=>n,fun|9=>9|21=>21|3=>3|4=>4|5=>5|119=>192|0=>0|12=>12|46=>105|53=>149|139=>195|138=>194|n=>n,fun|3=>0|4=>1|n=>n⟩
theorem Tryz.lays196:Go.Proofs.Lays.n196 prog lays196_ren:={
 mixed:=by kernel_rfl,f196:=func108.trans (congrArg some (by kernel_rfl)),f259:=func149.trans (congrArg some (by kernel_rfl)),t0:=underlying0,a0:=isAgg0,z0:=sizeOf0,v0:=zeroValue0,t3:=underlying3,a3:=isAgg3,z3:=sizeOf3,v3:=zeroValue3,t4:=underlying4,
 a4:=isAgg4,z4:=sizeOf4,v4:=zeroValue4,t5:=underlying5,a5:=isAgg5,z5:=sizeOf5,v5:=zeroValue5,t9:=underlying9,a9:=isAgg9,z9:=sizeOf9,v9:=zeroValue9,t12:=underlying12,
 a12:=isAgg12,z12:=sizeOf12,v12:=zeroValue12,t46:=underlying105,a46:=isAgg105,z46:=sizeOf105,v46:=zeroValue105,t53:=underlying149,a53:=isAgg149,z53:=sizeOf149,v53:=zeroValue149,t119:=underlying192,
 a119:=isAgg192,z119:=sizeOf192,t138:=underlying194,a138:=isAgg194,z138:=sizeOf194,v138:=zeroValue194,t139:=underlying195,a139:=isAgg195,z139:=sizeOf195,v139:=zeroValue195,g3:=by kernel_rfl,g4:=by kernel_rfl}
open Go.RowKit Go.Lib in
theorem Tryz.utf8_ValidString(s:ByteArray)(w:World)(hs:s.size≤9223372036854775807)(hT:Lib.Utf8Tabs 0 1 w) :
    Calls prog 108 #[.string s] w fun e w'=>e = .returned (.bool (Lib.validD s.data.toList))∧Below w.heap.size w w':=Any.utf8_ValidString lays196 s w hs hT
end Go.Proofs
