/- A part of the proof. -/
import Derived.KernelRfl
import Derived.Shelf.Unicode.ValidAny
import Derived.Test.YtgkmigdopohcnaaGreatDoorShelf
set_option linter.all false
namespace Go.Proofs
open Tryz
def Tryz.lays196_ren:Go.Shelf.Ren:=⟨fun|196=>102|259=>151|n=>n,fun|9=>9|21=>21|3=>3|4=>4|5=>5|119=>196|0=>0|12=>12|46=>161|53=>229|139=>199|138=>198|n=>n,fun|3=>0|4=>1|n=>n⟩
theorem Tryz.lays196:Go.Proofs.Lays.n196 prog lays196_ren:={
 mixed:=by kernel_rfl,f196:=func102.trans (congrArg some (by kernel_rfl)),f259:=func151.trans (congrArg some (by kernel_rfl)),t0:=underlying0,a0:=isAgg0,z0:=sizeOf0,v0:=zeroValue0,t3:=underlying3,a3:=isAgg3,z3:=sizeOf3,v3:=zeroValue3,t4:=underlying4,
 a4:=isAgg4,z4:=sizeOf4,v4:=zeroValue4,t5:=underlying5,a5:=isAgg5,z5:=sizeOf5,v5:=zeroValue5,t9:=underlying9,a9:=isAgg9,z9:=sizeOf9,v9:=zeroValue9,t12:=underlying12,
 a12:=isAgg12,z12:=sizeOf12,v12:=zeroValue12,t46:=underlying161,a46:=isAgg161,z46:=sizeOf161,v46:=zeroValue161,t53:=underlying229,a53:=isAgg229,z53:=sizeOf229,v53:=zeroValue229,t119:=underlying196,
 a119:=isAgg196,z119:=sizeOf196,t138:=underlying198,a138:=isAgg198,z138:=sizeOf198,v138:=zeroValue198,t139:=underlying199,a139:=isAgg199,z139:=sizeOf199,v139:=zeroValue199,g3:=by kernel_rfl,g4:=by kernel_rfl}
open Go.RowKit Go.Lib in
theorem Tryz.utf8_ValidString(s:ByteArray)(w:World)(hs:s.size≤9223372036854775807)(hT:Lib.Utf8Tabs 0 1 w) :
    Calls prog 102 #[.string s] w fun e w'=>e = .returned (.bool (Lib.validD s.data.toList))∧Below w.heap.size w w':=Any.utf8_ValidString lays196 s w hs hT
end Go.Proofs
