/- A part of the proof. -/
import Derived.KernelRfl
import Derived.Shelf.Unicode.ValidAny
import Derived.Test.YtidlkjpohhbbcaaGreatDoorShelf
set_option linter.all false
namespace Go.Proofs
open Tryz
def Tryz.lays196_ren:Go.Shelf.Ren:=⟨fun|196=>124|259=>186|n=>n,fun|9=>9|21=>21|3=>3|4=>4|5=>5|119=>208|0=>0|12=>12|46=>173|53=>246|139=>211|138=>210|n=>n,fun|3=>0|4=>1|n=>n⟩
theorem Tryz.lays196:Go.Proofs.Lays.n196 prog lays196_ren:={
 mixed:=by kernel_rfl,f196:=func124.trans (congrArg some (by kernel_rfl)),f259:=func186.trans (congrArg some (by kernel_rfl)),t0:=underlying0,a0:=isAgg0,z0:=sizeOf0,v0:=zeroValue0,t3:=underlying3,a3:=isAgg3,z3:=sizeOf3,v3:=zeroValue3,t4:=underlying4,
 a4:=isAgg4,z4:=sizeOf4,v4:=zeroValue4,t5:=underlying5,a5:=isAgg5,z5:=sizeOf5,v5:=zeroValue5,t9:=underlying9,a9:=isAgg9,z9:=sizeOf9,v9:=zeroValue9,t12:=underlying12,
 a12:=isAgg12,z12:=sizeOf12,v12:=zeroValue12,t46:=underlying173,a46:=isAgg173,z46:=sizeOf173,v46:=zeroValue173,t53:=underlying246,a53:=isAgg246,z53:=sizeOf246,v53:=zeroValue246,t119:=underlying208,
 a119:=isAgg208,z119:=sizeOf208,t138:=underlying210,a138:=isAgg210,z138:=sizeOf210,v138:=zeroValue210,t139:=underlying211,a139:=isAgg211,z139:=sizeOf211,v139:=zeroValue211,g3:=by kernel_rfl,g4:=by kernel_rfl}
open Go.RowKit Go.Lib in
theorem Tryz.utf8_ValidString(s:ByteArray)(w:World)(hs:s.size≤9223372036854775807)(hT:Lib.Utf8Tabs 0 1 w) :
    Calls prog 124 #[.string s] w fun e w'=>e = .returned (.bool (Lib.validD s.data.toList))∧Below w.heap.size w w':=Any.utf8_ValidString lays196 s w hs hT
end Go.Proofs
