/- A part of the proof. -/
import Derived.KernelRfl
import Derived.Shelf.SlIter.Nil
import Derived.Shelf.SortM.Plain
import Derived.Shelf.SortM.SortNone
import Derived.Test.YtgkmigdopohcnaaGreatDoorProg
set_option linter.all false
namespace Go.Proofs
open Tryz
open Go.RowKit Go.Maps Go.Sort Go.Shelf
theorem tK_key{α:Type _}{x:Option α}{a b:α}(h:x=some a)(e:a=b:=by kernel_rfl):x=some b:=h.trans (congrArg some e)
def Tryz.keys89_ren:Go.Shelf.Ren:=⟨fun|7=>89|10=>134|n=>n,fun|23=>123|26=>9|3=>25|28=>127|0=>0|27=>126|33=>158|4=>4|n=>n,fun  | n=>n⟩
theorem Tryz.keys89:Go.Proofs.SlLaysZ.n7 prog keys89_ren:={
 mixed:=by kernel_rfl,f7:=⟨f89.name,by kernel_rfl,tK_key func89⟩,f10:=⟨f134.name,by kernel_rfl,tK_key func134⟩,t0:=underlying0,a0:=isAgg0,z0:=sizeOf0,v0:=zeroValue0,t4:=underlying4,a4:=isAgg4,z4:=sizeOf4,v4:=zeroValue4,t23:=underlying123,
 a23:=isAgg123,z23:=sizeOf123,v23:=zeroValue123,t26:=underlying9,a26:=isAgg9,z26:=sizeOf9,v26:=zeroValue9,t27:=underlying126,a27:=isAgg126,z27:=sizeOf126,v27:=zeroValue126,t28:=underlying127,
 a28:=isAgg127,z28:=sizeOf127,v28:=zeroValue127,t33:=underlying158,a33:=isAgg158,z33:=sizeOf158,v33:=zeroValue158}
def Tryz.sorted88_ren:Go.Shelf.Ren:=⟨fun|6=>88|8=>132|9=>133|11=>173|13=>175|12=>174|23=>208|24=>209|14=>199|15=>200|16=>201|17=>202|18=>203|19=>204|20=>205|21=>206|22=>207|25=>240|26=>241|27=>242|28=>243|29=>244|30=>245|31=>269|n=>n,fun|26=>9|28=>127|24=>22|0=>0|3=>3|37=>161|48=>250|50=>229|4=>4|40=>243|39=>242|45=>78|5=>5|9=>9|51=>269|55=>273|57=>291|58=>292|33=>158|n=>n,fun  | n=>n⟩
theorem Tryz.sorted88:Go.Proofs.SlLaysZ.n6 prog sorted88_ren:={
 mixed:=by kernel_rfl,f6:=⟨f88.name,by kernel_rfl,tK_key func88⟩,f8:=⟨f132.name,by kernel_rfl,tK_key func132⟩,f11:=⟨f173.name,by kernel_rfl,tK_key func173⟩,t0:=underlying0,a0:=isAgg0,z0:=sizeOf0,v0:=zeroValue0,t24:=underlying22,a24:=isAgg22,z24:=sizeOf22,v24:=zeroValue22,
 t26:=underlying9,a26:=isAgg9,z26:=sizeOf9,v26:=zeroValue9,t28:=underlying127,a28:=isAgg127,z28:=sizeOf127,v28:=zeroValue127,i26:=by kernel_rfl}
def Tryz.sort133_ren:Go.Shelf.Ren:=⟨fun|6=>133|8=>175|9=>174|19=>208|20=>209|21=>199|22=>200|23=>201|24=>202|25=>203|26=>204|27=>205|28=>206|29=>207|36=>240|31=>241|32=>242|37=>243|38=>244|39=>245|41=>269|n=>n,fun|27=>22|29=>9|3=>3|32=>161|26=>22|0=>0|44=>250|46=>229|4=>4|36=>243|35=>242|41=>78|5=>5|9=>9|53=>269|57=>273|63=>291|64=>292|n=>n,fun  | n=>n⟩
theorem Tryz.sort133:Go.Proofs.SlLaysM.n6 prog sort133_ren:={
 mixed:=by kernel_rfl,f6:=⟨f133.name,by kernel_rfl,tK_key func133⟩,f8:=tK_key func175,f9:=⟨f174.name,by kernel_rfl,tK_key func174⟩,f19:=tK_key func208,f20:=tK_key func209,f21:=⟨f199.name,by kernel_rfl,tK_key func199⟩,f22:=⟨f200.name,by kernel_rfl,tK_key func200⟩,f23:=⟨f201.name,by kernel_rfl,tK_key func201⟩,f24:=⟨f202.name,by kernel_rfl,tK_key func202⟩,f25:=⟨f203.name,by kernel_rfl,tK_key func203⟩,f26:=⟨f204.name,by kernel_rfl,tK_key func204⟩,
 f27:=⟨f205.name,by kernel_rfl,tK_key func205⟩,f28:=⟨f206.name,by kernel_rfl,tK_key func206⟩,f29:=⟨f207.name,by kernel_rfl,tK_key func207⟩,f31:=tK_key func241,f32:=tK_key func242,f36:=⟨f240.name,by kernel_rfl,tK_key func240⟩,f37:=⟨f243.name,by kernel_rfl,tK_key func243⟩,f38:=⟨f244.name,by kernel_rfl,tK_key func244⟩,f39:=⟨f245.name,by kernel_rfl,tK_key func245⟩,f41:=⟨f269.name,by kernel_rfl,tK_key func269⟩,t0:=underlying0,a0:=isAgg0,
 z0:=sizeOf0,v0:=zeroValue0,t3:=underlying3,a3:=isAgg3,z3:=sizeOf3,v3:=zeroValue3,t4:=underlying4,a4:=isAgg4,z4:=sizeOf4,v4:=zeroValue4,t5:=underlying5,a5:=isAgg5,
 z5:=sizeOf5,v5:=zeroValue5,t9:=underlying9,a9:=isAgg9,z9:=sizeOf9,v9:=zeroValue9,t26:=underlying22,a26:=isAgg22,z26:=sizeOf22,v26:=zeroValue22,t27:=underlying22,a27:=isAgg22,
 z27:=sizeOf22,v27:=zeroValue22,t29:=underlying9,a29:=isAgg9,z29:=sizeOf9,v29:=zeroValue9,t32:=underlying161,a32:=isAgg161,z32:=sizeOf161,v32:=zeroValue161,t35:=underlying242,a35:=isAgg242,
 z35:=sizeOf242,v35:=zeroValue242,t36:=underlying243,a36:=isAgg243,z36:=sizeOf243,v36:=zeroValue243,t41:=underlying78,a41:=isAgg78,z41:=sizeOf78,v41:=zeroValue78,t44:=underlying250,a44:=isAgg250,
 z44:=sizeOf250,v44:=zeroValue250,t46:=underlying229,a46:=isAgg229,z46:=sizeOf229,v46:=zeroValue229,t53:=underlying269,a53:=isAgg269,z53:=sizeOf269,v53:=zeroValue269,t57:=underlying273,a57:=isAgg273,
 z57:=sizeOf273,v57:=zeroValue273,t63:=underlying291,a63:=isAgg291,z63:=sizeOf291,v63:=zeroValue291,t64:=underlying292,a64:=isAgg292,z64:=sizeOf292,v64:=zeroValue292}
theorem Tryz.sorts80(m:Nat):AnyZ.SortsIn prog sorted88_ren Fence.wide m:=
  ⟨fun blk off cap ss W hH hblk hsz=>callsIn_wide.2 (AnyM.slices_Sort_string sort133 blk off cap ss W hH hblk hsz),
   fun p cap W=>callsIn_wide.2 (AnyM.slices_Sort_string_none sort133 p cap W)⟩
theorem Tryz.maps_Keys_89(mb:Option Nat)(W:World):CallsIn Fence.wide 5 prog 89 #[.map mb] W fun e w'=>e = .returned (.func (.func 134) #[] #[.pointer (some ⟨W.heap.size,0,none⟩)])∧w' = W.alloc (.cells #[.map mb] 123):=
  AnyZ.keys_in keys89 Fence.wide 5 trivial rfl mb W
set_option maxHeartbeats 1000000 in
theorem Tryz.slices_Sorted_keys_88_89{H:Type}(b nn:Nat)(D0:DataW H)(R:Value→Option (DataW H × List MemPlace))(w:World)(hown:w.ownsMap prog 9 R b nn D0)(hmax:Maps.size D0≤maxLen)(hbytes:Maps.size D0 * 16≤140737488355328) :
    CallsIn Fence.wide 5 prog 88 #[.func (.func 134) #[] #[.pointer (some ⟨w.heap.size,0,none⟩)]] (w.alloc (.cells #[.map (some b)] 123)) fun e w'=>∃(v:Value)(ss:List (List UInt8)),e = .returned v∧ss.Perm (strKeys D0) ∧
      w'.ownsRow (w.alloc (.cells #[.map (some b)] 123)).heap.size 9 1 v ss.length ((ss.mergeSort (fun x y=>decide (x≤y))).map encStr)∧(v = .slice none 0 0↔ss = [])∧Below (w.alloc (.cells #[.map (some b)] 123)).heap.size (w.alloc (.cells #[.map (some b)] 123)) w':=by
  have hbl:=hown.lt
  have hseq:SeqGives Fence.wide 2 prog 134 #[.pointer (some ⟨w.heap.size,0,none⟩)] encStr (fun ss=>ss.Perm (strKeys D0)) (Maps.size D0) (w.alloc (.cells #[.map (some b)] 123)):=
    AnyZ.keys_gives (ρ:=keys89_ren) { keys89 with } Fence.wide _ trivial rfl (by omega) w.heap.size b nn D0 _ (by simp) (by simp) (by
      obtain ⟨es,clock,hb,Ft,hs,hD⟩:=hown
      exact ⟨es,clock,(Below.heap_alloc _ _ b hbl).trans hb,Ft,hs,hD⟩)
  exact AnyZ.sorted_in sorted88 Fence.wide 5 trivial trivial trivial trivial rfl (by omega) (sorts80 _) (enters_of func133 (by kernel_rfl) rfl) 134 #[.pointer (some ⟨w.heap.size,0,none⟩)] trivial (enters_of func134 (by kernel_rfl) rfl) _ _ hmax hbytes _ hseq
end Go.Proofs
