/- A part of the proof. -/
import Derived.KernelRfl
import Derived.Shelf.SlIter.Nil
import Derived.Shelf.SortM.Plain
import Derived.Shelf.SortM.SortNone
import Derived.Test.YtidlkjpohhbbcaaGreatDoorProg
set_option linter.all false
namespace Go.Proofs
open Tryz
open Go.RowKit Go.Maps Go.Sort Go.Shelf
theorem tK_key{α:Type _}{x:Option α}{a b:α}(h:x=some a)(e:a=b:=by kernel_rfl):x=some b:=h.trans (congrArg some e)
def Tryz.keys139_ren:Go.Shelf.Ren:=⟨fun|7=>139|10=>203|n=>n,fun|23=>166|26=>9|3=>36|28=>170|0=>0|27=>169|33=>154|4=>4|n=>n,fun  | n=>n⟩
theorem Tryz.keys139:Go.Proofs.SlLaysZ.n7 prog keys139_ren:={
 mixed:=by kernel_rfl,f7:=⟨f139.name,by kernel_rfl,tK_key func139⟩,f10:=⟨f203.name,by kernel_rfl,tK_key func203⟩,t0:=underlying0,a0:=isAgg0,z0:=sizeOf0,v0:=zeroValue0,t4:=underlying4,a4:=isAgg4,z4:=sizeOf4,v4:=zeroValue4,t23:=underlying166,
 a23:=isAgg166,z23:=sizeOf166,v23:=zeroValue166,t26:=underlying9,a26:=isAgg9,z26:=sizeOf9,v26:=zeroValue9,t27:=underlying169,a27:=isAgg169,z27:=sizeOf169,v27:=zeroValue169,t28:=underlying170,
 a28:=isAgg170,z28:=sizeOf170,v28:=zeroValue170,t33:=underlying154,a33:=isAgg154,z33:=sizeOf154,v33:=zeroValue154}
def Tryz.sorted138_ren:Go.Shelf.Ren:=⟨fun|6=>138|8=>201|9=>202|11=>241|13=>243|12=>242|23=>280|24=>281|14=>271|15=>272|16=>273|17=>274|18=>275|19=>276|20=>277|21=>278|22=>279|25=>299|26=>300|27=>301|28=>302|29=>303|30=>304|31=>322|n=>n,fun|26=>9|28=>170|24=>33|0=>0|3=>3|37=>173|48=>281|50=>246|4=>4|40=>274|39=>273|45=>81|5=>5|9=>9|51=>290|55=>294|57=>309|58=>310|33=>154|n=>n,fun  | n=>n⟩
theorem Tryz.sorted138:Go.Proofs.SlLaysZ.n6 prog sorted138_ren:={
 mixed:=by kernel_rfl,f6:=⟨f138.name,by kernel_rfl,tK_key func138⟩,f8:=⟨f201.name,by kernel_rfl,tK_key func201⟩,f11:=⟨f241.name,by kernel_rfl,tK_key func241⟩,t0:=underlying0,a0:=isAgg0,z0:=sizeOf0,v0:=zeroValue0,t24:=underlying33,a24:=isAgg33,z24:=sizeOf33,v24:=zeroValue33,
 t26:=underlying9,a26:=isAgg9,z26:=sizeOf9,v26:=zeroValue9,t28:=underlying170,a28:=isAgg170,z28:=sizeOf170,v28:=zeroValue170,i26:=by kernel_rfl}
def Tryz.sort202_ren:Go.Shelf.Ren:=⟨fun|6=>202|8=>243|9=>242|19=>280|20=>281|21=>271|22=>272|23=>273|24=>274|25=>275|26=>276|27=>277|28=>278|29=>279|36=>299|31=>300|32=>301|37=>302|38=>303|39=>304|41=>322|n=>n,fun|27=>33|29=>9|3=>3|32=>173|26=>33|0=>0|44=>281|46=>246|4=>4|36=>274|35=>273|41=>81|5=>5|9=>9|53=>290|57=>294|63=>309|64=>310|n=>n,fun  | n=>n⟩
theorem Tryz.sort202:Go.Proofs.SlLaysM.n6 prog sort202_ren:={
 mixed:=by kernel_rfl,f6:=⟨f202.name,by kernel_rfl,tK_key func202⟩,f8:=tK_key func243,f9:=⟨f242.name,by kernel_rfl,tK_key func242⟩,f19:=tK_key func280,f20:=tK_key func281,f21:=⟨f271.name,by kernel_rfl,tK_key func271⟩,f22:=⟨f272.name,by kernel_rfl,tK_key func272⟩,f23:=⟨f273.name,by kernel_rfl,tK_key func273⟩,f24:=⟨f274.name,by kernel_rfl,tK_key func274⟩,f25:=⟨f275.name,by kernel_rfl,tK_key func275⟩,f26:=⟨f276.name,by kernel_rfl,tK_key func276⟩,
 f27:=⟨f277.name,by kernel_rfl,tK_key func277⟩,f28:=⟨f278.name,by kernel_rfl,tK_key func278⟩,f29:=⟨f279.name,by kernel_rfl,tK_key func279⟩,f31:=tK_key func300,f32:=tK_key func301,f36:=⟨f299.name,by kernel_rfl,tK_key func299⟩,f37:=⟨f302.name,by kernel_rfl,tK_key func302⟩,f38:=⟨f303.name,by kernel_rfl,tK_key func303⟩,f39:=⟨f304.name,by kernel_rfl,tK_key func304⟩,f41:=⟨f322.name,by kernel_rfl,tK_key func322⟩,t0:=underlying0,a0:=isAgg0,
 z0:=sizeOf0,v0:=zeroValue0,t3:=underlying3,a3:=isAgg3,z3:=sizeOf3,v3:=zeroValue3,t4:=underlying4,a4:=isAgg4,z4:=sizeOf4,v4:=zeroValue4,t5:=underlying5,a5:=isAgg5,
 z5:=sizeOf5,v5:=zeroValue5,t9:=underlying9,a9:=isAgg9,z9:=sizeOf9,v9:=zeroValue9,t26:=underlying33,a26:=isAgg33,z26:=sizeOf33,v26:=zeroValue33,t27:=underlying33,a27:=isAgg33,
 z27:=sizeOf33,v27:=zeroValue33,t29:=underlying9,a29:=isAgg9,z29:=sizeOf9,v29:=zeroValue9,t32:=underlying173,a32:=isAgg173,z32:=sizeOf173,v32:=zeroValue173,t35:=underlying273,a35:=isAgg273,
 z35:=sizeOf273,v35:=zeroValue273,t36:=underlying274,a36:=isAgg274,z36:=sizeOf274,v36:=zeroValue274,t41:=underlying81,a41:=isAgg81,z41:=sizeOf81,v41:=zeroValue81,t44:=underlying281,a44:=isAgg281,
 z44:=sizeOf281,v44:=zeroValue281,t46:=underlying246,a46:=isAgg246,z46:=sizeOf246,v46:=zeroValue246,t53:=underlying290,a53:=isAgg290,z53:=sizeOf290,v53:=zeroValue290,t57:=underlying294,a57:=isAgg294,
 z57:=sizeOf294,v57:=zeroValue294,t63:=underlying309,a63:=isAgg309,z63:=sizeOf309,v63:=zeroValue309,t64:=underlying310,a64:=isAgg310,z64:=sizeOf310,v64:=zeroValue310}
theorem Tryz.sorts80(m:Nat):AnyZ.SortsIn prog sorted138_ren Fence.wide m:=
  ⟨fun blk off cap ss W hH hblk hsz=>callsIn_wide.2 (AnyM.slices_Sort_string sort202 blk off cap ss W hH hblk hsz),
   fun p cap W=>callsIn_wide.2 (AnyM.slices_Sort_string_none sort202 p cap W)⟩
theorem Tryz.maps_Keys_139(mb:Option Nat)(W:World):CallsIn Fence.wide 5 prog 139 #[.map mb] W fun e w'=>e = .returned (.func (.func 203) #[] #[.pointer (some ⟨W.heap.size,0,none⟩)])∧w' = W.alloc (.cells #[.map mb] 166):=
  AnyZ.keys_in keys139 Fence.wide 5 trivial rfl mb W
set_option maxHeartbeats 1000000 in
theorem Tryz.slices_Sorted_keys_138_139{H:Type}(b nn:Nat)(D0:DataW H)(R:Value→Option (DataW H × List MemPlace))(w:World)(hown:w.ownsMap prog 9 R b nn D0)(hmax:Maps.size D0≤maxLen)(hbytes:Maps.size D0 * 16≤140737488355328) :
    CallsIn Fence.wide 5 prog 138 #[.func (.func 203) #[] #[.pointer (some ⟨w.heap.size,0,none⟩)]] (w.alloc (.cells #[.map (some b)] 166)) fun e w'=>∃(v:Value)(ss:List (List UInt8)),e = .returned v∧ss.Perm (strKeys D0) ∧
      w'.ownsRow (w.alloc (.cells #[.map (some b)] 166)).heap.size 9 1 v ss.length ((ss.mergeSort (fun x y=>decide (x≤y))).map encStr)∧(v = .slice none 0 0↔ss = [])∧Below (w.alloc (.cells #[.map (some b)] 166)).heap.size (w.alloc (.cells #[.map (some b)] 166)) w':=by
  have hbl:=hown.lt
  have hseq:SeqGives Fence.wide 2 prog 203 #[.pointer (some ⟨w.heap.size,0,none⟩)] encStr (fun ss=>ss.Perm (strKeys D0)) (Maps.size D0) (w.alloc (.cells #[.map (some b)] 166)):=
    AnyZ.keys_gives (ρ:=keys139_ren) { keys139 with } Fence.wide _ trivial rfl (by omega) w.heap.size b nn D0 _ (by simp) (by simp) (by
      obtain ⟨es,clock,hb,Ft,hs,hD⟩:=hown
      exact ⟨es,clock,(Below.heap_alloc _ _ b hbl).trans hb,Ft,hs,hD⟩)
  exact AnyZ.sorted_in sorted138 Fence.wide 5 trivial trivial trivial trivial rfl (by omega) (sorts80 _) (enters_of func202 (by kernel_rfl) rfl) 203 #[.pointer (some ⟨w.heap.size,0,none⟩)] trivial (enters_of func203 (by kernel_rfl) rfl) _ _ hmax hbytes _ hseq
end Go.Proofs
