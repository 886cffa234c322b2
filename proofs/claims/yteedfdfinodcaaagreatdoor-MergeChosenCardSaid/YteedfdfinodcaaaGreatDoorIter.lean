/- A part of the proof. -/
import Derived.KernelRfl
import Derived.Shelf.SlIter.Nil
import Derived.Test.YteedfdfinodcaaaGreatDoorShelf
set_option linter.all false
namespace Go.Proofs
open Tryz
open Go.RowKit Go.Maps Go.Sort Go.Shelf
theorem tK_key{α:Type _}{x:Option α}{a b:α}(h:x=some a)(e:a=b:=by kernel_rfl):x=some b:=h.trans (congrArg some e)
def Tryz.keys254_ren:Go.Shelf.Ren:=⟨fun|7=>254|10=>269|n=>n,fun|23=>78|26=>9|3=>25|28=>179|0=>0|27=>178|33=>89|4=>4|n=>n,fun  | n=>n⟩
theorem Tryz.keys254:Go.Proofs.SlLaysZ.n7 prog keys254_ren:={
 mixed:=by kernel_rfl,f7:=⟨f254.name,by kernel_rfl,tK_key func254⟩,f10:=⟨f269.name,by kernel_rfl,tK_key func269⟩,t0:=underlying0,a0:=isAgg0,z0:=sizeOf0,v0:=zeroValue0,t4:=underlying4,a4:=isAgg4,z4:=sizeOf4,v4:=zeroValue4,t23:=underlying78,
 a23:=isAgg78,z23:=sizeOf78,v23:=zeroValue78,t26:=underlying9,a26:=isAgg9,z26:=sizeOf9,v26:=zeroValue9,t27:=underlying178,a27:=isAgg178,z27:=sizeOf178,v27:=zeroValue178,t28:=underlying179,
 a28:=isAgg179,z28:=sizeOf179,v28:=zeroValue179,t33:=underlying89,a33:=isAgg89,z33:=sizeOf89,v33:=zeroValue89}
def Tryz.sorted137_ren:Go.Shelf.Ren:=⟨fun|6=>137|8=>171|9=>172|11=>202|13=>204|12=>203|23=>238|24=>191|14=>229|15=>230|16=>231|17=>232|18=>233|19=>234|20=>235|21=>236|22=>237|25=>256|26=>257|27=>258|28=>259|29=>260|30=>261|31=>270|n=>n,fun|26=>9|28=>179|24=>22|0=>0|3=>3|37=>164|48=>226|50=>207|4=>4|40=>273|39=>272|45=>96|5=>5|9=>9|51=>299|55=>285|57=>313|58=>314|33=>89|n=>n,fun  | n=>n⟩
theorem Tryz.sorted137:Go.Proofs.SlLaysZ.n6 prog sorted137_ren:={
 mixed:=by kernel_rfl,f6:=⟨f137.name,by kernel_rfl,tK_key func137⟩,f8:=⟨f171.name,by kernel_rfl,tK_key func171⟩,f11:=⟨f202.name,by kernel_rfl,tK_key func202⟩,t0:=underlying0,a0:=isAgg0,z0:=sizeOf0,v0:=zeroValue0,t24:=underlying22,a24:=isAgg22,z24:=sizeOf22,v24:=zeroValue22,
 t26:=underlying9,a26:=isAgg9,z26:=sizeOf9,v26:=zeroValue9,t28:=underlying179,a28:=isAgg179,z28:=sizeOf179,v28:=zeroValue179,i26:=by kernel_rfl}
theorem Tryz.sorts80(m:Nat):AnyZ.SortsIn prog sorted137_ren Fence.wide m:=
  ⟨fun blk off cap ss W hH hblk hsz=>callsIn_wide.2 (AnyM.slices_Sort_string laysSlM6_f172 blk off cap ss W hH hblk hsz),
   fun p cap W=>callsIn_wide.2 (AnyM.slices_Sort_string_none laysSlM6_f172 p cap W)⟩
theorem Tryz.maps_Keys_254(mb:Option Nat)(W:World):CallsIn Fence.wide 5 prog 254 #[.map mb] W fun e w'=>e = .returned (.func (.func 269) #[] #[.pointer (some ⟨W.heap.size,0,none⟩)])∧w' = W.alloc (.cells #[.map mb] 78):=
  AnyZ.keys_in keys254 Fence.wide 5 trivial rfl mb W
set_option maxHeartbeats 1000000 in
theorem Tryz.slices_Sorted_keys_137_254{H:Type}(b nn:Nat)(D0:DataW H)(R:Value→Option (DataW H × List MemPlace))(w:World)(hown:w.ownsMap prog 9 R b nn D0)(hmax:Maps.size D0≤maxLen)(hbytes:Maps.size D0 * 16≤140737488355328) :
    CallsIn Fence.wide 5 prog 137 #[.func (.func 269) #[] #[.pointer (some ⟨w.heap.size,0,none⟩)]] (w.alloc (.cells #[.map (some b)] 78)) fun e w'=>∃(v:Value)(ss:List (List UInt8)),e = .returned v∧ss.Perm (strKeys D0) ∧
      w'.ownsRow (w.alloc (.cells #[.map (some b)] 78)).heap.size 9 1 v ss.length ((ss.mergeSort (fun x y=>decide (x≤y))).map encStr)∧(v = .slice none 0 0↔ss = [])∧Below (w.alloc (.cells #[.map (some b)] 78)).heap.size (w.alloc (.cells #[.map (some b)] 78)) w':=by
  have hbl:=hown.lt
  have hseq:SeqGives Fence.wide 2 prog 269 #[.pointer (some ⟨w.heap.size,0,none⟩)] encStr (fun ss=>ss.Perm (strKeys D0)) (Maps.size D0) (w.alloc (.cells #[.map (some b)] 78)):=
    AnyZ.keys_gives (ρ:=keys254_ren) { keys254 with } Fence.wide _ trivial rfl (by omega) w.heap.size b nn D0 _ (by simp) (by simp) (by
      obtain ⟨es,clock,hb,Ft,hs,hD⟩:=hown
      exact ⟨es,clock,(Below.heap_alloc _ _ b hbl).trans hb,Ft,hs,hD⟩)
  exact AnyZ.sorted_in sorted137 Fence.wide 5 trivial trivial trivial trivial rfl (by omega) (sorts80 _) (enters_of func172 (by kernel_rfl) rfl) 269 #[.pointer (some ⟨w.heap.size,0,none⟩)] trivial (enters_of func269 (by kernel_rfl) rfl) _ _ hmax hbytes _ hseq
end Go.Proofs
