/- A part of the proof. -/
import Derived.KernelRfl
import Derived.Shelf.SlIter.Nil
import Derived.Shelf.SortM.Plain
import Derived.Shelf.SortM.SortNone
import Derived.Test.YthnkjgpjdbdchaaGreatDoorProg
set_option linter.all false
namespace Go.Proofs
open Tryz
open Go.RowKit Go.Maps Go.Sort Go.Shelf
theorem tK_key{α:Type _}{x:Option α}{a b:α}(h:x=some a)(e:a=b:=by kernel_rfl):x=some b:=h.trans (congrArg some e)
def Tryz.keys57_ren:Go.Shelf.Ren:=⟨fun|7=>57|10=>94|n=>n,fun|23=>69|26=>9|3=>25|28=>85|0=>0|27=>84|33=>93|4=>4|n=>n,fun  | n=>n⟩
theorem Tryz.keys57:Go.Proofs.SlLaysZ.n7 prog keys57_ren:={
 mixed:=by kernel_rfl,f7:=⟨f57.name,by kernel_rfl,tK_key func57⟩,f10:=⟨f94.name,by kernel_rfl,tK_key func94⟩,t0:=underlying0,a0:=isAgg0,z0:=sizeOf0,v0:=zeroValue0,t4:=underlying4,a4:=isAgg4,z4:=sizeOf4,v4:=zeroValue4,t23:=underlying69,
 a23:=isAgg69,z23:=sizeOf69,v23:=zeroValue69,t26:=underlying9,a26:=isAgg9,z26:=sizeOf9,v26:=zeroValue9,t27:=underlying84,a27:=isAgg84,z27:=sizeOf84,v27:=zeroValue84,t28:=underlying85,
 a28:=isAgg85,z28:=sizeOf85,v28:=zeroValue85,t33:=underlying93,a33:=isAgg93,z33:=sizeOf93,v33:=zeroValue93}
def Tryz.sorted56_ren:Go.Shelf.Ren:=⟨fun|6=>56|8=>92|9=>93|11=>124|13=>126|12=>125|23=>167|24=>168|14=>158|15=>159|16=>160|17=>161|18=>162|19=>163|20=>164|21=>165|22=>166|25=>196|26=>197|27=>198|28=>199|29=>200|30=>201|31=>229|n=>n,fun|26=>9|28=>85|24=>22|0=>0|3=>3|37=>154|48=>210|50=>212|4=>4|40=>203|39=>202|45=>107|5=>5|9=>9|51=>241|55=>245|57=>271|58=>272|33=>93|n=>n,fun  | n=>n⟩
theorem Tryz.sorted56:Go.Proofs.SlLaysZ.n6 prog sorted56_ren:={
 mixed:=by kernel_rfl,f6:=⟨f56.name,by kernel_rfl,tK_key func56⟩,f8:=⟨f92.name,by kernel_rfl,tK_key func92⟩,f11:=⟨f124.name,by kernel_rfl,tK_key func124⟩,t0:=underlying0,a0:=isAgg0,z0:=sizeOf0,v0:=zeroValue0,t24:=underlying22,a24:=isAgg22,z24:=sizeOf22,v24:=zeroValue22,
 t26:=underlying9,a26:=isAgg9,z26:=sizeOf9,v26:=zeroValue9,t28:=underlying85,a28:=isAgg85,z28:=sizeOf85,v28:=zeroValue85,i26:=by kernel_rfl}
def Tryz.sort93_ren:Go.Shelf.Ren:=⟨fun|6=>93|8=>126|9=>125|19=>167|20=>168|21=>158|22=>159|23=>160|24=>161|25=>162|26=>163|27=>164|28=>165|29=>166|36=>196|31=>197|32=>198|37=>199|38=>200|39=>201|41=>229|n=>n,fun|27=>22|29=>9|3=>3|32=>154|26=>22|0=>0|44=>210|46=>212|4=>4|36=>203|35=>202|41=>107|5=>5|9=>9|53=>241|57=>245|63=>271|64=>272|n=>n,fun  | n=>n⟩
theorem Tryz.sort93:Go.Proofs.SlLaysM.n6 prog sort93_ren:={
 mixed:=by kernel_rfl,f6:=⟨f93.name,by kernel_rfl,tK_key func93⟩,f8:=tK_key func126,f9:=⟨f125.name,by kernel_rfl,tK_key func125⟩,f19:=tK_key func167,f20:=tK_key func168,f21:=⟨f158.name,by kernel_rfl,tK_key func158⟩,f22:=⟨f159.name,by kernel_rfl,tK_key func159⟩,f23:=⟨f160.name,by kernel_rfl,tK_key func160⟩,f24:=⟨f161.name,by kernel_rfl,tK_key func161⟩,f25:=⟨f162.name,by kernel_rfl,tK_key func162⟩,f26:=⟨f163.name,by kernel_rfl,tK_key func163⟩,
 f27:=⟨f164.name,by kernel_rfl,tK_key func164⟩,f28:=⟨f165.name,by kernel_rfl,tK_key func165⟩,f29:=⟨f166.name,by kernel_rfl,tK_key func166⟩,f31:=tK_key func197,f32:=tK_key func198,f36:=⟨f196.name,by kernel_rfl,tK_key func196⟩,f37:=⟨f199.name,by kernel_rfl,tK_key func199⟩,f38:=⟨f200.name,by kernel_rfl,tK_key func200⟩,f39:=⟨f201.name,by kernel_rfl,tK_key func201⟩,f41:=⟨f229.name,by kernel_rfl,tK_key func229⟩,t0:=underlying0,a0:=isAgg0,
 z0:=sizeOf0,v0:=zeroValue0,t3:=underlying3,a3:=isAgg3,z3:=sizeOf3,v3:=zeroValue3,t4:=underlying4,a4:=isAgg4,z4:=sizeOf4,v4:=zeroValue4,t5:=underlying5,a5:=isAgg5,
 z5:=sizeOf5,v5:=zeroValue5,t9:=underlying9,a9:=isAgg9,z9:=sizeOf9,v9:=zeroValue9,t26:=underlying22,a26:=isAgg22,z26:=sizeOf22,v26:=zeroValue22,t27:=underlying22,a27:=isAgg22,
 z27:=sizeOf22,v27:=zeroValue22,t29:=underlying9,a29:=isAgg9,z29:=sizeOf9,v29:=zeroValue9,t32:=underlying154,a32:=isAgg154,z32:=sizeOf154,v32:=zeroValue154,t35:=underlying202,a35:=isAgg202,
 z35:=sizeOf202,v35:=zeroValue202,t36:=underlying203,a36:=isAgg203,z36:=sizeOf203,v36:=zeroValue203,t41:=underlying107,a41:=isAgg107,z41:=sizeOf107,v41:=zeroValue107,t44:=underlying210,a44:=isAgg210,
 z44:=sizeOf210,v44:=zeroValue210,t46:=underlying212,a46:=isAgg212,z46:=sizeOf212,v46:=zeroValue212,t53:=underlying241,a53:=isAgg241,z53:=sizeOf241,v53:=zeroValue241,t57:=underlying245,a57:=isAgg245,
 z57:=sizeOf245,v57:=zeroValue245,t63:=underlying271,a63:=isAgg271,z63:=sizeOf271,v63:=zeroValue271,t64:=underlying272,a64:=isAgg272,z64:=sizeOf272,v64:=zeroValue272}
theorem Tryz.sorts80(m:Nat):AnyZ.SortsIn prog sorted56_ren Fence.wide m:=
  ⟨fun blk off cap ss W hH hblk hsz=>callsIn_wide.2 (AnyM.slices_Sort_string sort93 blk off cap ss W hH hblk hsz),
   fun p cap W=>callsIn_wide.2 (AnyM.slices_Sort_string_none sort93 p cap W)⟩
theorem Tryz.maps_Keys_57(mb:Option Nat)(W:World):CallsIn Fence.wide 5 prog 57 #[.map mb] W fun e w'=>e = .returned (.func (.func 94) #[] #[.pointer (some ⟨W.heap.size,0,none⟩)])∧w' = W.alloc (.cells #[.map mb] 69):=
  AnyZ.keys_in keys57 Fence.wide 5 trivial rfl mb W
set_option maxHeartbeats 1000000 in
theorem Tryz.slices_Sorted_keys_56_57{H:Type}(b nn:Nat)(D0:DataW H)(R:Value→Option (DataW H × List MemPlace))(w:World)(hown:w.ownsMap prog 9 R b nn D0)(hmax:Maps.size D0≤maxLen)(hbytes:Maps.size D0 * 16≤140737488355328) :
    CallsIn Fence.wide 5 prog 56 #[.func (.func 94) #[] #[.pointer (some ⟨w.heap.size,0,none⟩)]] (w.alloc (.cells #[.map (some b)] 69)) fun e w'=>∃(v:Value)(ss:List (List UInt8)),e = .returned v∧ss.Perm (strKeys D0) ∧
      w'.ownsRow (w.alloc (.cells #[.map (some b)] 69)).heap.size 9 1 v ss.length ((ss.mergeSort (fun x y=>decide (x≤y))).map encStr)∧(v = .slice none 0 0↔ss = [])∧Below (w.alloc (.cells #[.map (some b)] 69)).heap.size (w.alloc (.cells #[.map (some b)] 69)) w':=by
  have hbl:=hown.lt
  have hseq:SeqGives Fence.wide 2 prog 94 #[.pointer (some ⟨w.heap.size,0,none⟩)] encStr (fun ss=>ss.Perm (strKeys D0)) (Maps.size D0) (w.alloc (.cells #[.map (some b)] 69)):=
    AnyZ.keys_gives (ρ:=keys57_ren) { keys57 with } Fence.wide _ trivial rfl (by omega) w.heap.size b nn D0 _ (by simp) (by simp) (by
      obtain ⟨es,clock,hb,Ft,hs,hD⟩:=hown
      exact ⟨es,clock,(Below.heap_alloc _ _ b hbl).trans hb,Ft,hs,hD⟩)
  exact AnyZ.sorted_in sorted56 Fence.wide 5 trivial trivial trivial trivial rfl (by omega) (sorts80 _) (enters_of func93 (by kernel_rfl) rfl) 94 #[.pointer (some ⟨w.heap.size,0,none⟩)] trivial (enters_of func94 (by kernel_rfl) rfl) _ _ hmax hbytes _ hseq
end Go.Proofs
