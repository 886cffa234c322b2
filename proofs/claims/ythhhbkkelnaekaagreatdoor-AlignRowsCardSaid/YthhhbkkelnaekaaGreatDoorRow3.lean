/- A part of the proof. -/
import Derived.Test.YthhhbkkelnaekaaGreatDoorRow
import Derived.Test.YthhhbkkelnaekaaGreatDoorTr
import Derived.Carry
import Derived.Test.YthhhbkkelnaekaaGreatDoorAp
set_option linter.all false
set_option maxHeartbeats 8000000
set_option maxRecDepth 10000
namespace Go.Scarf
open Go.RowKit Go.Proofs Go.Proofs.Tryz
set_option maxRecDepth 100000
section
variable {H:Type} {enc:TypeId × Value→H} {W:World} {base:Nat} {sp:Nat→Bool} {held:Bool}
open Go.ChangeShapes Go.WideShapes Go.ChangeAt Go.Lib Go.Shelf
theorem DS {t e:TypeId} {m:Nat} {α:Type} [Inhabited α] {g:α→D} {r:Reach} {b0:Nat} {v:Value} {d:DataW H} {q:List MemPlace} (ht:prog.underlying t=some (.slice e)) (hC:prog.cellsOf e=m)
    (hel:∀ n cs x,DataW.trod enc prog W base sp held n e cs=some x→∃ a:α,Rep (fun _=>True) W (g a) cs) (hv:Value.okWide prog W r b0 t v) (h:DataW.Trod enc prog W base sp held t v d q) :
    ∃ (l:List α) (A:Option Addr) (c:Nat),v=.slice A l.length c∧Rep (fun _=>True) W (.slice (l.map g)) [.slice A l.length c]:=by
  obtain ⟨A,n,c,rfl⟩:=okWide_slice ht hv
  obtain ⟨fuel,hf⟩:=h
  obtain ⟨l,hl⟩:=H3 ht hC (fun n _ cs x h=>hel n cs x h) hf
  have hl2:Rep (fun _=>True) W (.slice (l.map g)) [.slice A n c]:=hl
  obtain ⟨A2,c2,he⟩:=Rep.slice_is hl2
  rw [List.length_map] at he
  obtain ⟨rfl,rfl,rfl⟩:=Value.slice.inj he
  exact ⟨l,A,c,O,hl2⟩
theorem Z5 {r:Reach} {b0:Nat} {v:Value} {d:DataW H} {q:List MemPlace} (hv:Value.okWide prog W r b0 22 v) (h:DataW.Trod enc prog W base sp held 22 v d q) :
    ∃ (l:List Tree) (A:Option Addr) (c:Nat),v=.slice A l.length c∧Rep (fun _=>True) W (.slice (Wc l)) [.slice A l.length c]:=by
  obtain ⟨l,A,c,h1,h2⟩:=DS (g:=Vc) underlying22 JW (fun n cs x h=>PR n cs x h) hv h
  exact ⟨l,A,c,h1,by rw [Rh]; exact h2⟩
theorem JT:prog.readableRec 22=true:=by kernel_rfl
theorem VT:22 < prog.types.size:=of_decide_eq_true Qb
end
set_option maxRecDepth 100000
section
variable {H:Type} {enc:TypeId × Value→H} {W:World} {base:Nat} {sp:Nat→Bool} {held:Bool}
open Go.ChangeShapes Go.WideShapes Go.ChangeAt Go.Lib Go.Shelf
end
section
variable {H:Type} {enc:TypeId × Value→H} {W:World} {base:Nat} {sp:Nat→Bool} {held:Bool}
open Go.ChangeShapes Go.WideShapes Go.ChangeAt Go.Lib Go.Shelf
end
end Go.Scarf
