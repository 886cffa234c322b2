/- A part of the proof. -/
import Derived.Test.YthhhbkkelnaekaaGreatDoorP3
import Derived.Lib.BufferRead
import Derived.Test.YthhhbkkelnaekaaGreatDoorW19
set_option linter.all false
set_option maxHeartbeats 8000000
set_option maxRecDepth 10000
namespace Go.Scarf
open Go.RowKit Go.Proofs
def nq (q:Bool) (c:UInt8):Bool:=if c=34 then !q else q
def R_ (q:Bool) (c:UInt8) (l:Str):Str:=if nq q c=true∨(c≠32∧c≠10) then c::l else l
def Kp:Bool→Str→Str
  | _,[]=>[]
  | q,[c]=>R_ q c []
  | q,c::d::r=>if q=true∧c=92 then c::d::Kp q r else R_ q c (Kp (nq q c) (d::r))
theorem GP {P:Program} {w0 w:World} {Ds:List Nat} {ρ:Operand→Value} {dst:Option Nat} {ty:TypeId} {pos:String} {aft:Array Edge} {g:Option (Nat × Bool)} {t t':Nat} {x:Operand} {A:Option Addr} {c:Nat} {s:Str} {pre post sb:List (Nat × Obj)}
    (hS:SlB 5 1 A s.length c (Lib.byteCells s) sb) (hF:FR w0 Ds (pre++(sb++post)) w) (ht:P.underlying t=some (.slice 5)) (he:P.underlying 5=some (.int .u8)) (hd:P.underlying t'=some .string) (hx:ρ x=.slice A s.length c) :
    (execOp ρ ⟨dst,.convert t t' x,ty,pos,aft,g⟩).run P w=.ok (.value (.string (bs s))) w:=by
  cases A with
  | some a=>exact OB s ht he hd hx rfl fun j hj=>hS.cells hF a rfl j _ (by simp [Lib.byteCells,hj])
  | none =>
    have h0:s.length=0:=by
      rcases hS.2 with ⟨h,-⟩ | ⟨g,cur,h,-⟩
      · exact h
      · cases h
    obtain rfl:=List.eq_nil_of_length_eq_zero h0
    have h:=Lib.run_convert_nil_bytes (P:=P) w t t' 5 c ht he hd
    simp only [execOp,hx]
    rw [show (([]:Str).length)=0 from rfl,Sem.run_bind,h]
    rfl
end Go.Scarf
namespace Go.Scarf
open Go.RowKit Go.Proofs
abbrev hlT:Tree:=.node 7 [48] [] []
end Go.Scarf
