/- A part of the proof. -/
import Derived.Test.YthhhbkkelnaekaaGreatDoorA9
set_option linter.all false
set_option maxHeartbeats 8000000
set_option maxRecDepth 10000
namespace Go.Scarf
open Go.RowKit Go.Proofs
theorem RM {x:Tree} (h:Vu x 8=true):Yj x:=by
  obtain ⟨h1,_,h3⟩:=Xp U h
  exact ⟨EA x h3,by omega,Nat.le_trans (MK x h3) U⟩
theorem Yi {l:List Tree} (h:Yk l=true):∀ x∈l,Yj x:=fun x hx=>RM ((Fj h).2 x hx)
theorem YI {l:List Tree} (h:Yk l=true):(∀ x∈l,Je x=true)→∀ x∈l,(Uf x).length≤16:=fun hr x hx=>by
  obtain ⟨h1,_,_⟩:=Xp U ((Fj h).2 x hx)
  have:=Jk (hr x hx)
  omega
theorem O6 {a b:List Tree}:Dr a b=0↔Zg a=0∧Zg b=0:=by
  unfold Dr
  constructor
  · intro h
    split at h
    · cases h
    · split at h
      · assumption
      · cases h
  · intro h
    rw [if_neg U,if_pos h]
end Go.Scarf
