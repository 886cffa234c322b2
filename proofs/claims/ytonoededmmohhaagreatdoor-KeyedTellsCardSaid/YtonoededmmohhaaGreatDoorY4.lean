/- A part of the proof. -/
import Derived.Test.YtonoededmmohhaaGreatDoorY1
import Derived.Test.YtonoededmmohhaaGreatDoorS1
set_option linter.all false
namespace Go.Scarf
open Go.RowKit Go.Proofs
theorem strs_at {w0 w : World} {Ds : List Nat} {pre post sb : List (Nat × Obj)} {e c : Nat} {A : Option Addr} {ad : Addr} {acc : List Str} (hS : SlB e 1 A acc.length c (acc.map fun s => Value.string (bs s)) sb) (hF : FR w0 Ds (pre ++ (sb ++ post)) w) (hA : A = some ad) :
    ∀ q (h : q < acc.length), w.cell? (ad.add (q * 1)) = some (.string (bs acc[q])) := fun q h => by
  rw [Nat.mul_one]
  exact hS.cells hF ad hA q _ (by simp [h])
theorem some_of {e c : Nat} {A : Option Addr} {acc : List Str} {sb : List (Nat × Obj)} (hS : SlB e 1 A acc.length c (acc.map fun s => Value.string (bs s)) sb) (h : 0 < acc.length) : ∃ ad, A = some ad := by
  rcases hS.2 with ⟨h1, -⟩ | ⟨g, cur, hA, -⟩
  · omega
  · exact ⟨_, hA⟩
end Go.Scarf
