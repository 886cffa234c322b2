/- A part of the proof. -/
import Derived.Test.YtonoededmmohhaaGreatDoorP7
import Derived.Lib.MapLaws
set_option linter.all false
namespace Go.Scarf
def Ends (r : Str) : Prop := ∀ c s, r = c :: s → c = 44 ∨ c = 93 ∨ c = 125
theorem Ends.nil : Ends [] := fun c s h => by cases h
end Go.Scarf
