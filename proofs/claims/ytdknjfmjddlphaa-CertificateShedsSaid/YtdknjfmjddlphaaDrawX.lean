/-
  More of drawn regions: operations outside the chain may add memory; guards that are known. No program in sight.
-/
import Derived.Test.YtdknjfmjddlphaaSkip
import Derived.Test.YtdknjfmjddlphaaZa
set_option linter.unusedSectionVars false
set_option linter.unusedSimpArgs false
set_option linter.unusedVariables false
namespace Go.Fk
open Go Go.RowKit
/-- a slice and a truth value, as a pair -/
def Sp.slq {α : Type} [Enc α] (l : List α) (b : Bool) : Sp := ⟨fun u w => ∃ q, u = .tuple #[q, .bool b] ∧ SlR w q l, fun _ _ _ ⟨q, h1, h2⟩ hx => ⟨q, h1, h2.ext hx⟩⟩
end Go.Fk
