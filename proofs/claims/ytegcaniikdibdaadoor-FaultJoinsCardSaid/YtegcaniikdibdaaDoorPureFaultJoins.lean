/- FaultJoins: the pure law; for every input, no condition. -/
import Derived.Test.YtegcaniikdibdaaDoorVFaultJoinsx17
import Derived.OpenShut
import Derived.Lib.IndexEntry
namespace Go.Proofs.YtegcaniikdibdaaDoor.Pure
open Go Go.RowKit Go.Proofs.YtegcaniikdibdaaDoor.VFaultJoins Go.Proofs.YtegcaniikdibdaaDoorW.PrintWords Go.Proofs.YtegcaniikdibdaaDoorW.PrintLast
set_option linter.unusedSimpArgs false
set_option linter.unusedVariables false

def FaultJoins.Pure : Prop := ∀ (l0 : List Int), (l0.length * 8 ≤ 140737488351232 ∧ l0.length ≤ maxLen ∧ ∀ l0y ∈ l0, (Lit.int .i64 l0y).wf = true) → posthorselaw02_FaultJoins.f l0 = some true
/-! ### FaultJoins -/
theorem FaultJoins : FaultJoins.Pure := by
  intro l0 _
  rfl

end Go.Proofs.YtegcaniikdibdaaDoor.Pure
