/- FaultFinds: the pure law; for every input, no condition. -/
import Derived.Test.YtegcaniikdibdaaDoorVFaultFindsx20
import Derived.OpenShut
import Derived.Lib.IndexEntry
namespace Go.Proofs.YtegcaniikdibdaaDoor.Pure
open Go Go.RowKit Go.Proofs.YtegcaniikdibdaaDoor.VFaultFinds Go.Proofs.YtegcaniikdibdaaDoorW.PrintWords Go.Proofs.YtegcaniikdibdaaDoorW.PrintLast
set_option linter.unusedSimpArgs false
set_option linter.unusedVariables false

def FaultFinds.Pure : Prop := ∀ (a0 : Int) (l1 : List (S24)), (Lit.int .i64 a0).wf = true → (l1.length * 40 ≤ 140737488351232 ∧ l1.length ≤ maxLen ∧ ∀ l1y ∈ l1, (l1y.f0.size ≤ 140737488351232 ∧ (Lit.int .i64 l1y.f1).wf = true ∧ (Lit.int .i64 l1y.f2).wf = true ∧ True)) → posthorselaw02_FaultFinds.f a0 l1 = some true
/-! ### FaultFinds -/
theorem FaultFinds : FaultFinds.Pure := by
  unfold FaultFinds.Pure
  intros
  rfl

end Go.Proofs.YtegcaniikdibdaaDoor.Pure
