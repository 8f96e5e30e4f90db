/- FaultIs: the pure law; for every input, no condition. -/
import Derived.Test.YtegcaniikdibdaaDoorVFaultIsx17
import Derived.OpenShut
import Derived.Lib.IndexEntry
namespace Go.Proofs.YtegcaniikdibdaaDoor.Pure
open Go Go.RowKit Go.Proofs.YtegcaniikdibdaaDoor.VFaultIs Go.Proofs.YtegcaniikdibdaaDoorW.PrintWords Go.Proofs.YtegcaniikdibdaaDoorW.PrintLast
set_option linter.unusedSimpArgs false
set_option linter.unusedVariables false

def FaultIs.Pure : Prop := ∀ (a0 : Int) (l1 : List (S24)) (a2_0 : ByteArray) (a2_1 : Int) (a2_2 : Int) (a2_3 : Bool), (Lit.int .i64 a0).wf = true → (l1.length * 40 ≤ 140737488351232 ∧ l1.length ≤ maxLen ∧ ∀ l1y ∈ l1, (l1y.f0.size ≤ 140737488351232 ∧ (Lit.int .i64 l1y.f1).wf = true ∧ (Lit.int .i64 l1y.f2).wf = true ∧ True)) → a2_0.size ≤ 140737488351232 → (Lit.int .i64 a2_1).wf = true → (Lit.int .i64 a2_2).wf = true → posthorselaw02_FaultIs.f a0 l1 a2_0 a2_1 a2_2 a2_3 = some true
/-! ### FaultIs -/
theorem FaultIs : FaultIs.Pure := by
  unfold FaultIs.Pure
  intros
  rfl

end Go.Proofs.YtegcaniikdibdaaDoor.Pure
