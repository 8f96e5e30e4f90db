/- NvmeForces: the pure law; for every input, no condition. -/
import Derived.Test.YtofiedgnnpednaaVNvmeForcesx27
import Derived.OpenShut
import Derived.Lib.IndexEntry
namespace Go.Proofs.Ytofiedgnnpednaa.Pure
open Go Go.RowKit Go.Proofs.Ytofiedgnnpednaa.VNvmeForces Go.Proofs.YtofiedgnnpednaaW.PrintWords Go.Proofs.YtofiedgnnpednaaW.PrintLast
set_option linter.unusedSimpArgs false
set_option linter.unusedVariables false

def NvmeForces.Pure : Prop := ∀ (l0 : List ByteArray) (a1 : ByteArray) (l2 : List Int), (l0.length * 16 ≤ 140737488351232 ∧ l0.length ≤ maxLen ∧ ∀ l0y ∈ l0, l0y.size ≤ 140737488351232) → a1.size ≤ 140737488351232 → (l2.length * 8 ≤ 140737488351232 ∧ l2.length ≤ maxLen ∧ ∀ l2y ∈ l2, (Lit.int .i64 l2y).wf = true) → posthorselaw04_NvmeForces.f l0 a1 l2 = some true
/-! ### NvmeForces -/
theorem NvmeForces : NvmeForces.Pure := by
  unfold NvmeForces.Pure
  intros
  rfl

end Go.Proofs.Ytofiedgnnpednaa.Pure
