/- NvmeRefuses: the pure law; for every input, no condition. -/
import Derived.Test.YtofiedgnnpednaaDoorVNvmeRefusesx34
import Derived.OpenShut
import Derived.Lib.IndexEntry
namespace Go.Proofs.YtofiedgnnpednaaDoor.Pure
open Go Go.RowKit Go.Proofs.YtofiedgnnpednaaDoor.VNvmeRefuses Go.Proofs.YtofiedgnnpednaaDoorW.PrintWords Go.Proofs.YtofiedgnnpednaaDoorW.PrintLast
set_option linter.unusedSimpArgs false
set_option linter.unusedVariables false

def NvmeRefuses.Pure : Prop := ∀ (a0 : Int) (a1 : Int), (Lit.int .i64 a0).wf = true → (Lit.int .i64 a1).wf = true → posthorselaw04_NvmeRefuses.f a0 a1 = some true
/-! ### NvmeRefuses -/
theorem NvmeRefuses : NvmeRefuses.Pure := by
  unfold NvmeRefuses.Pure
  intros
  rfl

end Go.Proofs.YtofiedgnnpednaaDoor.Pure
