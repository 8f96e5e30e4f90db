/- Contracts of functions of this seat: each call comes to what its Lean function computes; no condition beyond what each theorem states. Printed by a program of this session's own laid over the kit's printer. -/
import Derived.Test.YtofiedgnnpednaaDoorVNvmeRefusesx0
import Derived.Test.YtofiedgnnpednaaDoorVNvmeRefusesx4
namespace Go.Proofs.YtofiedgnnpednaaDoor.VNvmeRefuses
open Go.RowKit Go.Proofs.YtofiedgnnpednaaDoorW.PrintWords Go.Proofs.YtofiedgnnpednaaDoorW.PrintLast Go.Proofs.YtofiedgnnpednaaDoorW.PrintMore
attribute [local go_sem] max2_int min2_int max_two min_two max_three min_three max_four min_four   -- for this text's walks alone
set_option linter.unusedVariables false
set_option linter.unusedSimpArgs false

-- @GIVEN nvme_Fail
/-! ### nvme_Fail: by hand -/
-- NIL
set_option maxHeartbeats 4000000 in
set_option maxRecDepth 100000 in
theorem nFailNil (n : Int) (v : Value) (w : World) : Calls Tryd.prog 16 #[.pointer none, .int .i64 n, v] w fun r w' => r = .returned (.tuple #[]) ∧ w' = w := by
  go_enter Tryd.func16, Tryd.ntmps16
  go_wp2_with (go_at_call 25; (with_reducible refine (nDownNil _).mono ?_); rintro e w5 ⟨rfl, rfl⟩)
  go_end0
  exact ⟨rfl, rfl⟩


end Go.Proofs.YtofiedgnnpednaaDoor.VNvmeRefuses
