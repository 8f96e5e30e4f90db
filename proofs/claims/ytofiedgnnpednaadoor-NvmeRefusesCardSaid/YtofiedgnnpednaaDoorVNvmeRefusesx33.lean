/- Contracts of functions of this seat: each call comes to what its Lean function computes; no condition beyond what each theorem states. Printed by a program of this session's own laid over the kit's printer. -/
import Derived.Test.YtofiedgnnpednaaDoorVNvmeRefusesx0
import Derived.Test.YtofiedgnnpednaaDoorVNvmeRefusesx1
import Derived.Test.YtofiedgnnpednaaDoorVNvmeRefusesx3
import Derived.Test.YtofiedgnnpednaaDoorVNvmeRefusesx10
namespace Go.Proofs.YtofiedgnnpednaaDoor.VNvmeRefuses
open Go.RowKit Go.Proofs.YtofiedgnnpednaaDoorW.PrintWords Go.Proofs.YtofiedgnnpednaaDoorW.PrintLast Go.Proofs.YtofiedgnnpednaaDoorW.PrintMore
attribute [local go_sem] max2_int min2_int max_two min_two max_three min_three max_four min_four   -- for this text's walks alone
set_option linter.unusedVariables false
set_option linter.unusedSimpArgs false

-- @GIVEN nvme_Pending
/-! ### nvme_Pending: by hand -/
set_option maxHeartbeats 8000000 in
set_option maxRecDepth 100000 in
theorem nPending (P : DevP) (D : Dev) (w : World) (B : Nat) (h : DevAt B w P D) (hl : D.queue.length < 1000000000) :
    Calls Tryd.prog 26 #[.pointer (some ⟨P.d, 0, none⟩)] w fun r w' => ∃ v', r = .returned v' ∧ w'.ownsRow w.heap.size 38 4 v' D.queue.length (flatN D.queue) ∧ Below w.heap.size w w' := by
  obtain ⟨d, mb, cv, qv, kv⟩ := P
  have hq := h.2.2.2.2.2.2.1
  obtain ⟨A, c, rfl⟩ : ∃ A c, qv = _ := own_form hq
  have HC := Aside0.mk (nClone _ _ _ _ hq hl)
  have c4 := (blk_cell h.2.2.2.1 4).trans rfl
  clear h hq
  go_enter Tryd.func26, Tryd.ntmps26
  go_wp2_with (first | (go_at_call 48; (with_reducible refine HC.out.mono ?_); rintro e w5 ⟨v', rfl, ho, hb⟩) | fail)
  go_ret
  exact ⟨_, rfl, ho, hb⟩
-- NIL
set_option maxHeartbeats 4000000 in
set_option maxRecDepth 100000 in
theorem nPendingNil (w : World) : Calls Tryd.prog 26 #[.pointer none] w fun r w' => r = .returned (.slice none 0 0) ∧ w' = w := by
  go_enter Tryd.func26, Tryd.ntmps26
  go_wp2_with (fail)
  go_ret
  exact ⟨rfl, rfl⟩


end Go.Proofs.YtofiedgnnpednaaDoor.VNvmeRefuses
