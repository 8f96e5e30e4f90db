/- Contracts of functions of this seat: each call comes to what its Lean function computes; no condition beyond what each theorem states. Printed by a program of this session's own laid over the kit's printer. -/
import Derived.Test.YtofiedgnnpednaaDoorVNvmeRefusesx0
import Derived.Test.YtofiedgnnpednaaDoorVNvmeRefusesx1
import Derived.Test.YtofiedgnnpednaaDoorVNvmeRefusesx2
import Derived.Test.YtofiedgnnpednaaDoorVNvmeRefusesx4
import Derived.Test.YtofiedgnnpednaaDoorVNvmeRefusesx19
namespace Go.Proofs.YtofiedgnnpednaaDoor.VNvmeRefuses
open Go.RowKit Go.Proofs.YtofiedgnnpednaaDoorW.PrintWords Go.Proofs.YtofiedgnnpednaaDoorW.PrintLast Go.Proofs.YtofiedgnnpednaaDoorW.PrintMore
attribute [local go_sem] max2_int min2_int max_two min_two max_three min_three max_four min_four   -- for this text's walks alone
set_option linter.unusedVariables false
set_option linter.unusedSimpArgs false

-- @GIVEN nvme_Look
/-! ### nvme_Look: by hand -/
set_option maxHeartbeats 8000000 in
set_option maxRecDepth 100000 in
/-- A sector, as a read would find it. -/
theorem nLook (P : DevP) (D : Dev) (s : Int) (w : World) (B : Nat) (h : DevAt B w P D) (hl : D.cache.length < 1000000000) :
    Calls Tryd.prog 23 #[.pointer (some ⟨P.d, 0, none⟩), .int .i64 s] w fun r w' => r = .returned (.tuple #[.string (D.look s).1, errW (D.look s).2]) ∧ Below w.heap.size w w' := by
  have HR := Aside0.mk (fun W hW => nReadyF B P D s W hW)
  have HF := Aside0.mk (fun W hW => nFound P D s W B hW hl)
  have HD := Aside0.mk h
  clear h
  unfold Dev.look
  rcases hr : D.ready s with _ | e <;> (rw [hr] at HR; dsimp only; clear hr)
  all_goals
    simp only [errW_none, errW_some] at HR ⊢
    go_enter Tryd.func23, Tryd.ntmps23
    go_wp2_with (first | (go_at_call 37; (with_reducible refine (HR.out _ HD.out).mono ?_); rintro e w5 ⟨rfl, rfl⟩) | (go_at_call 40; (with_reducible refine (HF.out _ HD.out).mono ?_); rintro e w6 ⟨rfl, hb6⟩) | fail)
    go_ret2
    first | exact ⟨rfl, hb6⟩ | exact ⟨rfl, Below.refl _ _⟩
-- NIL
set_option maxHeartbeats 4000000 in
set_option maxRecDepth 100000 in
theorem nLookNil (s : Int) (w : World) : Calls Tryd.prog 23 #[.pointer none, .int .i64 s] w fun r w' => r = .returned (.tuple #[.string ⟨#[]⟩, .iface 75 (.int .i64 1)]) ∧ w' = w := by
  go_enter Tryd.func23, Tryd.ntmps23
  go_wp2_with (go_at_call 37; (with_reducible refine (nReadyNil _ _).mono ?_); rintro e w5 ⟨rfl, rfl⟩)
  go_ret2
  exact ⟨rfl, rfl⟩


end Go.Proofs.YtofiedgnnpednaaDoor.VNvmeRefuses
