/- Contracts of functions of this seat: each call comes to what its Lean function computes; no condition beyond what each theorem states. Printed by a program of this session's own laid over the kit's printer. -/
import Derived.Test.YtofiedgnnpednaaDoorVNvmeRefusesx0
import Derived.Test.YtofiedgnnpednaaDoorVNvmeRefusesx1
import Derived.Test.YtofiedgnnpednaaDoorVNvmeRefusesx2
import Derived.Test.YtofiedgnnpednaaDoorVNvmeRefusesx3
import Derived.Test.YtofiedgnnpednaaDoorVNvmeRefusesx4
import Derived.Test.YtofiedgnnpednaaDoorVNvmeRefusesx12
namespace Go.Proofs.YtofiedgnnpednaaDoor.VNvmeRefuses
open Go.RowKit Go.Proofs.YtofiedgnnpednaaDoorW.PrintWords Go.Proofs.YtofiedgnnpednaaDoorW.PrintLast Go.Proofs.YtofiedgnnpednaaDoorW.PrintMore
attribute [local go_sem] max2_int min2_int max_two min_two max_three min_three max_four min_four   -- for this text's walks alone
set_option linter.unusedVariables false
set_option linter.unusedSimpArgs false

-- @GIVEN nvme_Crash
/-! ### nvme_Crash: by hand -/
set_option maxHeartbeats 8000000 in
set_option maxRecDepth 100000 in
/-- The power fails at once. -/
theorem nCrash (P : DevP) (D : Dev) (keep : List Int) (kv0 : Value) (B B1 : Nat) (w : World) (hB : B ≤ w.heap.size) (h : DevAt B w P D) (hk : w.ownsRow B1 3 1 kv0 keep.length (keep.map (.int .i64))) (hc : D.cache.length < 100000000) (hq : D.queue.length < 100000000) (hkl : keep.length < 100000000) :
    Calls Tryd.prog 17 #[.pointer (some ⟨P.d, 0, none⟩), kv0] w fun r w' => ∃ P', r = .returned (.tuple #[]) ∧ DevAt B w' P' (D.crash keep) ∧ DKeep P P' w w' := by
  have HN := Aside0.mk (nDown B P D w h)
  have HL := Aside0.mk (nLose P D keep kv0 B B1 w hB h hk hc hq hkl)
  have HD := Aside0.mk h
  clear h hk hB
  unfold Dev.crash
  rcases hd : D.down with _ | _ <;> rw [hd] at HN
  · simp only [Bool.false_eq_true, if_false]
    clear hd
    go_enter Tryd.func17, Tryd.ntmps17
    go_wp2_with (first | (go_at_call 25; (with_reducible refine HN.out.mono ?_); rintro e w5 ⟨rfl, rfl⟩) | (go_at_call 38; (with_reducible refine HL.out.mono ?_); rintro e w6 ⟨P', rfl, hd6, hk6⟩) | fail)
    go_end0
    exact ⟨P', rfl, hd6, hk6⟩
  · simp only [if_true]
    clear hd
    go_enter Tryd.func17, Tryd.ntmps17
    go_wp2_with (first | (go_at_call 25; (with_reducible refine HN.out.mono ?_); rintro e w5 ⟨rfl, rfl⟩) | fail)
    go_end0
    exact ⟨P, rfl, HD.out, DKeep.refl _ _⟩
-- NIL
set_option maxHeartbeats 4000000 in
set_option maxRecDepth 100000 in
theorem nCrashNil (v : Value) (w : World) : Calls Tryd.prog 17 #[.pointer none, v] w fun r w' => r = .returned (.tuple #[]) ∧ w' = w := by
  go_enter Tryd.func17, Tryd.ntmps17
  go_wp2_with (go_at_call 25; (with_reducible refine (nDownNil _).mono ?_); rintro e w5 ⟨rfl, rfl⟩)
  go_end0
  exact ⟨rfl, rfl⟩


end Go.Proofs.YtofiedgnnpednaaDoor.VNvmeRefuses
