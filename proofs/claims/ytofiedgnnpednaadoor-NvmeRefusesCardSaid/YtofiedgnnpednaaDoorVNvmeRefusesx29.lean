/- Contracts of functions of this seat: each call comes to what its Lean function computes; no condition beyond what each theorem states. Printed by a program of this session's own laid over the kit's printer. -/
import Derived.Test.YtofiedgnnpednaaDoorVNvmeRefusesx0
import Derived.Test.YtofiedgnnpednaaDoorVNvmeRefusesx27
import Derived.Test.YtofiedgnnpednaaDoorVNvmeRefusesx28
namespace Go.Proofs.YtofiedgnnpednaaDoor.VNvmeRefuses
open Go.RowKit Go.Proofs.YtofiedgnnpednaaDoorW.PrintWords Go.Proofs.YtofiedgnnpednaaDoorW.PrintLast Go.Proofs.YtofiedgnnpednaaDoorW.PrintMore
attribute [local go_sem] max2_int min2_int max_two min_two max_three min_three max_four min_four   -- for this text's walks alone
set_option linter.unusedVariables false
set_option linter.unusedSimpArgs false

-- @GIVEN fault_Number
/-! ### fault_Number: by hand -/
def fault_Number.f (e : Option Int) : Option Int := some (e.getD 0)
set_option maxHeartbeats 4000000 in
theorem fault_Number.calls (e : Option Int) (r : Int) (w : World) (hL_ : Laid w) (h : fault_Number.f e = some r) :
    Calls Tryd.prog 36 #[errW e] w fun e w' => e = .returned (.int .i64 r) ∧ Below w.heap.size w w' := by
  have HL_ := Aside0.mk hL_
  clear hL_
  obtain rfl : e.getD 0 = r := Option.some.inj h
  clear h
  have hg := Laid.errorType HL_.out
  cases e with
  | none =>
    simp only [errW_none]
    go_enter Tryd.func36, Tryd.ntmps36
    go_wp2
    go_ret
    exact ⟨rfl, below_alloc (Below.refl _ _) _⟩
  | some n =>
    simp only [errW_some]
    have hlt : 0 < w.heap.size := by
      rcases Nat.lt_or_ge 0 w.heap.size with h | h
      · exact h
      · simp [World.cell?, Array.getElem?_eq_none h] at hg
    have hgA : (w.alloc (.cells #[.int .i64 0] 75)).cell? ⟨0, 0, none⟩ = some (.iface 147 (.agg #[.pointer (some ⟨2, 27, none⟩)])) := by
      rw [World.cell?_alloc_lt _ _ ⟨0, 0, none⟩ hlt]; exact hg
    have htA : (w.alloc (.cells #[.int .i64 0] 75)).cell? ⟨w.heap.size, 0, none⟩ = some (.int .i64 0) := by simp
    have hfA : (w.alloc (.cells #[.int .i64 0] 75)).frozen? ⟨w.heap.size, 0, none⟩ = false := by simp
    go_enter Tryd.func36, Tryd.ntmps36
    go_wp2_with (go_at_call 54; refine (as_hit n ⟨w.heap.size, 0, none⟩ (.int .i64 0) _ hgA htA hfA).mono ?_; rintro e w' ⟨rfl, rfl⟩)
    go_ret
    exact ⟨rfl, below_alloc (below_alloc (below_alloc (below_alloc (below_alloc (Below.refl _ _) _) _) _) _) _⟩


end Go.Proofs.YtofiedgnnpednaaDoor.VNvmeRefuses
