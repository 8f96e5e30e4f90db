/- Contracts of functions of this seat: each call comes to what its Lean function computes; no condition beyond what each theorem states. Printed by a program of this session's own laid over the kit's printer. -/
import Derived.Test.YtegcaniikdibdaaDoorVFaultNilx0
import Derived.Test.YtegcaniikdibdaaDoorVFaultNilx3
namespace Go.Proofs.YtegcaniikdibdaaDoor.VFaultNil
open Go.RowKit Go.Proofs.YtegcaniikdibdaaDoorW.PrintWords Go.Proofs.YtegcaniikdibdaaDoorW.PrintLast Go.Proofs.YtegcaniikdibdaaDoorW.PrintMore
attribute [local go_sem] max2_int min2_int max_two min_two max_three min_three max_four min_four   -- for this text's walks alone
set_option linter.unusedVariables false
set_option linter.unusedSimpArgs false

-- @GIVEN fault_Ops
/-! ### fault_Ops: by hand -/
section
theorem ta_nilF (w : World) : (Instr.typeAssert .nilIface 27 37 true).run Tryd.prog w = .ok (.tuple #[.pointer none, .bool false]) w := by kernel_rfl
theorem ta_nilM (w : World) : (Instr.typeAssert .nilIface 27 52 true).run Tryd.prog w = .ok (.tuple #[.slice none 0 0, .bool false]) w := by kernel_rfl
set_option maxRecDepth 100000 in
theorem itself_nil (w : World) : Calls Tryd.prog 42 #[.nilIface] w fun r w' => r = .returned (.pointer none) ∧ w' = w := by
  have a1 := ta_nilF
  go_enter Tryd.func42, Tryd.ntmps42
  go_wp2
  go_ret
  exact ⟨rfl, rfl⟩
set_option maxRecDepth 100000 in
theorem below_nil (w : World) : Calls Tryd.prog 43 #[.nilIface] w fun r w' => r = .returned (.slice none 0 0) ∧ w' = w := by
  have a1 := ta_nilF
  have a2 := ta_nilM
  go_enter Tryd.func43, Tryd.ntmps43
  go_wp2
  go_ret
  exact ⟨rfl, rfl⟩
set_option maxRecDepth 100000 in
theorem eOps_nil (w : World) : Calls Tryd.prog 15 #[.nilIface] w fun r w' => r = .returned (.slice none 0 0) ∧ w' = w := by
  go_enter Tryd.func15, Tryd.ntmps15
  go_wp2_with (first
    | (go_at_call 42; (with_reducible refine (itself_nil _).mono ?_); rintro r w5 ⟨rfl, rfl⟩)
    | (go_at_call 43; (with_reducible refine (below_nil _).mono ?_); rintro r w5 ⟨rfl, rfl⟩))
  refine wp_loop_rounds 1 ?_
  rw [rounds_succ]
  go_wp2
  go_ret
  exact ⟨rfl, rfl⟩
set_option maxHeartbeats 2000000 in
set_option maxRecDepth 100000 in
theorem eFind_nil (w : World) : Calls Tryd.prog 23 #[.nilIface] w fun r w' => r = .returned (.tuple #[.agg #[.string ⟨#[]⟩, .int .i64 0, .nilIface], .bool false]) ∧ Below w.heap.size w w' := by
  go_enter Tryd.func23, Tryd.ntmps23
  go_wp2
  refine wp_loop_rounds 1 ?_
  rw [rounds_succ]
  go_wp2
  refine bodyPost_ret (v := .tuple #[.agg #[.string ⟨#[]⟩, .int .i64 0, .nilIface], .bool false]) (by simp [results, Tryd.results23, go_sem]) rfl ⟨rfl, ?_⟩
  repeat (first | exact Below.refl _ _ | (refine Below.setCell ?_ (by simp) _) | apply below_alloc | exact below_drew1 (Below.refl _ _))
set_option maxRecDepth 100000 in
theorem eError_nil (w : World) : Calls Tryd.prog 25 #[.pointer none] w fun r w' => r = .returned (.string ⟨#[63]⟩) ∧ w' = w := by
  go_enter Tryd.func25, Tryd.ntmps25
  go_wp2
  go_ret
  exact ⟨rfl, rfl⟩
set_option maxRecDepth 100000 in
theorem eUnwrap_nil (w : World) : Calls Tryd.prog 26 #[.pointer none] w fun r w' => r = .returned .nilIface ∧ w' = w := by
  go_enter Tryd.func26, Tryd.ntmps26
  go_wp2
  go_ret
  exact ⟨rfl, rfl⟩
set_option maxHeartbeats 2000000 in
set_option maxRecDepth 100000 in
theorem isF_nil (g : Nat) (w : World) : Calls Tryd.prog 27 #[.pointer none, .iface 37 (.pointer (some ⟨g, 0, none⟩))] w fun r w' => r = .returned (.bool false) ∧ Below w.heap.size w w' := by
  go_enter Tryd.func27, Tryd.ntmps27
  go_wp2_with (go_at_call 42; (with_reducible refine (itself_fault g _).mono ?_); rintro e w5 ⟨rfl, rfl⟩)
  go_quiet (fail)
  go_wp2
  go_ret
  exact ⟨rfl, by first | exact Below.refl _ _ | exact pw_below_drewN (Below.refl _ _) _⟩
end


end Go.Proofs.YtegcaniikdibdaaDoor.VFaultNil
