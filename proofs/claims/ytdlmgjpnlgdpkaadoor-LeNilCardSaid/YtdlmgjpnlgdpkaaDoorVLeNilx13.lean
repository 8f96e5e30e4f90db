/- Contracts of functions of this seat: each call comes to what its Lean function computes; no condition beyond what each theorem states. Printed by a program of this session's own laid over the kit's printer. -/
import Derived.Test.YtdlmgjpnlgdpkaaDoorVLeNilx0
import Derived.Test.YtdlmgjpnlgdpkaaDoorVLeNilx4
import Derived.Test.YtdlmgjpnlgdpkaaDoorVLeNilx5
import Derived.Test.YtdlmgjpnlgdpkaaDoorVLeNilx6
import Derived.Test.YtdlmgjpnlgdpkaaDoorVLeNilx7
import Derived.Test.YtdlmgjpnlgdpkaaDoorVLeNilx9
import Derived.Test.YtdlmgjpnlgdpkaaDoorVLeNilx11
namespace Go.Proofs.YtdlmgjpnlgdpkaaDoor.VLeNil
open Go.RowKit Go.Proofs.YtdlmgjpnlgdpkaaDoorW.PrintWords Go.Proofs.YtdlmgjpnlgdpkaaDoorW.PrintLast Go.Proofs.YtdlmgjpnlgdpkaaDoorW.PrintMore
attribute [local go_sem] max2_int min2_int max_two min_two max_three min_three max_four min_four   -- for this text's walks alone
set_option linter.unusedVariables false
set_option linter.unusedSimpArgs false

-- @GIVEN posthorselaw01_LeNil
/-! ### posthorselaw01_LeNil: by hand -/
def posthorselaw01_LeNil.f (_ _ : Int) : Option Bool := some true
theorem inText_nil (size : Int) (w : World) : Calls Tryd.prog 27 #[.pointer none, .int .i64 size] w fun e w' => e = .returned (.string ⟨#[]⟩) ∧ w' = w := by
  go_enter Tryd.func27, Tryd.ntmps27
  go_wp2
  go_ret
  exact ⟨rfl, rfl⟩
set_option maxHeartbeats 2000000 in
theorem inNum_nil (size : Int) (w : World) : Calls Tryd.prog 28 #[.pointer none, .int .i64 size] w fun e w' => e = .returned (.int .i64 0) ∧ Below w.heap.size w w' := by
  have E1 := Aside0.mk (show le_Get.f 3 ⟨#[]⟩ = some 0 by kernel_rfl)
  go_enter Tryd.func28, Tryd.ntmps28
  go_wp2_with (first
    | (go_at_call 27; (with_reducible refine (inText_nil size _).mono ?_); rintro e w1 ⟨rfl, rfl⟩)
    | (go_at_call 43; (with_reducible refine (le_Get.calls 3 ⟨#[]⟩ 0 _ E1.out).mono ?_); rintro e w1 ⟨rfl, hb⟩))
  go_ret
  exact ⟨rfl, hb.below⟩
set_option maxHeartbeats 2000000 in
theorem inNoughts_nil (size : Int) (w : World) : Calls Tryd.prog 32 #[.pointer none, .int .i64 size] w fun e w' => e = .returned (.tuple #[]) ∧ Below w.heap.size w w' := by
  have E1 := Aside0.mk (show strings_Trim.f ⟨#[]⟩ ⟨#[0]⟩ = some ⟨#[]⟩ by kernel_rfl)
  go_enter Tryd.func32, Tryd.ntmps32
  go_wp2_with (first
    | (go_at_call 27; (with_reducible refine (inText_nil size _).mono ?_); rintro e w1 ⟨rfl, rfl⟩)
    | (go_at_call 45; (with_reducible refine (strings_Trim.calls ⟨#[]⟩ ⟨#[0]⟩ ⟨#[]⟩ _ E1.out).mono ?_); rintro e w1 ⟨rfl, hb⟩))
  go_end0
  exact ⟨rfl, hb⟩
theorem inEnd_nil (w : World) : Calls Tryd.prog 29 #[.pointer none] w fun e w' => e = .returned (errW (some 1)) ∧ w' = w := by
  go_enter Tryd.func29, Tryd.ntmps29
  go_wp2
  go_ret
  exact ⟨rfl, rfl⟩
set_option maxHeartbeats 8000000 in
set_option maxRecDepth 100000 in
theorem posthorselaw01_LeNil.calls (a0 a1 : Int) (r : Bool) (w : World) (hL_ : Laid w) (h : posthorselaw01_LeNil.f a0 a1 = some r) :
    Calls Tryd.prog 10 #[.int .i64 a0, .int .i64 a1] w fun e w' => e = .returned (.bool r) ∧ Below w.heap.size w w' := by
  have HL_ := Aside0.mk hL_
  clear hL_
  obtain rfl : true = r := Option.some.inj h
  clear h
  have E0 := Aside0.mk (show posthorselaw01_speaks.f = some true from rfl)
  have E1 := Aside0.mk (show posthorselaw01_code.f (some 1) = some 1 from rfl)
  have HB := Aside0.mk (Below.refl w.heap.size w)
  have tok := True.intro
  go_enter Tryd.func10, Tryd.ntmps10
  go_wp2_with (first
    | (go_at_call 20; (with_reducible refine (posthorselaw01_speaks.calls true _ E0.out).mono ?_); rintro e w1 ⟨rfl, hb⟩; have HB1 := Aside0.mk (below_step HB.out hb); clear hb)
    | (go_at_call 22; (with_reducible refine (oNum_nil a0 a1 _).mono ?_); rintro e w2 ⟨rfl, rfl⟩)
    | (go_at_call 21; (with_reducible refine (oText_nil _ a1 _).mono ?_); rintro e w2 ⟨rfl, rfl⟩)
    | (go_at_call 32; (with_reducible refine (inNoughts_nil a1 _).mono ?_); rintro e w2 ⟨rfl, hb⟩; have HB2 := Aside0.mk (below_step HB1.out hb); clear hb HB1)
    | (go_at_call 24; (with_reducible refine (oString_nil _).mono ?_); rintro e w3 ⟨rfl, rfl⟩)
    | (go_at_call 25; (with_reducible refine (posthorselaw01_code.calls (some 1) 1 _ (Laid.below HL_.out HB2.out) E1.out).mono ?_); rintro e w4 ⟨rfl, hb⟩; have HB3 := Aside0.mk (below_step HB2.out hb); clear hb HB2)
    | (go_at_call 28; (with_reducible refine (inNum_nil a1 _).mono ?_); rintro e w5 ⟨rfl, hb⟩; have HB4 := Aside0.mk (below_step HB3.out hb); clear hb HB3)
    | (go_at_call 27; (with_reducible refine (inText_nil a1 _).mono ?_); rintro e w6 ⟨rfl, rfl⟩)
    | (go_at_call 29; (with_reducible refine (inEnd_nil _).mono ?_); rintro e w7 ⟨rfl, rfl⟩; have HB2 := HB4))
  go_ret
  exact ⟨rfl, HB3.out⟩


end Go.Proofs.YtdlmgjpnlgdpkaaDoor.VLeNil
