/- Contracts of functions of this seat: each call comes to what its Lean function computes; no condition beyond what each theorem states. Printed by a program of this session's own laid over the kit's printer. -/
import Derived.Test.YtngokgliagkohaaDoorVXlatNilx0
import Derived.Test.YtngokgliagkohaaDoorVXlatNilx2
import Derived.Test.YtngokgliagkohaaDoorVXlatNilx4
import Derived.Test.YtngokgliagkohaaDoorVXlatNilx7
import Derived.Test.YtngokgliagkohaaDoorVXlatNilx10
import Derived.Test.YtngokgliagkohaaDoorVXlatNilx11
namespace Go.Proofs.YtngokgliagkohaaDoor.VXlatNil
open Go.RowKit Go.Proofs.YtngokgliagkohaaDoorW.PrintWords Go.Proofs.YtngokgliagkohaaDoorW.PrintLast Go.Proofs.YtngokgliagkohaaDoorW.PrintMore
attribute [local go_sem] max2_int min2_int max_two min_two max_three min_three max_four min_four   -- for this text's walks alone
set_option linter.unusedVariables false
set_option linter.unusedSimpArgs false

-- @GIVEN posthorselaw23_XlatNil
/-! ### posthorselaw23_XlatNil: by hand -/
def posthorselaw23_XlatNil.f (k : Nat) (a0 a1 : Int) : Option Bool := posthorselaw23_speaks.f k
theorem speaks23_true {k : Nat} {r : Bool} (h : posthorselaw23_speaks.f k = some r) : r = true := by
  unfold posthorselaw23_speaks.f at h
  obtain ⟨q, _, h⟩ := Option.bind_eq_some_iff.mp h
  split at h
  · exact (Option.some.inj h).symm
  · cases h
set_option maxHeartbeats 4000000 in
set_option maxRecDepth 100000 in
theorem cCounts_nil (w : World) : Calls Tryd.prog 28 #[.pointer none] w fun e w' => e = .returned (.tuple #[.int .i64 0, .int .i64 0, .int .i64 0]) ∧ w' = w := by
  go_enter Tryd.func28, Tryd.ntmps28
  go_wp2
  go_ret3
  exact ⟨rfl, rfl⟩
set_option maxHeartbeats 8000000 in
set_option maxRecDepth 100000 in
theorem posthorselaw23_XlatNil.calls (k : Nat) (a0 a1 : Int) (r : Bool) (w : World) (hL_ : Laid w) (h : posthorselaw23_XlatNil.f k a0 a1 = some r) :
    Calls Tryd.prog 7 #[.int .i64 a0, .int .i64 a1] w fun e w' => e = .returned (.bool r) ∧ Below w.heap.size w w' := by
  have HL_ := Aside0.mk hL_
  clear hL_
  have h' : posthorselaw23_speaks.f k = some r := h
  obtain rfl := speaks23_true h'
  have HP := Aside0.mk h'
  have HD := Aside0.mk (show posthorselaw23_code.f (some 1) = some 1 from rfl)
  clear h h'
  go_enter Tryd.func7, Tryd.ntmps7
  go_wp2_with (first
    | (go_at_call 20; (with_reducible refine (posthorselaw23_speaks.calls k true _ HL_.out HP.out).mono ?_); rintro e w1 ⟨rfl, hb1⟩; have HB1 := Aside0.mk hb1; clear hb1)
    | (go_at_call 22; (with_reducible refine (cLoad_nil a0 0 none 0 0 _).mono ?_); rintro e w2 ⟨rfl, hb2⟩; have HB2 := Aside0.mk (below_step HB1.out hb2); clear hb2)
    | (go_at_call 27; (with_reducible refine (cDrop_nil a0 _).mono ?_); rintro e w3 ⟨rfl, rfl⟩)
    | (go_at_call 23; (with_reducible refine (cFind_nil a0 a1 0 _).mono ?_); rintro e w3 ⟨rfl, rfl⟩; simp only [errW_some])
    | (go_at_call 25; (with_reducible refine (cVersion_nil a0 _).mono ?_); rintro e w3 ⟨rfl, rfl⟩)
    | (go_at_call 28; (with_reducible refine (cCounts_nil _).mono ?_); rintro e w3 ⟨rfl, rfl⟩)
    | (go_at_call 24; (refine (posthorselaw23_code.calls (some 1) 1 _ (Laid.below HL_.out HB2.out) HD.out).mono ?_); rintro e w5 ⟨rfl, hb5⟩; have HB3 := Aside0.mk (below_step HB2.out hb5); clear hb5))
  go_ret
  exact ⟨by first | rfl | simp, HB3.out⟩


end Go.Proofs.YtngokgliagkohaaDoor.VXlatNil
