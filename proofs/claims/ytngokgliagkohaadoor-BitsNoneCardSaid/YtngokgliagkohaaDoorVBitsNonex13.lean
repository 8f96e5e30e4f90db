/- Contracts of functions of this seat: each call comes to what its Lean function computes; no condition beyond what each theorem states. Printed by a program of this session's own laid over the kit's printer. -/
import Derived.Test.YtngokgliagkohaaDoorVBitsNonex0
import Derived.Test.YtngokgliagkohaaDoorVBitsNonex1
import Derived.Test.YtngokgliagkohaaDoorVBitsNonex5
import Derived.Test.YtngokgliagkohaaDoorVBitsNonex8
import Derived.Test.YtngokgliagkohaaDoorVBitsNonex9
import Derived.Test.YtngokgliagkohaaDoorVBitsNonex12
namespace Go.Proofs.YtngokgliagkohaaDoor.VBitsNone
open Go.RowKit Go.Proofs.YtngokgliagkohaaDoorW.PrintWords Go.Proofs.YtngokgliagkohaaDoorW.PrintLast Go.Proofs.YtngokgliagkohaaDoorW.PrintMore
attribute [local go_sem] max2_int min2_int max_two min_two max_three min_three max_four min_four   -- for this text's walks alone
set_option linter.unusedVariables false
set_option linter.unusedSimpArgs false

-- @GIVEN posthorselaw07_BitsNone
/-! ### posthorselaw07_BitsNone: by hand -/
def posthorselaw07_BitsNone.f (k : Nat) (a0 a1 : Int) : Option Bool := posthorselaw07_speaks.f k
set_option maxHeartbeats 8000000 in
set_option maxRecDepth 100000 in
theorem posthorselaw07_BitsNone.calls (k : Nat) (a0 a1 : Int) (r : Bool) (w : World) (hL_ : Laid w) (h : posthorselaw07_BitsNone.f k a0 a1 = some r) :
    Calls Tryd.prog 8 #[.int .i64 a0, .int .i64 a1] w fun e w' => e = .returned (.bool r) ∧ Below w.heap.size w w' := by
  have HL_ := Aside0.mk hL_
  clear hL_
  unfold posthorselaw07_BitsNone.f at h
  have hr : r = true := by
    unfold posthorselaw07_speaks.f at h
    obtain ⟨p, _, h⟩ := Option.bind_eq_some_iff.mp h
    split at h
    · exact (Option.some.inj h).symm
    · cases h
  subst hr
  have HP := Aside0.mk h
  clear h
  have E1 := Aside0.mk (show posthorselaw07_code.f (some 1) = some 1 from rfl)
  by_cases hn : 1 ≤ a0 ∧ a0 ≤ 4000
  · have HN := Aside0.mk hn
    have d1 : decide (1 ≤ a0) = true := decide_eq_true hn.1
    have d2 : decide (a0 ≤ 4000) = true := decide_eq_true hn.2
    clear hn
    go_enter Tryd.func8, Tryd.ntmps8
    go_wp2_with (first
      | (go_at_call 11; (with_reducible refine (posthorselaw07_speaks.calls k true _ HL_.out HP.out).mono ?_); rintro e w1 ⟨rfl, hb1⟩; have HB1 := Aside0.mk hb1; clear hb1)
      | (go_at_call 12; (with_reducible refine (setNew a0 _ HN.out.1 HN.out.2).mono ?_); rintro e w2 ⟨g, tb, rfl, _, hb2⟩; have HB2 := Aside0.mk (below_step HB1.out hb2); clear hb2 HB1)
      | (go_at_call 16; (with_reducible refine (setSize_nil _).mono ?_); rintro e w3 ⟨rfl, rfl⟩)
      | (go_at_call 19; (with_reducible refine (setRunC_nil 1 0 _).mono ?_); rintro e w3 ⟨rfl, rfl⟩)
      | (go_at_call 18; (with_reducible refine (setLongest_nil _).mono ?_); rintro e w3 ⟨rfl, rfl⟩)
      | (go_at_call 29; (with_reducible refine (setPut_nil _).mono ?_); rintro e w3 ⟨rfl, rfl⟩)
      | (go_at_call 17; (with_reducible refine (setHas_nil a1 _).mono ?_); rintro e w3 ⟨rfl, rfl⟩)
      | (go_at_call 13; (with_reducible refine (setTake_nil a1 1 _).mono ?_); rintro e w3 ⟨rfl, rfl⟩)
      | (go_at_call 15; (with_reducible refine (setGive_nil a1 1 _).mono ?_); rintro e w3 ⟨rfl, rfl⟩)
      | (go_at_call 14; (with_reducible refine (setCopy_nil _).mono ?_); rintro e w3 ⟨rfl, rfl⟩)
      | (go_at_call 30; (with_reducible refine (posthorselaw07_code.calls (some 1) 1 _ (Laid.below HL_.out HB2.out) E1.out).mono ?_); rintro e w4 ⟨rfl, hb⟩; have HB3 := Aside0.mk (below_step HB2.out hb); clear hb HB2; have HB2 := HB3; clear HB3))
    go_ret
    exact ⟨by first | rfl | simp, HB2.out⟩
  · have HN := Aside0.mk hn
    have d12 : (decide (1 ≤ a0) = false) ∨ (decide (1 ≤ a0) = true ∧ decide (a0 ≤ 4000) = false) := by
      by_cases h1 : 1 ≤ a0
      · exact .inr ⟨decide_eq_true h1, decide_eq_false (fun h => hn ⟨h1, h⟩)⟩
      · exact .inl (decide_eq_false h1)
    clear hn
    rcases d12 with d1 | ⟨d1, d2⟩
    all_goals
      go_enter Tryd.func8, Tryd.ntmps8
      go_wp2_with (first
        | (go_at_call 11; (with_reducible refine (posthorselaw07_speaks.calls k true _ HL_.out HP.out).mono ?_); rintro e w1 ⟨rfl, hb1⟩; have HB2 := Aside0.mk hb1; clear hb1)
        | (go_at_call 12; (with_reducible refine (setNew_not a0 _ HN.out).mono ?_); rintro e w2 ⟨rfl, rfl⟩; simp only [errW_some])
        | (go_at_call 16; (with_reducible refine (setSize_nil _).mono ?_); rintro e w3 ⟨rfl, rfl⟩)
        | (go_at_call 19; (with_reducible refine (setRunC_nil 1 0 _).mono ?_); rintro e w3 ⟨rfl, rfl⟩)
        | (go_at_call 18; (with_reducible refine (setLongest_nil _).mono ?_); rintro e w3 ⟨rfl, rfl⟩)
        | (go_at_call 29; (with_reducible refine (setPut_nil _).mono ?_); rintro e w3 ⟨rfl, rfl⟩)
        | (go_at_call 17; (with_reducible refine (setHas_nil a1 _).mono ?_); rintro e w3 ⟨rfl, rfl⟩)
        | (go_at_call 13; (with_reducible refine (setTake_nil a1 1 _).mono ?_); rintro e w3 ⟨rfl, rfl⟩)
        | (go_at_call 15; (with_reducible refine (setGive_nil a1 1 _).mono ?_); rintro e w3 ⟨rfl, rfl⟩)
        | (go_at_call 14; (with_reducible refine (setCopy_nil _).mono ?_); rintro e w3 ⟨rfl, rfl⟩)
        | (go_at_call 30; (with_reducible refine (posthorselaw07_code.calls (some 1) 1 _ (Laid.below HL_.out HB2.out) E1.out).mono ?_); rintro e w4 ⟨rfl, hb⟩; have HB3 := Aside0.mk (below_step HB2.out hb); clear hb HB2; have HB2 := HB3; clear HB3))
      go_ret
      exact ⟨by first | rfl | simp, HB2.out⟩


end Go.Proofs.YtngokgliagkohaaDoor.VBitsNone
