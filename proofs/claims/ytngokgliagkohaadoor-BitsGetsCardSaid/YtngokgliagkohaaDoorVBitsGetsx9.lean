/- Contracts of functions of this seat: each call comes to what its Lean function computes; no condition beyond what each theorem states. Printed by a program of this session's own laid over the kit's printer. -/
import Derived.Test.YtngokgliagkohaaDoorVBitsGetsx0
import Derived.Test.YtngokgliagkohaaDoorVBitsGetsx1
import Derived.Test.YtngokgliagkohaaDoorVBitsGetsx5
import Derived.Test.YtngokgliagkohaaDoorVBitsGetsx8
namespace Go.Proofs.YtngokgliagkohaaDoor.VBitsGets
open Go.RowKit Go.Proofs.YtngokgliagkohaaDoorW.PrintWords Go.Proofs.YtngokgliagkohaaDoorW.PrintLast Go.Proofs.YtngokgliagkohaaDoorW.PrintMore
attribute [local go_sem] max2_int min2_int max_two min_two max_three min_three max_four min_four   -- for this text's walks alone
set_option linter.unusedVariables false
set_option linter.unusedSimpArgs false

-- @GIVEN posthorselaw07_speaks
/-! ### posthorselaw07_speaks: by hand -/
/-- The set that speaks makes. -/
def spoken : List Bool := [false, true, true, false, false, false, false, false]
def posthorselaw07_speaks.f (k : Nat) : Option Bool := (bits_Set_Put.f k spoken).bind fun p => if p.2 = none ∧ p.1.size = 512 ∧ p.1.data.toList.getD 4 0 = 6 then some true else none
set_option maxHeartbeats 4000000 in
set_option maxRecDepth 100000 in
theorem posthorselaw07_speaks.calls (k : Nat) (r : Bool) (w : World) (hL_ : Laid w) (h : posthorselaw07_speaks.f k = some r) :
    Calls Tryd.prog 11 #[] w fun e w' => e = .returned (.bool r) ∧ Below w.heap.size w w' := by
  have HL_ := Aside0.mk hL_
  clear hL_
  unfold posthorselaw07_speaks.f at h
  obtain ⟨⟨s, se⟩, hp, h⟩ := Option.bind_eq_some_iff.mp h
  by_cases hc : se = none ∧ s.size = 512 ∧ s.data.toList.getD 4 0 = 6
  case neg => rw [if_neg hc] at h; cases h
  rw [if_pos hc] at h
  obtain rfl := Option.some.inj h
  obtain ⟨rfl, hs, h4⟩ := hc
  have hs4 : 4 < s.size := by omega
  have h4' : (s[4]'hs4).toNat = 6 := by
    have : s.data.toList.getD 4 0 = s[4]'hs4 := by rw [List.getD_eq_getElem?_getD, List.getElem?_eq_getElem (by rw [Array.length_toList]; exact hs4)]; simp [Array.getElem_toList]; rfl
    rw [← this, h4]; rfl
  have i1 := eq_true hs4
  have i2 : decide ((4 : Int) < (s.size : Int)) = true := decide_eq_true (by omega)
  have i3 : ((s.size : Int) == 512) = true := beq_iff_eq.2 (by omega)
  have i4 := eq_true (show (4 : Int) < (s.size : Int) by omega)
  have HP := Aside0.mk hp
  clear hp h4 h
  go_enter Tryd.func11, Tryd.ntmps11
  go_wp2_with (first
    | (go_at_call 12; (with_reducible refine (setNew 8 _ (by decide) (by decide)).mono ?_); rintro e w1 ⟨g, tb, rfl, hs1, hb1⟩; have HS1 := Aside0.mk hs1; have HB1 := Aside0.mk hb1; clear hs1 hb1)
    | (go_at_call 13; (with_reducible refine (setTake 1 2 _ HS1.out).mono ?_); rintro e w2 ⟨rfl, hs2, hb2, _⟩; have HS2 := Aside0.mk (show SetIs w.heap.size g tb 8 [] spoken w2 from hs2); have HB2 := Aside0.mk (HB1.out.trans hb2); simp only [show turnE (List.replicate (Int.toNat 8) false) 1 2 true 9 = none from by decide, errW_none]; clear hs2 hb2)
    | (go_at_call 29; (with_reducible refine (setPut k s none _ (Laid.below HL_.out HB2.out) HS2.out HP.out).mono ?_); rintro e w3 ⟨rfl, hb3⟩; have HS3 := Aside0.mk (HS2.out.below hb3); have HB3 := Aside0.mk (below_step HB2.out hb3); simp only [errW_none]; clear hb3)
    | (go_at_call 19; (with_reducible refine (setRunC 3 0 _ HS3.out).mono ?_); rintro e w4 ⟨rfl, rfl⟩; simp only [show runOf spoken 3 0 = (3, true) from by decide])
    | (go_at_call 17; (with_reducible refine (setHas _ _ HS3.out).mono ?_); rintro e w5 ⟨rfl, rfl⟩; simp only [show (decide ((0 : Int) ≤ 2) && spoken.getD (Int.toNat 2) false) = true from by decide, show (decide ((0 : Int) ≤ 3) && spoken.getD (Int.toNat 3) false) = false from by decide]))
  go_ret
  exact ⟨rfl, HB3.out⟩


end Go.Proofs.YtngokgliagkohaaDoor.VBitsGets
