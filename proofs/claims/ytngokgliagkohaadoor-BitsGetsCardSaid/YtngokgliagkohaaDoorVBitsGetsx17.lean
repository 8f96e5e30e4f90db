/- Contracts of functions of this seat: each call comes to what its Lean function computes; no condition beyond what each theorem states. Printed by a program of this session's own laid over the kit's printer. -/
import Derived.Test.YtngokgliagkohaaDoorVBitsGetsx0
import Derived.Test.YtngokgliagkohaaDoorVBitsGetsx1
import Derived.Test.YtngokgliagkohaaDoorVBitsGetsx16
namespace Go.Proofs.YtngokgliagkohaaDoor.VBitsGets
open Go.RowKit Go.Proofs.YtngokgliagkohaaDoorW.PrintWords Go.Proofs.YtngokgliagkohaaDoorW.PrintLast Go.Proofs.YtngokgliagkohaaDoorW.PrintMore
attribute [local go_sem] max2_int min2_int max_two min_two max_three min_three max_four min_four   -- for this text's walks alone
set_option linter.unusedVariables false
set_option linter.unusedSimpArgs false

-- @GIVEN posthorselaw07_same
/-! ### posthorselaw07_same: by hand -/
set_option maxHeartbeats 4000000 in
set_option maxRecDepth 100000 in
/-- The set and the list are the same: same says so. -/
theorem sameT {B g tb c : Nat} {rest : List Value} {l : List Bool} (k : Nat) (A1 : Option Addr) (c1 : Nat) (w : World) (h : SetIs B g tb c rest l w) (hr : Kd.C Kd.bool w A1 l.length l) (hc1 : l.length ≤ c1) (hf : posthorseref07_Free.f k l = some ((l.count false : Nat) : Int)) :
    Calls Tryd.prog 34 #[.pointer (some ⟨g, 0, none⟩), .slice A1 l.length c1] w fun e w' => e = .returned (.bool true) ∧ Below w.heap.size w w' := by
  have HS := Aside0.mk h
  have HR := Aside0.mk hr
  have HF := Aside0.mk hf
  have HC := Aside0.mk hc1
  have HB := Aside0.mk (Below.refl w.heap.size w)
  clear h hr hf hc1
  go_enter Tryd.func34, Tryd.ntmps34
  go_wp2_with (first
    | (go_at_call 16; (with_reducible refine (setSize _ HS.out).mono ?_); rintro e w1 ⟨rfl, hb1, _⟩; have HS1 := Aside0.mk (HS.out.below hb1); have HR1 := Aside0.mk (Kd.C_below HR.out hb1); have HB1 := Aside0.mk hb1; clear hb1)
    | (go_at_call 49; (with_reducible refine (posthorseref07_Free.calls k A1 c1 l _ _ HR1.out HC.out HF.out).mono ?_); rintro e w2 ⟨rfl, hd2⟩; have HS2 := Aside0.mk (HS1.out.below hd2.below); have HR2 := Aside0.mk (Kd.C_below HR1.out hd2.below); have HB2 := Aside0.mk (below_step HB1.out hd2.below); clear hd2))
  go_loopg [7] (l.length + 2) (fun kq v7 w' => ∃ i : Int, v7 = .int .i64 i ∧ Aside0 (-1 ≤ i ∧ i ≤ (l.length : Int) + 1 ∧ kq = ((l.length : Int) + 1 - i).toNat) ∧ Aside0 (SetIs B g tb c rest l w') ∧ Aside0 (Kd.C Kd.bool w' A1 l.length l) ∧ Aside0 (Below w.heap.size w w'))
  case atStart => exact ⟨-1, rfl, ⟨by omega, by omega, by omega⟩, HS2, HR2, HB2⟩
  case round =>
    clear HS HS1 HS2 HR HR1 HR2 HB HB1 HB2
    obtain ⟨i, rfl, HI, HS, HR, HB⟩ := hrel
    by_cases c0 : i ≤ (l.length : Int)
    · have d0 : decide (i ≤ (l.length : Int)) = true := decide_eq_true c0
      have hi1 : wrap64 (i + 1) = i + 1 := by have := HI.out; have := HS.out.1; unfold wrap64; omega
      by_cases c1 : 0 ≤ i
      · have d1 : decide (0 ≤ i) = true := decide_eq_true c1
        by_cases c2 : i < (l.length : Int)
        · have d2 : decide (i < (l.length : Int)) = true := decide_eq_true c2
          obtain ⟨ad, rfl, hx⟩ := Kd.at_bool HR.out i c1 c2
          have p1 := eq_true c1
          have p2 := eq_true c2
          have hb : (decide (0 ≤ i) && l.getD i.toNat false) = rdOf false l i := by rw [d1]; rfl
          have HBB := Aside0.mk hb
          generalize rdOf false l i = b at *
          have hbb : (b != b) = false := by simp
          clear hb
          go_wp2_with (go_at_call 17; (with_reducible refine (setHas i _ HS.out).mono ?_); rintro e w5 ⟨rfl, rfl⟩; rw [HBB.out])
          go_roundg (((l.length : Int) + 1 - (i + 1)).toNat)
          case measure => have := HI.out; omega
          case rel => exact ⟨i + 1, (by first | rfl | rw [hi1]), ⟨by have := HI.out; omega, by omega, rfl⟩, HS, HR, HB⟩
        · have d2 : decide (i < (l.length : Int)) = false := decide_eq_false c2
          have hb : (decide (0 ≤ i) && l.getD i.toNat false) = false := by rw [List.getD_eq_getElem?_getD, List.getElem?_eq_none (by omega)]; simp
          have HBB := Aside0.mk hb
          clear hb
          go_wp2_with (go_at_call 17; (with_reducible refine (setHas i _ HS.out).mono ?_); rintro e w5 ⟨rfl, rfl⟩; rw [HBB.out])
          go_roundg (((l.length : Int) + 1 - (i + 1)).toNat)
          case measure => have := HI.out; omega
          case rel => exact ⟨i + 1, (by first | rfl | rw [hi1]), ⟨by have := HI.out; omega, by omega, rfl⟩, HS, HR, HB⟩
      · have d1 : decide (0 ≤ i) = false := decide_eq_false c1
        have hb : (decide (0 ≤ i) && l.getD i.toNat false) = false := by rw [d1]; rfl
        have HBB := Aside0.mk hb
        clear hb
        go_wp2_with (go_at_call 17; (with_reducible refine (setHas i _ HS.out).mono ?_); rintro e w5 ⟨rfl, rfl⟩; rw [HBB.out])
        go_roundg (((l.length : Int) + 1 - (i + 1)).toNat)
        case measure => have := HI.out; omega
        case rel => exact ⟨i + 1, (by first | rfl | rw [hi1]), ⟨by have := HI.out; omega, by omega, rfl⟩, HS, HR, HB⟩
    · have d0 : decide (i ≤ (l.length : Int)) = false := decide_eq_false c0
      go_wp2
      go_ret
      exact ⟨rfl, HB.out⟩


end Go.Proofs.YtngokgliagkohaaDoor.VBitsGets
