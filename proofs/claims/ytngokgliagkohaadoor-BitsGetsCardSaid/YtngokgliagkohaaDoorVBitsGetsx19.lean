/- Contracts of functions of this seat: each call comes to what its Lean function computes; no condition beyond what each theorem states. Printed by a program of this session's own laid over the kit's printer. -/
import Derived.Test.YtngokgliagkohaaDoorVBitsGetsx0
namespace Go.Proofs.YtngokgliagkohaaDoor.VBitsGets
open Go.RowKit Go.Proofs.YtngokgliagkohaaDoorW.PrintWords Go.Proofs.YtngokgliagkohaaDoorW.PrintLast Go.Proofs.YtngokgliagkohaaDoorW.PrintMore
attribute [local go_sem] max2_int min2_int max_two min_two max_three min_three max_four min_four   -- for this text's walks alone
set_option linter.unusedVariables false
set_option linter.unusedSimpArgs false

-- @GIVEN lib_and
theorem andm_ (a : Int) (m : Nat) (hm : m < 4611686018427387904) (n : Nat) (hn : 2 ^ n = m + 1) : Go.bits .and .i64 a (m : Int) = a % ((m + 1 : Nat) : Int) := by
  have ha : (BitVec.ofInt 64 a).toNat = (a % 18446744073709551616).toNat := by
    rw [BitVec.toNat_ofInt]; rfl
  show IntKind.i64.wrap ((BitVec.ofInt 64 a &&& BitVec.ofInt 64 (m : Int)).toNat : Int) = _
  rw [BitVec.toNat_and, show (BitVec.ofInt 64 (m : Int)).toNat = m by rw [BitVec.ofInt_natCast, BitVec.toNat_ofNat, Nat.mod_eq_of_lt (by omega)], ha]
  have e : (a % 18446744073709551616).toNat &&& m = (a % 18446744073709551616).toNat % (m + 1) := by
    rw [← hn, show m = 2 ^ n - 1 by omega]; exact Nat.and_two_pow_sub_one_eq_mod _ n
  rw [e]
  have hlt : (a % 18446744073709551616).toNat % (m + 1) < m + 1 := Nat.mod_lt _ (by omega)
  have hdv : ((m + 1 : Nat) : Int) ∣ 18446744073709551616 := by
    rw [← hn]
    have h64 : n ≤ 64 := by
      rcases Nat.lt_or_ge 64 n with h | h
      · have := Nat.pow_le_pow_right (show 0 < 2 by decide) (show 65 ≤ n by omega)
        omega
      · exact h
    have : ((2 ^ n : Nat) : Int) ∣ ((2 ^ 64 : Nat) : Int) := Int.natCast_dvd_natCast.2 (Nat.pow_dvd_pow 2 h64)
    exact this
  have e2 : (((a % 18446744073709551616).toNat % (m + 1) : Nat) : Int) = a % ((m + 1 : Nat) : Int) := by
    rw [Int.natCast_emod, Int.toNat_of_nonneg (by omega), Int.emod_emod_of_dvd _ hdv]
  rw [e2]
  have h1 := Int.emod_nonneg a (show ((m + 1 : Nat) : Int) ≠ 0 by omega)
  have h2 := Int.emod_lt_of_pos a (show (0 : Int) < ((m + 1 : Nat) : Int) by omega)
  have hm1 : ((m + 1 : Nat) : Int) = (m : Int) + 1 := by omega
  rw [hm1] at h1 h2 ⊢
  generalize a % ((m : Int) + 1) = q at *
  simp only [IntKind.wrap, IntKind.bits, IntKind.signed]
  simp; omega
/-- A number taken into 0 .. n - 1. -/
theorem into_ (a : Int) (n : Nat) (h0 : 0 < n) (h1 : n ≤ 4000) : ∃ x : Nat, (wrap64 (a.tmod (n : Int) + (n : Int))).tmod (n : Int) = (x : Int) ∧ x < n := by
  have h2 := Int.tmod_lt_of_pos a (show (0 : Int) < (n : Int) by omega)
  have h3 := Int.lt_tmod_of_pos a (show (0 : Int) < (n : Int) by omega)
  rw [show wrap64 (a.tmod (n : Int) + (n : Int)) = a.tmod (n : Int) + (n : Int) by unfold wrap64; omega]
  have h4 := Int.tmod_lt_of_pos (a.tmod (n : Int) + (n : Int)) (show (0 : Int) < (n : Int) by omega)
  have h5 := Int.tmod_nonneg (n : Int) (show 0 ≤ a.tmod (n : Int) + (n : Int) by omega)
  exact ⟨((a.tmod (n : Int) + (n : Int)).tmod (n : Int)).toNat, by omega, by omega⟩


end Go.Proofs.YtngokgliagkohaaDoor.VBitsGets
