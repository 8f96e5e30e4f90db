/- Contracts of functions of this seat: each call comes to what its Lean function computes; no condition beyond what each theorem states. Printed by a program of this session's own laid over the kit's printer. -/
import Derived.Test.YtmncfcebjohloaaGreatDoorVInodePutsx0
import Derived.Test.YtmncfcebjohloaaGreatDoorVInodePutsx12
namespace Go.Proofs.YtmncfcebjohloaaGreatDoor.VInodePuts
open Go.RowKit Go.Proofs.YtmncfcebjohloaaGreatDoorW.PrintWords Go.Proofs.YtmncfcebjohloaaGreatDoorW.PrintLast Go.Proofs.YtmncfcebjohloaaGreatDoorW.PrintMore
attribute [local go_sem] max2_int min2_int max_two min_two max_three min_three max_four min_four   -- for this text's walks alone
set_option linter.unusedVariables false
set_option linter.unusedSimpArgs false

-- @GIVEN strings_Repeat
/-! ### strings_Repeat: by hand -/
def strings_Repeat.f (s : ByteArray) (c : Int) : Option ByteArray := if 0 ≤ c ∧ (s.size : Int) * c ≤ 140737488355328 ∧ c ≤ 9223372036854775807 then some ⟨(Lib.repeatL s.data.toList c.toNat).toArray⟩ else none
theorem strings_Repeat.calls (s : ByteArray) (c : Int) (r : ByteArray) (w : World) (h : strings_Repeat.f s c = some r) :
    Calls Tryz.prog 43 #[.string s, .int .i64 c] w fun e w' => e = .returned (.string r) ∧ Below w.heap.size w w' := by
  unfold strings_Repeat.f at h
  split at h
  · rename_i hc
    obtain ⟨n, rfl⟩ := Int.eq_ofNat_of_zero_le hc.1
    obtain rfl := Option.some.inj h
    rw [Int.toNat_natCast]
    exact Tryz.strings_Repeat s n w (by omega) (by have := hc.2.1; have e : ((s.size * n : Nat) : Int) = (s.size : Int) * (n : Int) := Int.natCast_mul _ _; omega)
  · cases h


end Go.Proofs.YtmncfcebjohloaaGreatDoor.VInodePuts
