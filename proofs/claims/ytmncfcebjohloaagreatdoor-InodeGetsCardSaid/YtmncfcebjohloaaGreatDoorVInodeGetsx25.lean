/- Contracts of functions of this seat: each call comes to what its Lean function computes; no condition beyond what each theorem states. Printed by a program of this session's own laid over the kit's printer. -/
import Derived.Test.YtmncfcebjohloaaGreatDoorVInodeGetsx0
import Derived.Test.YtmncfcebjohloaaGreatDoorVInodeGetsx24
namespace Go.Proofs.YtmncfcebjohloaaGreatDoor.VInodeGets
open Go.RowKit Go.Proofs.YtmncfcebjohloaaGreatDoorW.PrintWords Go.Proofs.YtmncfcebjohloaaGreatDoorW.PrintLast Go.Proofs.YtmncfcebjohloaaGreatDoorW.PrintMore
attribute [local go_sem] max2_int min2_int max_two min_two max_three min_three max_four min_four   -- for this text's walks alone
set_option linter.unusedVariables false
set_option linter.unusedSimpArgs false

-- @GIVEN strings_Trim
/-! ### strings_Trim: by hand -/
def strings_Trim.f (s c : ByteArray) : Option ByteArray := if c = ⟨#[0]⟩ ∧ s.size ≤ 9223372036854775807 then some ⟨(Lib.trimB s.data.toList 0).toArray⟩ else none
theorem strings_Trim.calls (s c : ByteArray) (r : ByteArray) (w : World) (h : strings_Trim.f s c = some r) :
    Calls Tryz.prog 50 #[.string s, .string c] w fun e w' => e = .returned (.string r) ∧ Below w.heap.size w w' := by
  unfold strings_Trim.f at h
  split at h
  · rename_i hc
    obtain ⟨rfl, hs⟩ := hc
    obtain rfl := Option.some.inj h
    refine (Tryz.strings_Trim_one s 0 (by decide) w hs).mono ?_
    rintro e w' ⟨rfl, hw⟩
    rcases hw with rfl | rfl
    · exact ⟨rfl, Below.refl _ _⟩
    · exact ⟨rfl, (Below.refl _ _).drew⟩
  · cases h


end Go.Proofs.YtmncfcebjohloaaGreatDoor.VInodeGets
