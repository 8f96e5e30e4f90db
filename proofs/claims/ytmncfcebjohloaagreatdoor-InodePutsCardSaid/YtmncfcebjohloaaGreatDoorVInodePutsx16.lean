/- Contracts of functions of this seat: each call comes to what its Lean function computes; no condition beyond what each theorem states. Printed by a program of this session's own laid over the kit's printer. -/
import Derived.Test.YtmncfcebjohloaaGreatDoorVInodePutsx0
namespace Go.Proofs.YtmncfcebjohloaaGreatDoor.VInodePuts
open Go.RowKit Go.Proofs.YtmncfcebjohloaaGreatDoorW.PrintWords Go.Proofs.YtmncfcebjohloaaGreatDoorW.PrintLast Go.Proofs.YtmncfcebjohloaaGreatDoorW.PrintMore
attribute [local go_sem] max2_int min2_int max_two min_two max_three min_three max_four min_four   -- for this text's walks alone
set_option linter.unusedVariables false
set_option linter.unusedSimpArgs false

-- @GIVEN lib_laid
/-- What is known of the package-level variables that the row lists. -/
def Laid (w : World) : Prop := (True) ∧ (w.cell? ⟨0, 0, none⟩ = some (.iface 130 (.agg #[.pointer (some ⟨5, 33, none⟩)]))) ∧ (∀ i : Nat, i < 16 → w.cell? ⟨1, i, none⟩ = some (.int .u32 ([0, 274646895, 549293790, 820201905, 1098587580, 1361435347, 1640403810, 1905808397, 2197175160, 2460548119, 2722870694, 2987750089, 3280807620, 3553878443, 3811616794, 4084100981].getD i 0 : Nat))) ∧ (True)
theorem Laid.below {w w' : World} (h : Laid w) (hb : Below w.heap.size w w') : Laid w' := ⟨trivial, pw_cell_below hb h.2.1, fun i hi => pw_cell_below hb (h.2.2.1 i hi), trivial⟩
theorem Laid.errorType {w : World} (h : Laid w) : w.cell? ⟨0, 0, none⟩ = some (.iface 130 (.agg #[.pointer (some ⟨5, 33, none⟩)])) := h.2.1
theorem Laid.nibbles {w : World} (h : Laid w) : ∀ i : Nat, i < 16 → w.cell? ⟨1, i, none⟩ = some (.int .u32 ([0, 274646895, 549293790, 820201905, 1098587580, 1361435347, 1640403810, 1905808397, 2197175160, 2460548119, 2722870694, 2987750089, 3280807620, 3553878443, 3811616794, 4084100981].getD i 0 : Nat)) := h.2.2.1


end Go.Proofs.YtmncfcebjohloaaGreatDoor.VInodePuts
