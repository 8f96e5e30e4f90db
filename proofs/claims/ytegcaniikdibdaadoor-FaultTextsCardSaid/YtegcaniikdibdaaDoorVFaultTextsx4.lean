/- Contracts of functions of this seat: each call comes to what its Lean function computes; no condition beyond what each theorem states. Printed by a program of this session's own laid over the kit's printer. -/
import Derived.Lib.LaidTab
import Derived.Lib.ItoaNum
import Derived.Test.YtegcaniikdibdaaDoorVFaultTextsx0
namespace Go.Proofs.YtegcaniikdibdaaDoor.VFaultTexts
open Go.RowKit Go.Proofs.YtegcaniikdibdaaDoorW.PrintWords Go.Proofs.YtegcaniikdibdaaDoorW.PrintLast Go.Proofs.YtegcaniikdibdaaDoorW.PrintMore
attribute [local go_sem] max2_int min2_int max_two min_two max_three min_three max_four min_four   -- for this text's walks alone
set_option linter.unusedVariables false
set_option linter.unusedSimpArgs false

-- @GIVEN lib_laid
/-- The words of the numbers. -/
def wordsL : List (List UInt8) := [[], [97, 114, 103, 117, 109, 101, 110, 116], [113, 117, 101, 117, 101], [112, 111, 119, 101, 114], [102, 111, 114, 109], [115, 117, 109], [115, 112, 97, 99, 101], [106, 111, 117, 114, 110, 97, 108], [110, 111, 110, 101], [101, 120, 105, 115, 116, 115], [108, 111, 110, 103], [114, 101, 106, 101, 99, 116], [102, 117, 101, 108], [98, 111, 117, 110, 100], [115, 116, 97, 108, 101], [97, 98, 111, 114, 116], [115, 116, 97, 116, 101], [99, 111, 114, 114, 117, 112, 116], [98, 117, 115, 121], [101, 120, 116, 101, 110, 116, 115]]
theorem tab_below {w w' : World} {name : String} {k : IntKind} {zs : List Int} (hb : Below w.heap.size w w') (h : Lib.TabIs Tryd.prog w name k zs) : Lib.TabIs Tryd.prog w' name k zs := by
  unfold Lib.TabIs World.var? at h ⊢
  obtain ⟨g, hg, h2⟩ := Option.bind_eq_some_iff.1 h
  rw [hg]
  show (match w'.heap[g]? with | some (.cells cs _ _) => some cs | _ => none) = _
  cases ho : w.heap[g]? with
  | none => rw [ho] at h2; cases h2
  | some o => rw [ho] at h2; rw [blk_below ho hb]; exact h2
/-- What is known of the package-level variables that the row lists. -/
def Laid (w : World) : Prop := (True) ∧ (True) ∧ (Lib.TabIs Tryd.prog w "internal/strconv.uint64pow10" .u64 Lib.pow10Tab) ∧ (∀ i : Nat, i < 20 → w.cell? ⟨1, i, none⟩ = some (.string ⟨(wordsL.getD i []).toArray⟩)) ∧ (w.cell? ⟨0, 0, none⟩ = some (.iface 125 (.agg #[.pointer (some ⟨9, 27, none⟩)])))
theorem Laid.below {w w' : World} (h : Laid w) (hb : Below w.heap.size w w') : Laid w' := ⟨trivial, trivial, tab_below hb h.2.2.1, fun i hi => pw_cell_below hb (h.2.2.2.1 i hi), pw_cell_below hb h.2.2.2.2⟩
theorem Laid.pow10 {w : World} (h : Laid w) : Lib.TabIs Tryd.prog w "internal/strconv.uint64pow10" .u64 Lib.pow10Tab := h.2.2.1
theorem Laid.words {w : World} (h : Laid w) : ∀ i : Nat, i < 20 → w.cell? ⟨1, i, none⟩ = some (.string ⟨(wordsL.getD i []).toArray⟩) := h.2.2.2.1
theorem Laid.errorType {w : World} (h : Laid w) : w.cell? ⟨0, 0, none⟩ = some (.iface 125 (.agg #[.pointer (some ⟨9, 27, none⟩)])) := h.2.2.2.2


end Go.Proofs.YtegcaniikdibdaaDoor.VFaultTexts
