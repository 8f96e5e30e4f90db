/- SuperPlaces of layer 9: where everything is, of any layout, is what the document says; one part behind the other, to the device's end; for every input, no condition. -/
import Derived.Test.YtekjkbocblonmaaQAx2
namespace Go.Proofs.Ytekjkbocblonmaa.Pure
open Go.RowKit Go.Proofs.Ytekjkbocblonmaa.QA Go.Proofs.YtekjkbocblonmaaW.PrintWords Go.Proofs.YtekjkbocblonmaaW.PrintLast
set_option linter.unusedSimpArgs false

def IsRight (s j : Int) : Prop := 8 ≤ j ∧ j ≤ 512 ∧ s ≤ 2048 ∧ j + 6 < s

theorem right_yes (s j : Int) (h : IsRight s j) : super_Right.f s j = some true ∧ posthorseref09_Right.f s j = some true := by
  obtain ⟨h1, h2, h3, h4⟩ := h
  constructor
  · unfold super_Right.f
    rw [if_pos (by omega), if_pos (by omega), if_pos (by omega)]
    simp only [Option.some.injEq, decide_eq_true_eq]
    unfold wrap64; omega
  · unfold posthorseref09_Right.f
    rw [if_pos (by omega), if_pos (by omega), if_pos (by omega)]
    simp only [Option.some.injEq, decide_eq_true_eq]
    unfold wrap64; omega

theorem right_no (s j : Int) (h : ¬ IsRight s j) : super_Right.f s j = some false ∧ posthorseref09_Right.f s j = some false := by
  unfold IsRight at h
  unfold super_Right.f posthorseref09_Right.f
  by_cases h1 : j ≥ 8
  · by_cases h2 : j ≤ 512
    · by_cases h3 : s ≤ 2048
      · rw [if_pos h1, if_pos h2, if_pos h3, if_pos h1, if_pos h2, if_pos h3]
        simp only [Option.some.injEq, decide_eq_false_iff_not]
        unfold wrap64; omega
      · rw [if_pos h1, if_pos h2, if_neg h3, if_pos h1, if_pos h2, if_neg h3]; exact ⟨rfl, rfl⟩
    · rw [if_pos h1, if_neg h2, if_pos h1, if_neg h2]; exact ⟨rfl, rfl⟩
  · rw [if_neg h1, if_neg h1]; exact ⟨rfl, rfl⟩

theorem speaks_yes : posthorselaw09_speaks.f = some true := by decide +kernel

theorem SuperPlaces : posthorselaw09_SuperPlaces.Pure := by
  intro s j i _ _ _
  refine ⟨2, ?_⟩
  unfold posthorselaw09_SuperPlaces.f
  rw [speaks_yes]
  simp only [Option.bind_some, if_true]
  by_cases hr : IsRight s j
  · obtain ⟨r1, r2⟩ := right_yes s j hr
    obtain ⟨g1, g2, g3, g4⟩ := hr
    have e1 : wrap64 (1 + j) = 1 + j := by unfold wrap64; omega
    have e2 : wrap64 (2 + j) = 2 + j := by unfold wrap64; omega
    have e3 : wrap64 (6 + j) = 6 + j := by unfold wrap64; omega
    have e4 : wrap64 (1 + j + 1) = 2 + j := by unfold wrap64; omega
    have e5 : wrap64 (2 + j + 4) = 6 + j := by unfold wrap64; omega
    have e6 : wrap64 (s - (6 + j)) = s - (6 + j) := by unfold wrap64; omega
    have e7 : wrap64 (6 + j + (s - (6 + j))) = s := by unfold wrap64; omega
    have hp : posthorseref09_Places.f s j = some (1, 1 + j, 2 + j, 6 + j) := by
      unfold posthorseref09_Places.f; rw [r2]; simp only [Option.bind_some, if_true, e1, e2, e3]
    have hb : super_Layout_Bits.f s j = some (1 + j) := by
      unfold super_Layout_Bits.f; rw [r1]; simp only [Option.bind_some, if_true, e1]
    have hg : super_Layout_Ring.f s j = some (1, j) := by
      unfold super_Layout_Ring.f; rw [r1]; simp only [Option.bind_some, if_true]
    have hd : super_Layout_Data.f s j = some (6 + j, s - (6 + j)) := by
      unfold super_Layout_Data.f; rw [r1, hb]; simp only [Option.bind_some, if_true, e4, e5, e6]
    rw [hp, r2, hg, hd]
    by_cases hi : 0 ≤ i ∧ i < 4
    · obtain ⟨h0, h4⟩ := hi
      have e8 : wrap64 (2 + j + i) = 2 + j + i := by unfold wrap64; omega
      have hn : super_Layout_Inode.f s j i = some (2 + j + i, true) := by
        unfold super_Layout_Inode.f; rw [r1]; simp only [Option.bind_some, if_true]
        rw [if_neg (by omega), if_neg (by omega), hb]; simp only [Option.bind_some, e4, e8]
      rw [hn]
      simp only [Option.bind_some, if_true, posthorselaw09_SuperPlaces.j0, posthorselaw09_SuperPlaces.j1, r1, hb, e7, e8, e1]
      rw [if_pos (show i ≥ 0 from h0)]
      have d4 : decide (i < 4) = true := decide_eq_true h4
      simp only [d4, bne_self_eq_false, Bool.false_eq_true, if_false, if_true, Option.some.injEq, decide_eq_true_eq]
      omega
    · have hn : super_Layout_Inode.f s j i = some (0, false) := by
        unfold super_Layout_Inode.f; rw [r1]; simp only [Option.bind_some, if_true]
        by_cases h0 : i < 0
        · rw [if_pos h0]
        · rw [if_neg h0, if_pos (by omega)]
      rw [hn]
      simp only [Option.bind_some, if_true, posthorselaw09_SuperPlaces.j0, posthorselaw09_SuperPlaces.j1, r1, hb, e7, e1]
      by_cases h0 : i ≥ 0
      · have d4 : decide (i < 4) = false := decide_eq_false (by omega)
        rw [if_pos h0]
        simp only [d4, bne_self_eq_false, Bool.false_eq_true, if_false, if_true, Option.some.injEq, decide_eq_true_eq]
        omega
      · rw [if_neg h0]
        simp only [bne_self_eq_false, Bool.false_eq_true, if_false, if_true, Option.some.injEq, decide_eq_true_eq]
        omega
  · obtain ⟨r1, r2⟩ := right_no s j hr
    have hp : posthorseref09_Places.f s j = some (0, 0, 0, 0) := by
      unfold posthorseref09_Places.f; rw [r2]; simp
    have hb : super_Layout_Bits.f s j = some 0 := by
      unfold super_Layout_Bits.f; rw [r1]; simp
    have hg : super_Layout_Ring.f s j = some (0, 0) := by
      unfold super_Layout_Ring.f; rw [r1]; simp
    have hd : super_Layout_Data.f s j = some (0, 0) := by
      unfold super_Layout_Data.f; rw [r1]; simp
    have hn : super_Layout_Inode.f s j i = some (0, false) := by
      unfold super_Layout_Inode.f; rw [r1]; simp
    rw [hp, r2, hg, hd, hn]
    simp [posthorselaw09_SuperPlaces.j0, posthorselaw09_SuperPlaces.j1, r1, hb]

end Go.Proofs.Ytekjkbocblonmaa.Pure
