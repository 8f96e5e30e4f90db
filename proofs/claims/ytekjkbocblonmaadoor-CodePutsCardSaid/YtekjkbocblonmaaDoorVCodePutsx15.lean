/- Contracts of functions of this seat: each call comes to what its Lean function computes; no condition beyond what each theorem states. Printed by a program of this session's own laid over the kit's printer. -/
import Derived.Test.YtekjkbocblonmaaDoorVCodePutsx0
import Derived.Test.YtekjkbocblonmaaDoorVCodePutsx1
import Derived.Test.YtekjkbocblonmaaDoorVCodePutsx2
import Derived.Test.YtekjkbocblonmaaDoorVCodePutsx3
import Derived.Test.YtekjkbocblonmaaDoorVCodePutsx6
import Derived.Test.YtekjkbocblonmaaDoorVCodePutsx7
import Derived.Test.YtekjkbocblonmaaDoorVCodePutsx8
import Derived.Test.YtekjkbocblonmaaDoorVCodePutsx9
import Derived.Test.YtekjkbocblonmaaDoorVCodePutsx10
import Derived.Test.YtekjkbocblonmaaDoorVCodePutsx11
import Derived.Test.YtekjkbocblonmaaDoorVCodePutsx14
namespace Go.Proofs.YtekjkbocblonmaaDoor.VCodePuts
open Go.RowKit Go.Proofs.YtekjkbocblonmaaDoorW.PrintWords Go.Proofs.YtekjkbocblonmaaDoorW.PrintLast Go.Proofs.YtekjkbocblonmaaDoorW.PrintMore
attribute [local go_sem] max2_int min2_int max_two min_two max_three min_three max_four min_four   -- for this text's walks alone
set_option linter.unusedVariables false
set_option linter.unusedSimpArgs false

attribute [local go_sem high] eqA35
/-! ### posthorselaw17_CodePuts: function 4 -/
mutual
def posthorselaw17_CodePuts.l0 : Nat → List (S36) → List (S35) → List (S37) → Int → Option (Bool)
 | 0, _, _, _, _ => none
 | k + 1, x0, x3, x4, x5 => if x5 < (x0.length : Int) then (posthorselaw17_CodePuts.j1 k x0 x3 x4 x5 (decide (x5 < 140))) else (posthorselaw17_CodePuts.j1 k x0 x3 x4 x5 false)
def posthorselaw17_CodePuts.j1 : Nat → List (S36) → List (S35) → List (S37) → Int → Bool → Option (Bool)
 | 0, _, _, _, _, _ => none
 | k + 1, x0, x3, x4, x5, x22 => if x22 = true then (if 0 ≤ x5 then (if x5 < (x0.length : Int) then ((some (([(⟨(rd_T36 x0 x5).f0, (rd_T36 x0 x5).f1, (rd_T36 x0 x5).f2, (rd_T36 x0 x5).f3⟩ : S35)] : List (S35)) : List (S35))).bind fun y147 => (if x3.length + y147.length < 4398046511104 then ((some (([(⟨(rd_T36 x0 x5).f0, (rd_T36 x0 x5).f1, (rd_T36 x0 x5).f2, (rd_T36 x0 x5).f3⟩ : S37)] : List (S37)) : List (S37))).bind fun y154 => (if x4.length + y154.length < 4398046511104 then (posthorselaw17_CodePuts.j2 k x0 (x3 ++ y147) (x4 ++ y154) x5) else (none))) else (none))) else (none)) else (none)) else ((code_Put.f k x3).bind fun bt168 => ((posthorseref17_Put.f k x4).bind fun bt170 => (if bt168.1.toList = bt170.1.toList then ((posthorselaw17_number.f bt168.2).bind fun t172 => (posthorselaw17_CodePuts.j4 k x3 bt168.1 bt170.2 (t172 != bt170.2))) else (posthorselaw17_CodePuts.j4 k x3 bt168.1 bt170.2 true))))
def posthorselaw17_CodePuts.j2 : Nat → List (S36) → List (S35) → List (S37) → Int → Option (Bool)
 | 0, _, _, _, _ => none
 | k + 1, x0, x3, x4, x5 => if 0 ≤ x5 then (if x5 < (x0.length : Int) then ((code_Right.f k ((rd_T36 x0 x5).f0) ((rd_T36 x0 x5).f1) ((rd_T36 x0 x5).f2) ((rd_T36 x0 x5).f3)).bind fun t161 => ((posthorseref17_Right.f k ((rd_T36 x0 x5).f0) ((rd_T36 x0 x5).f1) ((rd_T36 x0 x5).f2) ((rd_T36 x0 x5).f3)).bind fun t163 => (if (t161 != t163) = true then (posthorselaw17_CodePuts.j3 k x0 x3 x4 x5 true) else ((code_Jumps.f ((rd_T36 x0 x5).f0)).bind fun t165 => (if ((rd_T36 x0 x5).f0) ≥ 12 then (posthorselaw17_CodePuts.j3 k x0 x3 x4 x5 (t165 != (decide (((rd_T36 x0 x5).f0) ≤ 16)))) else (posthorselaw17_CodePuts.j3 k x0 x3 x4 x5 (t165 != false))))))) else (none)) else (none)
def posthorselaw17_CodePuts.j3 : Nat → List (S36) → List (S35) → List (S37) → Int → Bool → Option (Bool)
 | 0, _, _, _, _, _ => none
 | k + 1, x0, x3, x4, x5, x72 => if x72 = true then (some false) else (posthorselaw17_CodePuts.l0 k x0 x3 x4 (wrap64 (x5 + 1)))
def posthorselaw17_CodePuts.j4 : Nat → List (S35) → ByteArray → Int → Bool → Option (Bool)
 | 0, _, _, _, _ => none
 | k + 1, x3, x6, x9, x91 => if x91 = true then (some false) else (if x9 = 0 then ((code_Get.f k x6).bind fun bt173 => (if bt173.2.isNone = true then (posthorselaw17_CodePuts.j5 k x3 bt173.1 ((bt173.1.length : Int) != (x3.length : Int))) else (posthorselaw17_CodePuts.j5 k x3 bt173.1 true))) else (some true))
def posthorselaw17_CodePuts.j5 : Nat → List (S35) → List (S35) → Bool → Option (Bool)
 | 0, _, _, _ => none
 | k + 1, x3, x10, x107 => if x107 = true then (some false) else (posthorselaw17_CodePuts.l1 k x3 x10 0)
def posthorselaw17_CodePuts.l1 : Nat → List (S35) → List (S35) → Int → Option (Bool)
 | 0, _, _, _ => none
 | k + 1, x3, x10, x12 => if x12 < (x3.length : Int) then (if 0 ≤ x12 then (if x12 < (x10.length : Int) then (if (!(((rd_T35 x10 x12).f0) == ((rd_T35 x3 x12).f0)) || (!(((rd_T35 x10 x12).f1) == ((rd_T35 x3 x12).f1)) || (!(((rd_T35 x10 x12).f2) == ((rd_T35 x3 x12).f2)) || (!(((rd_T35 x10 x12).f3) == ((rd_T35 x3 x12).f3)))))) = true then (some false) else (posthorselaw17_CodePuts.l1 k x3 x10 (wrap64 (x12 + 1)))) else (none)) else (none)) else (some true)
end
def posthorselaw17_CodePuts.f (k : Nat) (l0 : List (S36)) : Option (Bool) := (posthorselaw17_speaks.f k).bind fun t145 => (if t145 = true then (posthorselaw17_CodePuts.l0 k l0 ([] : List (S35)) ([] : List (S37)) 0) else (some false))
set_option maxRecDepth 100000 in
theorem posthorselaw17_CodePuts.mono_l : ∀ k, (∀ y0 y1 y2 y3, LeO (posthorselaw17_CodePuts.l0 k y0 y1 y2 y3) (posthorselaw17_CodePuts.l0 (k + 1) y0 y1 y2 y3)) ∧ (∀ y0 y1 y2 y3 y4, LeO (posthorselaw17_CodePuts.j1 k y0 y1 y2 y3 y4) (posthorselaw17_CodePuts.j1 (k + 1) y0 y1 y2 y3 y4)) ∧ (∀ y0 y1 y2 y3, LeO (posthorselaw17_CodePuts.j2 k y0 y1 y2 y3) (posthorselaw17_CodePuts.j2 (k + 1) y0 y1 y2 y3)) ∧ (∀ y0 y1 y2 y3 y4, LeO (posthorselaw17_CodePuts.j3 k y0 y1 y2 y3 y4) (posthorselaw17_CodePuts.j3 (k + 1) y0 y1 y2 y3 y4)) ∧ (∀ y0 y1 y2 y3, LeO (posthorselaw17_CodePuts.j4 k y0 y1 y2 y3) (posthorselaw17_CodePuts.j4 (k + 1) y0 y1 y2 y3)) ∧ (∀ y0 y1 y2, LeO (posthorselaw17_CodePuts.j5 k y0 y1 y2) (posthorselaw17_CodePuts.j5 (k + 1) y0 y1 y2)) ∧ (∀ y0 y1 y2, LeO (posthorselaw17_CodePuts.l1 k y0 y1 y2) (posthorselaw17_CodePuts.l1 (k + 1) y0 y1 y2))
 | 0 => ⟨fun _ _ _ _ r h => by first | (rw [posthorselaw17_CodePuts.l0] at h; cases h) | simp [posthorselaw17_CodePuts.l0] at h, fun _ _ _ _ _ r h => by first | (rw [posthorselaw17_CodePuts.j1] at h; cases h) | simp [posthorselaw17_CodePuts.j1] at h, fun _ _ _ _ r h => by first | (rw [posthorselaw17_CodePuts.j2] at h; cases h) | simp [posthorselaw17_CodePuts.j2] at h, fun _ _ _ _ _ r h => by first | (rw [posthorselaw17_CodePuts.j3] at h; cases h) | simp [posthorselaw17_CodePuts.j3] at h, fun _ _ _ _ r h => by first | (rw [posthorselaw17_CodePuts.j4] at h; cases h) | simp [posthorselaw17_CodePuts.j4] at h, fun _ _ _ r h => by first | (rw [posthorselaw17_CodePuts.j5] at h; cases h) | simp [posthorselaw17_CodePuts.j5] at h, fun _ _ _ r h => by first | (rw [posthorselaw17_CodePuts.l1] at h; cases h) | simp [posthorselaw17_CodePuts.l1] at h⟩
 | k + 1 => by
  obtain ⟨ih0, ih1, ih2, ih3, ih4, ih5, ih6⟩ := posthorselaw17_CodePuts.mono_l k
  refine ⟨?_, ?_, ?_, ?_, ?_, ?_, ?_⟩
  ·intro y0 y1 y2 y3
   unfold posthorselaw17_CodePuts.l0
   repeat' first
   | (with_reducible exact ih0 _ _ _ _)
   | (with_reducible exact ih1 _ _ _ _ _)
   | (with_reducible exact ih2 _ _ _ _)
   | (with_reducible exact ih3 _ _ _ _ _)
   | (with_reducible exact ih4 _ _ _ _)
   | (with_reducible exact ih5 _ _ _)
   | (with_reducible exact ih6 _ _ _)
   | (with_reducible exact code_Get.mono _ _)
   | (with_reducible exact code_Put.mono _ _)
   | (with_reducible exact code_Right.mono _ _ _ _ _)
   | (with_reducible exact posthorselaw17_speaks.mono _)
   | (with_reducible exact posthorseref17_Put.mono _ _)
   | (with_reducible exact posthorseref17_Right.mono _ _ _ _ _)
   | (with_reducible exact LeO.refl _)
   | (with_reducible exact LeO.none _)
   | (with_reducible refine LeO.ite ?_ ?_)
   | (with_reducible refine LeO.bind ?_ (fun _ => ?_))
   | exact ih0 _ _ _ _
   | exact ih1 _ _ _ _ _
   | exact ih2 _ _ _ _
   | exact ih3 _ _ _ _ _
   | exact ih4 _ _ _ _
   | exact ih5 _ _ _
   | exact ih6 _ _ _
   | exact code_Get.mono _ _
   | exact code_Put.mono _ _
   | exact code_Right.mono _ _ _ _ _
   | exact posthorselaw17_speaks.mono _
   | exact posthorseref17_Put.mono _ _
   | exact posthorseref17_Right.mono _ _ _ _ _
   | exact LeO.none _
   | refine LeO.ite ?_ ?_
   | refine LeO.bind ?_ (fun _ => ?_)
  ·intro y0 y1 y2 y3 y4
   unfold posthorselaw17_CodePuts.j1
   repeat' first
   | (with_reducible exact ih0 _ _ _ _)
   | (with_reducible exact ih1 _ _ _ _ _)
   | (with_reducible exact ih2 _ _ _ _)
   | (with_reducible exact ih3 _ _ _ _ _)
   | (with_reducible exact ih4 _ _ _ _)
   | (with_reducible exact ih5 _ _ _)
   | (with_reducible exact ih6 _ _ _)
   | (with_reducible exact code_Get.mono _ _)
   | (with_reducible exact code_Put.mono _ _)
   | (with_reducible exact code_Right.mono _ _ _ _ _)
   | (with_reducible exact posthorselaw17_speaks.mono _)
   | (with_reducible exact posthorseref17_Put.mono _ _)
   | (with_reducible exact posthorseref17_Right.mono _ _ _ _ _)
   | (with_reducible exact LeO.refl _)
   | (with_reducible exact LeO.none _)
   | (with_reducible refine LeO.ite ?_ ?_)
   | (with_reducible refine LeO.bind ?_ (fun _ => ?_))
   | exact ih0 _ _ _ _
   | exact ih1 _ _ _ _ _
   | exact ih2 _ _ _ _
   | exact ih3 _ _ _ _ _
   | exact ih4 _ _ _ _
   | exact ih5 _ _ _
   | exact ih6 _ _ _
   | exact code_Get.mono _ _
   | exact code_Put.mono _ _
   | exact code_Right.mono _ _ _ _ _
   | exact posthorselaw17_speaks.mono _
   | exact posthorseref17_Put.mono _ _
   | exact posthorseref17_Right.mono _ _ _ _ _
   | exact LeO.none _
   | refine LeO.ite ?_ ?_
   | refine LeO.bind ?_ (fun _ => ?_)
  ·intro y0 y1 y2 y3
   unfold posthorselaw17_CodePuts.j2
   repeat' first
   | (with_reducible exact ih0 _ _ _ _)
   | (with_reducible exact ih1 _ _ _ _ _)
   | (with_reducible exact ih2 _ _ _ _)
   | (with_reducible exact ih3 _ _ _ _ _)
   | (with_reducible exact ih4 _ _ _ _)
   | (with_reducible exact ih5 _ _ _)
   | (with_reducible exact ih6 _ _ _)
   | (with_reducible exact code_Get.mono _ _)
   | (with_reducible exact code_Put.mono _ _)
   | (with_reducible exact code_Right.mono _ _ _ _ _)
   | (with_reducible exact posthorselaw17_speaks.mono _)
   | (with_reducible exact posthorseref17_Put.mono _ _)
   | (with_reducible exact posthorseref17_Right.mono _ _ _ _ _)
   | (with_reducible exact LeO.refl _)
   | (with_reducible exact LeO.none _)
   | (with_reducible refine LeO.ite ?_ ?_)
   | (with_reducible refine LeO.bind ?_ (fun _ => ?_))
   | exact ih0 _ _ _ _
   | exact ih1 _ _ _ _ _
   | exact ih2 _ _ _ _
   | exact ih3 _ _ _ _ _
   | exact ih4 _ _ _ _
   | exact ih5 _ _ _
   | exact ih6 _ _ _
   | exact code_Get.mono _ _
   | exact code_Put.mono _ _
   | exact code_Right.mono _ _ _ _ _
   | exact posthorselaw17_speaks.mono _
   | exact posthorseref17_Put.mono _ _
   | exact posthorseref17_Right.mono _ _ _ _ _
   | exact LeO.none _
   | refine LeO.ite ?_ ?_
   | refine LeO.bind ?_ (fun _ => ?_)
  ·intro y0 y1 y2 y3 y4
   unfold posthorselaw17_CodePuts.j3
   repeat' first
   | (with_reducible exact ih0 _ _ _ _)
   | (with_reducible exact ih1 _ _ _ _ _)
   | (with_reducible exact ih2 _ _ _ _)
   | (with_reducible exact ih3 _ _ _ _ _)
   | (with_reducible exact ih4 _ _ _ _)
   | (with_reducible exact ih5 _ _ _)
   | (with_reducible exact ih6 _ _ _)
   | (with_reducible exact code_Get.mono _ _)
   | (with_reducible exact code_Put.mono _ _)
   | (with_reducible exact code_Right.mono _ _ _ _ _)
   | (with_reducible exact posthorselaw17_speaks.mono _)
   | (with_reducible exact posthorseref17_Put.mono _ _)
   | (with_reducible exact posthorseref17_Right.mono _ _ _ _ _)
   | (with_reducible exact LeO.refl _)
   | (with_reducible exact LeO.none _)
   | (with_reducible refine LeO.ite ?_ ?_)
   | (with_reducible refine LeO.bind ?_ (fun _ => ?_))
   | exact ih0 _ _ _ _
   | exact ih1 _ _ _ _ _
   | exact ih2 _ _ _ _
   | exact ih3 _ _ _ _ _
   | exact ih4 _ _ _ _
   | exact ih5 _ _ _
   | exact ih6 _ _ _
   | exact code_Get.mono _ _
   | exact code_Put.mono _ _
   | exact code_Right.mono _ _ _ _ _
   | exact posthorselaw17_speaks.mono _
   | exact posthorseref17_Put.mono _ _
   | exact posthorseref17_Right.mono _ _ _ _ _
   | exact LeO.none _
   | refine LeO.ite ?_ ?_
   | refine LeO.bind ?_ (fun _ => ?_)
  ·intro y0 y1 y2 y3
   unfold posthorselaw17_CodePuts.j4
   repeat' first
   | (with_reducible exact ih0 _ _ _ _)
   | (with_reducible exact ih1 _ _ _ _ _)
   | (with_reducible exact ih2 _ _ _ _)
   | (with_reducible exact ih3 _ _ _ _ _)
   | (with_reducible exact ih4 _ _ _ _)
   | (with_reducible exact ih5 _ _ _)
   | (with_reducible exact ih6 _ _ _)
   | (with_reducible exact code_Get.mono _ _)
   | (with_reducible exact code_Put.mono _ _)
   | (with_reducible exact code_Right.mono _ _ _ _ _)
   | (with_reducible exact posthorselaw17_speaks.mono _)
   | (with_reducible exact posthorseref17_Put.mono _ _)
   | (with_reducible exact posthorseref17_Right.mono _ _ _ _ _)
   | (with_reducible exact LeO.refl _)
   | (with_reducible exact LeO.none _)
   | (with_reducible refine LeO.ite ?_ ?_)
   | (with_reducible refine LeO.bind ?_ (fun _ => ?_))
   | exact ih0 _ _ _ _
   | exact ih1 _ _ _ _ _
   | exact ih2 _ _ _ _
   | exact ih3 _ _ _ _ _
   | exact ih4 _ _ _ _
   | exact ih5 _ _ _
   | exact ih6 _ _ _
   | exact code_Get.mono _ _
   | exact code_Put.mono _ _
   | exact code_Right.mono _ _ _ _ _
   | exact posthorselaw17_speaks.mono _
   | exact posthorseref17_Put.mono _ _
   | exact posthorseref17_Right.mono _ _ _ _ _
   | exact LeO.none _
   | refine LeO.ite ?_ ?_
   | refine LeO.bind ?_ (fun _ => ?_)
  ·intro y0 y1 y2
   unfold posthorselaw17_CodePuts.j5
   repeat' first
   | (with_reducible exact ih0 _ _ _ _)
   | (with_reducible exact ih1 _ _ _ _ _)
   | (with_reducible exact ih2 _ _ _ _)
   | (with_reducible exact ih3 _ _ _ _ _)
   | (with_reducible exact ih4 _ _ _ _)
   | (with_reducible exact ih5 _ _ _)
   | (with_reducible exact ih6 _ _ _)
   | (with_reducible exact code_Get.mono _ _)
   | (with_reducible exact code_Put.mono _ _)
   | (with_reducible exact code_Right.mono _ _ _ _ _)
   | (with_reducible exact posthorselaw17_speaks.mono _)
   | (with_reducible exact posthorseref17_Put.mono _ _)
   | (with_reducible exact posthorseref17_Right.mono _ _ _ _ _)
   | (with_reducible exact LeO.refl _)
   | (with_reducible exact LeO.none _)
   | (with_reducible refine LeO.ite ?_ ?_)
   | (with_reducible refine LeO.bind ?_ (fun _ => ?_))
   | exact ih0 _ _ _ _
   | exact ih1 _ _ _ _ _
   | exact ih2 _ _ _ _
   | exact ih3 _ _ _ _ _
   | exact ih4 _ _ _ _
   | exact ih5 _ _ _
   | exact ih6 _ _ _
   | exact code_Get.mono _ _
   | exact code_Put.mono _ _
   | exact code_Right.mono _ _ _ _ _
   | exact posthorselaw17_speaks.mono _
   | exact posthorseref17_Put.mono _ _
   | exact posthorseref17_Right.mono _ _ _ _ _
   | exact LeO.none _
   | refine LeO.ite ?_ ?_
   | refine LeO.bind ?_ (fun _ => ?_)
  ·intro y0 y1 y2
   unfold posthorselaw17_CodePuts.l1
   repeat' first
   | (with_reducible exact ih0 _ _ _ _)
   | (with_reducible exact ih1 _ _ _ _ _)
   | (with_reducible exact ih2 _ _ _ _)
   | (with_reducible exact ih3 _ _ _ _ _)
   | (with_reducible exact ih4 _ _ _ _)
   | (with_reducible exact ih5 _ _ _)
   | (with_reducible exact ih6 _ _ _)
   | (with_reducible exact code_Get.mono _ _)
   | (with_reducible exact code_Put.mono _ _)
   | (with_reducible exact code_Right.mono _ _ _ _ _)
   | (with_reducible exact posthorselaw17_speaks.mono _)
   | (with_reducible exact posthorseref17_Put.mono _ _)
   | (with_reducible exact posthorseref17_Right.mono _ _ _ _ _)
   | (with_reducible exact LeO.refl _)
   | (with_reducible exact LeO.none _)
   | (with_reducible refine LeO.ite ?_ ?_)
   | (with_reducible refine LeO.bind ?_ (fun _ => ?_))
   | exact ih0 _ _ _ _
   | exact ih1 _ _ _ _ _
   | exact ih2 _ _ _ _
   | exact ih3 _ _ _ _ _
   | exact ih4 _ _ _ _
   | exact ih5 _ _ _
   | exact ih6 _ _ _
   | exact code_Get.mono _ _
   | exact code_Put.mono _ _
   | exact code_Right.mono _ _ _ _ _
   | exact posthorselaw17_speaks.mono _
   | exact posthorseref17_Put.mono _ _
   | exact posthorseref17_Right.mono _ _ _ _ _
   | exact LeO.none _
   | refine LeO.ite ?_ ?_
   | refine LeO.bind ?_ (fun _ => ?_)
theorem posthorselaw17_CodePuts.mono : ∀ a0 k, LeO (posthorselaw17_CodePuts.f k a0) (posthorselaw17_CodePuts.f (k + 1) a0) := by
 intro a0 k
 obtain ⟨ih0, ih1, ih2, ih3, ih4, ih5, ih6⟩ := posthorselaw17_CodePuts.mono_l k
 unfold posthorselaw17_CodePuts.f
 repeat' first
   | (with_reducible exact ih0 _ _ _ _)
   | (with_reducible exact ih1 _ _ _ _ _)
   | (with_reducible exact ih2 _ _ _ _)
   | (with_reducible exact ih3 _ _ _ _ _)
   | (with_reducible exact ih4 _ _ _ _)
   | (with_reducible exact ih5 _ _ _)
   | (with_reducible exact ih6 _ _ _)
   | (with_reducible exact code_Get.mono _ _)
   | (with_reducible exact code_Put.mono _ _)
   | (with_reducible exact code_Right.mono _ _ _ _ _)
   | (with_reducible exact posthorselaw17_speaks.mono _)
   | (with_reducible exact posthorseref17_Put.mono _ _)
   | (with_reducible exact posthorseref17_Right.mono _ _ _ _ _)
   | (with_reducible exact LeO.refl _)
   | (with_reducible exact LeO.none _)
   | (with_reducible refine LeO.ite ?_ ?_)
   | (with_reducible refine LeO.bind ?_ (fun _ => ?_))
   | exact ih0 _ _ _ _
   | exact ih1 _ _ _ _ _
   | exact ih2 _ _ _ _
   | exact ih3 _ _ _ _ _
   | exact ih4 _ _ _ _
   | exact ih5 _ _ _
   | exact ih6 _ _ _
   | exact code_Get.mono _ _
   | exact code_Put.mono _ _
   | exact code_Right.mono _ _ _ _ _
   | exact posthorselaw17_speaks.mono _
   | exact posthorseref17_Put.mono _ _
   | exact posthorseref17_Right.mono _ _ _ _ _
   | exact LeO.none _
   | refine LeO.ite ?_ ?_
   | refine LeO.bind ?_ (fun _ => ?_)
def posthorselaw17_CodePuts.T8 : Bool × List (List Nat × List Nat) := (true, [([], []), ([], []), ([], []), ([1, 2], [1, 2]), ([3], [3]), ([4], [4]), ([0, 5], [0, 5]), ([], []), ([], []), ([], []), ([8, 9], [8, 9]), ([10], [10]), ([11], [11]), ([7, 12, 6], [7, 12]), ([6, 13, 0, 1, 2, 3, 4, 5, 6], [0, 6]), ([13, 14, 0, 1, 2, 3, 4, 5, 6, 7, 8, 9, 10, 11, 12, 13, 14], [7, 13])])
def posthorselaw17_CodePuts.B8 : List Nat := [0, 0, 0, 6, 14, 30, 63, 0, 0, 0, 768, 1792, 3840, 8191, 16383, 32767]
theorem posthorselaw17_CodePuts.tab8 : rtab .any (opsOf Tryd.f4 8) = posthorselaw17_CodePuts.T8 := by kernel_rfl
theorem posthorselaw17_CodePuts.bits8 : waitsOk posthorselaw17_CodePuts.T8.2 posthorselaw17_CodePuts.B8 = true := by kernel_rfl
def posthorselaw17_CodePuts.T9 : Bool × List (List Nat × List Nat) := (true, [([], []), ([], []), ([0, 1], [0, 1]), ([2], [2]), ([3], [3]), ([], []), ([], []), ([5, 6], [5, 6]), ([7], [7]), ([8, 4], [8]), ([4, 9], [4, 9]), ([10, 9], [10]), ([11], [11]), ([11], [11]), ([12, 13, 11], [11, 12, 13]), ([14, 11], [11, 14]), ([15, 11], [11, 15]), ([16, 11, 11], [11, 16]), ([11], [11]), ([11], [11]), ([18, 19, 11], [11, 18, 19]), ([20, 11], [11, 20]), ([21, 11], [11, 21]), ([22, 11], [11, 22]), ([23, 17, 11], [11, 23]), ([24], [24]), ([24], [24]), ([25, 26, 24], [24, 25, 26]), ([27, 24], [24, 27]), ([28, 24], [24, 28]), ([29, 24], [24, 29]), ([24, 30, 11], [11, 24, 30]), ([17, 31, 11], [11, 17, 31]), ([11, 32], [11, 32])])
def posthorselaw17_CodePuts.B9 : List Nat := [0, 0, 3, 7, 15, 0, 0, 96, 224, 511, 1023, 2047, 4095, 4095, 16383, 32767, 65535, 131071, 4095, 4095, 790527, 1839103, 3936255, 8130559, 16777215, 33554431, 33554431, 134217727, 268435455, 536870911, 1073741823, 2147483647, 4294967295, 8589934591]
theorem posthorselaw17_CodePuts.tab9 : rtab .any (opsOf Tryd.f4 9) = posthorselaw17_CodePuts.T9 := by kernel_rfl
theorem posthorselaw17_CodePuts.bits9 : waitsOk posthorselaw17_CodePuts.T9.2 posthorselaw17_CodePuts.B9 = true := by kernel_rfl
def posthorselaw17_CodePuts.T23 : Bool × List (List Nat × List Nat) := (true, [([], []), ([], []), ([0, 1], [0, 1]), ([2], [2]), ([], []), ([], []), ([4, 5], [4, 5]), ([6], [6]), ([3, 7], [3, 7])])
def posthorselaw17_CodePuts.B23 : List Nat := [0, 0, 3, 7, 0, 0, 48, 112, 255]
theorem posthorselaw17_CodePuts.tab23 : rtab .any (opsOf Tryd.f4 23) = posthorselaw17_CodePuts.T23 := by kernel_rfl
theorem posthorselaw17_CodePuts.bits23 : waitsOk posthorselaw17_CodePuts.T23.2 posthorselaw17_CodePuts.B23 = true := by kernel_rfl
set_option maxHeartbeats 8000000 in
set_option maxRecDepth 100000 in
theorem posthorselaw17_CodePuts.calls (k : Nat) (A0 : Option Addr) (c0 : Nat) (l0 : List (S36)) (r : Bool) (w : World) (hL_ : Laid w) (hr0 : Kd.C k36 w A0 l0.length l0) (hc0 : l0.length ≤ c0) (h : posthorselaw17_CodePuts.f k l0 = some r) :
  Calls Tryd.prog 4 #[.slice A0 l0.length c0] w fun e w' => e = .returned (.bool r) ∧ Below w.heap.size w w' := by
 have HL_ := Aside0.mk hL_
 clear hL_
 have hu36 := Tryd.underlying36
 have hu35 := Tryd.underlying35
 have hu27 := Tryd.underlying27
 have hu63 := Tryd.underlying63
 have HR0 := Aside0.mk hr0
 have HC0 := Aside0.mk hc0
 clear hr0 hc0
 have HB := Aside0.mk (Below.refl w.heap.size w)
 have H : ((posthorselaw17_speaks.f k).bind fun t145 => (if t145 = true then (posthorselaw17_CodePuts.l0 k l0 ([] : List (S35)) ([] : List (S37)) 0) else (some false))) = some r := h
 clear h
 replace H := Option.bind_eq_some_iff.mp H
 obtain ⟨t145, A20, H⟩ := H
 replace H : (if t145 = true then (posthorselaw17_CodePuts.l0 k l0 ([] : List (S35)) ([] : List (S37)) 0) else (some false)) = some r := H
 have A2 := Aside0.mk A20
 clear A20
 by_cases c3 : t145 = true
 ·subst c3
  have H1 : (posthorselaw17_CodePuts.l0 k l0 ([] : List (S35)) ([] : List (S37)) 0) = some r := by rw [if_pos rfl] at H; exact H
  clear H
  have H := H1
  clear H1
  have H' := Aside0.mk H
  clear H
  go_enter Tryd.func4, Tryd.ntmps4
  go_wp2_with (first | ((with_reducible refine gate_callee (f := 10) rfl ?_); refine goesL_ (some 13) rfl rfl Tryd.func10 (by kernel_rfl) rfl #[] rfl (by (try simp only [List.map_toArray, List.map_cons, List.map_nil]); first | done | rfl | (simp only [List.length_drop, List.length_take]; rfl) | (simp only [decide_eq_true_eq, decide_eq_false_iff_not, eq_iff_iff, iff_true, iff_false] at *; have w_id : ∀ {n : Int}, -9223372036854775808 ≤ n → n ≤ 9223372036854775807 → wrap64 n = n := fun h0 h1 => (by unfold wrap64; omega); rw [w_id (by omega) (by omega)]; rfl)) ?_; (with_reducible refine (posthorselaw17_speaks.calls k  true _ A2.out).mono ?_); rintro e w4 ⟨rfl, hb⟩; refine ⟨_, rfl, ?_⟩; have n0_ := Aside0.mk (below_step (by repeat (first | (with_reducible first | exact HB.out | apply below_alloc | apply pw_below_drewN | apply below_drew1) | exact HB.out)) hb); clear HB; have HB := n0_; clear n0_; (try clear hb); (try clear hb2); (try clear hk); (try clear hi)))
  go_loopg [3, 4, 5] k (fun kq v3 v4 v5 w' => ∃ (x3_1 : List (S35)) (x4_1 : List (S37)) (x5_1 : Int), v5 = .int .i64 x5_1 ∧ Aside0 (posthorselaw17_CodePuts.l0 kq l0 x3_1 x4_1 x5_1 = some r) ∧ Aside0 (kq ≤ k) ∧ Aside0 (Kd.R k35 35 w' w.heap.size (fun _ => True) v3 x3_1) ∧ Aside0 (Kd.R k37 37 w' w.heap.size (fun _ => True) v4 x4_1) ∧ Aside0 (Below w.heap.size w w'))
  case atStart => exact ⟨(([] : List (S35))), (([] : List (S37))), (0), (by first | rfl | (simp; done) | (simp [*]; done)), H', ⟨Nat.le_refl _⟩, ⟨by first | exact Kd.R_nil _ _ _ _ _ | exact Kd.N_nil _ _ _ _ _ | exact Kd.V_nil _ _ _ _ _ | exact Kd.Q_nil _ _ _ _ _ | exact Kd.S_nil _ _ _ _ _⟩, ⟨by first | exact Kd.R_nil _ _ _ _ _ | exact Kd.N_nil _ _ _ _ _ | exact Kd.V_nil _ _ _ _ _ | exact Kd.Q_nil _ _ _ _ _ | exact Kd.S_nil _ _ _ _ _⟩, ⟨by repeat (first | (with_reducible first | exact HB.out | apply below_alloc | apply pw_below_drewN | apply below_drew1) | exact HB.out)⟩⟩
  case round =>
   clear H'
   try clear c1
   try clear p2
   try clear c3
   try clear c4
   obtain ⟨x3_1, x4_1, x5_1, rfl, HA, HK1, HO_3, HO_4, HB⟩ := hrel
   cases gk with
   | zero => exact absurd HA.out (by simp [posthorselaw17_CodePuts.l0])
   | succ k1 =>
    have H := HA.out
    clear HA
    simp only [posthorselaw17_CodePuts.l0] at H
    have HC5 := Aside0.mk H
    clear H
    go_upto_region 6 with (fail)
    go_cut [22] (fun v22 wc => ∃ (kq : Nat) (x22_4 : Bool), v22 = .bool x22_4 ∧ Aside0 (posthorselaw17_CodePuts.j1 kq l0 x3_1 x4_1 x5_1 x22_4 = some r) ∧ Aside0 (kq ≤ k1) ∧ Aside0 (Kd.R k35 35 wc w.heap.size (fun _ => True) u3 x3_1) ∧ Aside0 (Kd.R k37 37 wc w.heap.size (fun _ => True) u4 x4_1) ∧ Aside0 (Below w.heap.size w wc))
    case first =>
     have H := HC5.out
     clear HC5
     by_cases c6 : x5_1 < (l0.length : Int)
     ·rw [if_pos c6] at H
      have c6b0 : decide (x5_1 < (l0.length : Int)) = true := decide_eq_true c6
      clear c6
      (first | rw [c6b0] | (simp only [i64_w, i32_w]; rw [c6b0]) | skip)
      have H' := Aside0.mk H
      clear H
      go_wp2
      go_meet
      case rel => exact ⟨_, (decide (x5_1 < 140)), (by first | rfl | (simp; done) | (simp [*]; done)), H', ⟨by have := HK1.out; first | omega | exact Nat.le_refl _⟩, ⟨by (with_reducible repeat (first | apply Kd.R_alloc | apply Kd.R_drewN | apply Kd.R_drew)); exact HO_3.out⟩, ⟨by (with_reducible repeat (first | apply Kd.R_alloc | apply Kd.R_drewN | apply Kd.R_drew)); exact HO_4.out⟩, ⟨by repeat (first | (with_reducible first | exact HB.out | apply below_alloc | apply pw_below_drewN | apply below_drew1) | exact HB.out)⟩⟩
     ·rw [if_neg c6] at H
      have c6b0 : decide (x5_1 < (l0.length : Int)) = false := decide_eq_false c6
      clear c6
      (first | rw [c6b0] | (simp only [i64_w, i32_w]; rw [c6b0]) | skip)
      have H' := Aside0.mk H
      clear H
      go_wp2
      go_meet
      case rel => exact ⟨_, (false), (by first | rfl | (simp; done) | (simp [*]; done)), H', ⟨by have := HK1.out; first | omega | exact Nat.le_refl _⟩, ⟨by (with_reducible repeat (first | apply Kd.R_alloc | apply Kd.R_drewN | apply Kd.R_drew)); exact HO_3.out⟩, ⟨by (with_reducible repeat (first | apply Kd.R_alloc | apply Kd.R_drewN | apply Kd.R_drew)); exact HO_4.out⟩, ⟨by repeat (first | (with_reducible first | exact HB.out | apply below_alloc | apply pw_below_drewN | apply below_drew1) | exact HB.out)⟩⟩
    case rest =>
     clear HC5
     try clear c1
     try clear p2
     try clear c3
     try clear c4
     try clear c6
     try clear c6b0
     try clear p2
     obtain ⟨kq, x22_4, rfl, HA, HJ4, HO_3, HO_4, HB⟩ := hcut
     cases kq with
     | zero => exact absurd HA.out (by simp [posthorselaw17_CodePuts.j1])
     | succ kj4 =>
      have H := HA.out
      clear HA
      simp only [posthorselaw17_CodePuts.j1] at H
      by_cases c7 : x22_4 = true
      ·subst c7
       have H1 : (if 0 ≤ x5_1 then (if x5_1 < (l0.length : Int) then ((some (([(⟨(rd_T36 l0 x5_1).f0, (rd_T36 l0 x5_1).f1, (rd_T36 l0 x5_1).f2, (rd_T36 l0 x5_1).f3⟩ : S35)] : List (S35)) : List (S35))).bind fun y147 => (if x3_1.length + y147.length < 4398046511104 then ((some (([(⟨(rd_T36 l0 x5_1).f0, (rd_T36 l0 x5_1).f1, (rd_T36 l0 x5_1).f2, (rd_T36 l0 x5_1).f3⟩ : S37)] : List (S37)) : List (S37))).bind fun y154 => (if x4_1.length + y154.length < 4398046511104 then (posthorselaw17_CodePuts.j2 kj4 l0 (x3_1 ++ y147) (x4_1 ++ y154) x5_1) else (none))) else (none))) else (none)) else (none)) = some r := by rw [if_pos rfl] at H; exact H
       clear H
       have H := H1
       clear H1
       have HC8 := Aside0.mk H
       clear H
       go_upto_region 8 with (fail)
       go_cut [3, 4] (fun v3 v4 wc => ∃ (kq : Nat) (x3_7 : List (S35)) (x4_7 : List (S37)), Aside0 (posthorselaw17_CodePuts.j2 kq l0 x3_7 x4_7 x5_1 = some r) ∧ Aside0 (kq ≤ kj4) ∧ Aside0 (Kd.R k35 35 wc w.heap.size (fun _ => True) v3 x3_7) ∧ Aside0 (Kd.R k37 37 wc w.heap.size (fun _ => True) v4 x4_7) ∧ Aside0 (Below w.heap.size w wc))
       case first =>
        have H := HC8.out
        clear HC8
        by_cases c9 : 0 ≤ x5_1
        ·rw [if_pos c9] at H
         have c9b0 : decide (0 ≤ x5_1) = true := decide_eq_true c9
         clear c9
         (first | rw [c9b0] | (simp only [i64_w, i32_w]; rw [c9b0]) | skip)
         by_cases c10 : x5_1 < (l0.length : Int)
         ·rw [if_pos c10] at H
          have c10b0 : decide (x5_1 < (l0.length : Int)) = true := decide_eq_true c10
          clear c10
          obtain ⟨y147, hy147⟩ : ∃ y_ : List (S35), y_ = (([(⟨(rd_T36 l0 x5_1).f0, (rd_T36 l0 x5_1).f1, (rd_T36 l0 x5_1).f2, (rd_T36 l0 x5_1).f3⟩ : S35)] : List (S35))) := ⟨_, rfl⟩
          replace H : (if x3_1.length + y147.length < 4398046511104 then ((some (([(⟨(rd_T36 l0 x5_1).f0, (rd_T36 l0 x5_1).f1, (rd_T36 l0 x5_1).f2, (rd_T36 l0 x5_1).f3⟩ : S37)] : List (S37)) : List (S37))).bind fun y154 => (if x4_1.length + y154.length < 4398046511104 then (posthorselaw17_CodePuts.j2 kj4 l0 (x3_1 ++ y147) (x4_1 ++ y154) x5_1) else (none))) else (none)) = some r := by first | (rw [hy147]; with_reducible exact H) | (have H2_ := (Option.bind_some _ _).symm.trans H; rw [hy147]; with_reducible exact H2_) | (have H2_ := (Option.bind_some _ _).symm.trans H; with_reducible exact H2_) | with_reducible exact H | (rw [hy147]; exact H) | exact H
          have Ny147 := Aside0.mk hy147
          clear hy147
          by_cases c11 : x3_1.length + y147.length < 4398046511104
          ·rw [if_pos c11] at H
           have LMc11 := Aside0.mk c11
           clear c11
           obtain ⟨y150, hy150⟩ : ∃ y_ : List (S35), y_ = (x3_1 ++ y147) := ⟨_, rfl⟩
           replace H : ((some (([(⟨(rd_T36 l0 x5_1).f0, (rd_T36 l0 x5_1).f1, (rd_T36 l0 x5_1).f2, (rd_T36 l0 x5_1).f3⟩ : S37)] : List (S37)) : List (S37))).bind fun y154 => (if x4_1.length + y154.length < 4398046511104 then (posthorselaw17_CodePuts.j2 kj4 l0 y150 (x4_1 ++ y154) x5_1) else (none))) = some r := by first | (rw [hy150]; with_reducible exact H) | (have H2_ := (Option.bind_some _ _).symm.trans H; rw [hy150]; with_reducible exact H2_) | (have H2_ := (Option.bind_some _ _).symm.trans H; with_reducible exact H2_) | with_reducible exact H | (rw [hy150]; exact H) | exact H
           have Ny150 := Aside0.mk hy150
           clear hy150
           obtain ⟨y154, hy154⟩ : ∃ y_ : List (S37), y_ = (([(⟨(rd_T36 l0 x5_1).f0, (rd_T36 l0 x5_1).f1, (rd_T36 l0 x5_1).f2, (rd_T36 l0 x5_1).f3⟩ : S37)] : List (S37))) := ⟨_, rfl⟩
           replace H : (if x4_1.length + y154.length < 4398046511104 then (posthorselaw17_CodePuts.j2 kj4 l0 y150 (x4_1 ++ y154) x5_1) else (none)) = some r := by first | (rw [hy154]; with_reducible exact H) | (have H2_ := (Option.bind_some _ _).symm.trans H; rw [hy154]; with_reducible exact H2_) | (have H2_ := (Option.bind_some _ _).symm.trans H; with_reducible exact H2_) | with_reducible exact H | (rw [hy154]; exact H) | exact H
           have Ny154 := Aside0.mk hy154
           clear hy154
           by_cases c12 : x4_1.length + y154.length < 4398046511104
           ·rw [if_pos c12] at H
            have LMc12 := Aside0.mk c12
            clear c12
            obtain ⟨y157, hy157⟩ : ∃ y_ : List (S37), y_ = (x4_1 ++ y154) := ⟨_, rfl⟩
            replace H : (posthorselaw17_CodePuts.j2 kj4 l0 y150 y157 x5_1) = some r := by first | (rw [hy157]; with_reducible exact H) | (have H2_ := (Option.bind_some _ _).symm.trans H; rw [hy157]; with_reducible exact H2_) | (have H2_ := (Option.bind_some _ _).symm.trans H; with_reducible exact H2_) | with_reducible exact H | (rw [hy157]; exact H) | exact H
            have Ny157 := Aside0.mk hy157
            clear hy157
            have H' := Aside0.mk H
            clear H
            obtain ⟨Ao13, co13, eo13⟩ := Kd.R_slice HO_3.out
            subst eo13
            obtain ⟨Ao14, co14, eo14⟩ := Kd.R_slice HO_4.out
            subst eo14
            try go_wp2
            have n0_ := Aside0.mk (Kd.R_drew HO_3.out)
            have n1_ := Aside0.mk (Kd.R_drew HO_4.out)
            have n2_ := Aside0.mk (below_drew1 HB.out)
            clear HO_3
            clear HO_4
            clear HB
            have HO_3 := n0_
            have HO_4 := n1_
            have HB := n2_
            clear n0_ n1_ n2_
            have p146 : 0 ≤ (x5_1 : Int) := of_decide_eq_true (by first | (with_reducible assumption) | assumption)
            have q146 : x5_1 < (l0.length : Int) := of_decide_eq_true (by first | (with_reducible assumption) | assumption)
            obtain ⟨ad146, e146, hx146_0, hx146_1, hx146_2, hx146_3⟩ := at_T36 HR0.out x5_1 p146 q146
            have hw146_3 := hx146_3
            have hw146_2 := hx146_2
            have hw146_1 := hx146_1
            have hw146_0 := hx146_0
            cases e146
            replace hx146_0 := (HB.out.cell (World.block_lt_of_cell? w _ hx146_0)).trans hx146_0
            replace hx146_1 := (HB.out.cell (World.block_lt_of_cell? w _ hx146_1)).trans hx146_1
            replace hx146_2 := (HB.out.cell (World.block_lt_of_cell? w _ hx146_2)).trans hx146_2
            replace hx146_3 := (HB.out.cell (World.block_lt_of_cell? w _ hx146_3)).trans hx146_3
            replace p146 := eq_true p146
            replace q146 := eq_true q146
            have p153 : 0 ≤ (x5_1 : Int) := of_decide_eq_true (by first | (with_reducible assumption) | assumption)
            have q153 : x5_1 < (l0.length : Int) := of_decide_eq_true (by first | (with_reducible assumption) | assumption)
            obtain ⟨ad153, e153, hx153_0, hx153_1, hx153_2, hx153_3⟩ := at_T36 HR0.out x5_1 p153 q153
            have hw153_3 := hx153_3
            have hw153_2 := hx153_2
            have hw153_1 := hx153_1
            have hw153_0 := hx153_0
            obtain rfl : ad146 = ad153 := (by injection e153)
            replace hx153_0 := (HB.out.cell (World.block_lt_of_cell? w _ hx153_0)).trans hx153_0
            replace hx153_1 := (HB.out.cell (World.block_lt_of_cell? w _ hx153_1)).trans hx153_1
            replace hx153_2 := (HB.out.cell (World.block_lt_of_cell? w _ hx153_2)).trans hx153_2
            replace hx153_3 := (HB.out.cell (World.block_lt_of_cell? w _ hx153_3)).trans hx153_3
            replace p153 := eq_true p153
            replace q153 := eq_true q153
            refine start_ (n := 16) (S := fun w' => w'.cell? (ad146.add ((x5_1).toNat * 4)) = some (.int .i64 ((rd_T36 l0 x5_1).f0)) ∧ w'.cell? ⟨(ad146.add ((x5_1).toNat * 4)).block, (ad146.add ((x5_1).toNat * 4)).off + 1, none⟩ = some (.int .i64 ((rd_T36 l0 x5_1).f1)) ∧ w'.cell? ⟨(ad146.add ((x5_1).toNat * 4)).block, (ad146.add ((x5_1).toNat * 4)).off + 2, none⟩ = some (.int .i64 ((rd_T36 l0 x5_1).f2)) ∧ w'.cell? ⟨(ad146.add ((x5_1).toNat * 4)).block, (ad146.add ((x5_1).toNat * 4)).off + 3, none⟩ = some (.int .i64 ((rd_T36 l0 x5_1).f3)) ∧ w'.cell? (ad146.add ((x5_1).toNat * 4)) = some (.int .i64 ((rd_T36 l0 x5_1).f0)) ∧ w'.cell? ⟨(ad146.add ((x5_1).toNat * 4)).block, (ad146.add ((x5_1).toNat * 4)).off + 1, none⟩ = some (.int .i64 ((rd_T36 l0 x5_1).f1)) ∧ w'.cell? ⟨(ad146.add ((x5_1).toNat * 4)).block, (ad146.add ((x5_1).toNat * 4)).off + 2, none⟩ = some (.int .i64 ((rd_T36 l0 x5_1).f2)) ∧ w'.cell? ⟨(ad146.add ((x5_1).toNat * 4)).block, (ad146.add ((x5_1).toNat * 4)).off + 3, none⟩ = some (.int .i64 ((rd_T36 l0 x5_1).f3))) (ds := []) #[false, false, false, false, false, false, false, false, false, false, false, false, false, false, false, false] (by kernel_rfl) rfl rfl ⟨((HB.out.cell (World.block_lt_of_cell? w _ hw146_0)).trans hw146_0), ((HB.out.cell (World.block_lt_of_cell? w _ hw146_1)).trans hw146_1), ((HB.out.cell (World.block_lt_of_cell? w _ hw146_2)).trans hw146_2), ((HB.out.cell (World.block_lt_of_cell? w _ hw146_3)).trans hw146_3), ((HB.out.cell (World.block_lt_of_cell? w _ hw153_0)).trans hw153_0), ((HB.out.cell (World.block_lt_of_cell? w _ hw153_1)).trans hw153_1), ((HB.out.cell (World.block_lt_of_cell? w _ hw153_2)).trans hw153_2), ((HB.out.cell (World.block_lt_of_cell? w _ hw153_3)).trans hw153_3)⟩ (fun hHeld => ?_); refine with_tabW posthorselaw17_CodePuts.tab8 posthorselaw17_CodePuts.bits8 (fun HT_ HW_ => ?_)
            generalize wc.drew = w15 at HO_3 HO_4 HB hx146_0 hx146_1 hx146_2 hx146_3 hx153_0 hx153_1 hx153_2 hx153_3 hHeld ⊢
            refine pure_ (i := 0) (N := some 25) (v := ?_) (a' := ?_) #[true, false, false, false, false, false, false, false, false, false, false, false, false, false, false, false] rfl rfl (any_of HT_.out (by kernel_rfl)) (fun _ _ _ h => h) (Or.inl ⟨by rfl, ?_⟩) ?_ ?_
            rotate_left
            ·intro w'
             go_simp
             with_reducible rfl
            rotate_left
            ·simp only [Act.put, List.setIfInBounds_toArray, List.set_cons_zero, List.set_cons_succ, i64_w, i32_w]
             rfl
            refine pure_ (i := 1) (N := some 26) (v := ?_) (a' := ?_) #[true, true, false, false, false, false, false, false, false, false, false, false, false, false, false, false] rfl rfl (any_of HT_.out (by kernel_rfl)) (fun _ _ _ h => h) (Or.inl ⟨by rfl, ?_⟩) ?_ ?_
            rotate_left
            ·intro w'
             go_simp
             with_reducible rfl
            rotate_left
            ·simp only [Act.put, List.setIfInBounds_toArray, List.set_cons_zero, List.set_cons_succ, i64_w, i32_w]
             rfl
            refine pure_ (i := 2) (N := some 27) (v := ?_) (a' := ?_) #[true, true, true, false, false, false, false, false, false, false, false, false, false, false, false, false] rfl rfl (any_of HT_.out (by kernel_rfl)) (fun _ _ _ h => h) (Or.inl ⟨by rfl, ?_⟩) ?_ ?_
            rotate_left
            ·intro w'
             go_simp
             with_reducible rfl
            rotate_left
            ·simp only [Act.put, List.setIfInBounds_toArray, List.set_cons_zero, List.set_cons_succ, i64_w, i32_w]
             rfl
            refine pure_ (i := 3) (N := some 28) (v := ?_) (a' := ?_) #[true, true, true, true, false, false, false, false, false, false, false, false, false, false, false, false] rfl rfl (any_of HT_.out (by kernel_rfl)) (fun _ _ _ h => h) (Or.inl ⟨by rfl, ?_⟩) ?_ ?_
            rotate_left
            ·intro w'
             go_simp
             with_reducible rfl
            rotate_left
            ·simp only [Act.put, List.setIfInBounds_toArray, List.set_cons_zero, List.set_cons_succ, i64_w, i32_w]
             rfl
            refine pure_ (i := 7) (N := some 32) (v := ?_) (a' := ?_) #[true, true, true, true, false, false, false, true, false, false, false, false, false, false, false, false] rfl rfl (any_of HT_.out (by kernel_rfl)) (fun _ _ _ h => h) (Or.inl ⟨by rfl, ?_⟩) ?_ ?_
            rotate_left
            ·intro w'
             go_simp
             with_reducible rfl
            rotate_left
            ·simp only [Act.put, List.setIfInBounds_toArray, List.set_cons_zero, List.set_cons_succ, i64_w, i32_w]
             rfl
            refine pure_ (i := 8) (N := some 33) (v := ?_) (a' := ?_) #[true, true, true, true, false, false, false, true, true, false, false, false, false, false, false, false] rfl rfl (any_of HT_.out (by kernel_rfl)) (fun _ _ _ h => h) (Or.inl ⟨by rfl, ?_⟩) ?_ ?_
            rotate_left
            ·intro w'
             go_simp
             with_reducible rfl
            rotate_left
            ·simp only [Act.put, List.setIfInBounds_toArray, List.set_cons_zero, List.set_cons_succ, i64_w, i32_w]
             rfl
            refine pure_ (i := 9) (N := some 34) (v := ?_) (a' := ?_) #[true, true, true, true, false, false, false, true, true, true, false, false, false, false, false, false] rfl rfl (any_of HT_.out (by kernel_rfl)) (fun _ _ _ h => h) (Or.inl ⟨by rfl, ?_⟩) ?_ ?_
            rotate_left
            ·intro w'
             go_simp
             with_reducible rfl
            rotate_left
            ·simp only [Act.put, List.setIfInBounds_toArray, List.set_cons_zero, List.set_cons_succ, i64_w, i32_w]
             rfl
            refine pure_ (i := 10) (N := some 35) (v := ?_) (a' := ?_) #[true, true, true, true, false, false, false, true, true, true, true, false, false, false, false, false] rfl rfl (any_of HT_.out (by kernel_rfl)) (fun _ _ _ h => h) (Or.inl ⟨by rfl, ?_⟩) ?_ ?_
            rotate_left
            ·intro w'
             go_simp
             with_reducible rfl
            rotate_left
            ·simp only [Act.put, List.setIfInBounds_toArray, List.set_cons_zero, List.set_cons_succ, i64_w, i32_w]
             rfl
            refine take_ (i := 4) (N := some 29) (v := ?_) (a' := ?_) #[true, true, true, true, true, false, false, true, true, true, true, false, false, false, false, false] rfl rfl (take_ofW HT_.out HW_.out (by kernel_rfl)) (fun _ _ _ h => h) (Or.inl ⟨by rfl, ?_⟩) hHeld ?_ ?_
            rotate_left
            ·rintro w' ⟨s0, s1, s2, s3, s4, s5, s6, s7⟩
             go_simp
             with_reducible rfl
            rotate_left
            ·simp only [Act.put, List.setIfInBounds_toArray, List.set_cons_zero, List.set_cons_succ, i64_w, i32_w]
             rfl
            refine take_ (i := 11) (N := some 36) (v := ?_) (a' := ?_) #[true, true, true, true, true, false, false, true, true, true, true, true, false, false, false, false] rfl rfl (take_ofW HT_.out HW_.out (by kernel_rfl)) (fun _ _ _ h => h) (Or.inl ⟨by rfl, ?_⟩) hHeld ?_ ?_
            rotate_left
            ·rintro w' ⟨s0, s1, s2, s3, s4, s5, s6, s7⟩
             go_simp
             with_reducible rfl
            rotate_left
            ·simp only [Act.put, List.setIfInBounds_toArray, List.set_cons_zero, List.set_cons_succ, i64_w, i32_w]
             rfl
            refine join_ (σ := Value × Value × Value) 3 #[true, true, true, true, true, true, true, true, true, true, true, true, true, false, false, false] (fun s_ => [(30, s_.1), (31, s_.2.1), (37, s_.2.2)]) (fun s_ w' => (w'.cell? (ad146.add ((x5_1).toNat * 4)) = some (.int .i64 ((rd_T36 l0 x5_1).f0)) ∧ w'.cell? ⟨(ad146.add ((x5_1).toNat * 4)).block, (ad146.add ((x5_1).toNat * 4)).off + 1, none⟩ = some (.int .i64 ((rd_T36 l0 x5_1).f1)) ∧ w'.cell? ⟨(ad146.add ((x5_1).toNat * 4)).block, (ad146.add ((x5_1).toNat * 4)).off + 2, none⟩ = some (.int .i64 ((rd_T36 l0 x5_1).f2)) ∧ w'.cell? ⟨(ad146.add ((x5_1).toNat * 4)).block, (ad146.add ((x5_1).toNat * 4)).off + 3, none⟩ = some (.int .i64 ((rd_T36 l0 x5_1).f3)) ∧ w'.cell? (ad146.add ((x5_1).toNat * 4)) = some (.int .i64 ((rd_T36 l0 x5_1).f0)) ∧ w'.cell? ⟨(ad146.add ((x5_1).toNat * 4)).block, (ad146.add ((x5_1).toNat * 4)).off + 1, none⟩ = some (.int .i64 ((rd_T36 l0 x5_1).f1)) ∧ w'.cell? ⟨(ad146.add ((x5_1).toNat * 4)).block, (ad146.add ((x5_1).toNat * 4)).off + 2, none⟩ = some (.int .i64 ((rd_T36 l0 x5_1).f2)) ∧ w'.cell? ⟨(ad146.add ((x5_1).toNat * 4)).block, (ad146.add ((x5_1).toNat * 4)).off + 3, none⟩ = some (.int .i64 ((rd_T36 l0 x5_1).f3))) ∧ (Kd.R k35 35 w' w.heap.size (fun k_ => some k_ ≠ (s_.2.1 : Value).ownBlock) s_.1 y147) ∧ (Kd.R k35 35 w' w.heap.size (fun k_ => some k_ ≠ (s_.1 : Value).ownBlock) s_.2.1 y150) ∧ (Kd.R k37 37 w' w.heap.size (fun k_ => some k_ ≠ (.slice Ao14 x4_1.length co14 : Value).ownBlock) s_.2.2 y154) ∧ (Kd.R k37 37 w' w.heap.size (fun k_ => some k_ ≠ (s_.2.2 : Value).ownBlock) (.slice Ao14 x4_1.length co14) x4_1) ∧ (Below w.heap.size w w')) ?_ ?_
            rotate_left
            ·intro hCont
             refine two_ (i := 5) (j := 12) (Ni := some 30) (Nj := some 37) #[true, true, true, true, true, true, false, true, true, true, true, true, false, false, false, false] #[true, true, true, true, true, false, false, true, true, true, true, true, true, false, false, false] rfl rfl rfl rfl (two_of HT_.out (by kernel_rfl)) (by decide) (by decide) (fun K hK => ?_) (fun K hK => ?_)
             ·skip
              refine Kd.R_lit_step k35 _ 35 ?hg (N := 30) ?hd (xs := ([(⟨(rd_T36 l0 x5_1).f0, (rd_T36 l0 x5_1).f1, (rd_T36 l0 x5_1).f2, (rd_T36 l0 x5_1).f3⟩ : S35)] : List (S35))) (inner := [.int .i64 ((rd_T36 l0 x5_1).f0), .int .i64 ((rd_T36 l0 x5_1).f1), .int .i64 ((rd_T36 l0 x5_1).f2), .int .i64 ((rd_T36 l0 x5_1).f3)]) (ok := fun _ => True) (okp := fun _ => True) ?hr ?hp (fun _ hk => hk) trivial (Below.refl _ _) (Nat.le_refl _) (by simp) ?_; (case hd => rfl); (case hg => rfl); (case hr => first | (go_simp; done) | (go_simp; rfl)); (case hp => exact (Reps.c4 (show Kd.M k35 _ _ _ (⟨(rd_T36 l0 x5_1).f0, (rd_T36 l0 x5_1).f1, (rd_T36 l0 x5_1).f2, (rd_T36 l0 x5_1).f3⟩ : S35) [.int .i64 ((rd_T36 l0 x5_1).f0), .int .i64 ((rd_T36 l0 x5_1).f1), .int .i64 ((rd_T36 l0 x5_1).f2), .int .i64 ((rd_T36 l0 x5_1).f3)] from (k35_mkM _ _ _ (⟨(rd_T36 l0 x5_1).f0, (rd_T36 l0 x5_1).f1, (rd_T36 l0 x5_1).f2, (rd_T36 l0 x5_1).f3⟩ : S35) )) (Reps.none _ _)))
              intro v148 w16 ho17 hb hg_ hnew_
              clear hg_ hnew_
              (first | rw [← Ny147.out] at ho17 | (simp only [Int.reduceToNat] at ho17; rw [← Ny147.out] at ho17))
              have n0_ := Aside0.mk (Kd.R_elder' (by (with_reducible repeat (first | apply Kd.R_alloc | apply Kd.R_drewN | apply Kd.R_drew)); exact HO_3.out) (Kd.R_base ho17) hb)
              have n1_ := Aside0.mk (Kd.R_below (by (with_reducible repeat (first | apply Kd.R_alloc | apply Kd.R_drewN | apply Kd.R_drew)); exact HO_4.out) hb)
              have n2_ := Aside0.mk (Kd.R_lower (Kd.R_new' ho17 (Kd.R_lt (by (with_reducible repeat (first | apply Kd.R_alloc | apply Kd.R_drewN | apply Kd.R_drew)); exact HO_3.out))) (below_size (by repeat (first | (with_reducible first | exact HB.out | apply below_alloc | apply pw_below_drewN | apply below_drew1) | exact HB.out))))
              have n3_ := Aside0.mk (below_step (by repeat (first | (with_reducible first | exact HB.out | apply below_alloc | apply pw_below_drewN | apply below_drew1) | exact HB.out)) hb)
              clear HO_3
              clear HO_4
              clear HB
              have HO_3 := n0_
              have HO_4 := n1_
              have HO149 := n2_
              have HB := n3_
              clear n0_ n1_ n2_ n3_
              clear hb ho17
              obtain ⟨Ao19, co19, eo19⟩ := Kd.R_slice HO149.out
              (first | subst eo19 | (injection eo19 with f1_ f2_ f3_; have f4_ := f1_.symm; have f5_ := f3_.symm; clear f1_ f2_ f3_; subst f4_; subst f5_))
              refine hK.out _ _ ⟨((HB.out.cell (World.block_lt_of_cell? w _ hw146_0)).trans hw146_0), ((HB.out.cell (World.block_lt_of_cell? w _ hw146_1)).trans hw146_1), ((HB.out.cell (World.block_lt_of_cell? w _ hw146_2)).trans hw146_2), ((HB.out.cell (World.block_lt_of_cell? w _ hw146_3)).trans hw146_3), ((HB.out.cell (World.block_lt_of_cell? w _ hw153_0)).trans hw153_0), ((HB.out.cell (World.block_lt_of_cell? w _ hw153_1)).trans hw153_1), ((HB.out.cell (World.block_lt_of_cell? w _ hw153_2)).trans hw153_2), ((HB.out.cell (World.block_lt_of_cell? w _ hw153_3)).trans hw153_3)⟩ (fun hHeld => ?_)
              clear hK K
              refine norm_ (a' := ?_) ?_ ?_
              rotate_left
              ·show Act.put _ (some 30) _ = _
               simp only [Act.put, List.setIfInBounds_toArray, List.set_cons_zero, List.set_cons_succ, i64_w, i32_w]
               rfl
              refine two_ (i := 6) (j := 12) (Ni := some 31) (Nj := some 37) #[true, true, true, true, true, true, true, true, true, true, true, true, false, false, false, false] #[true, true, true, true, true, true, false, true, true, true, true, true, true, false, false, false] rfl rfl rfl rfl (two_of HT_.out (by kernel_rfl)) (by decide) (by decide) (fun K hK => ?_) (fun K hK => ?_)
              ·skip
               refine Kd.R_append_rows_step k35 (w0 := w) w.heap.size (by rfl) (.tmp 25) (.tmp 30) 32 35 (.agg #[(.int .i64 0), (.int .i64 0), (.int .i64 0), (.int .i64 0)]) 32 rfl Tryd.underlying32 info35 rfl (by decide) (by omega) (.slice Ao13 x3_1.length co13) x3_1 y147 _ _ _ (fun k_ => some k_ ≠ (.slice Ao19 y147.length co19 : Value).ownBlock) (fun _ => False) rfl rfl ?aO ?aR (fun _ _ h => h) (fun _ h => h.elim) ?aF ?aB ?aS ?aL ?_
               (case aR => repeat (first | exact (Kd.R_reads' HO149.out).2.2 | (with_reducible refine Kd.C_alloc ?_ _) | (with_reducible refine Kd.C_drewN ?_ _) | (with_reducible refine Kd.C_drew ?_)))
               (case aB => exact (by repeat (first | (with_reducible first | exact HB.out | apply below_alloc | apply pw_below_drewN | apply below_drew1) | exact HB.out)))
               (case aF => exact (fun k_ hk => Kd.fresh' (Kd.R_lt (by (with_reducible repeat (first | apply Kd.R_alloc | apply Kd.R_drewN | apply Kd.R_drew)); exact HO149.out)) k_ hk))
               (case aO => exact (by (with_reducible repeat (first | apply Kd.R_alloc | apply Kd.R_drewN | apply Kd.R_drew)); exact Kd.R_mono HO_3.out (fun _ hk => hk.2)))
               (case aS => exact (below_size (by repeat (first | (with_reducible first | exact HB.out | apply below_alloc | apply pw_below_drewN | apply below_drew1) | exact HB.out))))
               (case aL => have := LMc11.out; omega)
               intro v151 w18 ho hb hg hat
               rw [← Ny150.out] at ho
               have n0_ := Aside0.mk (Kd.R_over' (by (with_reducible repeat (first | apply Kd.R_alloc | apply Kd.R_drewN | apply Kd.R_drew)); exact HO_4.out) (Kd.R_typed (by (with_reducible repeat (first | apply Kd.R_alloc | apply Kd.R_drewN | apply Kd.R_drew)); exact HO_3.out)) (by decide) hg)
               have n1_ := Aside0.mk (Kd.R_after (ok := (fun _ => True)) (by (with_reducible repeat (first | apply Kd.R_alloc | apply Kd.R_drewN | apply Kd.R_drew)); exact HO149.out) hg hat)
               have n2_ := Aside0.mk (hb)
               have n3_ := Aside0.mk (ho)
               clear HO_4
               clear HO149
               clear HB
               clear HO_3
               have HO_4 := n0_
               have HO149 := n1_
               have HB := n2_
               have HO152 := n3_
               clear n0_ n1_ n2_ n3_
               clear ho hb hg hat
               refine hK.out _ _ ⟨((HB.out.cell (World.block_lt_of_cell? w _ hw146_0)).trans hw146_0), ((HB.out.cell (World.block_lt_of_cell? w _ hw146_1)).trans hw146_1), ((HB.out.cell (World.block_lt_of_cell? w _ hw146_2)).trans hw146_2), ((HB.out.cell (World.block_lt_of_cell? w _ hw146_3)).trans hw146_3), ((HB.out.cell (World.block_lt_of_cell? w _ hw153_0)).trans hw153_0), ((HB.out.cell (World.block_lt_of_cell? w _ hw153_1)).trans hw153_1), ((HB.out.cell (World.block_lt_of_cell? w _ hw153_2)).trans hw153_2), ((HB.out.cell (World.block_lt_of_cell? w _ hw153_3)).trans hw153_3)⟩ (fun hHeld => ?_)
               clear hK K
               refine norm_ (a' := ?_) ?_ ?_
               rotate_left
               ·show Act.put _ (some 31) _ = _
                simp only [Act.put, List.setIfInBounds_toArray, List.set_cons_zero, List.set_cons_succ, i64_w, i32_w]
                rfl
               refine one_ (i := 12) (N := some 37) #[true, true, true, true, true, true, true, true, true, true, true, true, true, false, false, false] rfl rfl (one_of HT_.out (by kernel_rfl)) (by decide) (fun K hK => ?_)
               refine Kd.R_lit_step k37 _ 37 ?hg (N := 37) ?hd (xs := ([(⟨(rd_T36 l0 x5_1).f0, (rd_T36 l0 x5_1).f1, (rd_T36 l0 x5_1).f2, (rd_T36 l0 x5_1).f3⟩ : S37)] : List (S37))) (inner := [.int .i64 ((rd_T36 l0 x5_1).f0), .int .i64 ((rd_T36 l0 x5_1).f1), .int .i64 ((rd_T36 l0 x5_1).f2), .int .i64 ((rd_T36 l0 x5_1).f3)]) (ok := fun _ => True) (okp := fun _ => True) ?hr ?hp (fun _ hk => hk) trivial (Below.refl _ _) (Nat.le_refl _) (by simp) ?_; (case hd => rfl); (case hg => rfl); (case hr => first | (go_simp; done) | (go_simp; rfl)); (case hp => exact (Reps.c4 (show Kd.M k37 _ _ _ (⟨(rd_T36 l0 x5_1).f0, (rd_T36 l0 x5_1).f1, (rd_T36 l0 x5_1).f2, (rd_T36 l0 x5_1).f3⟩ : S37) [.int .i64 ((rd_T36 l0 x5_1).f0), .int .i64 ((rd_T36 l0 x5_1).f1), .int .i64 ((rd_T36 l0 x5_1).f2), .int .i64 ((rd_T36 l0 x5_1).f3)] from (k37_mkM _ _ _ (⟨(rd_T36 l0 x5_1).f0, (rd_T36 l0 x5_1).f1, (rd_T36 l0 x5_1).f2, (rd_T36 l0 x5_1).f3⟩ : S37) )) (Reps.none _ _)))
               intro v155 w20 ho21 hb hg_ hnew_
               clear hg_ hnew_
               (first | rw [← Ny154.out] at ho21 | (simp only [Int.reduceToNat] at ho21; rw [← Ny154.out] at ho21))
               have n0_ := Aside0.mk (Kd.R_elder' (by (with_reducible repeat (first | apply Kd.R_alloc | apply Kd.R_drewN | apply Kd.R_drew)); exact HO_4.out) (Kd.R_base ho21) hb)
               have n1_ := Aside0.mk (Kd.R_below (by (with_reducible repeat (first | apply Kd.R_alloc | apply Kd.R_drewN | apply Kd.R_drew)); exact HO149.out) hb)
               have n2_ := Aside0.mk (Kd.R_below (by (with_reducible repeat (first | apply Kd.R_alloc | apply Kd.R_drewN | apply Kd.R_drew)); exact HO152.out) hb)
               have n3_ := Aside0.mk (Kd.R_lower (Kd.R_new' ho21 (Kd.R_lt (by (with_reducible repeat (first | apply Kd.R_alloc | apply Kd.R_drewN | apply Kd.R_drew)); exact HO_4.out))) (below_size (by repeat (first | (with_reducible first | exact HB.out | apply below_alloc | apply pw_below_drewN | apply below_drew1) | exact HB.out))))
               have n4_ := Aside0.mk (below_step (by repeat (first | (with_reducible first | exact HB.out | apply below_alloc | apply pw_below_drewN | apply below_drew1) | exact HB.out)) hb)
               clear HO_4
               clear HO149
               clear HO152
               clear HB
               have HO_4 := n0_
               have HO149 := n1_
               have HO152 := n2_
               have HO156 := n3_
               have HB := n4_
               clear n0_ n1_ n2_ n3_ n4_
               clear hb ho21
               refine hK.out _ _ ⟨((HB.out.cell (World.block_lt_of_cell? w _ hw146_0)).trans hw146_0), ((HB.out.cell (World.block_lt_of_cell? w _ hw146_1)).trans hw146_1), ((HB.out.cell (World.block_lt_of_cell? w _ hw146_2)).trans hw146_2), ((HB.out.cell (World.block_lt_of_cell? w _ hw146_3)).trans hw146_3), ((HB.out.cell (World.block_lt_of_cell? w _ hw153_0)).trans hw153_0), ((HB.out.cell (World.block_lt_of_cell? w _ hw153_1)).trans hw153_1), ((HB.out.cell (World.block_lt_of_cell? w _ hw153_2)).trans hw153_2), ((HB.out.cell (World.block_lt_of_cell? w _ hw153_3)).trans hw153_3)⟩ (fun hHeld => ?_)
               clear hK K
               refine norm_ (a' := ?_) ?_ ?_
               rotate_left
               ·show Act.put _ (some 37) _ = _
                simp only [Act.put, List.setIfInBounds_toArray, List.set_cons_zero, List.set_cons_succ, i64_w, i32_w]
                rfl
               exact norm_ (by simp only [putAll, Act.put, List.setIfInBounds_toArray, List.set_cons_zero, List.set_cons_succ]) (hCont (.slice Ao19 y147.length co19, v151, v155) _ ⟨hHeld, (by (with_reducible repeat (first | apply Kd.R_alloc | apply Kd.R_drewN | apply Kd.R_drew)); exact Kd.R_mono HO149.out (fun _ hk => hk.2)), (by (with_reducible repeat (first | apply Kd.R_alloc | apply Kd.R_drewN | apply Kd.R_drew)); exact HO152.out), (by (with_reducible repeat (first | apply Kd.R_alloc | apply Kd.R_drewN | apply Kd.R_drew)); exact Kd.R_mono HO156.out (fun _ hk => hk.2)), (by (with_reducible repeat (first | apply Kd.R_alloc | apply Kd.R_drewN | apply Kd.R_drew)); exact Kd.R_mono HO_4.out (fun _ hk => hk.2)), (by repeat (first | (with_reducible first | exact HB.out | apply below_alloc | apply pw_below_drewN | apply below_drew1) | exact HB.out))⟩)
              ·skip
               refine Kd.R_lit_step k37 _ 37 ?hg (N := 37) ?hd (xs := ([(⟨(rd_T36 l0 x5_1).f0, (rd_T36 l0 x5_1).f1, (rd_T36 l0 x5_1).f2, (rd_T36 l0 x5_1).f3⟩ : S37)] : List (S37))) (inner := [.int .i64 ((rd_T36 l0 x5_1).f0), .int .i64 ((rd_T36 l0 x5_1).f1), .int .i64 ((rd_T36 l0 x5_1).f2), .int .i64 ((rd_T36 l0 x5_1).f3)]) (ok := fun _ => True) (okp := fun _ => True) ?hr ?hp (fun _ hk => hk) trivial (Below.refl _ _) (Nat.le_refl _) (by simp) ?_; (case hd => rfl); (case hg => rfl); (case hr => first | (go_simp; done) | (go_simp; rfl)); (case hp => exact (Reps.c4 (show Kd.M k37 _ _ _ (⟨(rd_T36 l0 x5_1).f0, (rd_T36 l0 x5_1).f1, (rd_T36 l0 x5_1).f2, (rd_T36 l0 x5_1).f3⟩ : S37) [.int .i64 ((rd_T36 l0 x5_1).f0), .int .i64 ((rd_T36 l0 x5_1).f1), .int .i64 ((rd_T36 l0 x5_1).f2), .int .i64 ((rd_T36 l0 x5_1).f3)] from (k37_mkM _ _ _ (⟨(rd_T36 l0 x5_1).f0, (rd_T36 l0 x5_1).f1, (rd_T36 l0 x5_1).f2, (rd_T36 l0 x5_1).f3⟩ : S37) )) (Reps.none _ _)))
               intro v155 w18 ho19 hb hg_ hnew_
               clear hg_ hnew_
               (first | rw [← Ny154.out] at ho19 | (simp only [Int.reduceToNat] at ho19; rw [← Ny154.out] at ho19))
               have n0_ := Aside0.mk (Kd.R_below (by (with_reducible repeat (first | apply Kd.R_alloc | apply Kd.R_drewN | apply Kd.R_drew)); exact HO_3.out) hb)
               have n1_ := Aside0.mk (Kd.R_elder' (by (with_reducible repeat (first | apply Kd.R_alloc | apply Kd.R_drewN | apply Kd.R_drew)); exact HO_4.out) (Kd.R_base ho19) hb)
               have n2_ := Aside0.mk (Kd.R_below (by (with_reducible repeat (first | apply Kd.R_alloc | apply Kd.R_drewN | apply Kd.R_drew)); exact HO149.out) hb)
               have n3_ := Aside0.mk (Kd.R_lower (Kd.R_new' ho19 (Kd.R_lt (by (with_reducible repeat (first | apply Kd.R_alloc | apply Kd.R_drewN | apply Kd.R_drew)); exact HO_4.out))) (below_size (by repeat (first | (with_reducible first | exact HB.out | apply below_alloc | apply pw_below_drewN | apply below_drew1) | exact HB.out))))
               have n4_ := Aside0.mk (below_step (by repeat (first | (with_reducible first | exact HB.out | apply below_alloc | apply pw_below_drewN | apply below_drew1) | exact HB.out)) hb)
               clear HO_3
               clear HO_4
               clear HO149
               clear HB
               have HO_3 := n0_
               have HO_4 := n1_
               have HO149 := n2_
               have HO156 := n3_
               have HB := n4_
               clear n0_ n1_ n2_ n3_ n4_
               clear hb ho19
               obtain ⟨Ao21, co21, eo21⟩ := Kd.R_slice HO149.out
               (first | subst eo21 | (injection eo21 with f1_ f2_ f3_; have f4_ := f1_.symm; have f5_ := f3_.symm; clear f1_ f2_ f3_; subst f4_; subst f5_))
               refine hK.out _ _ ⟨((HB.out.cell (World.block_lt_of_cell? w _ hw146_0)).trans hw146_0), ((HB.out.cell (World.block_lt_of_cell? w _ hw146_1)).trans hw146_1), ((HB.out.cell (World.block_lt_of_cell? w _ hw146_2)).trans hw146_2), ((HB.out.cell (World.block_lt_of_cell? w _ hw146_3)).trans hw146_3), ((HB.out.cell (World.block_lt_of_cell? w _ hw153_0)).trans hw153_0), ((HB.out.cell (World.block_lt_of_cell? w _ hw153_1)).trans hw153_1), ((HB.out.cell (World.block_lt_of_cell? w _ hw153_2)).trans hw153_2), ((HB.out.cell (World.block_lt_of_cell? w _ hw153_3)).trans hw153_3)⟩ (fun hHeld => ?_)
               clear hK K
               refine norm_ (a' := ?_) ?_ ?_
               rotate_left
               ·show Act.put _ (some 37) _ = _
                simp only [Act.put, List.setIfInBounds_toArray, List.set_cons_zero, List.set_cons_succ, i64_w, i32_w]
                rfl
               refine one_ (i := 6) (N := some 31) #[true, true, true, true, true, true, true, true, true, true, true, true, true, false, false, false] rfl rfl (one_of HT_.out (by kernel_rfl)) (by decide) (fun K hK => ?_)
               refine Kd.R_append_rows_step k35 (w0 := w) w.heap.size (by rfl) (.tmp 25) (.tmp 30) 32 35 (.agg #[(.int .i64 0), (.int .i64 0), (.int .i64 0), (.int .i64 0)]) 32 rfl Tryd.underlying32 info35 rfl (by decide) (by omega) (.slice Ao13 x3_1.length co13) x3_1 y147 _ _ _ (fun k_ => some k_ ≠ (.slice Ao21 y147.length co21 : Value).ownBlock) (fun _ => False) rfl rfl ?aO ?aR (fun _ _ h => h) (fun _ h => h.elim) ?aF ?aB ?aS ?aL ?_
               (case aR => repeat (first | exact (Kd.R_reads' HO149.out).2.2 | (with_reducible refine Kd.C_alloc ?_ _) | (with_reducible refine Kd.C_drewN ?_ _) | (with_reducible refine Kd.C_drew ?_)))
               (case aB => exact (by repeat (first | (with_reducible first | exact HB.out | apply below_alloc | apply pw_below_drewN | apply below_drew1) | exact HB.out)))
               (case aF => exact (fun k_ hk => Kd.fresh' (Kd.R_lt (by (with_reducible repeat (first | apply Kd.R_alloc | apply Kd.R_drewN | apply Kd.R_drew)); exact HO149.out)) k_ hk))
               (case aO => exact (by (with_reducible repeat (first | apply Kd.R_alloc | apply Kd.R_drewN | apply Kd.R_drew)); exact Kd.R_mono HO_3.out (fun _ hk => hk.2)))
               (case aS => exact (below_size (by repeat (first | (with_reducible first | exact HB.out | apply below_alloc | apply pw_below_drewN | apply below_drew1) | exact HB.out))))
               (case aL => have := LMc11.out; omega)
               intro v151 w20 ho hb hg hat
               rw [← Ny150.out] at ho
               have n0_ := Aside0.mk (Kd.R_over' (by (with_reducible repeat (first | apply Kd.R_alloc | apply Kd.R_drewN | apply Kd.R_drew)); exact HO_4.out) (Kd.R_typed (by (with_reducible repeat (first | apply Kd.R_alloc | apply Kd.R_drewN | apply Kd.R_drew)); exact HO_3.out)) (by decide) hg)
               have n1_ := Aside0.mk (Kd.R_after (ok := (fun _ => True)) (by (with_reducible repeat (first | apply Kd.R_alloc | apply Kd.R_drewN | apply Kd.R_drew)); exact HO149.out) hg hat)
               have n2_ := Aside0.mk (Kd.R_over' (by (with_reducible repeat (first | apply Kd.R_alloc | apply Kd.R_drewN | apply Kd.R_drew)); exact HO156.out) (Kd.R_typed (by (with_reducible repeat (first | apply Kd.R_alloc | apply Kd.R_drewN | apply Kd.R_drew)); exact HO_3.out)) (by decide) hg)
               have n3_ := Aside0.mk (hb)
               have n4_ := Aside0.mk (ho)
               clear HO_4
               clear HO149
               clear HO156
               clear HB
               clear HO_3
               have HO_4 := n0_
               have HO149 := n1_
               have HO156 := n2_
               have HB := n3_
               have HO152 := n4_
               clear n0_ n1_ n2_ n3_ n4_
               clear ho hb hg hat
               refine hK.out _ _ ⟨((HB.out.cell (World.block_lt_of_cell? w _ hw146_0)).trans hw146_0), ((HB.out.cell (World.block_lt_of_cell? w _ hw146_1)).trans hw146_1), ((HB.out.cell (World.block_lt_of_cell? w _ hw146_2)).trans hw146_2), ((HB.out.cell (World.block_lt_of_cell? w _ hw146_3)).trans hw146_3), ((HB.out.cell (World.block_lt_of_cell? w _ hw153_0)).trans hw153_0), ((HB.out.cell (World.block_lt_of_cell? w _ hw153_1)).trans hw153_1), ((HB.out.cell (World.block_lt_of_cell? w _ hw153_2)).trans hw153_2), ((HB.out.cell (World.block_lt_of_cell? w _ hw153_3)).trans hw153_3)⟩ (fun hHeld => ?_)
               clear hK K
               refine norm_ (a' := ?_) ?_ ?_
               rotate_left
               ·show Act.put _ (some 31) _ = _
                simp only [Act.put, List.setIfInBounds_toArray, List.set_cons_zero, List.set_cons_succ, i64_w, i32_w]
                rfl
               exact norm_ (by simp only [putAll, Act.put, List.setIfInBounds_toArray, List.set_cons_zero, List.set_cons_succ]) (hCont (.slice Ao21 y147.length co21, v151, v155) _ ⟨hHeld, (by (with_reducible repeat (first | apply Kd.R_alloc | apply Kd.R_drewN | apply Kd.R_drew)); exact Kd.R_mono HO149.out (fun _ hk => hk.2)), (by (with_reducible repeat (first | apply Kd.R_alloc | apply Kd.R_drewN | apply Kd.R_drew)); exact HO152.out), (by (with_reducible repeat (first | apply Kd.R_alloc | apply Kd.R_drewN | apply Kd.R_drew)); exact Kd.R_mono HO156.out (fun _ hk => hk.2)), (by (with_reducible repeat (first | apply Kd.R_alloc | apply Kd.R_drewN | apply Kd.R_drew)); exact Kd.R_mono HO_4.out (fun _ hk => hk.2)), (by repeat (first | (with_reducible first | exact HB.out | apply below_alloc | apply pw_below_drewN | apply below_drew1) | exact HB.out))⟩)
             ·skip
              refine Kd.R_lit_step k37 _ 37 ?hg (N := 37) ?hd (xs := ([(⟨(rd_T36 l0 x5_1).f0, (rd_T36 l0 x5_1).f1, (rd_T36 l0 x5_1).f2, (rd_T36 l0 x5_1).f3⟩ : S37)] : List (S37))) (inner := [.int .i64 ((rd_T36 l0 x5_1).f0), .int .i64 ((rd_T36 l0 x5_1).f1), .int .i64 ((rd_T36 l0 x5_1).f2), .int .i64 ((rd_T36 l0 x5_1).f3)]) (ok := fun _ => True) (okp := fun _ => True) ?hr ?hp (fun _ hk => hk) trivial (Below.refl _ _) (Nat.le_refl _) (by simp) ?_; (case hd => rfl); (case hg => rfl); (case hr => first | (go_simp; done) | (go_simp; rfl)); (case hp => exact (Reps.c4 (show Kd.M k37 _ _ _ (⟨(rd_T36 l0 x5_1).f0, (rd_T36 l0 x5_1).f1, (rd_T36 l0 x5_1).f2, (rd_T36 l0 x5_1).f3⟩ : S37) [.int .i64 ((rd_T36 l0 x5_1).f0), .int .i64 ((rd_T36 l0 x5_1).f1), .int .i64 ((rd_T36 l0 x5_1).f2), .int .i64 ((rd_T36 l0 x5_1).f3)] from (k37_mkM _ _ _ (⟨(rd_T36 l0 x5_1).f0, (rd_T36 l0 x5_1).f1, (rd_T36 l0 x5_1).f2, (rd_T36 l0 x5_1).f3⟩ : S37) )) (Reps.none _ _)))
              intro v155 w16 ho17 hb hg_ hnew_
              clear hg_ hnew_
              (first | rw [← Ny154.out] at ho17 | (simp only [Int.reduceToNat] at ho17; rw [← Ny154.out] at ho17))
              have n0_ := Aside0.mk (Kd.R_below (by (with_reducible repeat (first | apply Kd.R_alloc | apply Kd.R_drewN | apply Kd.R_drew)); exact HO_3.out) hb)
              have n1_ := Aside0.mk (Kd.R_elder' (by (with_reducible repeat (first | apply Kd.R_alloc | apply Kd.R_drewN | apply Kd.R_drew)); exact HO_4.out) (Kd.R_base ho17) hb)
              have n2_ := Aside0.mk (Kd.R_lower (Kd.R_new' ho17 (Kd.R_lt (by (with_reducible repeat (first | apply Kd.R_alloc | apply Kd.R_drewN | apply Kd.R_drew)); exact HO_4.out))) (below_size (by repeat (first | (with_reducible first | exact HB.out | apply below_alloc | apply pw_below_drewN | apply below_drew1) | exact HB.out))))
              have n3_ := Aside0.mk (below_step (by repeat (first | (with_reducible first | exact HB.out | apply below_alloc | apply pw_below_drewN | apply below_drew1) | exact HB.out)) hb)
              clear HO_3
              clear HO_4
              clear HB
              have HO_3 := n0_
              have HO_4 := n1_
              have HO156 := n2_
              have HB := n3_
              clear n0_ n1_ n2_ n3_
              clear hb ho17
              refine hK.out _ _ ⟨((HB.out.cell (World.block_lt_of_cell? w _ hw146_0)).trans hw146_0), ((HB.out.cell (World.block_lt_of_cell? w _ hw146_1)).trans hw146_1), ((HB.out.cell (World.block_lt_of_cell? w _ hw146_2)).trans hw146_2), ((HB.out.cell (World.block_lt_of_cell? w _ hw146_3)).trans hw146_3), ((HB.out.cell (World.block_lt_of_cell? w _ hw153_0)).trans hw153_0), ((HB.out.cell (World.block_lt_of_cell? w _ hw153_1)).trans hw153_1), ((HB.out.cell (World.block_lt_of_cell? w _ hw153_2)).trans hw153_2), ((HB.out.cell (World.block_lt_of_cell? w _ hw153_3)).trans hw153_3)⟩ (fun hHeld => ?_)
              clear hK K
              refine norm_ (a' := ?_) ?_ ?_
              rotate_left
              ·show Act.put _ (some 37) _ = _
               simp only [Act.put, List.setIfInBounds_toArray, List.set_cons_zero, List.set_cons_succ, i64_w, i32_w]
               rfl
              refine one_ (i := 5) (N := some 30) #[true, true, true, true, true, true, false, true, true, true, true, true, true, false, false, false] rfl rfl (one_of HT_.out (by kernel_rfl)) (by decide) (fun K hK => ?_)
              refine Kd.R_lit_step k35 _ 35 ?hg (N := 30) ?hd (xs := ([(⟨(rd_T36 l0 x5_1).f0, (rd_T36 l0 x5_1).f1, (rd_T36 l0 x5_1).f2, (rd_T36 l0 x5_1).f3⟩ : S35)] : List (S35))) (inner := [.int .i64 ((rd_T36 l0 x5_1).f0), .int .i64 ((rd_T36 l0 x5_1).f1), .int .i64 ((rd_T36 l0 x5_1).f2), .int .i64 ((rd_T36 l0 x5_1).f3)]) (ok := fun _ => True) (okp := fun _ => True) ?hr ?hp (fun _ hk => hk) trivial (Below.refl _ _) (Nat.le_refl _) (by simp) ?_; (case hd => rfl); (case hg => rfl); (case hr => first | (go_simp; done) | (go_simp; rfl)); (case hp => exact (Reps.c4 (show Kd.M k35 _ _ _ (⟨(rd_T36 l0 x5_1).f0, (rd_T36 l0 x5_1).f1, (rd_T36 l0 x5_1).f2, (rd_T36 l0 x5_1).f3⟩ : S35) [.int .i64 ((rd_T36 l0 x5_1).f0), .int .i64 ((rd_T36 l0 x5_1).f1), .int .i64 ((rd_T36 l0 x5_1).f2), .int .i64 ((rd_T36 l0 x5_1).f3)] from (k35_mkM _ _ _ (⟨(rd_T36 l0 x5_1).f0, (rd_T36 l0 x5_1).f1, (rd_T36 l0 x5_1).f2, (rd_T36 l0 x5_1).f3⟩ : S35) )) (Reps.none _ _)))
              intro v148 w18 ho19 hb hg_ hnew_
              clear hg_ hnew_
              (first | rw [← Ny147.out] at ho19 | (simp only [Int.reduceToNat] at ho19; rw [← Ny147.out] at ho19))
              have n0_ := Aside0.mk (Kd.R_elder' (by (with_reducible repeat (first | apply Kd.R_alloc | apply Kd.R_drewN | apply Kd.R_drew)); exact HO_3.out) (Kd.R_base ho19) hb)
              have n1_ := Aside0.mk (Kd.R_below (by (with_reducible repeat (first | apply Kd.R_alloc | apply Kd.R_drewN | apply Kd.R_drew)); exact HO_4.out) hb)
              have n2_ := Aside0.mk (Kd.R_below (by (with_reducible repeat (first | apply Kd.R_alloc | apply Kd.R_drewN | apply Kd.R_drew)); exact HO156.out) hb)
              have n3_ := Aside0.mk (Kd.R_lower (Kd.R_new' ho19 (Kd.R_lt (by (with_reducible repeat (first | apply Kd.R_alloc | apply Kd.R_drewN | apply Kd.R_drew)); exact HO_3.out))) (below_size (by repeat (first | (with_reducible first | exact HB.out | apply below_alloc | apply pw_below_drewN | apply below_drew1) | exact HB.out))))
              have n4_ := Aside0.mk (below_step (by repeat (first | (with_reducible first | exact HB.out | apply below_alloc | apply pw_below_drewN | apply below_drew1) | exact HB.out)) hb)
              clear HO_3
              clear HO_4
              clear HO156
              clear HB
              have HO_3 := n0_
              have HO_4 := n1_
              have HO156 := n2_
              have HO149 := n3_
              have HB := n4_
              clear n0_ n1_ n2_ n3_ n4_
              clear hb ho19
              obtain ⟨Ao21, co21, eo21⟩ := Kd.R_slice HO149.out
              (first | subst eo21 | (injection eo21 with f1_ f2_ f3_; have f4_ := f1_.symm; have f5_ := f3_.symm; clear f1_ f2_ f3_; subst f4_; subst f5_))
              refine hK.out _ _ ⟨((HB.out.cell (World.block_lt_of_cell? w _ hw146_0)).trans hw146_0), ((HB.out.cell (World.block_lt_of_cell? w _ hw146_1)).trans hw146_1), ((HB.out.cell (World.block_lt_of_cell? w _ hw146_2)).trans hw146_2), ((HB.out.cell (World.block_lt_of_cell? w _ hw146_3)).trans hw146_3), ((HB.out.cell (World.block_lt_of_cell? w _ hw153_0)).trans hw153_0), ((HB.out.cell (World.block_lt_of_cell? w _ hw153_1)).trans hw153_1), ((HB.out.cell (World.block_lt_of_cell? w _ hw153_2)).trans hw153_2), ((HB.out.cell (World.block_lt_of_cell? w _ hw153_3)).trans hw153_3)⟩ (fun hHeld => ?_)
              clear hK K
              refine norm_ (a' := ?_) ?_ ?_
              rotate_left
              ·show Act.put _ (some 30) _ = _
               simp only [Act.put, List.setIfInBounds_toArray, List.set_cons_zero, List.set_cons_succ, i64_w, i32_w]
               rfl
              refine one_ (i := 6) (N := some 31) #[true, true, true, true, true, true, true, true, true, true, true, true, true, false, false, false] rfl rfl (one_of HT_.out (by kernel_rfl)) (by decide) (fun K hK => ?_)
              refine Kd.R_append_rows_step k35 (w0 := w) w.heap.size (by rfl) (.tmp 25) (.tmp 30) 32 35 (.agg #[(.int .i64 0), (.int .i64 0), (.int .i64 0), (.int .i64 0)]) 32 rfl Tryd.underlying32 info35 rfl (by decide) (by omega) (.slice Ao13 x3_1.length co13) x3_1 y147 _ _ _ (fun k_ => some k_ ≠ (.slice Ao21 y147.length co21 : Value).ownBlock) (fun _ => False) rfl rfl ?aO ?aR (fun _ _ h => h) (fun _ h => h.elim) ?aF ?aB ?aS ?aL ?_
              (case aR => repeat (first | exact (Kd.R_reads' HO149.out).2.2 | (with_reducible refine Kd.C_alloc ?_ _) | (with_reducible refine Kd.C_drewN ?_ _) | (with_reducible refine Kd.C_drew ?_)))
              (case aB => exact (by repeat (first | (with_reducible first | exact HB.out | apply below_alloc | apply pw_below_drewN | apply below_drew1) | exact HB.out)))
              (case aF => exact (fun k_ hk => Kd.fresh' (Kd.R_lt (by (with_reducible repeat (first | apply Kd.R_alloc | apply Kd.R_drewN | apply Kd.R_drew)); exact HO149.out)) k_ hk))
              (case aO => exact (by (with_reducible repeat (first | apply Kd.R_alloc | apply Kd.R_drewN | apply Kd.R_drew)); exact Kd.R_mono HO_3.out (fun _ hk => hk.2)))
              (case aS => exact (below_size (by repeat (first | (with_reducible first | exact HB.out | apply below_alloc | apply pw_below_drewN | apply below_drew1) | exact HB.out))))
              (case aL => have := LMc11.out; omega)
              intro v151 w20 ho hb hg hat
              rw [← Ny150.out] at ho
              have n0_ := Aside0.mk (Kd.R_over' (by (with_reducible repeat (first | apply Kd.R_alloc | apply Kd.R_drewN | apply Kd.R_drew)); exact HO_4.out) (Kd.R_typed (by (with_reducible repeat (first | apply Kd.R_alloc | apply Kd.R_drewN | apply Kd.R_drew)); exact HO_3.out)) (by decide) hg)
              have n1_ := Aside0.mk (Kd.R_over' (by (with_reducible repeat (first | apply Kd.R_alloc | apply Kd.R_drewN | apply Kd.R_drew)); exact HO156.out) (Kd.R_typed (by (with_reducible repeat (first | apply Kd.R_alloc | apply Kd.R_drewN | apply Kd.R_drew)); exact HO_3.out)) (by decide) hg)
              have n2_ := Aside0.mk (Kd.R_after (ok := (fun _ => True)) (by (with_reducible repeat (first | apply Kd.R_alloc | apply Kd.R_drewN | apply Kd.R_drew)); exact HO149.out) hg hat)
              have n3_ := Aside0.mk (hb)
              have n4_ := Aside0.mk (ho)
              clear HO_4
              clear HO156
              clear HO149
              clear HB
              clear HO_3
              have HO_4 := n0_
              have HO156 := n1_
              have HO149 := n2_
              have HB := n3_
              have HO152 := n4_
              clear n0_ n1_ n2_ n3_ n4_
              clear ho hb hg hat
              refine hK.out _ _ ⟨((HB.out.cell (World.block_lt_of_cell? w _ hw146_0)).trans hw146_0), ((HB.out.cell (World.block_lt_of_cell? w _ hw146_1)).trans hw146_1), ((HB.out.cell (World.block_lt_of_cell? w _ hw146_2)).trans hw146_2), ((HB.out.cell (World.block_lt_of_cell? w _ hw146_3)).trans hw146_3), ((HB.out.cell (World.block_lt_of_cell? w _ hw153_0)).trans hw153_0), ((HB.out.cell (World.block_lt_of_cell? w _ hw153_1)).trans hw153_1), ((HB.out.cell (World.block_lt_of_cell? w _ hw153_2)).trans hw153_2), ((HB.out.cell (World.block_lt_of_cell? w _ hw153_3)).trans hw153_3)⟩ (fun hHeld => ?_)
              clear hK K
              refine norm_ (a' := ?_) ?_ ?_
              rotate_left
              ·show Act.put _ (some 31) _ = _
               simp only [Act.put, List.setIfInBounds_toArray, List.set_cons_zero, List.set_cons_succ, i64_w, i32_w]
               rfl
              exact norm_ (by simp only [putAll, Act.put, List.setIfInBounds_toArray, List.set_cons_zero, List.set_cons_succ]) (hCont (.slice Ao21 y147.length co21, v151, v155) _ ⟨hHeld, (by (with_reducible repeat (first | apply Kd.R_alloc | apply Kd.R_drewN | apply Kd.R_drew)); exact Kd.R_mono HO149.out (fun _ hk => hk.2)), (by (with_reducible repeat (first | apply Kd.R_alloc | apply Kd.R_drewN | apply Kd.R_drew)); exact HO152.out), (by (with_reducible repeat (first | apply Kd.R_alloc | apply Kd.R_drewN | apply Kd.R_drew)); exact Kd.R_mono HO156.out (fun _ hk => hk.2)), (by (with_reducible repeat (first | apply Kd.R_alloc | apply Kd.R_drewN | apply Kd.R_drew)); exact Kd.R_mono HO_4.out (fun _ hk => hk.2)), (by repeat (first | (with_reducible first | exact HB.out | apply below_alloc | apply pw_below_drewN | apply below_drew1) | exact HB.out))⟩)
            rintro ⟨v148, v151, v155⟩ w22 ⟨hS_, h0_, h1_, h2_, h3_, h4_⟩
            have n0_ : Aside0 (Kd.R k35 35 w22 w.heap.size (fun k_ => some k_ ≠ (v151 : Value).ownBlock) v148 y147) := ⟨h0_⟩
            have n1_ : Aside0 (Kd.R k35 35 w22 w.heap.size (fun k_ => some k_ ≠ (v148 : Value).ownBlock) v151 y150) := ⟨h1_⟩
            have n2_ : Aside0 (Kd.R k37 37 w22 w.heap.size (fun k_ => some k_ ≠ (.slice Ao14 x4_1.length co14 : Value).ownBlock) v155 y154) := ⟨h2_⟩
            have n3_ : Aside0 (Kd.R k37 37 w22 w.heap.size (fun k_ => some k_ ≠ (v155 : Value).ownBlock) (.slice Ao14 x4_1.length co14) x4_1) := ⟨h3_⟩
            have n4_ : Aside0 (Below w.heap.size w w22) := ⟨h4_⟩
            clear HO_3
            clear HO_4
            clear HB
            clear h0_ h1_ h2_ h3_ h4_
            have HO149 := n0_
            have HO152 := n1_
            have HO156 := n2_
            have HO_4 := n3_
            have HB := n4_
            clear n0_ n1_ n2_ n3_ n4_
            have hHeld : w22.cell? (ad146.add ((x5_1).toNat * 4)) = some (.int .i64 ((rd_T36 l0 x5_1).f0)) ∧ w22.cell? ⟨(ad146.add ((x5_1).toNat * 4)).block, (ad146.add ((x5_1).toNat * 4)).off + 1, none⟩ = some (.int .i64 ((rd_T36 l0 x5_1).f1)) ∧ w22.cell? ⟨(ad146.add ((x5_1).toNat * 4)).block, (ad146.add ((x5_1).toNat * 4)).off + 2, none⟩ = some (.int .i64 ((rd_T36 l0 x5_1).f2)) ∧ w22.cell? ⟨(ad146.add ((x5_1).toNat * 4)).block, (ad146.add ((x5_1).toNat * 4)).off + 3, none⟩ = some (.int .i64 ((rd_T36 l0 x5_1).f3)) ∧ w22.cell? (ad146.add ((x5_1).toNat * 4)) = some (.int .i64 ((rd_T36 l0 x5_1).f0)) ∧ w22.cell? ⟨(ad146.add ((x5_1).toNat * 4)).block, (ad146.add ((x5_1).toNat * 4)).off + 1, none⟩ = some (.int .i64 ((rd_T36 l0 x5_1).f1)) ∧ w22.cell? ⟨(ad146.add ((x5_1).toNat * 4)).block, (ad146.add ((x5_1).toNat * 4)).off + 2, none⟩ = some (.int .i64 ((rd_T36 l0 x5_1).f2)) ∧ w22.cell? ⟨(ad146.add ((x5_1).toNat * 4)).block, (ad146.add ((x5_1).toNat * 4)).off + 3, none⟩ = some (.int .i64 ((rd_T36 l0 x5_1).f3)) := hS_
            obtain ⟨Ao24, co24, eo24⟩ := Kd.R_slice HO156.out
            (first | subst eo24 | (injection eo24 with f1_ f2_ f3_; have f4_ := f1_.symm; have f5_ := f3_.symm; clear f1_ f2_ f3_; subst f4_; subst f5_))
            refine norm_ (a' := ?_) ?_ ?_
            rotate_left
            ·simp only [putAll, Act.put, List.setIfInBounds_toArray, List.set_cons_zero, List.set_cons_succ]
             rfl
            refine one_ (i := 13) (N := some 38) #[true, true, true, true, true, true, true, true, true, true, true, true, true, true, false, false] rfl rfl (one_of HT_.out (by kernel_rfl)) (by decide) (fun K hK => ?_)
            refine Kd.R_append_rows_step k37 (w0 := w) w.heap.size (by rfl) (.tmp 32) (.tmp 37) 33 37 (.agg #[(.int .i64 0), (.int .i64 0), (.int .i64 0), (.int .i64 0)]) 32 rfl Tryd.underlying33 info37 rfl (by decide) (by omega) (.slice Ao14 x4_1.length co14) x4_1 y154 _ _ _ (fun k_ => some k_ ≠ (.slice Ao24 y154.length co24 : Value).ownBlock) (fun _ => False) rfl rfl ?aO ?aR (fun _ _ h => h) (fun _ h => h.elim) ?aF ?aB ?aS ?aL ?_
            (case aR => repeat (first | exact (Kd.R_reads' HO156.out).2.2 | (with_reducible refine Kd.C_alloc ?_ _) | (with_reducible refine Kd.C_drewN ?_ _) | (with_reducible refine Kd.C_drew ?_)))
            (case aB => exact (by repeat (first | (with_reducible first | exact HB.out | apply below_alloc | apply pw_below_drewN | apply below_drew1) | exact HB.out)))
            (case aF => exact (fun k_ hk => Kd.fresh' (Kd.R_lt (by (with_reducible repeat (first | apply Kd.R_alloc | apply Kd.R_drewN | apply Kd.R_drew)); exact HO156.out)) k_ hk))
            (case aO => exact (by (with_reducible repeat (first | apply Kd.R_alloc | apply Kd.R_drewN | apply Kd.R_drew)); exact HO_4.out))
            (case aS => exact (below_size (by repeat (first | (with_reducible first | exact HB.out | apply below_alloc | apply pw_below_drewN | apply below_drew1) | exact HB.out))))
            (case aL => have := LMc12.out; omega)
            intro v158 w23 ho hb hg hat
            rw [← Ny157.out] at ho
            have n0_ := Aside0.mk (Kd.R_over' (by (with_reducible repeat (first | apply Kd.R_alloc | apply Kd.R_drewN | apply Kd.R_drew)); exact HO149.out) (Kd.R_typed (by (with_reducible repeat (first | apply Kd.R_alloc | apply Kd.R_drewN | apply Kd.R_drew)); exact HO_4.out)) (by decide) hg)
            have n1_ := Aside0.mk (Kd.R_over' (by (with_reducible repeat (first | apply Kd.R_alloc | apply Kd.R_drewN | apply Kd.R_drew)); exact HO152.out) (Kd.R_typed (by (with_reducible repeat (first | apply Kd.R_alloc | apply Kd.R_drewN | apply Kd.R_drew)); exact HO_4.out)) (by decide) hg)
            have n2_ := Aside0.mk (Kd.R_after (ok := (fun _ => True)) (by (with_reducible repeat (first | apply Kd.R_alloc | apply Kd.R_drewN | apply Kd.R_drew)); exact Kd.R_mono HO156.out (fun _ hk => ⟨trivial, hk⟩)) hg hat)
            have n3_ := Aside0.mk (hb)
            have n4_ := Aside0.mk (ho)
            clear HO149
            clear HO152
            clear HO156
            clear HB
            clear HO_4
            have HO149 := n0_
            have HO152 := n1_
            have HO156 := n2_
            have HB := n3_
            have HO159 := n4_
            clear n0_ n1_ n2_ n3_ n4_
            clear ho hb hg hat
            refine hK.out _ _ ⟨((HB.out.cell (World.block_lt_of_cell? w _ hw146_0)).trans hw146_0), ((HB.out.cell (World.block_lt_of_cell? w _ hw146_1)).trans hw146_1), ((HB.out.cell (World.block_lt_of_cell? w _ hw146_2)).trans hw146_2), ((HB.out.cell (World.block_lt_of_cell? w _ hw146_3)).trans hw146_3), ((HB.out.cell (World.block_lt_of_cell? w _ hw153_0)).trans hw153_0), ((HB.out.cell (World.block_lt_of_cell? w _ hw153_1)).trans hw153_1), ((HB.out.cell (World.block_lt_of_cell? w _ hw153_2)).trans hw153_2), ((HB.out.cell (World.block_lt_of_cell? w _ hw153_3)).trans hw153_3)⟩ (fun hHeld => ?_)
            clear hK K
            refine norm_ (a' := ?_) ?_ ?_
            rotate_left
            ·show Act.put _ (some 38) _ = _
             simp only [Act.put, List.setIfInBounds_toArray, List.set_cons_zero, List.set_cons_succ, i64_w, i32_w]
             rfl
            refine pure_ (i := 14) (N := some 3) (v := ?_) (a' := ?_) #[true, true, true, true, true, true, true, true, true, true, true, true, true, true, true, false] rfl rfl (any_of HT_.out (by kernel_rfl)) (fun _ _ _ h => h) (Or.inl ⟨by rfl, ?_⟩) ?_ ?_
            rotate_left
            ·intro w'
             go_simp
             with_reducible rfl
            rotate_left
            ·simp only [Act.put, List.setIfInBounds_toArray, List.set_cons_zero, List.set_cons_succ, i64_w, i32_w]
             rfl
            refine pure_ (i := 15) (N := some 4) (v := ?_) (a' := ?_) #[true, true, true, true, true, true, true, true, true, true, true, true, true, true, true, true] rfl rfl (any_of HT_.out (by kernel_rfl)) (fun _ _ _ h => h) (Or.inl ⟨by rfl, ?_⟩) ?_ ?_
            rotate_left
            ·intro w'
             go_simp
             with_reducible rfl
            rotate_left
            ·simp only [Act.put, List.setIfInBounds_toArray, List.set_cons_zero, List.set_cons_succ, i64_w, i32_w]
             rfl
            refine done_ (done_of HT_.out (by kernel_rfl)) ?_
            try go_wp2
            go_meet
            case rel => exact ⟨_, (y150), (y157), H', ⟨by have := HK1.out; have := HJ4.out; first | omega | exact Nat.le_refl _⟩, ⟨by (with_reducible repeat (first | apply Kd.R_alloc | apply Kd.R_drewN | apply Kd.R_drew)); exact Kd.R_mono HO152.out (fun _ hk => trivial)⟩, ⟨by (with_reducible repeat (first | apply Kd.R_alloc | apply Kd.R_drewN | apply Kd.R_drew)); exact Kd.R_mono HO159.out (fun _ hk => trivial)⟩, ⟨by repeat (first | (with_reducible first | exact HB.out | apply below_alloc | apply pw_below_drewN | apply below_drew1) | exact HB.out)⟩⟩
           ·rw [if_neg c12] at H
            exact absurd H (by simp)
          ·rw [if_neg c11] at H
           exact absurd H (by simp)
         ·rw [if_neg c10] at H
          exact absurd H (by simp)
        ·rw [if_neg c9] at H
         exact absurd H (by simp)
       case rest =>
        clear HC8
        try clear c1
        try clear p1
        try clear q1
        try clear hx1
        try clear p2
        try clear c3
        try clear c4
        try clear c6
        try clear c6b0
        try clear c7
        try clear c9
        try clear c9b0
        try clear c10
        try clear c10b0
        try clear c11
        try clear c12
        try clear p14
        try clear q14
        try clear hx14
        try clear p15
        try clear q15
        try clear hx15
        try clear hx146_0
        try clear hx146_1
        try clear hx146_2
        try clear hx146_3
        try clear hx153_0
        try clear hx153_1
        try clear hx153_2
        try clear hx153_3
        try clear p146
        try clear p153
        try clear p2
        try clear q146
        try clear q153
        obtain ⟨kq, x3_7, x4_7, HA, HJ7, HO_3, HO_4, HB⟩ := hcut
        cases kq with
        | zero => exact absurd HA.out (by simp [posthorselaw17_CodePuts.j2])
        | succ kj7 =>
         have H := HA.out
         clear HA
         simp only [posthorselaw17_CodePuts.j2] at H
         have HC25 := Aside0.mk H
         clear H
         go_upto_region 9 with (fail)
         go_cut [72] (fun v72 wc => ∃ (kq : Nat) (x72_24 : Bool), v72 = .bool x72_24 ∧ Aside0 (posthorselaw17_CodePuts.j3 kq l0 x3_7 x4_7 x5_1 x72_24 = some r) ∧ Aside0 (kq ≤ kj7) ∧ Aside0 (Kd.R k35 35 wc w.heap.size (fun _ => True) u3 x3_7) ∧ Aside0 (Kd.R k37 37 wc w.heap.size (fun _ => True) u4 x4_7) ∧ Aside0 (Below w.heap.size w wc))
         case first =>
          have H := HC25.out
          clear HC25
          by_cases c26 : 0 ≤ x5_1
          ·rw [if_pos c26] at H
           have c26b0 : decide (0 ≤ x5_1) = true := decide_eq_true c26
           clear c26
           (first | rw [c26b0] | (simp only [i64_w, i32_w]; rw [c26b0]) | skip)
           by_cases c27 : x5_1 < (l0.length : Int)
           ·rw [if_pos c27] at H
            have c27b0 : decide (x5_1 < (l0.length : Int)) = true := decide_eq_true c27
            clear c27
            replace H := Option.bind_eq_some_iff.mp H
            obtain ⟨t161, A280, H⟩ := H
            replace H : ((posthorseref17_Right.f kj7 ((rd_T36 l0 x5_1).f0) ((rd_T36 l0 x5_1).f1) ((rd_T36 l0 x5_1).f2) ((rd_T36 l0 x5_1).f3)).bind fun t163 => (if (t161 != t163) = true then (posthorselaw17_CodePuts.j3 kj7 l0 x3_7 x4_7 x5_1 true) else ((code_Jumps.f ((rd_T36 l0 x5_1).f0)).bind fun t165 => (if ((rd_T36 l0 x5_1).f0) ≥ 12 then (posthorselaw17_CodePuts.j3 kj7 l0 x3_7 x4_7 x5_1 (t165 != (decide (((rd_T36 l0 x5_1).f0) ≤ 16)))) else (posthorselaw17_CodePuts.j3 kj7 l0 x3_7 x4_7 x5_1 (t165 != false)))))) = some r := H
            have A28 := Aside0.mk A280
            clear A280
            replace H := Option.bind_eq_some_iff.mp H
            obtain ⟨t163, A290, H⟩ := H
            replace H : (if (t161 != t163) = true then (posthorselaw17_CodePuts.j3 kj7 l0 x3_7 x4_7 x5_1 true) else ((code_Jumps.f ((rd_T36 l0 x5_1).f0)).bind fun t165 => (if ((rd_T36 l0 x5_1).f0) ≥ 12 then (posthorselaw17_CodePuts.j3 kj7 l0 x3_7 x4_7 x5_1 (t165 != (decide (((rd_T36 l0 x5_1).f0) ≤ 16)))) else (posthorselaw17_CodePuts.j3 kj7 l0 x3_7 x4_7 x5_1 (t165 != false))))) = some r := H
            have A29 := Aside0.mk A290
            clear A290
            by_cases c30 : (t161 != t163) = true
            ·rw [if_pos c30] at H
             have c30b0 : (t161 != t163) = true := c30
             (try (have c30b1 : decide (t161 = t163) = false := by simpa using c30))
             (try (have c30b2 : (t161 == t163) = false := by simpa using c30))
             (try (have c30b3 : ¬ (t161 = t163) := by simpa using c30))
             clear c30
             have H' := Aside0.mk H
             clear H
             try go_wp2
             have n0_ := Aside0.mk (Kd.R_drew HO_3.out)
             have n1_ := Aside0.mk (Kd.R_drew HO_4.out)
             have n2_ := Aside0.mk (below_drew1 HB.out)
             clear HO_3
             clear HO_4
             clear HB
             have HO_3 := n0_
             have HO_4 := n1_
             have HB := n2_
             clear n0_ n1_ n2_
             have p160 : 0 ≤ (x5_1 : Int) := of_decide_eq_true (by first | (with_reducible assumption) | assumption)
             have q160 : x5_1 < (l0.length : Int) := of_decide_eq_true (by first | (with_reducible assumption) | assumption)
             obtain ⟨ad160, e160, hx160_0, hx160_1, hx160_2, hx160_3⟩ := at_T36 HR0.out x5_1 p160 q160
             have hw160_3 := hx160_3
             have hw160_2 := hx160_2
             have hw160_1 := hx160_1
             have hw160_0 := hx160_0
             cases e160
             replace hx160_0 := (HB.out.cell (World.block_lt_of_cell? w _ hx160_0)).trans hx160_0
             replace hx160_1 := (HB.out.cell (World.block_lt_of_cell? w _ hx160_1)).trans hx160_1
             replace hx160_2 := (HB.out.cell (World.block_lt_of_cell? w _ hx160_2)).trans hx160_2
             replace hx160_3 := (HB.out.cell (World.block_lt_of_cell? w _ hx160_3)).trans hx160_3
             replace p160 := eq_true p160
             replace q160 := eq_true q160
             have p162 : 0 ≤ (x5_1 : Int) := of_decide_eq_true (by first | (with_reducible assumption) | assumption)
             have q162 : x5_1 < (l0.length : Int) := of_decide_eq_true (by first | (with_reducible assumption) | assumption)
             obtain ⟨ad162, e162, hx162_0, hx162_1, hx162_2, hx162_3⟩ := at_T36 HR0.out x5_1 p162 q162
             have hw162_3 := hx162_3
             have hw162_2 := hx162_2
             have hw162_1 := hx162_1
             have hw162_0 := hx162_0
             obtain rfl : ad160 = ad162 := (by injection e162)
             replace hx162_0 := (HB.out.cell (World.block_lt_of_cell? w _ hx162_0)).trans hx162_0
             replace hx162_1 := (HB.out.cell (World.block_lt_of_cell? w _ hx162_1)).trans hx162_1
             replace hx162_2 := (HB.out.cell (World.block_lt_of_cell? w _ hx162_2)).trans hx162_2
             replace hx162_3 := (HB.out.cell (World.block_lt_of_cell? w _ hx162_3)).trans hx162_3
             replace p162 := eq_true p162
             replace q162 := eq_true q162
             refine start_ (n := 34) (S := fun w' => w'.cell? (ad160.add ((x5_1).toNat * 4)) = some (.int .i64 ((rd_T36 l0 x5_1).f0)) ∧ w'.cell? ⟨(ad160.add ((x5_1).toNat * 4)).block, (ad160.add ((x5_1).toNat * 4)).off + 1, none⟩ = some (.int .i64 ((rd_T36 l0 x5_1).f1)) ∧ w'.cell? ⟨(ad160.add ((x5_1).toNat * 4)).block, (ad160.add ((x5_1).toNat * 4)).off + 2, none⟩ = some (.int .i64 ((rd_T36 l0 x5_1).f2)) ∧ w'.cell? ⟨(ad160.add ((x5_1).toNat * 4)).block, (ad160.add ((x5_1).toNat * 4)).off + 3, none⟩ = some (.int .i64 ((rd_T36 l0 x5_1).f3)) ∧ w'.cell? (ad160.add ((x5_1).toNat * 4)) = some (.int .i64 ((rd_T36 l0 x5_1).f0)) ∧ w'.cell? ⟨(ad160.add ((x5_1).toNat * 4)).block, (ad160.add ((x5_1).toNat * 4)).off + 1, none⟩ = some (.int .i64 ((rd_T36 l0 x5_1).f1)) ∧ w'.cell? ⟨(ad160.add ((x5_1).toNat * 4)).block, (ad160.add ((x5_1).toNat * 4)).off + 2, none⟩ = some (.int .i64 ((rd_T36 l0 x5_1).f2)) ∧ w'.cell? ⟨(ad160.add ((x5_1).toNat * 4)).block, (ad160.add ((x5_1).toNat * 4)).off + 3, none⟩ = some (.int .i64 ((rd_T36 l0 x5_1).f3))) (ds := []) #[false, false, false, false, false, false, false, false, false, false, false, false, false, false, false, false, false, false, false, false, false, false, false, false, false, false, false, false, false, false, false, false, false, false] (by kernel_rfl) rfl rfl ⟨((HB.out.cell (World.block_lt_of_cell? w _ hw160_0)).trans hw160_0), ((HB.out.cell (World.block_lt_of_cell? w _ hw160_1)).trans hw160_1), ((HB.out.cell (World.block_lt_of_cell? w _ hw160_2)).trans hw160_2), ((HB.out.cell (World.block_lt_of_cell? w _ hw160_3)).trans hw160_3), ((HB.out.cell (World.block_lt_of_cell? w _ hw162_0)).trans hw162_0), ((HB.out.cell (World.block_lt_of_cell? w _ hw162_1)).trans hw162_1), ((HB.out.cell (World.block_lt_of_cell? w _ hw162_2)).trans hw162_2), ((HB.out.cell (World.block_lt_of_cell? w _ hw162_3)).trans hw162_3)⟩ (fun hHeld => ?_); refine with_tabW posthorselaw17_CodePuts.tab9 posthorselaw17_CodePuts.bits9 (fun HT_ HW_ => ?_)
             generalize wc.drew = w31 at HO_3 HO_4 HB hx160_0 hx160_1 hx160_2 hx160_3 hx162_0 hx162_1 hx162_2 hx162_3 hHeld ⊢
             refine pure_ (i := 0) (N := some 39) (v := ?_) (a' := ?_) #[true, false, false, false, false, false, false, false, false, false, false, false, false, false, false, false, false, false, false, false, false, false, false, false, false, false, false, false, false, false, false, false, false, false] rfl rfl (any_of HT_.out (by kernel_rfl)) (fun _ _ _ h => h) (Or.inl ⟨by rfl, ?_⟩) ?_ ?_
             rotate_left
             ·intro w'
              go_simp
              with_reducible rfl
             rotate_left
             ·simp only [Act.put, List.setIfInBounds_toArray, List.set_cons_zero, List.set_cons_succ, i64_w, i32_w]
              rfl
             refine pure_ (i := 1) (N := some 40) (v := ?_) (a' := ?_) #[true, true, false, false, false, false, false, false, false, false, false, false, false, false, false, false, false, false, false, false, false, false, false, false, false, false, false, false, false, false, false, false, false, false] rfl rfl (any_of HT_.out (by kernel_rfl)) (fun _ _ _ h => h) (Or.inl ⟨by rfl, ?_⟩) ?_ ?_
             rotate_left
             ·intro w'
              go_simp
              with_reducible rfl
             rotate_left
             ·simp only [Act.put, List.setIfInBounds_toArray, List.set_cons_zero, List.set_cons_succ, i64_w, i32_w]
              rfl
             refine pure_ (i := 2) (N := some 41) (v := ?_) (a' := ?_) #[true, true, true, false, false, false, false, false, false, false, false, false, false, false, false, false, false, false, false, false, false, false, false, false, false, false, false, false, false, false, false, false, false, false] rfl rfl (any_of HT_.out (by kernel_rfl)) (fun _ _ _ h => h) (Or.inl ⟨by rfl, ?_⟩) ?_ ?_
             rotate_left
             ·intro w'
              go_simp
              with_reducible rfl
             rotate_left
             ·simp only [Act.put, List.setIfInBounds_toArray, List.set_cons_zero, List.set_cons_succ, i64_w, i32_w]
              rfl
             refine pure_ (i := 5) (N := some 44) (v := ?_) (a' := ?_) #[true, true, true, false, false, true, false, false, false, false, false, false, false, false, false, false, false, false, false, false, false, false, false, false, false, false, false, false, false, false, false, false, false, false] rfl rfl (any_of HT_.out (by kernel_rfl)) (fun _ _ _ h => h) (Or.inl ⟨by rfl, ?_⟩) ?_ ?_
             rotate_left
             ·intro w'
              go_simp
              with_reducible rfl
             rotate_left
             ·simp only [Act.put, List.setIfInBounds_toArray, List.set_cons_zero, List.set_cons_succ, i64_w, i32_w]
              rfl
             refine pure_ (i := 6) (N := some 45) (v := ?_) (a' := ?_) #[true, true, true, false, false, true, true, false, false, false, false, false, false, false, false, false, false, false, false, false, false, false, false, false, false, false, false, false, false, false, false, false, false, false] rfl rfl (any_of HT_.out (by kernel_rfl)) (fun _ _ _ h => h) (Or.inl ⟨by rfl, ?_⟩) ?_ ?_
             rotate_left
             ·intro w'
              go_simp
              with_reducible rfl
             rotate_left
             ·simp only [Act.put, List.setIfInBounds_toArray, List.set_cons_zero, List.set_cons_succ, i64_w, i32_w]
              rfl
             refine pure_ (i := 7) (N := some 46) (v := ?_) (a' := ?_) #[true, true, true, false, false, true, true, true, false, false, false, false, false, false, false, false, false, false, false, false, false, false, false, false, false, false, false, false, false, false, false, false, false, false] rfl rfl (any_of HT_.out (by kernel_rfl)) (fun _ _ _ h => h) (Or.inl ⟨by rfl, ?_⟩) ?_ ?_
             rotate_left
             ·intro w'
              go_simp
              with_reducible rfl
             rotate_left
             ·simp only [Act.put, List.setIfInBounds_toArray, List.set_cons_zero, List.set_cons_succ, i64_w, i32_w]
              rfl
             refine take_ (i := 3) (N := some 42) (v := ?_) (a' := ?_) #[true, true, true, true, false, true, true, true, false, false, false, false, false, false, false, false, false, false, false, false, false, false, false, false, false, false, false, false, false, false, false, false, false, false] rfl rfl (take_ofW HT_.out HW_.out (by kernel_rfl)) (fun _ _ _ h => h) (Or.inl ⟨by rfl, ?_⟩) hHeld ?_ ?_
             rotate_left
             ·rintro w' ⟨s0, s1, s2, s3, s4, s5, s6, s7⟩
              go_simp
              with_reducible rfl
             rotate_left
             ·simp only [Act.put, List.setIfInBounds_toArray, List.set_cons_zero, List.set_cons_succ, i64_w, i32_w]
              rfl
             refine take_ (i := 8) (N := some 47) (v := ?_) (a' := ?_) #[true, true, true, true, false, true, true, true, true, false, false, false, false, false, false, false, false, false, false, false, false, false, false, false, false, false, false, false, false, false, false, false, false, false] rfl rfl (take_ofW HT_.out HW_.out (by kernel_rfl)) (fun _ _ _ h => h) (Or.inl ⟨by rfl, ?_⟩) hHeld ?_ ?_
             rotate_left
             ·rintro w' ⟨s0, s1, s2, s3, s4, s5, s6, s7⟩
              go_simp
              with_reducible rfl
             rotate_left
             ·simp only [Act.put, List.setIfInBounds_toArray, List.set_cons_zero, List.set_cons_succ, i64_w, i32_w]
              rfl
             refine one_ (i := 4) (N := some 43) #[true, true, true, true, true, true, true, true, true, false, false, false, false, false, false, false, false, false, false, false, false, false, false, false, false, false, false, false, false, false, false, false, false, false] rfl rfl (one_of HT_.out (by kernel_rfl)) (by decide) (fun K hK => ?_)
             refine goes_ Tryd.func11 (by kernel_rfl) rfl #[.agg #[.int .i64 ((rd_T36 l0 x5_1).f0), .int .i64 ((rd_T36 l0 x5_1).f1), .int .i64 ((rd_T36 l0 x5_1).f2), .int .i64 ((rd_T36 l0 x5_1).f3)]] (by rfl) rfl rfl (by (try simp only [List.map_toArray, List.map_cons, List.map_nil]); first | done | rfl | (simp only [List.length_drop, List.length_take]; rfl) | (simp only [decide_eq_true_eq, decide_eq_false_iff_not, eq_iff_iff, iff_true, iff_false] at *; have w_id : ∀ {n : Int}, -9223372036854775808 ≤ n → n ≤ 9223372036854775807 → wrap64 n = n := fun h0 h1 => (by unfold wrap64; omega); rw [w_id (by omega) (by omega)]; rfl)) ?_
             with_reducible refine (code_Right.calls kj7 ((rd_T36 l0 x5_1).f0) ((rd_T36 l0 x5_1).f1) ((rd_T36 l0 x5_1).f2) ((rd_T36 l0 x5_1).f3) t161 _ A28.out).mono ?_
             rintro e w32 ⟨rfl, hb⟩
             refine ⟨_, rfl, ?_⟩
             have n0_ := Aside0.mk (Kd.R_below (by (with_reducible repeat (first | apply Kd.R_alloc | apply Kd.R_drewN | apply Kd.R_drew)); exact HO_3.out) hb)
             have n1_ := Aside0.mk (Kd.R_below (by (with_reducible repeat (first | apply Kd.R_alloc | apply Kd.R_drewN | apply Kd.R_drew)); exact HO_4.out) hb)
             have n2_ := Aside0.mk (below_step (by repeat (first | (with_reducible first | exact HB.out | apply below_alloc | apply pw_below_drewN | apply below_drew1) | exact HB.out)) hb)
             clear HO_3
             clear HO_4
             clear HB
             have HO_3 := n0_
             have HO_4 := n1_
             have HB := n2_
             clear n0_ n1_ n2_
             (try clear hb)
             (try clear hb2)
             (try clear hk)
             (try clear hi)
             refine hK.out _ _ ⟨((HB.out.cell (World.block_lt_of_cell? w _ hw160_0)).trans hw160_0), ((HB.out.cell (World.block_lt_of_cell? w _ hw160_1)).trans hw160_1), ((HB.out.cell (World.block_lt_of_cell? w _ hw160_2)).trans hw160_2), ((HB.out.cell (World.block_lt_of_cell? w _ hw160_3)).trans hw160_3), ((HB.out.cell (World.block_lt_of_cell? w _ hw162_0)).trans hw162_0), ((HB.out.cell (World.block_lt_of_cell? w _ hw162_1)).trans hw162_1), ((HB.out.cell (World.block_lt_of_cell? w _ hw162_2)).trans hw162_2), ((HB.out.cell (World.block_lt_of_cell? w _ hw162_3)).trans hw162_3)⟩ (fun hHeld => ?_)
             clear hK K
             refine norm_ (a' := ?_) ?_ ?_
             rotate_left
             ·show Act.put _ (some 43) _ = _
              simp only [Act.put, List.setIfInBounds_toArray, List.set_cons_zero, List.set_cons_succ, i64_w, i32_w]
              rfl
             refine one_ (i := 9) (N := some 48) #[true, true, true, true, true, true, true, true, true, true, false, false, false, false, false, false, false, false, false, false, false, false, false, false, false, false, false, false, false, false, false, false, false, false] rfl rfl (one_of HT_.out (by kernel_rfl)) (by decide) (fun K hK => ?_)
             refine goes_ Tryd.func12 (by kernel_rfl) rfl #[.agg #[.int .i64 ((rd_T36 l0 x5_1).f0), .int .i64 ((rd_T36 l0 x5_1).f1), .int .i64 ((rd_T36 l0 x5_1).f2), .int .i64 ((rd_T36 l0 x5_1).f3)]] (by rfl) rfl rfl (by (try simp only [List.map_toArray, List.map_cons, List.map_nil]); first | done | rfl | (simp only [List.length_drop, List.length_take]; rfl) | (simp only [decide_eq_true_eq, decide_eq_false_iff_not, eq_iff_iff, iff_true, iff_false] at *; have w_id : ∀ {n : Int}, -9223372036854775808 ≤ n → n ≤ 9223372036854775807 → wrap64 n = n := fun h0 h1 => (by unfold wrap64; omega); rw [w_id (by omega) (by omega)]; rfl)) ?_
             with_reducible refine (posthorseref17_Right.calls kj7 ((rd_T36 l0 x5_1).f0) ((rd_T36 l0 x5_1).f1) ((rd_T36 l0 x5_1).f2) ((rd_T36 l0 x5_1).f3) t163 _ A29.out).mono ?_
             rintro e w33 ⟨rfl, hb⟩
             refine ⟨_, rfl, ?_⟩
             have n0_ := Aside0.mk (Kd.R_below (by (with_reducible repeat (first | apply Kd.R_alloc | apply Kd.R_drewN | apply Kd.R_drew)); exact HO_3.out) hb)
             have n1_ := Aside0.mk (Kd.R_below (by (with_reducible repeat (first | apply Kd.R_alloc | apply Kd.R_drewN | apply Kd.R_drew)); exact HO_4.out) hb)
             have n2_ := Aside0.mk (below_step (by repeat (first | (with_reducible first | exact HB.out | apply below_alloc | apply pw_below_drewN | apply below_drew1) | exact HB.out)) hb)
             clear HO_3
             clear HO_4
             clear HB
             have HO_3 := n0_
             have HO_4 := n1_
             have HB := n2_
             clear n0_ n1_ n2_
             (try clear hb)
             (try clear hb2)
             (try clear hk)
             (try clear hi)
             refine hK.out _ _ ⟨((HB.out.cell (World.block_lt_of_cell? w _ hw160_0)).trans hw160_0), ((HB.out.cell (World.block_lt_of_cell? w _ hw160_1)).trans hw160_1), ((HB.out.cell (World.block_lt_of_cell? w _ hw160_2)).trans hw160_2), ((HB.out.cell (World.block_lt_of_cell? w _ hw160_3)).trans hw160_3), ((HB.out.cell (World.block_lt_of_cell? w _ hw162_0)).trans hw162_0), ((HB.out.cell (World.block_lt_of_cell? w _ hw162_1)).trans hw162_1), ((HB.out.cell (World.block_lt_of_cell? w _ hw162_2)).trans hw162_2), ((HB.out.cell (World.block_lt_of_cell? w _ hw162_3)).trans hw162_3)⟩ (fun hHeld => ?_)
             clear hK K
             refine norm_ (a' := ?_) ?_ ?_
             rotate_left
             ·show Act.put _ (some 48) _ = _
              simp only [Act.put, List.setIfInBounds_toArray, List.set_cons_zero, List.set_cons_succ, i64_w, i32_w]
              rfl
             refine pure_ (i := 10) (N := some 49) (v := ?_) (a' := ?_) #[true, true, true, true, true, true, true, true, true, true, true, false, false, false, false, false, false, false, false, false, false, false, false, false, false, false, false, false, false, false, false, false, false, false] rfl rfl (any_of HT_.out (by kernel_rfl)) (fun _ _ _ h => h) (Or.inl ⟨by rfl, ?_⟩) ?_ ?_
             rotate_left
             ·intro w'
              go_simp
              with_reducible rfl
             rotate_left
             ·simp only [Act.put, List.setIfInBounds_toArray, List.set_cons_zero, List.set_cons_succ, i64_w, i32_w]
              rfl
             refine pure_ (i := 11) (N := some 50) (v := ?_) (a' := ?_) #[true, true, true, true, true, true, true, true, true, true, true, true, false, false, false, false, false, false, false, false, false, false, false, false, false, false, false, false, false, false, false, false, false, false] rfl rfl (any_of HT_.out (by kernel_rfl)) (fun _ _ _ h => h) (Or.inl ⟨by rfl, ?_⟩) ?_ ?_
             rotate_left
             ·intro w'
              go_simp
              with_reducible rfl
             rotate_left
             ·simp only [Act.put, List.setIfInBounds_toArray, List.set_cons_zero, List.set_cons_succ, i64_w, i32_w]
              rfl
             refine pure_ (i := 12) (N := some 51) (v := undef) (a' := ?_) #[true, true, true, true, true, true, true, true, true, true, true, true, true, false, false, false, false, false, false, false, false, false, false, false, false, false, false, false, false, false, false, false, false, false] rfl rfl (any_of HT_.out (by kernel_rfl)) (fun _ _ _ h => h) (Or.inr ⟨by rfl, rfl⟩) ?_ ?_
             rotate_left
             ·simp only [Act.put, List.setIfInBounds_toArray, List.set_cons_zero, List.set_cons_succ, i64_w, i32_w]
              rfl
             refine pure_ (i := 13) (N := some 52) (v := undef) (a' := ?_) #[true, true, true, true, true, true, true, true, true, true, true, true, true, true, false, false, false, false, false, false, false, false, false, false, false, false, false, false, false, false, false, false, false, false] rfl rfl (any_of HT_.out (by kernel_rfl)) (fun _ _ _ h => h) (Or.inr ⟨by rfl, rfl⟩) ?_ ?_
             rotate_left
             ·simp only [Act.put, List.setIfInBounds_toArray, List.set_cons_zero, List.set_cons_succ, i64_w, i32_w]
              rfl
             refine pure_ (i := 14) (N := some 53) (v := undef) (a' := ?_) #[true, true, true, true, true, true, true, true, true, true, true, true, true, true, true, false, false, false, false, false, false, false, false, false, false, false, false, false, false, false, false, false, false, false] rfl rfl (any_of HT_.out (by kernel_rfl)) (fun _ _ _ h => h) (Or.inr ⟨by rfl, rfl⟩) ?_ ?_
             rotate_left
             ·simp only [Act.put, List.setIfInBounds_toArray, List.set_cons_zero, List.set_cons_succ, i64_w, i32_w]
              rfl
             refine pure_ (i := 15) (N := some 54) (v := undef) (a' := ?_) #[true, true, true, true, true, true, true, true, true, true, true, true, true, true, true, true, false, false, false, false, false, false, false, false, false, false, false, false, false, false, false, false, false, false] rfl rfl (any_of HT_.out (by kernel_rfl)) (fun _ _ _ h => h) (Or.inr ⟨by rfl, rfl⟩) ?_ ?_
             rotate_left
             ·simp only [Act.put, List.setIfInBounds_toArray, List.set_cons_zero, List.set_cons_succ, i64_w, i32_w]
              rfl
             refine pure_ (i := 16) (N := some 55) (v := undef) (a' := ?_) #[true, true, true, true, true, true, true, true, true, true, true, true, true, true, true, true, true, false, false, false, false, false, false, false, false, false, false, false, false, false, false, false, false, false] rfl rfl (any_of HT_.out (by kernel_rfl)) (fun _ _ _ h => h) (Or.inr ⟨by rfl, rfl⟩) ?_ ?_
             rotate_left
             ·simp only [Act.put, List.setIfInBounds_toArray, List.set_cons_zero, List.set_cons_succ, i64_w, i32_w]
              rfl
             refine pure_ (i := 17) (N := some 56) (v := undef) (a' := ?_) #[true, true, true, true, true, true, true, true, true, true, true, true, true, true, true, true, true, true, false, false, false, false, false, false, false, false, false, false, false, false, false, false, false, false] rfl rfl (any_of HT_.out (by kernel_rfl)) (fun _ _ _ h => h) (Or.inr ⟨by rfl, rfl⟩) ?_ ?_
             rotate_left
             ·simp only [Act.put, List.setIfInBounds_toArray, List.set_cons_zero, List.set_cons_succ, i64_w, i32_w]
              rfl
             refine pure_ (i := 18) (N := some 57) (v := undef) (a' := ?_) #[true, true, true, true, true, true, true, true, true, true, true, true, true, true, true, true, true, true, true, false, false, false, false, false, false, false, false, false, false, false, false, false, false, false] rfl rfl (any_of HT_.out (by kernel_rfl)) (fun _ _ _ h => h) (Or.inr ⟨by rfl, rfl⟩) ?_ ?_
             rotate_left
             ·simp only [Act.put, List.setIfInBounds_toArray, List.set_cons_zero, List.set_cons_succ, i64_w, i32_w]
              rfl
             refine pure_ (i := 19) (N := some 58) (v := undef) (a' := ?_) #[true, true, true, true, true, true, true, true, true, true, true, true, true, true, true, true, true, true, true, true, false, false, false, false, false, false, false, false, false, false, false, false, false, false] rfl rfl (any_of HT_.out (by kernel_rfl)) (fun _ _ _ h => h) (Or.inr ⟨by rfl, rfl⟩) ?_ ?_
             rotate_left
             ·simp only [Act.put, List.setIfInBounds_toArray, List.set_cons_zero, List.set_cons_succ, i64_w, i32_w]
              rfl
             refine pure_ (i := 20) (N := some 59) (v := undef) (a' := ?_) #[true, true, true, true, true, true, true, true, true, true, true, true, true, true, true, true, true, true, true, true, true, false, false, false, false, false, false, false, false, false, false, false, false, false] rfl rfl (any_of HT_.out (by kernel_rfl)) (fun _ _ _ h => h) (Or.inr ⟨by rfl, rfl⟩) ?_ ?_
             rotate_left
             ·simp only [Act.put, List.setIfInBounds_toArray, List.set_cons_zero, List.set_cons_succ, i64_w, i32_w]
              rfl
             refine pure_ (i := 21) (N := some 60) (v := undef) (a' := ?_) #[true, true, true, true, true, true, true, true, true, true, true, true, true, true, true, true, true, true, true, true, true, true, false, false, false, false, false, false, false, false, false, false, false, false] rfl rfl (any_of HT_.out (by kernel_rfl)) (fun _ _ _ h => h) (Or.inr ⟨by rfl, rfl⟩) ?_ ?_
             rotate_left
             ·simp only [Act.put, List.setIfInBounds_toArray, List.set_cons_zero, List.set_cons_succ, i64_w, i32_w]
              rfl
             refine pure_ (i := 22) (N := some 61) (v := undef) (a' := ?_) #[true, true, true, true, true, true, true, true, true, true, true, true, true, true, true, true, true, true, true, true, true, true, true, false, false, false, false, false, false, false, false, false, false, false] rfl rfl (any_of HT_.out (by kernel_rfl)) (fun _ _ _ h => h) (Or.inr ⟨by rfl, rfl⟩) ?_ ?_
             rotate_left
             ·simp only [Act.put, List.setIfInBounds_toArray, List.set_cons_zero, List.set_cons_succ, i64_w, i32_w]
              rfl
             refine pure_ (i := 23) (N := some 62) (v := undef) (a' := ?_) #[true, true, true, true, true, true, true, true, true, true, true, true, true, true, true, true, true, true, true, true, true, true, true, true, false, false, false, false, false, false, false, false, false, false] rfl rfl (any_of HT_.out (by kernel_rfl)) (fun _ _ _ h => h) (Or.inr ⟨by rfl, rfl⟩) ?_ ?_
             rotate_left
             ·simp only [Act.put, List.setIfInBounds_toArray, List.set_cons_zero, List.set_cons_succ, i64_w, i32_w]
              rfl
             refine pure_ (i := 24) (N := some 63) (v := undef) (a' := ?_) #[true, true, true, true, true, true, true, true, true, true, true, true, true, true, true, true, true, true, true, true, true, true, true, true, true, false, false, false, false, false, false, false, false, false] rfl rfl (any_of HT_.out (by kernel_rfl)) (fun _ _ _ h => h) (Or.inr ⟨by rfl, rfl⟩) ?_ ?_
             rotate_left
             ·simp only [Act.put, List.setIfInBounds_toArray, List.set_cons_zero, List.set_cons_succ, i64_w, i32_w]
              rfl
             refine pure_ (i := 25) (N := some 64) (v := undef) (a' := ?_) #[true, true, true, true, true, true, true, true, true, true, true, true, true, true, true, true, true, true, true, true, true, true, true, true, true, true, false, false, false, false, false, false, false, false] rfl rfl (any_of HT_.out (by kernel_rfl)) (fun _ _ _ h => h) (Or.inr ⟨by rfl, rfl⟩) ?_ ?_
             rotate_left
             ·simp only [Act.put, List.setIfInBounds_toArray, List.set_cons_zero, List.set_cons_succ, i64_w, i32_w]
              rfl
             refine pure_ (i := 26) (N := some 65) (v := undef) (a' := ?_) #[true, true, true, true, true, true, true, true, true, true, true, true, true, true, true, true, true, true, true, true, true, true, true, true, true, true, true, false, false, false, false, false, false, false] rfl rfl (any_of HT_.out (by kernel_rfl)) (fun _ _ _ h => h) (Or.inr ⟨by rfl, rfl⟩) ?_ ?_
             rotate_left
             ·simp only [Act.put, List.setIfInBounds_toArray, List.set_cons_zero, List.set_cons_succ, i64_w, i32_w]
              rfl
             refine pure_ (i := 27) (N := some 66) (v := undef) (a' := ?_) #[true, true, true, true, true, true, true, true, true, true, true, true, true, true, true, true, true, true, true, true, true, true, true, true, true, true, true, true, false, false, false, false, false, false] rfl rfl (any_of HT_.out (by kernel_rfl)) (fun _ _ _ h => h) (Or.inr ⟨by rfl, rfl⟩) ?_ ?_
             rotate_left
             ·simp only [Act.put, List.setIfInBounds_toArray, List.set_cons_zero, List.set_cons_succ, i64_w, i32_w]
              rfl
             refine pure_ (i := 28) (N := some 67) (v := undef) (a' := ?_) #[true, true, true, true, true, true, true, true, true, true, true, true, true, true, true, true, true, true, true, true, true, true, true, true, true, true, true, true, true, false, false, false, false, false] rfl rfl (any_of HT_.out (by kernel_rfl)) (fun _ _ _ h => h) (Or.inr ⟨by rfl, rfl⟩) ?_ ?_
             rotate_left
             ·simp only [Act.put, List.setIfInBounds_toArray, List.set_cons_zero, List.set_cons_succ, i64_w, i32_w]
              rfl
             refine pure_ (i := 29) (N := some 68) (v := undef) (a' := ?_) #[true, true, true, true, true, true, true, true, true, true, true, true, true, true, true, true, true, true, true, true, true, true, true, true, true, true, true, true, true, true, false, false, false, false] rfl rfl (any_of HT_.out (by kernel_rfl)) (fun _ _ _ h => h) (Or.inr ⟨by rfl, rfl⟩) ?_ ?_
             rotate_left
             ·simp only [Act.put, List.setIfInBounds_toArray, List.set_cons_zero, List.set_cons_succ, i64_w, i32_w]
              rfl
             refine pure_ (i := 30) (N := some 69) (v := undef) (a' := ?_) #[true, true, true, true, true, true, true, true, true, true, true, true, true, true, true, true, true, true, true, true, true, true, true, true, true, true, true, true, true, true, true, false, false, false] rfl rfl (any_of HT_.out (by kernel_rfl)) (fun _ _ _ h => h) (Or.inr ⟨by rfl, rfl⟩) ?_ ?_
             rotate_left
             ·simp only [Act.put, List.setIfInBounds_toArray, List.set_cons_zero, List.set_cons_succ, i64_w, i32_w]
              rfl
             refine pure_ (i := 31) (N := some 70) (v := undef) (a' := ?_) #[true, true, true, true, true, true, true, true, true, true, true, true, true, true, true, true, true, true, true, true, true, true, true, true, true, true, true, true, true, true, true, true, false, false] rfl rfl (any_of HT_.out (by kernel_rfl)) (fun _ _ _ h => h) (Or.inr ⟨by rfl, rfl⟩) ?_ ?_
             rotate_left
             ·simp only [Act.put, List.setIfInBounds_toArray, List.set_cons_zero, List.set_cons_succ, i64_w, i32_w]
              rfl
             refine pure_ (i := 32) (N := some 71) (v := undef) (a' := ?_) #[true, true, true, true, true, true, true, true, true, true, true, true, true, true, true, true, true, true, true, true, true, true, true, true, true, true, true, true, true, true, true, true, true, false] rfl rfl (any_of HT_.out (by kernel_rfl)) (fun _ _ _ h => h) (Or.inr ⟨by rfl, rfl⟩) ?_ ?_
             rotate_left
             ·simp only [Act.put, List.setIfInBounds_toArray, List.set_cons_zero, List.set_cons_succ, i64_w, i32_w]
              rfl
             refine pure_ (i := 33) (N := some 72) (v := ?_) (a' := ?_) #[true, true, true, true, true, true, true, true, true, true, true, true, true, true, true, true, true, true, true, true, true, true, true, true, true, true, true, true, true, true, true, true, true, true] rfl rfl (any_of HT_.out (by kernel_rfl)) (fun _ _ _ h => h) (Or.inl ⟨by rfl, ?_⟩) ?_ ?_
             rotate_left
             ·intro w'
              go_simp
              with_reducible rfl
             rotate_left
             ·simp only [Act.put, List.setIfInBounds_toArray, List.set_cons_zero, List.set_cons_succ, i64_w, i32_w]
              rfl
             refine done_ (done_of HT_.out (by kernel_rfl)) ?_
             try go_wp2
             go_meet
             case rel => exact ⟨_, (true), (by first | rfl | (simp; done) | (simp [*]; done)), H', ⟨by have := HK1.out; have := HJ4.out; have := HJ7.out; first | omega | exact Nat.le_refl _⟩, ⟨by (with_reducible repeat (first | apply Kd.R_alloc | apply Kd.R_drewN | apply Kd.R_drew)); exact HO_3.out⟩, ⟨by (with_reducible repeat (first | apply Kd.R_alloc | apply Kd.R_drewN | apply Kd.R_drew)); exact HO_4.out⟩, ⟨by repeat (first | (with_reducible first | exact HB.out | apply below_alloc | apply pw_below_drewN | apply below_drew1) | exact HB.out)⟩⟩
            ·rw [if_neg c30] at H
             have c30b0 : (t161 != t163) = false := by simpa using c30
             (try (have c30b1 : decide (t161 = t163) = true := by simpa using c30))
             (try (have c30b2 : (t161 == t163) = true := by simpa using c30))
             clear c30
             replace H := Option.bind_eq_some_iff.mp H
             obtain ⟨t165, A340, H⟩ := H
             replace H : (if ((rd_T36 l0 x5_1).f0) ≥ 12 then (posthorselaw17_CodePuts.j3 kj7 l0 x3_7 x4_7 x5_1 (t165 != (decide (((rd_T36 l0 x5_1).f0) ≤ 16)))) else (posthorselaw17_CodePuts.j3 kj7 l0 x3_7 x4_7 x5_1 (t165 != false))) = some r := H
             have A34 := Aside0.mk A340
             clear A340
             by_cases c35 : ((rd_T36 l0 x5_1).f0) ≥ 12
             ·rw [if_pos c35] at H
              have c35b0 : decide (12 ≤ ((rd_T36 l0 x5_1).f0)) = true := decide_eq_true c35
              clear c35
              have H' := Aside0.mk H
              clear H
              try go_wp2
              have n0_ := Aside0.mk (Kd.R_drew HO_3.out)
              have n1_ := Aside0.mk (Kd.R_drew HO_4.out)
              have n2_ := Aside0.mk (below_drew1 HB.out)
              clear HO_3
              clear HO_4
              clear HB
              have HO_3 := n0_
              have HO_4 := n1_
              have HB := n2_
              clear n0_ n1_ n2_
              have p160 : 0 ≤ (x5_1 : Int) := of_decide_eq_true (by first | (with_reducible assumption) | assumption)
              have q160 : x5_1 < (l0.length : Int) := of_decide_eq_true (by first | (with_reducible assumption) | assumption)
              obtain ⟨ad160, e160, hx160_0, hx160_1, hx160_2, hx160_3⟩ := at_T36 HR0.out x5_1 p160 q160
              have hw160_3 := hx160_3
              have hw160_2 := hx160_2
              have hw160_1 := hx160_1
              have hw160_0 := hx160_0
              cases e160
              replace hx160_0 := (HB.out.cell (World.block_lt_of_cell? w _ hx160_0)).trans hx160_0
              replace hx160_1 := (HB.out.cell (World.block_lt_of_cell? w _ hx160_1)).trans hx160_1
              replace hx160_2 := (HB.out.cell (World.block_lt_of_cell? w _ hx160_2)).trans hx160_2
              replace hx160_3 := (HB.out.cell (World.block_lt_of_cell? w _ hx160_3)).trans hx160_3
              replace p160 := eq_true p160
              replace q160 := eq_true q160
              have p162 : 0 ≤ (x5_1 : Int) := of_decide_eq_true (by first | (with_reducible assumption) | assumption)
              have q162 : x5_1 < (l0.length : Int) := of_decide_eq_true (by first | (with_reducible assumption) | assumption)
              obtain ⟨ad162, e162, hx162_0, hx162_1, hx162_2, hx162_3⟩ := at_T36 HR0.out x5_1 p162 q162
              have hw162_3 := hx162_3
              have hw162_2 := hx162_2
              have hw162_1 := hx162_1
              have hw162_0 := hx162_0
              obtain rfl : ad160 = ad162 := (by injection e162)
              replace hx162_0 := (HB.out.cell (World.block_lt_of_cell? w _ hx162_0)).trans hx162_0
              replace hx162_1 := (HB.out.cell (World.block_lt_of_cell? w _ hx162_1)).trans hx162_1
              replace hx162_2 := (HB.out.cell (World.block_lt_of_cell? w _ hx162_2)).trans hx162_2
              replace hx162_3 := (HB.out.cell (World.block_lt_of_cell? w _ hx162_3)).trans hx162_3
              replace p162 := eq_true p162
              replace q162 := eq_true q162
              have p164 : 0 ≤ (x5_1 : Int) := of_decide_eq_true (by first | (with_reducible assumption) | assumption)
              have q164 : x5_1 < (l0.length : Int) := of_decide_eq_true (by first | (with_reducible assumption) | assumption)
              obtain ⟨ad164, e164, hx164_0, hx164_1, hx164_2, hx164_3⟩ := at_T36 HR0.out x5_1 p164 q164
              have hw164_3 := hx164_3
              have hw164_2 := hx164_2
              have hw164_1 := hx164_1
              have hw164_0 := hx164_0
              obtain rfl : ad160 = ad164 := (by injection e164)
              replace hx164_0 := (HB.out.cell (World.block_lt_of_cell? w _ hx164_0)).trans hx164_0
              replace hx164_1 := (HB.out.cell (World.block_lt_of_cell? w _ hx164_1)).trans hx164_1
              replace hx164_2 := (HB.out.cell (World.block_lt_of_cell? w _ hx164_2)).trans hx164_2
              replace hx164_3 := (HB.out.cell (World.block_lt_of_cell? w _ hx164_3)).trans hx164_3
              replace p164 := eq_true p164
              replace q164 := eq_true q164
              have p166 : 0 ≤ (x5_1 : Int) := of_decide_eq_true (by first | (with_reducible assumption) | assumption)
              have q166 : x5_1 < (l0.length : Int) := of_decide_eq_true (by first | (with_reducible assumption) | assumption)
              obtain ⟨ad166, e166, hx166_0, hx166_1, hx166_2, hx166_3⟩ := at_T36 HR0.out x5_1 p166 q166
              have hw166_3 := hx166_3
              have hw166_2 := hx166_2
              have hw166_1 := hx166_1
              have hw166_0 := hx166_0
              obtain rfl : ad160 = ad166 := (by injection e166)
              replace hx166_0 := (HB.out.cell (World.block_lt_of_cell? w _ hx166_0)).trans hx166_0
              replace hx166_1 := (HB.out.cell (World.block_lt_of_cell? w _ hx166_1)).trans hx166_1
              replace hx166_2 := (HB.out.cell (World.block_lt_of_cell? w _ hx166_2)).trans hx166_2
              replace hx166_3 := (HB.out.cell (World.block_lt_of_cell? w _ hx166_3)).trans hx166_3
              replace p166 := eq_true p166
              replace q166 := eq_true q166
              have p167 : 0 ≤ (x5_1 : Int) := of_decide_eq_true (by first | (with_reducible assumption) | assumption)
              have q167 : x5_1 < (l0.length : Int) := of_decide_eq_true (by first | (with_reducible assumption) | assumption)
              obtain ⟨ad167, e167, hx167_0, hx167_1, hx167_2, hx167_3⟩ := at_T36 HR0.out x5_1 p167 q167
              have hw167_3 := hx167_3
              have hw167_2 := hx167_2
              have hw167_1 := hx167_1
              have hw167_0 := hx167_0
              obtain rfl : ad160 = ad167 := (by injection e167)
              replace hx167_0 := (HB.out.cell (World.block_lt_of_cell? w _ hx167_0)).trans hx167_0
              replace hx167_1 := (HB.out.cell (World.block_lt_of_cell? w _ hx167_1)).trans hx167_1
              replace hx167_2 := (HB.out.cell (World.block_lt_of_cell? w _ hx167_2)).trans hx167_2
              replace hx167_3 := (HB.out.cell (World.block_lt_of_cell? w _ hx167_3)).trans hx167_3
              replace p167 := eq_true p167
              replace q167 := eq_true q167
              refine start_ (n := 34) (S := fun w' => w'.cell? (ad160.add ((x5_1).toNat * 4)) = some (.int .i64 ((rd_T36 l0 x5_1).f0)) ∧ w'.cell? ⟨(ad160.add ((x5_1).toNat * 4)).block, (ad160.add ((x5_1).toNat * 4)).off + 1, none⟩ = some (.int .i64 ((rd_T36 l0 x5_1).f1)) ∧ w'.cell? ⟨(ad160.add ((x5_1).toNat * 4)).block, (ad160.add ((x5_1).toNat * 4)).off + 2, none⟩ = some (.int .i64 ((rd_T36 l0 x5_1).f2)) ∧ w'.cell? ⟨(ad160.add ((x5_1).toNat * 4)).block, (ad160.add ((x5_1).toNat * 4)).off + 3, none⟩ = some (.int .i64 ((rd_T36 l0 x5_1).f3)) ∧ w'.cell? (ad160.add ((x5_1).toNat * 4)) = some (.int .i64 ((rd_T36 l0 x5_1).f0)) ∧ w'.cell? ⟨(ad160.add ((x5_1).toNat * 4)).block, (ad160.add ((x5_1).toNat * 4)).off + 1, none⟩ = some (.int .i64 ((rd_T36 l0 x5_1).f1)) ∧ w'.cell? ⟨(ad160.add ((x5_1).toNat * 4)).block, (ad160.add ((x5_1).toNat * 4)).off + 2, none⟩ = some (.int .i64 ((rd_T36 l0 x5_1).f2)) ∧ w'.cell? ⟨(ad160.add ((x5_1).toNat * 4)).block, (ad160.add ((x5_1).toNat * 4)).off + 3, none⟩ = some (.int .i64 ((rd_T36 l0 x5_1).f3)) ∧ w'.cell? (ad160.add ((x5_1).toNat * 4)) = some (.int .i64 ((rd_T36 l0 x5_1).f0)) ∧ w'.cell? ⟨(ad160.add ((x5_1).toNat * 4)).block, (ad160.add ((x5_1).toNat * 4)).off + 1, none⟩ = some (.int .i64 ((rd_T36 l0 x5_1).f1)) ∧ w'.cell? ⟨(ad160.add ((x5_1).toNat * 4)).block, (ad160.add ((x5_1).toNat * 4)).off + 2, none⟩ = some (.int .i64 ((rd_T36 l0 x5_1).f2)) ∧ w'.cell? ⟨(ad160.add ((x5_1).toNat * 4)).block, (ad160.add ((x5_1).toNat * 4)).off + 3, none⟩ = some (.int .i64 ((rd_T36 l0 x5_1).f3)) ∧ w'.cell? (ad160.add ((x5_1).toNat * 4)) = some (.int .i64 ((rd_T36 l0 x5_1).f0)) ∧ w'.cell? ⟨(ad160.add ((x5_1).toNat * 4)).block, (ad160.add ((x5_1).toNat * 4)).off + 1, none⟩ = some (.int .i64 ((rd_T36 l0 x5_1).f1)) ∧ w'.cell? ⟨(ad160.add ((x5_1).toNat * 4)).block, (ad160.add ((x5_1).toNat * 4)).off + 2, none⟩ = some (.int .i64 ((rd_T36 l0 x5_1).f2)) ∧ w'.cell? ⟨(ad160.add ((x5_1).toNat * 4)).block, (ad160.add ((x5_1).toNat * 4)).off + 3, none⟩ = some (.int .i64 ((rd_T36 l0 x5_1).f3)) ∧ w'.cell? (ad160.add ((x5_1).toNat * 4)) = some (.int .i64 ((rd_T36 l0 x5_1).f0)) ∧ w'.cell? ⟨(ad160.add ((x5_1).toNat * 4)).block, (ad160.add ((x5_1).toNat * 4)).off + 1, none⟩ = some (.int .i64 ((rd_T36 l0 x5_1).f1)) ∧ w'.cell? ⟨(ad160.add ((x5_1).toNat * 4)).block, (ad160.add ((x5_1).toNat * 4)).off + 2, none⟩ = some (.int .i64 ((rd_T36 l0 x5_1).f2)) ∧ w'.cell? ⟨(ad160.add ((x5_1).toNat * 4)).block, (ad160.add ((x5_1).toNat * 4)).off + 3, none⟩ = some (.int .i64 ((rd_T36 l0 x5_1).f3))) (ds := []) #[false, false, false, false, false, false, false, false, false, false, false, false, false, false, false, false, false, false, false, false, false, false, false, false, false, false, false, false, false, false, false, false, false, false] (by kernel_rfl) rfl rfl ⟨((HB.out.cell (World.block_lt_of_cell? w _ hw160_0)).trans hw160_0), ((HB.out.cell (World.block_lt_of_cell? w _ hw160_1)).trans hw160_1), ((HB.out.cell (World.block_lt_of_cell? w _ hw160_2)).trans hw160_2), ((HB.out.cell (World.block_lt_of_cell? w _ hw160_3)).trans hw160_3), ((HB.out.cell (World.block_lt_of_cell? w _ hw162_0)).trans hw162_0), ((HB.out.cell (World.block_lt_of_cell? w _ hw162_1)).trans hw162_1), ((HB.out.cell (World.block_lt_of_cell? w _ hw162_2)).trans hw162_2), ((HB.out.cell (World.block_lt_of_cell? w _ hw162_3)).trans hw162_3), ((HB.out.cell (World.block_lt_of_cell? w _ hw164_0)).trans hw164_0), ((HB.out.cell (World.block_lt_of_cell? w _ hw164_1)).trans hw164_1), ((HB.out.cell (World.block_lt_of_cell? w _ hw164_2)).trans hw164_2), ((HB.out.cell (World.block_lt_of_cell? w _ hw164_3)).trans hw164_3), ((HB.out.cell (World.block_lt_of_cell? w _ hw166_0)).trans hw166_0), ((HB.out.cell (World.block_lt_of_cell? w _ hw166_1)).trans hw166_1), ((HB.out.cell (World.block_lt_of_cell? w _ hw166_2)).trans hw166_2), ((HB.out.cell (World.block_lt_of_cell? w _ hw166_3)).trans hw166_3), ((HB.out.cell (World.block_lt_of_cell? w _ hw167_0)).trans hw167_0), ((HB.out.cell (World.block_lt_of_cell? w _ hw167_1)).trans hw167_1), ((HB.out.cell (World.block_lt_of_cell? w _ hw167_2)).trans hw167_2), ((HB.out.cell (World.block_lt_of_cell? w _ hw167_3)).trans hw167_3)⟩ (fun hHeld => ?_); refine with_tabW posthorselaw17_CodePuts.tab9 posthorselaw17_CodePuts.bits9 (fun HT_ HW_ => ?_)
              generalize wc.drew = w36 at HO_3 HO_4 HB hx160_0 hx160_1 hx160_2 hx160_3 hx162_0 hx162_1 hx162_2 hx162_3 hx164_0 hx164_1 hx164_2 hx164_3 hx166_0 hx166_1 hx166_2 hx166_3 hx167_0 hx167_1 hx167_2 hx167_3 hHeld ⊢
              refine pure_ (i := 0) (N := some 39) (v := ?_) (a' := ?_) #[true, false, false, false, false, false, false, false, false, false, false, false, false, false, false, false, false, false, false, false, false, false, false, false, false, false, false, false, false, false, false, false, false, false] rfl rfl (any_of HT_.out (by kernel_rfl)) (fun _ _ _ h => h) (Or.inl ⟨by rfl, ?_⟩) ?_ ?_
              rotate_left
              ·intro w'
               go_simp
               with_reducible rfl
              rotate_left
              ·simp only [Act.put, List.setIfInBounds_toArray, List.set_cons_zero, List.set_cons_succ, i64_w, i32_w]
               rfl
              refine pure_ (i := 1) (N := some 40) (v := ?_) (a' := ?_) #[true, true, false, false, false, false, false, false, false, false, false, false, false, false, false, false, false, false, false, false, false, false, false, false, false, false, false, false, false, false, false, false, false, false] rfl rfl (any_of HT_.out (by kernel_rfl)) (fun _ _ _ h => h) (Or.inl ⟨by rfl, ?_⟩) ?_ ?_
              rotate_left
              ·intro w'
               go_simp
               with_reducible rfl
              rotate_left
              ·simp only [Act.put, List.setIfInBounds_toArray, List.set_cons_zero, List.set_cons_succ, i64_w, i32_w]
               rfl
              refine pure_ (i := 2) (N := some 41) (v := ?_) (a' := ?_) #[true, true, true, false, false, false, false, false, false, false, false, false, false, false, false, false, false, false, false, false, false, false, false, false, false, false, false, false, false, false, false, false, false, false] rfl rfl (any_of HT_.out (by kernel_rfl)) (fun _ _ _ h => h) (Or.inl ⟨by rfl, ?_⟩) ?_ ?_
              rotate_left
              ·intro w'
               go_simp
               with_reducible rfl
              rotate_left
              ·simp only [Act.put, List.setIfInBounds_toArray, List.set_cons_zero, List.set_cons_succ, i64_w, i32_w]
               rfl
              refine pure_ (i := 5) (N := some 44) (v := ?_) (a' := ?_) #[true, true, true, false, false, true, false, false, false, false, false, false, false, false, false, false, false, false, false, false, false, false, false, false, false, false, false, false, false, false, false, false, false, false] rfl rfl (any_of HT_.out (by kernel_rfl)) (fun _ _ _ h => h) (Or.inl ⟨by rfl, ?_⟩) ?_ ?_
              rotate_left
              ·intro w'
               go_simp
               with_reducible rfl
              rotate_left
              ·simp only [Act.put, List.setIfInBounds_toArray, List.set_cons_zero, List.set_cons_succ, i64_w, i32_w]
               rfl
              refine pure_ (i := 6) (N := some 45) (v := ?_) (a' := ?_) #[true, true, true, false, false, true, true, false, false, false, false, false, false, false, false, false, false, false, false, false, false, false, false, false, false, false, false, false, false, false, false, false, false, false] rfl rfl (any_of HT_.out (by kernel_rfl)) (fun _ _ _ h => h) (Or.inl ⟨by rfl, ?_⟩) ?_ ?_
              rotate_left
              ·intro w'
               go_simp
               with_reducible rfl
              rotate_left
              ·simp only [Act.put, List.setIfInBounds_toArray, List.set_cons_zero, List.set_cons_succ, i64_w, i32_w]
               rfl
              refine pure_ (i := 7) (N := some 46) (v := ?_) (a' := ?_) #[true, true, true, false, false, true, true, true, false, false, false, false, false, false, false, false, false, false, false, false, false, false, false, false, false, false, false, false, false, false, false, false, false, false] rfl rfl (any_of HT_.out (by kernel_rfl)) (fun _ _ _ h => h) (Or.inl ⟨by rfl, ?_⟩) ?_ ?_
              rotate_left
              ·intro w'
               go_simp
               with_reducible rfl
              rotate_left
              ·simp only [Act.put, List.setIfInBounds_toArray, List.set_cons_zero, List.set_cons_succ, i64_w, i32_w]
               rfl
              refine take_ (i := 3) (N := some 42) (v := ?_) (a' := ?_) #[true, true, true, true, false, true, true, true, false, false, false, false, false, false, false, false, false, false, false, false, false, false, false, false, false, false, false, false, false, false, false, false, false, false] rfl rfl (take_ofW HT_.out HW_.out (by kernel_rfl)) (fun _ _ _ h => h) (Or.inl ⟨by rfl, ?_⟩) hHeld ?_ ?_
              rotate_left
              ·rintro w' ⟨s0, s1, s2, s3, s4, s5, s6, s7, s8, s9, s10, s11, s12, s13, s14, s15, s16, s17, s18, s19⟩
               go_simp
               with_reducible rfl
              rotate_left
              ·simp only [Act.put, List.setIfInBounds_toArray, List.set_cons_zero, List.set_cons_succ, i64_w, i32_w]
               rfl
              refine take_ (i := 8) (N := some 47) (v := ?_) (a' := ?_) #[true, true, true, true, false, true, true, true, true, false, false, false, false, false, false, false, false, false, false, false, false, false, false, false, false, false, false, false, false, false, false, false, false, false] rfl rfl (take_ofW HT_.out HW_.out (by kernel_rfl)) (fun _ _ _ h => h) (Or.inl ⟨by rfl, ?_⟩) hHeld ?_ ?_
              rotate_left
              ·rintro w' ⟨s0, s1, s2, s3, s4, s5, s6, s7, s8, s9, s10, s11, s12, s13, s14, s15, s16, s17, s18, s19⟩
               go_simp
               with_reducible rfl
              rotate_left
              ·simp only [Act.put, List.setIfInBounds_toArray, List.set_cons_zero, List.set_cons_succ, i64_w, i32_w]
               rfl
              refine one_ (i := 4) (N := some 43) #[true, true, true, true, true, true, true, true, true, false, false, false, false, false, false, false, false, false, false, false, false, false, false, false, false, false, false, false, false, false, false, false, false, false] rfl rfl (one_of HT_.out (by kernel_rfl)) (by decide) (fun K hK => ?_)
              refine goes_ Tryd.func11 (by kernel_rfl) rfl #[.agg #[.int .i64 ((rd_T36 l0 x5_1).f0), .int .i64 ((rd_T36 l0 x5_1).f1), .int .i64 ((rd_T36 l0 x5_1).f2), .int .i64 ((rd_T36 l0 x5_1).f3)]] (by rfl) rfl rfl (by (try simp only [List.map_toArray, List.map_cons, List.map_nil]); first | done | rfl | (simp only [List.length_drop, List.length_take]; rfl) | (simp only [decide_eq_true_eq, decide_eq_false_iff_not, eq_iff_iff, iff_true, iff_false] at *; have w_id : ∀ {n : Int}, -9223372036854775808 ≤ n → n ≤ 9223372036854775807 → wrap64 n = n := fun h0 h1 => (by unfold wrap64; omega); rw [w_id (by omega) (by omega)]; rfl)) ?_
              with_reducible refine (code_Right.calls kj7 ((rd_T36 l0 x5_1).f0) ((rd_T36 l0 x5_1).f1) ((rd_T36 l0 x5_1).f2) ((rd_T36 l0 x5_1).f3) t161 _ A28.out).mono ?_
              rintro e w37 ⟨rfl, hb⟩
              refine ⟨_, rfl, ?_⟩
              have n0_ := Aside0.mk (Kd.R_below (by (with_reducible repeat (first | apply Kd.R_alloc | apply Kd.R_drewN | apply Kd.R_drew)); exact HO_3.out) hb)
              have n1_ := Aside0.mk (Kd.R_below (by (with_reducible repeat (first | apply Kd.R_alloc | apply Kd.R_drewN | apply Kd.R_drew)); exact HO_4.out) hb)
              have n2_ := Aside0.mk (below_step (by repeat (first | (with_reducible first | exact HB.out | apply below_alloc | apply pw_below_drewN | apply below_drew1) | exact HB.out)) hb)
              clear HO_3
              clear HO_4
              clear HB
              have HO_3 := n0_
              have HO_4 := n1_
              have HB := n2_
              clear n0_ n1_ n2_
              (try clear hb)
              (try clear hb2)
              (try clear hk)
              (try clear hi)
              refine hK.out _ _ ⟨((HB.out.cell (World.block_lt_of_cell? w _ hw160_0)).trans hw160_0), ((HB.out.cell (World.block_lt_of_cell? w _ hw160_1)).trans hw160_1), ((HB.out.cell (World.block_lt_of_cell? w _ hw160_2)).trans hw160_2), ((HB.out.cell (World.block_lt_of_cell? w _ hw160_3)).trans hw160_3), ((HB.out.cell (World.block_lt_of_cell? w _ hw162_0)).trans hw162_0), ((HB.out.cell (World.block_lt_of_cell? w _ hw162_1)).trans hw162_1), ((HB.out.cell (World.block_lt_of_cell? w _ hw162_2)).trans hw162_2), ((HB.out.cell (World.block_lt_of_cell? w _ hw162_3)).trans hw162_3), ((HB.out.cell (World.block_lt_of_cell? w _ hw164_0)).trans hw164_0), ((HB.out.cell (World.block_lt_of_cell? w _ hw164_1)).trans hw164_1), ((HB.out.cell (World.block_lt_of_cell? w _ hw164_2)).trans hw164_2), ((HB.out.cell (World.block_lt_of_cell? w _ hw164_3)).trans hw164_3), ((HB.out.cell (World.block_lt_of_cell? w _ hw166_0)).trans hw166_0), ((HB.out.cell (World.block_lt_of_cell? w _ hw166_1)).trans hw166_1), ((HB.out.cell (World.block_lt_of_cell? w _ hw166_2)).trans hw166_2), ((HB.out.cell (World.block_lt_of_cell? w _ hw166_3)).trans hw166_3), ((HB.out.cell (World.block_lt_of_cell? w _ hw167_0)).trans hw167_0), ((HB.out.cell (World.block_lt_of_cell? w _ hw167_1)).trans hw167_1), ((HB.out.cell (World.block_lt_of_cell? w _ hw167_2)).trans hw167_2), ((HB.out.cell (World.block_lt_of_cell? w _ hw167_3)).trans hw167_3)⟩ (fun hHeld => ?_)
              clear hK K
              refine norm_ (a' := ?_) ?_ ?_
              rotate_left
              ·show Act.put _ (some 43) _ = _
               simp only [Act.put, List.setIfInBounds_toArray, List.set_cons_zero, List.set_cons_succ, i64_w, i32_w]
               rfl
              refine one_ (i := 9) (N := some 48) #[true, true, true, true, true, true, true, true, true, true, false, false, false, false, false, false, false, false, false, false, false, false, false, false, false, false, false, false, false, false, false, false, false, false] rfl rfl (one_of HT_.out (by kernel_rfl)) (by decide) (fun K hK => ?_)
              refine goes_ Tryd.func12 (by kernel_rfl) rfl #[.agg #[.int .i64 ((rd_T36 l0 x5_1).f0), .int .i64 ((rd_T36 l0 x5_1).f1), .int .i64 ((rd_T36 l0 x5_1).f2), .int .i64 ((rd_T36 l0 x5_1).f3)]] (by rfl) rfl rfl (by (try simp only [List.map_toArray, List.map_cons, List.map_nil]); first | done | rfl | (simp only [List.length_drop, List.length_take]; rfl) | (simp only [decide_eq_true_eq, decide_eq_false_iff_not, eq_iff_iff, iff_true, iff_false] at *; have w_id : ∀ {n : Int}, -9223372036854775808 ≤ n → n ≤ 9223372036854775807 → wrap64 n = n := fun h0 h1 => (by unfold wrap64; omega); rw [w_id (by omega) (by omega)]; rfl)) ?_
              with_reducible refine (posthorseref17_Right.calls kj7 ((rd_T36 l0 x5_1).f0) ((rd_T36 l0 x5_1).f1) ((rd_T36 l0 x5_1).f2) ((rd_T36 l0 x5_1).f3) t163 _ A29.out).mono ?_
              rintro e w38 ⟨rfl, hb⟩
              refine ⟨_, rfl, ?_⟩
              have n0_ := Aside0.mk (Kd.R_below (by (with_reducible repeat (first | apply Kd.R_alloc | apply Kd.R_drewN | apply Kd.R_drew)); exact HO_3.out) hb)
              have n1_ := Aside0.mk (Kd.R_below (by (with_reducible repeat (first | apply Kd.R_alloc | apply Kd.R_drewN | apply Kd.R_drew)); exact HO_4.out) hb)
              have n2_ := Aside0.mk (below_step (by repeat (first | (with_reducible first | exact HB.out | apply below_alloc | apply pw_below_drewN | apply below_drew1) | exact HB.out)) hb)
              clear HO_3
              clear HO_4
              clear HB
              have HO_3 := n0_
              have HO_4 := n1_
              have HB := n2_
              clear n0_ n1_ n2_
              (try clear hb)
              (try clear hb2)
              (try clear hk)
              (try clear hi)
              refine hK.out _ _ ⟨((HB.out.cell (World.block_lt_of_cell? w _ hw160_0)).trans hw160_0), ((HB.out.cell (World.block_lt_of_cell? w _ hw160_1)).trans hw160_1), ((HB.out.cell (World.block_lt_of_cell? w _ hw160_2)).trans hw160_2), ((HB.out.cell (World.block_lt_of_cell? w _ hw160_3)).trans hw160_3), ((HB.out.cell (World.block_lt_of_cell? w _ hw162_0)).trans hw162_0), ((HB.out.cell (World.block_lt_of_cell? w _ hw162_1)).trans hw162_1), ((HB.out.cell (World.block_lt_of_cell? w _ hw162_2)).trans hw162_2), ((HB.out.cell (World.block_lt_of_cell? w _ hw162_3)).trans hw162_3), ((HB.out.cell (World.block_lt_of_cell? w _ hw164_0)).trans hw164_0), ((HB.out.cell (World.block_lt_of_cell? w _ hw164_1)).trans hw164_1), ((HB.out.cell (World.block_lt_of_cell? w _ hw164_2)).trans hw164_2), ((HB.out.cell (World.block_lt_of_cell? w _ hw164_3)).trans hw164_3), ((HB.out.cell (World.block_lt_of_cell? w _ hw166_0)).trans hw166_0), ((HB.out.cell (World.block_lt_of_cell? w _ hw166_1)).trans hw166_1), ((HB.out.cell (World.block_lt_of_cell? w _ hw166_2)).trans hw166_2), ((HB.out.cell (World.block_lt_of_cell? w _ hw166_3)).trans hw166_3), ((HB.out.cell (World.block_lt_of_cell? w _ hw167_0)).trans hw167_0), ((HB.out.cell (World.block_lt_of_cell? w _ hw167_1)).trans hw167_1), ((HB.out.cell (World.block_lt_of_cell? w _ hw167_2)).trans hw167_2), ((HB.out.cell (World.block_lt_of_cell? w _ hw167_3)).trans hw167_3)⟩ (fun hHeld => ?_)
              clear hK K
              refine norm_ (a' := ?_) ?_ ?_
              rotate_left
              ·show Act.put _ (some 48) _ = _
               simp only [Act.put, List.setIfInBounds_toArray, List.set_cons_zero, List.set_cons_succ, i64_w, i32_w]
               rfl
              refine pure_ (i := 10) (N := some 49) (v := ?_) (a' := ?_) #[true, true, true, true, true, true, true, true, true, true, true, false, false, false, false, false, false, false, false, false, false, false, false, false, false, false, false, false, false, false, false, false, false, false] rfl rfl (any_of HT_.out (by kernel_rfl)) (fun _ _ _ h => h) (Or.inl ⟨by rfl, ?_⟩) ?_ ?_
              rotate_left
              ·intro w'
               go_simp
               with_reducible rfl
              rotate_left
              ·simp only [Act.put, List.setIfInBounds_toArray, List.set_cons_zero, List.set_cons_succ, i64_w, i32_w]
               rfl
              refine pure_ (i := 11) (N := some 50) (v := ?_) (a' := ?_) #[true, true, true, true, true, true, true, true, true, true, true, true, false, false, false, false, false, false, false, false, false, false, false, false, false, false, false, false, false, false, false, false, false, false] rfl rfl (any_of HT_.out (by kernel_rfl)) (fun _ _ _ h => h) (Or.inl ⟨by rfl, ?_⟩) ?_ ?_
              rotate_left
              ·intro w'
               go_simp
               with_reducible rfl
              rotate_left
              ·simp only [Act.put, List.setIfInBounds_toArray, List.set_cons_zero, List.set_cons_succ, i64_w, i32_w]
               rfl
              refine pure_ (i := 12) (N := some 51) (v := ?_) (a' := ?_) #[true, true, true, true, true, true, true, true, true, true, true, true, true, false, false, false, false, false, false, false, false, false, false, false, false, false, false, false, false, false, false, false, false, false] rfl rfl (any_of HT_.out (by kernel_rfl)) (fun _ _ _ h => h) (Or.inl ⟨by rfl, ?_⟩) ?_ ?_
              rotate_left
              ·intro w'
               go_simp
               with_reducible rfl
              rotate_left
              ·simp only [Act.put, List.setIfInBounds_toArray, List.set_cons_zero, List.set_cons_succ, i64_w, i32_w]
               rfl
              refine pure_ (i := 13) (N := some 52) (v := ?_) (a' := ?_) #[true, true, true, true, true, true, true, true, true, true, true, true, true, true, false, false, false, false, false, false, false, false, false, false, false, false, false, false, false, false, false, false, false, false] rfl rfl (any_of HT_.out (by kernel_rfl)) (fun _ _ _ h => h) (Or.inl ⟨by rfl, ?_⟩) ?_ ?_
              rotate_left
              ·intro w'
               go_simp
               with_reducible rfl
              rotate_left
              ·simp only [Act.put, List.setIfInBounds_toArray, List.set_cons_zero, List.set_cons_succ, i64_w, i32_w]
               rfl
              refine pure_ (i := 14) (N := some 53) (v := ?_) (a' := ?_) #[true, true, true, true, true, true, true, true, true, true, true, true, true, true, true, false, false, false, false, false, false, false, false, false, false, false, false, false, false, false, false, false, false, false] rfl rfl (any_of HT_.out (by kernel_rfl)) (fun _ _ _ h => h) (Or.inl ⟨by rfl, ?_⟩) ?_ ?_
              rotate_left
              ·intro w'
               go_simp
               with_reducible rfl
              rotate_left
              ·simp only [Act.put, List.setIfInBounds_toArray, List.set_cons_zero, List.set_cons_succ, i64_w, i32_w]
               rfl
              refine pure_ (i := 15) (N := some 54) (v := ?_) (a' := ?_) #[true, true, true, true, true, true, true, true, true, true, true, true, true, true, true, true, false, false, false, false, false, false, false, false, false, false, false, false, false, false, false, false, false, false] rfl rfl (any_of HT_.out (by kernel_rfl)) (fun _ _ _ h => h) (Or.inl ⟨by rfl, ?_⟩) ?_ ?_
              rotate_left
              ·intro w'
               go_simp
               with_reducible rfl
              rotate_left
              ·simp only [Act.put, List.setIfInBounds_toArray, List.set_cons_zero, List.set_cons_succ, i64_w, i32_w]
               rfl
              refine pure_ (i := 18) (N := some 57) (v := ?_) (a' := ?_) #[true, true, true, true, true, true, true, true, true, true, true, true, true, true, true, true, false, false, true, false, false, false, false, false, false, false, false, false, false, false, false, false, false, false] rfl rfl (any_of HT_.out (by kernel_rfl)) (fun _ _ _ h => h) (Or.inl ⟨by rfl, ?_⟩) ?_ ?_
              rotate_left
              ·intro w'
               go_simp
               with_reducible rfl
              rotate_left
              ·simp only [Act.put, List.setIfInBounds_toArray, List.set_cons_zero, List.set_cons_succ, i64_w, i32_w]
               rfl
              refine pure_ (i := 19) (N := some 58) (v := ?_) (a' := ?_) #[true, true, true, true, true, true, true, true, true, true, true, true, true, true, true, true, false, false, true, true, false, false, false, false, false, false, false, false, false, false, false, false, false, false] rfl rfl (any_of HT_.out (by kernel_rfl)) (fun _ _ _ h => h) (Or.inl ⟨by rfl, ?_⟩) ?_ ?_
              rotate_left
              ·intro w'
               go_simp
               with_reducible rfl
              rotate_left
              ·simp only [Act.put, List.setIfInBounds_toArray, List.set_cons_zero, List.set_cons_succ, i64_w, i32_w]
               rfl
              refine pure_ (i := 20) (N := some 59) (v := ?_) (a' := ?_) #[true, true, true, true, true, true, true, true, true, true, true, true, true, true, true, true, false, false, true, true, true, false, false, false, false, false, false, false, false, false, false, false, false, false] rfl rfl (any_of HT_.out (by kernel_rfl)) (fun _ _ _ h => h) (Or.inl ⟨by rfl, ?_⟩) ?_ ?_
              rotate_left
              ·intro w'
               go_simp
               with_reducible rfl
              rotate_left
              ·simp only [Act.put, List.setIfInBounds_toArray, List.set_cons_zero, List.set_cons_succ, i64_w, i32_w]
               rfl
              refine pure_ (i := 21) (N := some 60) (v := ?_) (a' := ?_) #[true, true, true, true, true, true, true, true, true, true, true, true, true, true, true, true, false, false, true, true, true, true, false, false, false, false, false, false, false, false, false, false, false, false] rfl rfl (any_of HT_.out (by kernel_rfl)) (fun _ _ _ h => h) (Or.inl ⟨by rfl, ?_⟩) ?_ ?_
              rotate_left
              ·intro w'
               go_simp
               with_reducible rfl
              rotate_left
              ·simp only [Act.put, List.setIfInBounds_toArray, List.set_cons_zero, List.set_cons_succ, i64_w, i32_w]
               rfl
              refine take_ (i := 16) (N := some 55) (v := ?_) (a' := ?_) #[true, true, true, true, true, true, true, true, true, true, true, true, true, true, true, true, true, false, true, true, true, true, false, false, false, false, false, false, false, false, false, false, false, false] rfl rfl (take_ofW HT_.out HW_.out (by kernel_rfl)) (fun _ _ _ h => h) (Or.inl ⟨by rfl, ?_⟩) hHeld ?_ ?_
              rotate_left
              ·rintro w' ⟨s0, s1, s2, s3, s4, s5, s6, s7, s8, s9, s10, s11, s12, s13, s14, s15, s16, s17, s18, s19⟩
               go_simp
               with_reducible rfl
              rotate_left
              ·simp only [Act.put, List.setIfInBounds_toArray, List.set_cons_zero, List.set_cons_succ, i64_w, i32_w]
               rfl
              refine take_ (i := 22) (N := some 61) (v := ?_) (a' := ?_) #[true, true, true, true, true, true, true, true, true, true, true, true, true, true, true, true, true, false, true, true, true, true, true, false, false, false, false, false, false, false, false, false, false, false] rfl rfl (take_ofW HT_.out HW_.out (by kernel_rfl)) (fun _ _ _ h => h) (Or.inl ⟨by rfl, ?_⟩) hHeld ?_ ?_
              rotate_left
              ·rintro w' ⟨s0, s1, s2, s3, s4, s5, s6, s7, s8, s9, s10, s11, s12, s13, s14, s15, s16, s17, s18, s19⟩
               go_simp
               with_reducible rfl
              rotate_left
              ·simp only [Act.put, List.setIfInBounds_toArray, List.set_cons_zero, List.set_cons_succ, i64_w, i32_w]
               rfl
              refine pure_ (i := 23) (N := some 62) (v := ?_) (a' := ?_) #[true, true, true, true, true, true, true, true, true, true, true, true, true, true, true, true, true, false, true, true, true, true, true, true, false, false, false, false, false, false, false, false, false, false] rfl rfl (any_of HT_.out (by kernel_rfl)) (fun _ _ _ h => h) (Or.inl ⟨by rfl, ?_⟩) ?_ ?_
              rotate_left
              ·intro w'
               go_simp
               with_reducible rfl
              rotate_left
              ·simp only [Act.put, List.setIfInBounds_toArray, List.set_cons_zero, List.set_cons_succ, i64_w, i32_w]
               rfl
              refine one_ (i := 17) (N := some 56) #[true, true, true, true, true, true, true, true, true, true, true, true, true, true, true, true, true, true, true, true, true, true, true, true, false, false, false, false, false, false, false, false, false, false] rfl rfl (one_of HT_.out (by kernel_rfl)) (by decide) (fun K hK => ?_)
              refine goes_ Tryd.func13 (by kernel_rfl) rfl #[.int .i64 ((rd_T36 l0 x5_1).f0)] (by rfl) rfl rfl (by (try simp only [List.map_toArray, List.map_cons, List.map_nil]); first | done | rfl | (simp only [List.length_drop, List.length_take]; rfl) | (simp only [decide_eq_true_eq, decide_eq_false_iff_not, eq_iff_iff, iff_true, iff_false] at *; have w_id : ∀ {n : Int}, -9223372036854775808 ≤ n → n ≤ 9223372036854775807 → wrap64 n = n := fun h0 h1 => (by unfold wrap64; omega); rw [w_id (by omega) (by omega)]; rfl)) ?_
              with_reducible refine (code_Jumps.calls ((rd_T36 l0 x5_1).f0) t165 _ A34.out).mono ?_
              rintro e w' ⟨rfl, ⟨nd, rfl⟩⟩
              refine ⟨_, rfl, ?_⟩
              refine hK.out _ _ ⟨((HB.out.cell (World.block_lt_of_cell? w _ hw160_0)).trans hw160_0), ((HB.out.cell (World.block_lt_of_cell? w _ hw160_1)).trans hw160_1), ((HB.out.cell (World.block_lt_of_cell? w _ hw160_2)).trans hw160_2), ((HB.out.cell (World.block_lt_of_cell? w _ hw160_3)).trans hw160_3), ((HB.out.cell (World.block_lt_of_cell? w _ hw162_0)).trans hw162_0), ((HB.out.cell (World.block_lt_of_cell? w _ hw162_1)).trans hw162_1), ((HB.out.cell (World.block_lt_of_cell? w _ hw162_2)).trans hw162_2), ((HB.out.cell (World.block_lt_of_cell? w _ hw162_3)).trans hw162_3), ((HB.out.cell (World.block_lt_of_cell? w _ hw164_0)).trans hw164_0), ((HB.out.cell (World.block_lt_of_cell? w _ hw164_1)).trans hw164_1), ((HB.out.cell (World.block_lt_of_cell? w _ hw164_2)).trans hw164_2), ((HB.out.cell (World.block_lt_of_cell? w _ hw164_3)).trans hw164_3), ((HB.out.cell (World.block_lt_of_cell? w _ hw166_0)).trans hw166_0), ((HB.out.cell (World.block_lt_of_cell? w _ hw166_1)).trans hw166_1), ((HB.out.cell (World.block_lt_of_cell? w _ hw166_2)).trans hw166_2), ((HB.out.cell (World.block_lt_of_cell? w _ hw166_3)).trans hw166_3), ((HB.out.cell (World.block_lt_of_cell? w _ hw167_0)).trans hw167_0), ((HB.out.cell (World.block_lt_of_cell? w _ hw167_1)).trans hw167_1), ((HB.out.cell (World.block_lt_of_cell? w _ hw167_2)).trans hw167_2), ((HB.out.cell (World.block_lt_of_cell? w _ hw167_3)).trans hw167_3)⟩ (fun hHeld => ?_)
              clear hK K
              refine norm_ (a' := ?_) ?_ ?_
              rotate_left
              ·show Act.put _ (some 56) _ = _
               simp only [Act.put, List.setIfInBounds_toArray, List.set_cons_zero, List.set_cons_succ, i64_w, i32_w]
               rfl
              refine pure_ (i := 24) (N := some 63) (v := ?_) (a' := ?_) #[true, true, true, true, true, true, true, true, true, true, true, true, true, true, true, true, true, true, true, true, true, true, true, true, true, false, false, false, false, false, false, false, false, false] rfl rfl (any_of HT_.out (by kernel_rfl)) (fun _ _ _ h => h) (Or.inl ⟨by rfl, ?_⟩) ?_ ?_
              rotate_left
              ·intro w'
               go_simp
               with_reducible rfl
              rotate_left
              ·simp only [Act.put, List.setIfInBounds_toArray, List.set_cons_zero, List.set_cons_succ, i64_w, i32_w]
               rfl
              refine pure_ (i := 25) (N := some 64) (v := ?_) (a' := ?_) #[true, true, true, true, true, true, true, true, true, true, true, true, true, true, true, true, true, true, true, true, true, true, true, true, true, true, false, false, false, false, false, false, false, false] rfl rfl (any_of HT_.out (by kernel_rfl)) (fun _ _ _ h => h) (Or.inl ⟨by rfl, ?_⟩) ?_ ?_
              rotate_left
              ·intro w'
               go_simp
               with_reducible rfl
              rotate_left
              ·simp only [Act.put, List.setIfInBounds_toArray, List.set_cons_zero, List.set_cons_succ, i64_w, i32_w]
               rfl
              refine pure_ (i := 26) (N := some 65) (v := ?_) (a' := ?_) #[true, true, true, true, true, true, true, true, true, true, true, true, true, true, true, true, true, true, true, true, true, true, true, true, true, true, true, false, false, false, false, false, false, false] rfl rfl (any_of HT_.out (by kernel_rfl)) (fun _ _ _ h => h) (Or.inl ⟨by rfl, ?_⟩) ?_ ?_
              rotate_left
              ·intro w'
               go_simp
               with_reducible rfl
              rotate_left
              ·simp only [Act.put, List.setIfInBounds_toArray, List.set_cons_zero, List.set_cons_succ, i64_w, i32_w]
               rfl
              refine pure_ (i := 27) (N := some 66) (v := ?_) (a' := ?_) #[true, true, true, true, true, true, true, true, true, true, true, true, true, true, true, true, true, true, true, true, true, true, true, true, true, true, true, true, false, false, false, false, false, false] rfl rfl (any_of HT_.out (by kernel_rfl)) (fun _ _ _ h => h) (Or.inl ⟨by rfl, ?_⟩) ?_ ?_
              rotate_left
              ·intro w'
               go_simp
               with_reducible rfl
              rotate_left
              ·simp only [Act.put, List.setIfInBounds_toArray, List.set_cons_zero, List.set_cons_succ, i64_w, i32_w]
               rfl
              refine pure_ (i := 28) (N := some 67) (v := ?_) (a' := ?_) #[true, true, true, true, true, true, true, true, true, true, true, true, true, true, true, true, true, true, true, true, true, true, true, true, true, true, true, true, true, false, false, false, false, false] rfl rfl (any_of HT_.out (by kernel_rfl)) (fun _ _ _ h => h) (Or.inl ⟨by rfl, ?_⟩) ?_ ?_
              rotate_left
              ·intro w'
               go_simp
               with_reducible rfl
              rotate_left
              ·simp only [Act.put, List.setIfInBounds_toArray, List.set_cons_zero, List.set_cons_succ, i64_w, i32_w]
               rfl
              refine take_ (i := 29) (N := some 68) (v := ?_) (a' := ?_) #[true, true, true, true, true, true, true, true, true, true, true, true, true, true, true, true, true, true, true, true, true, true, true, true, true, true, true, true, true, true, false, false, false, false] rfl rfl (take_ofW HT_.out HW_.out (by kernel_rfl)) (fun _ _ _ h => h) (Or.inl ⟨by rfl, ?_⟩) hHeld ?_ ?_
              rotate_left
              ·rintro w' ⟨s0, s1, s2, s3, s4, s5, s6, s7, s8, s9, s10, s11, s12, s13, s14, s15, s16, s17, s18, s19⟩
               go_simp
               with_reducible rfl
              rotate_left
              ·simp only [Act.put, List.setIfInBounds_toArray, List.set_cons_zero, List.set_cons_succ, i64_w, i32_w]
               rfl
              refine pure_ (i := 30) (N := some 69) (v := ?_) (a' := ?_) #[true, true, true, true, true, true, true, true, true, true, true, true, true, true, true, true, true, true, true, true, true, true, true, true, true, true, true, true, true, true, true, false, false, false] rfl rfl (any_of HT_.out (by kernel_rfl)) (fun _ _ _ h => h) (Or.inl ⟨by rfl, ?_⟩) ?_ ?_
              rotate_left
              ·intro w'
               go_simp
               with_reducible rfl
              rotate_left
              ·simp only [Act.put, List.setIfInBounds_toArray, List.set_cons_zero, List.set_cons_succ, i64_w, i32_w]
               rfl
              refine pure_ (i := 31) (N := some 70) (v := ?_) (a' := ?_) #[true, true, true, true, true, true, true, true, true, true, true, true, true, true, true, true, true, true, true, true, true, true, true, true, true, true, true, true, true, true, true, true, false, false] rfl rfl (any_of HT_.out (by kernel_rfl)) (fun _ _ _ h => h) (Or.inl ⟨by rfl, ?_⟩) ?_ ?_
              rotate_left
              ·intro w'
               go_simp
               with_reducible rfl
              rotate_left
              ·simp only [Act.put, List.setIfInBounds_toArray, List.set_cons_zero, List.set_cons_succ, i64_w, i32_w]
               rfl
              refine pure_ (i := 32) (N := some 71) (v := ?_) (a' := ?_) #[true, true, true, true, true, true, true, true, true, true, true, true, true, true, true, true, true, true, true, true, true, true, true, true, true, true, true, true, true, true, true, true, true, false] rfl rfl (any_of HT_.out (by kernel_rfl)) (fun _ _ _ h => h) (Or.inl ⟨by rfl, ?_⟩) ?_ ?_
              rotate_left
              ·intro w'
               go_simp
               with_reducible rfl
              rotate_left
              ·simp only [Act.put, List.setIfInBounds_toArray, List.set_cons_zero, List.set_cons_succ, i64_w, i32_w]
               rfl
              refine pure_ (i := 33) (N := some 72) (v := ?_) (a' := ?_) #[true, true, true, true, true, true, true, true, true, true, true, true, true, true, true, true, true, true, true, true, true, true, true, true, true, true, true, true, true, true, true, true, true, true] rfl rfl (any_of HT_.out (by kernel_rfl)) (fun _ _ _ h => h) (Or.inl ⟨by rfl, ?_⟩) ?_ ?_
              rotate_left
              ·intro w'
               go_simp
               with_reducible rfl
              rotate_left
              ·simp only [Act.put, List.setIfInBounds_toArray, List.set_cons_zero, List.set_cons_succ, i64_w, i32_w]
               rfl
              refine done_ (done_of HT_.out (by kernel_rfl)) ?_
              try go_wp2
              go_meet
              case rel => exact ⟨_, ((t165 != (decide (((rd_T36 l0 x5_1).f0) ≤ 16)))), (by first | rfl | (simp; done) | (simp [*]; done)), H', ⟨by have := HK1.out; have := HJ4.out; have := HJ7.out; first | omega | exact Nat.le_refl _⟩, ⟨by (with_reducible repeat (first | apply Kd.R_alloc | apply Kd.R_drewN | apply Kd.R_drew)); exact HO_3.out⟩, ⟨by (with_reducible repeat (first | apply Kd.R_alloc | apply Kd.R_drewN | apply Kd.R_drew)); exact HO_4.out⟩, ⟨by repeat (first | (with_reducible first | exact HB.out | apply below_alloc | apply pw_below_drewN | apply below_drew1) | exact HB.out)⟩⟩
             ·rw [if_neg c35] at H
              have c35b0 : decide (12 ≤ ((rd_T36 l0 x5_1).f0)) = false := decide_eq_false c35
              clear c35
              have H' := Aside0.mk H
              clear H
              try go_wp2
              have n0_ := Aside0.mk (Kd.R_drew HO_3.out)
              have n1_ := Aside0.mk (Kd.R_drew HO_4.out)
              have n2_ := Aside0.mk (below_drew1 HB.out)
              clear HO_3
              clear HO_4
              clear HB
              have HO_3 := n0_
              have HO_4 := n1_
              have HB := n2_
              clear n0_ n1_ n2_
              have p160 : 0 ≤ (x5_1 : Int) := of_decide_eq_true (by first | (with_reducible assumption) | assumption)
              have q160 : x5_1 < (l0.length : Int) := of_decide_eq_true (by first | (with_reducible assumption) | assumption)
              obtain ⟨ad160, e160, hx160_0, hx160_1, hx160_2, hx160_3⟩ := at_T36 HR0.out x5_1 p160 q160
              have hw160_3 := hx160_3
              have hw160_2 := hx160_2
              have hw160_1 := hx160_1
              have hw160_0 := hx160_0
              cases e160
              replace hx160_0 := (HB.out.cell (World.block_lt_of_cell? w _ hx160_0)).trans hx160_0
              replace hx160_1 := (HB.out.cell (World.block_lt_of_cell? w _ hx160_1)).trans hx160_1
              replace hx160_2 := (HB.out.cell (World.block_lt_of_cell? w _ hx160_2)).trans hx160_2
              replace hx160_3 := (HB.out.cell (World.block_lt_of_cell? w _ hx160_3)).trans hx160_3
              replace p160 := eq_true p160
              replace q160 := eq_true q160
              have p162 : 0 ≤ (x5_1 : Int) := of_decide_eq_true (by first | (with_reducible assumption) | assumption)
              have q162 : x5_1 < (l0.length : Int) := of_decide_eq_true (by first | (with_reducible assumption) | assumption)
              obtain ⟨ad162, e162, hx162_0, hx162_1, hx162_2, hx162_3⟩ := at_T36 HR0.out x5_1 p162 q162
              have hw162_3 := hx162_3
              have hw162_2 := hx162_2
              have hw162_1 := hx162_1
              have hw162_0 := hx162_0
              obtain rfl : ad160 = ad162 := (by injection e162)
              replace hx162_0 := (HB.out.cell (World.block_lt_of_cell? w _ hx162_0)).trans hx162_0
              replace hx162_1 := (HB.out.cell (World.block_lt_of_cell? w _ hx162_1)).trans hx162_1
              replace hx162_2 := (HB.out.cell (World.block_lt_of_cell? w _ hx162_2)).trans hx162_2
              replace hx162_3 := (HB.out.cell (World.block_lt_of_cell? w _ hx162_3)).trans hx162_3
              replace p162 := eq_true p162
              replace q162 := eq_true q162
              have p164 : 0 ≤ (x5_1 : Int) := of_decide_eq_true (by first | (with_reducible assumption) | assumption)
              have q164 : x5_1 < (l0.length : Int) := of_decide_eq_true (by first | (with_reducible assumption) | assumption)
              obtain ⟨ad164, e164, hx164_0, hx164_1, hx164_2, hx164_3⟩ := at_T36 HR0.out x5_1 p164 q164
              have hw164_3 := hx164_3
              have hw164_2 := hx164_2
              have hw164_1 := hx164_1
              have hw164_0 := hx164_0
              obtain rfl : ad160 = ad164 := (by injection e164)
              replace hx164_0 := (HB.out.cell (World.block_lt_of_cell? w _ hx164_0)).trans hx164_0
              replace hx164_1 := (HB.out.cell (World.block_lt_of_cell? w _ hx164_1)).trans hx164_1
              replace hx164_2 := (HB.out.cell (World.block_lt_of_cell? w _ hx164_2)).trans hx164_2
              replace hx164_3 := (HB.out.cell (World.block_lt_of_cell? w _ hx164_3)).trans hx164_3
              replace p164 := eq_true p164
              replace q164 := eq_true q164
              have p166 : 0 ≤ (x5_1 : Int) := of_decide_eq_true (by first | (with_reducible assumption) | assumption)
              have q166 : x5_1 < (l0.length : Int) := of_decide_eq_true (by first | (with_reducible assumption) | assumption)
              obtain ⟨ad166, e166, hx166_0, hx166_1, hx166_2, hx166_3⟩ := at_T36 HR0.out x5_1 p166 q166
              have hw166_3 := hx166_3
              have hw166_2 := hx166_2
              have hw166_1 := hx166_1
              have hw166_0 := hx166_0
              obtain rfl : ad160 = ad166 := (by injection e166)
              replace hx166_0 := (HB.out.cell (World.block_lt_of_cell? w _ hx166_0)).trans hx166_0
              replace hx166_1 := (HB.out.cell (World.block_lt_of_cell? w _ hx166_1)).trans hx166_1
              replace hx166_2 := (HB.out.cell (World.block_lt_of_cell? w _ hx166_2)).trans hx166_2
              replace hx166_3 := (HB.out.cell (World.block_lt_of_cell? w _ hx166_3)).trans hx166_3
              replace p166 := eq_true p166
              replace q166 := eq_true q166
              refine start_ (n := 34) (S := fun w' => w'.cell? (ad160.add ((x5_1).toNat * 4)) = some (.int .i64 ((rd_T36 l0 x5_1).f0)) ∧ w'.cell? ⟨(ad160.add ((x5_1).toNat * 4)).block, (ad160.add ((x5_1).toNat * 4)).off + 1, none⟩ = some (.int .i64 ((rd_T36 l0 x5_1).f1)) ∧ w'.cell? ⟨(ad160.add ((x5_1).toNat * 4)).block, (ad160.add ((x5_1).toNat * 4)).off + 2, none⟩ = some (.int .i64 ((rd_T36 l0 x5_1).f2)) ∧ w'.cell? ⟨(ad160.add ((x5_1).toNat * 4)).block, (ad160.add ((x5_1).toNat * 4)).off + 3, none⟩ = some (.int .i64 ((rd_T36 l0 x5_1).f3)) ∧ w'.cell? (ad160.add ((x5_1).toNat * 4)) = some (.int .i64 ((rd_T36 l0 x5_1).f0)) ∧ w'.cell? ⟨(ad160.add ((x5_1).toNat * 4)).block, (ad160.add ((x5_1).toNat * 4)).off + 1, none⟩ = some (.int .i64 ((rd_T36 l0 x5_1).f1)) ∧ w'.cell? ⟨(ad160.add ((x5_1).toNat * 4)).block, (ad160.add ((x5_1).toNat * 4)).off + 2, none⟩ = some (.int .i64 ((rd_T36 l0 x5_1).f2)) ∧ w'.cell? ⟨(ad160.add ((x5_1).toNat * 4)).block, (ad160.add ((x5_1).toNat * 4)).off + 3, none⟩ = some (.int .i64 ((rd_T36 l0 x5_1).f3)) ∧ w'.cell? (ad160.add ((x5_1).toNat * 4)) = some (.int .i64 ((rd_T36 l0 x5_1).f0)) ∧ w'.cell? ⟨(ad160.add ((x5_1).toNat * 4)).block, (ad160.add ((x5_1).toNat * 4)).off + 1, none⟩ = some (.int .i64 ((rd_T36 l0 x5_1).f1)) ∧ w'.cell? ⟨(ad160.add ((x5_1).toNat * 4)).block, (ad160.add ((x5_1).toNat * 4)).off + 2, none⟩ = some (.int .i64 ((rd_T36 l0 x5_1).f2)) ∧ w'.cell? ⟨(ad160.add ((x5_1).toNat * 4)).block, (ad160.add ((x5_1).toNat * 4)).off + 3, none⟩ = some (.int .i64 ((rd_T36 l0 x5_1).f3)) ∧ w'.cell? (ad160.add ((x5_1).toNat * 4)) = some (.int .i64 ((rd_T36 l0 x5_1).f0)) ∧ w'.cell? ⟨(ad160.add ((x5_1).toNat * 4)).block, (ad160.add ((x5_1).toNat * 4)).off + 1, none⟩ = some (.int .i64 ((rd_T36 l0 x5_1).f1)) ∧ w'.cell? ⟨(ad160.add ((x5_1).toNat * 4)).block, (ad160.add ((x5_1).toNat * 4)).off + 2, none⟩ = some (.int .i64 ((rd_T36 l0 x5_1).f2)) ∧ w'.cell? ⟨(ad160.add ((x5_1).toNat * 4)).block, (ad160.add ((x5_1).toNat * 4)).off + 3, none⟩ = some (.int .i64 ((rd_T36 l0 x5_1).f3))) (ds := []) #[false, false, false, false, false, false, false, false, false, false, false, false, false, false, false, false, false, false, false, false, false, false, false, false, false, false, false, false, false, false, false, false, false, false] (by kernel_rfl) rfl rfl ⟨((HB.out.cell (World.block_lt_of_cell? w _ hw160_0)).trans hw160_0), ((HB.out.cell (World.block_lt_of_cell? w _ hw160_1)).trans hw160_1), ((HB.out.cell (World.block_lt_of_cell? w _ hw160_2)).trans hw160_2), ((HB.out.cell (World.block_lt_of_cell? w _ hw160_3)).trans hw160_3), ((HB.out.cell (World.block_lt_of_cell? w _ hw162_0)).trans hw162_0), ((HB.out.cell (World.block_lt_of_cell? w _ hw162_1)).trans hw162_1), ((HB.out.cell (World.block_lt_of_cell? w _ hw162_2)).trans hw162_2), ((HB.out.cell (World.block_lt_of_cell? w _ hw162_3)).trans hw162_3), ((HB.out.cell (World.block_lt_of_cell? w _ hw164_0)).trans hw164_0), ((HB.out.cell (World.block_lt_of_cell? w _ hw164_1)).trans hw164_1), ((HB.out.cell (World.block_lt_of_cell? w _ hw164_2)).trans hw164_2), ((HB.out.cell (World.block_lt_of_cell? w _ hw164_3)).trans hw164_3), ((HB.out.cell (World.block_lt_of_cell? w _ hw166_0)).trans hw166_0), ((HB.out.cell (World.block_lt_of_cell? w _ hw166_1)).trans hw166_1), ((HB.out.cell (World.block_lt_of_cell? w _ hw166_2)).trans hw166_2), ((HB.out.cell (World.block_lt_of_cell? w _ hw166_3)).trans hw166_3)⟩ (fun hHeld => ?_); refine with_tabW posthorselaw17_CodePuts.tab9 posthorselaw17_CodePuts.bits9 (fun HT_ HW_ => ?_)
              generalize wc.drew = w39 at HO_3 HO_4 HB hx160_0 hx160_1 hx160_2 hx160_3 hx162_0 hx162_1 hx162_2 hx162_3 hx164_0 hx164_1 hx164_2 hx164_3 hx166_0 hx166_1 hx166_2 hx166_3 hHeld ⊢
              refine pure_ (i := 0) (N := some 39) (v := ?_) (a' := ?_) #[true, false, false, false, false, false, false, false, false, false, false, false, false, false, false, false, false, false, false, false, false, false, false, false, false, false, false, false, false, false, false, false, false, false] rfl rfl (any_of HT_.out (by kernel_rfl)) (fun _ _ _ h => h) (Or.inl ⟨by rfl, ?_⟩) ?_ ?_
              rotate_left
              ·intro w'
               go_simp
               with_reducible rfl
              rotate_left
              ·simp only [Act.put, List.setIfInBounds_toArray, List.set_cons_zero, List.set_cons_succ, i64_w, i32_w]
               rfl
              refine pure_ (i := 1) (N := some 40) (v := ?_) (a' := ?_) #[true, true, false, false, false, false, false, false, false, false, false, false, false, false, false, false, false, false, false, false, false, false, false, false, false, false, false, false, false, false, false, false, false, false] rfl rfl (any_of HT_.out (by kernel_rfl)) (fun _ _ _ h => h) (Or.inl ⟨by rfl, ?_⟩) ?_ ?_
              rotate_left
              ·intro w'
               go_simp
               with_reducible rfl
              rotate_left
              ·simp only [Act.put, List.setIfInBounds_toArray, List.set_cons_zero, List.set_cons_succ, i64_w, i32_w]
               rfl
              refine pure_ (i := 2) (N := some 41) (v := ?_) (a' := ?_) #[true, true, true, false, false, false, false, false, false, false, false, false, false, false, false, false, false, false, false, false, false, false, false, false, false, false, false, false, false, false, false, false, false, false] rfl rfl (any_of HT_.out (by kernel_rfl)) (fun _ _ _ h => h) (Or.inl ⟨by rfl, ?_⟩) ?_ ?_
              rotate_left
              ·intro w'
               go_simp
               with_reducible rfl
              rotate_left
              ·simp only [Act.put, List.setIfInBounds_toArray, List.set_cons_zero, List.set_cons_succ, i64_w, i32_w]
               rfl
              refine pure_ (i := 5) (N := some 44) (v := ?_) (a' := ?_) #[true, true, true, false, false, true, false, false, false, false, false, false, false, false, false, false, false, false, false, false, false, false, false, false, false, false, false, false, false, false, false, false, false, false] rfl rfl (any_of HT_.out (by kernel_rfl)) (fun _ _ _ h => h) (Or.inl ⟨by rfl, ?_⟩) ?_ ?_
              rotate_left
              ·intro w'
               go_simp
               with_reducible rfl
              rotate_left
              ·simp only [Act.put, List.setIfInBounds_toArray, List.set_cons_zero, List.set_cons_succ, i64_w, i32_w]
               rfl
              refine pure_ (i := 6) (N := some 45) (v := ?_) (a' := ?_) #[true, true, true, false, false, true, true, false, false, false, false, false, false, false, false, false, false, false, false, false, false, false, false, false, false, false, false, false, false, false, false, false, false, false] rfl rfl (any_of HT_.out (by kernel_rfl)) (fun _ _ _ h => h) (Or.inl ⟨by rfl, ?_⟩) ?_ ?_
              rotate_left
              ·intro w'
               go_simp
               with_reducible rfl
              rotate_left
              ·simp only [Act.put, List.setIfInBounds_toArray, List.set_cons_zero, List.set_cons_succ, i64_w, i32_w]
               rfl
              refine pure_ (i := 7) (N := some 46) (v := ?_) (a' := ?_) #[true, true, true, false, false, true, true, true, false, false, false, false, false, false, false, false, false, false, false, false, false, false, false, false, false, false, false, false, false, false, false, false, false, false] rfl rfl (any_of HT_.out (by kernel_rfl)) (fun _ _ _ h => h) (Or.inl ⟨by rfl, ?_⟩) ?_ ?_
              rotate_left
              ·intro w'
               go_simp
               with_reducible rfl
              rotate_left
              ·simp only [Act.put, List.setIfInBounds_toArray, List.set_cons_zero, List.set_cons_succ, i64_w, i32_w]
               rfl
              refine take_ (i := 3) (N := some 42) (v := ?_) (a' := ?_) #[true, true, true, true, false, true, true, true, false, false, false, false, false, false, false, false, false, false, false, false, false, false, false, false, false, false, false, false, false, false, false, false, false, false] rfl rfl (take_ofW HT_.out HW_.out (by kernel_rfl)) (fun _ _ _ h => h) (Or.inl ⟨by rfl, ?_⟩) hHeld ?_ ?_
              rotate_left
              ·rintro w' ⟨s0, s1, s2, s3, s4, s5, s6, s7, s8, s9, s10, s11, s12, s13, s14, s15⟩
               go_simp
               with_reducible rfl
              rotate_left
              ·simp only [Act.put, List.setIfInBounds_toArray, List.set_cons_zero, List.set_cons_succ, i64_w, i32_w]
               rfl
              refine take_ (i := 8) (N := some 47) (v := ?_) (a' := ?_) #[true, true, true, true, false, true, true, true, true, false, false, false, false, false, false, false, false, false, false, false, false, false, false, false, false, false, false, false, false, false, false, false, false, false] rfl rfl (take_ofW HT_.out HW_.out (by kernel_rfl)) (fun _ _ _ h => h) (Or.inl ⟨by rfl, ?_⟩) hHeld ?_ ?_
              rotate_left
              ·rintro w' ⟨s0, s1, s2, s3, s4, s5, s6, s7, s8, s9, s10, s11, s12, s13, s14, s15⟩
               go_simp
               with_reducible rfl
              rotate_left
              ·simp only [Act.put, List.setIfInBounds_toArray, List.set_cons_zero, List.set_cons_succ, i64_w, i32_w]
               rfl
              refine one_ (i := 4) (N := some 43) #[true, true, true, true, true, true, true, true, true, false, false, false, false, false, false, false, false, false, false, false, false, false, false, false, false, false, false, false, false, false, false, false, false, false] rfl rfl (one_of HT_.out (by kernel_rfl)) (by decide) (fun K hK => ?_)
              refine goes_ Tryd.func11 (by kernel_rfl) rfl #[.agg #[.int .i64 ((rd_T36 l0 x5_1).f0), .int .i64 ((rd_T36 l0 x5_1).f1), .int .i64 ((rd_T36 l0 x5_1).f2), .int .i64 ((rd_T36 l0 x5_1).f3)]] (by rfl) rfl rfl (by (try simp only [List.map_toArray, List.map_cons, List.map_nil]); first | done | rfl | (simp only [List.length_drop, List.length_take]; rfl) | (simp only [decide_eq_true_eq, decide_eq_false_iff_not, eq_iff_iff, iff_true, iff_false] at *; have w_id : ∀ {n : Int}, -9223372036854775808 ≤ n → n ≤ 9223372036854775807 → wrap64 n = n := fun h0 h1 => (by unfold wrap64; omega); rw [w_id (by omega) (by omega)]; rfl)) ?_
              with_reducible refine (code_Right.calls kj7 ((rd_T36 l0 x5_1).f0) ((rd_T36 l0 x5_1).f1) ((rd_T36 l0 x5_1).f2) ((rd_T36 l0 x5_1).f3) t161 _ A28.out).mono ?_
              rintro e w40 ⟨rfl, hb⟩
              refine ⟨_, rfl, ?_⟩
              have n0_ := Aside0.mk (Kd.R_below (by (with_reducible repeat (first | apply Kd.R_alloc | apply Kd.R_drewN | apply Kd.R_drew)); exact HO_3.out) hb)
              have n1_ := Aside0.mk (Kd.R_below (by (with_reducible repeat (first | apply Kd.R_alloc | apply Kd.R_drewN | apply Kd.R_drew)); exact HO_4.out) hb)
              have n2_ := Aside0.mk (below_step (by repeat (first | (with_reducible first | exact HB.out | apply below_alloc | apply pw_below_drewN | apply below_drew1) | exact HB.out)) hb)
              clear HO_3
              clear HO_4
              clear HB
              have HO_3 := n0_
              have HO_4 := n1_
              have HB := n2_
              clear n0_ n1_ n2_
              (try clear hb)
              (try clear hb2)
              (try clear hk)
              (try clear hi)
              refine hK.out _ _ ⟨((HB.out.cell (World.block_lt_of_cell? w _ hw160_0)).trans hw160_0), ((HB.out.cell (World.block_lt_of_cell? w _ hw160_1)).trans hw160_1), ((HB.out.cell (World.block_lt_of_cell? w _ hw160_2)).trans hw160_2), ((HB.out.cell (World.block_lt_of_cell? w _ hw160_3)).trans hw160_3), ((HB.out.cell (World.block_lt_of_cell? w _ hw162_0)).trans hw162_0), ((HB.out.cell (World.block_lt_of_cell? w _ hw162_1)).trans hw162_1), ((HB.out.cell (World.block_lt_of_cell? w _ hw162_2)).trans hw162_2), ((HB.out.cell (World.block_lt_of_cell? w _ hw162_3)).trans hw162_3), ((HB.out.cell (World.block_lt_of_cell? w _ hw164_0)).trans hw164_0), ((HB.out.cell (World.block_lt_of_cell? w _ hw164_1)).trans hw164_1), ((HB.out.cell (World.block_lt_of_cell? w _ hw164_2)).trans hw164_2), ((HB.out.cell (World.block_lt_of_cell? w _ hw164_3)).trans hw164_3), ((HB.out.cell (World.block_lt_of_cell? w _ hw166_0)).trans hw166_0), ((HB.out.cell (World.block_lt_of_cell? w _ hw166_1)).trans hw166_1), ((HB.out.cell (World.block_lt_of_cell? w _ hw166_2)).trans hw166_2), ((HB.out.cell (World.block_lt_of_cell? w _ hw166_3)).trans hw166_3)⟩ (fun hHeld => ?_)
              clear hK K
              refine norm_ (a' := ?_) ?_ ?_
              rotate_left
              ·show Act.put _ (some 43) _ = _
               simp only [Act.put, List.setIfInBounds_toArray, List.set_cons_zero, List.set_cons_succ, i64_w, i32_w]
               rfl
              refine one_ (i := 9) (N := some 48) #[true, true, true, true, true, true, true, true, true, true, false, false, false, false, false, false, false, false, false, false, false, false, false, false, false, false, false, false, false, false, false, false, false, false] rfl rfl (one_of HT_.out (by kernel_rfl)) (by decide) (fun K hK => ?_)
              refine goes_ Tryd.func12 (by kernel_rfl) rfl #[.agg #[.int .i64 ((rd_T36 l0 x5_1).f0), .int .i64 ((rd_T36 l0 x5_1).f1), .int .i64 ((rd_T36 l0 x5_1).f2), .int .i64 ((rd_T36 l0 x5_1).f3)]] (by rfl) rfl rfl (by (try simp only [List.map_toArray, List.map_cons, List.map_nil]); first | done | rfl | (simp only [List.length_drop, List.length_take]; rfl) | (simp only [decide_eq_true_eq, decide_eq_false_iff_not, eq_iff_iff, iff_true, iff_false] at *; have w_id : ∀ {n : Int}, -9223372036854775808 ≤ n → n ≤ 9223372036854775807 → wrap64 n = n := fun h0 h1 => (by unfold wrap64; omega); rw [w_id (by omega) (by omega)]; rfl)) ?_
              with_reducible refine (posthorseref17_Right.calls kj7 ((rd_T36 l0 x5_1).f0) ((rd_T36 l0 x5_1).f1) ((rd_T36 l0 x5_1).f2) ((rd_T36 l0 x5_1).f3) t163 _ A29.out).mono ?_
              rintro e w41 ⟨rfl, hb⟩
              refine ⟨_, rfl, ?_⟩
              have n0_ := Aside0.mk (Kd.R_below (by (with_reducible repeat (first | apply Kd.R_alloc | apply Kd.R_drewN | apply Kd.R_drew)); exact HO_3.out) hb)
              have n1_ := Aside0.mk (Kd.R_below (by (with_reducible repeat (first | apply Kd.R_alloc | apply Kd.R_drewN | apply Kd.R_drew)); exact HO_4.out) hb)
              have n2_ := Aside0.mk (below_step (by repeat (first | (with_reducible first | exact HB.out | apply below_alloc | apply pw_below_drewN | apply below_drew1) | exact HB.out)) hb)
              clear HO_3
              clear HO_4
              clear HB
              have HO_3 := n0_
              have HO_4 := n1_
              have HB := n2_
              clear n0_ n1_ n2_
              (try clear hb)
              (try clear hb2)
              (try clear hk)
              (try clear hi)
              refine hK.out _ _ ⟨((HB.out.cell (World.block_lt_of_cell? w _ hw160_0)).trans hw160_0), ((HB.out.cell (World.block_lt_of_cell? w _ hw160_1)).trans hw160_1), ((HB.out.cell (World.block_lt_of_cell? w _ hw160_2)).trans hw160_2), ((HB.out.cell (World.block_lt_of_cell? w _ hw160_3)).trans hw160_3), ((HB.out.cell (World.block_lt_of_cell? w _ hw162_0)).trans hw162_0), ((HB.out.cell (World.block_lt_of_cell? w _ hw162_1)).trans hw162_1), ((HB.out.cell (World.block_lt_of_cell? w _ hw162_2)).trans hw162_2), ((HB.out.cell (World.block_lt_of_cell? w _ hw162_3)).trans hw162_3), ((HB.out.cell (World.block_lt_of_cell? w _ hw164_0)).trans hw164_0), ((HB.out.cell (World.block_lt_of_cell? w _ hw164_1)).trans hw164_1), ((HB.out.cell (World.block_lt_of_cell? w _ hw164_2)).trans hw164_2), ((HB.out.cell (World.block_lt_of_cell? w _ hw164_3)).trans hw164_3), ((HB.out.cell (World.block_lt_of_cell? w _ hw166_0)).trans hw166_0), ((HB.out.cell (World.block_lt_of_cell? w _ hw166_1)).trans hw166_1), ((HB.out.cell (World.block_lt_of_cell? w _ hw166_2)).trans hw166_2), ((HB.out.cell (World.block_lt_of_cell? w _ hw166_3)).trans hw166_3)⟩ (fun hHeld => ?_)
              clear hK K
              refine norm_ (a' := ?_) ?_ ?_
              rotate_left
              ·show Act.put _ (some 48) _ = _
               simp only [Act.put, List.setIfInBounds_toArray, List.set_cons_zero, List.set_cons_succ, i64_w, i32_w]
               rfl
              refine pure_ (i := 10) (N := some 49) (v := ?_) (a' := ?_) #[true, true, true, true, true, true, true, true, true, true, true, false, false, false, false, false, false, false, false, false, false, false, false, false, false, false, false, false, false, false, false, false, false, false] rfl rfl (any_of HT_.out (by kernel_rfl)) (fun _ _ _ h => h) (Or.inl ⟨by rfl, ?_⟩) ?_ ?_
              rotate_left
              ·intro w'
               go_simp
               with_reducible rfl
              rotate_left
              ·simp only [Act.put, List.setIfInBounds_toArray, List.set_cons_zero, List.set_cons_succ, i64_w, i32_w]
               rfl
              refine pure_ (i := 11) (N := some 50) (v := ?_) (a' := ?_) #[true, true, true, true, true, true, true, true, true, true, true, true, false, false, false, false, false, false, false, false, false, false, false, false, false, false, false, false, false, false, false, false, false, false] rfl rfl (any_of HT_.out (by kernel_rfl)) (fun _ _ _ h => h) (Or.inl ⟨by rfl, ?_⟩) ?_ ?_
              rotate_left
              ·intro w'
               go_simp
               with_reducible rfl
              rotate_left
              ·simp only [Act.put, List.setIfInBounds_toArray, List.set_cons_zero, List.set_cons_succ, i64_w, i32_w]
               rfl
              refine pure_ (i := 12) (N := some 51) (v := ?_) (a' := ?_) #[true, true, true, true, true, true, true, true, true, true, true, true, true, false, false, false, false, false, false, false, false, false, false, false, false, false, false, false, false, false, false, false, false, false] rfl rfl (any_of HT_.out (by kernel_rfl)) (fun _ _ _ h => h) (Or.inl ⟨by rfl, ?_⟩) ?_ ?_
              rotate_left
              ·intro w'
               go_simp
               with_reducible rfl
              rotate_left
              ·simp only [Act.put, List.setIfInBounds_toArray, List.set_cons_zero, List.set_cons_succ, i64_w, i32_w]
               rfl
              refine pure_ (i := 13) (N := some 52) (v := ?_) (a' := ?_) #[true, true, true, true, true, true, true, true, true, true, true, true, true, true, false, false, false, false, false, false, false, false, false, false, false, false, false, false, false, false, false, false, false, false] rfl rfl (any_of HT_.out (by kernel_rfl)) (fun _ _ _ h => h) (Or.inl ⟨by rfl, ?_⟩) ?_ ?_
              rotate_left
              ·intro w'
               go_simp
               with_reducible rfl
              rotate_left
              ·simp only [Act.put, List.setIfInBounds_toArray, List.set_cons_zero, List.set_cons_succ, i64_w, i32_w]
               rfl
              refine pure_ (i := 14) (N := some 53) (v := ?_) (a' := ?_) #[true, true, true, true, true, true, true, true, true, true, true, true, true, true, true, false, false, false, false, false, false, false, false, false, false, false, false, false, false, false, false, false, false, false] rfl rfl (any_of HT_.out (by kernel_rfl)) (fun _ _ _ h => h) (Or.inl ⟨by rfl, ?_⟩) ?_ ?_
              rotate_left
              ·intro w'
               go_simp
               with_reducible rfl
              rotate_left
              ·simp only [Act.put, List.setIfInBounds_toArray, List.set_cons_zero, List.set_cons_succ, i64_w, i32_w]
               rfl
              refine pure_ (i := 15) (N := some 54) (v := ?_) (a' := ?_) #[true, true, true, true, true, true, true, true, true, true, true, true, true, true, true, true, false, false, false, false, false, false, false, false, false, false, false, false, false, false, false, false, false, false] rfl rfl (any_of HT_.out (by kernel_rfl)) (fun _ _ _ h => h) (Or.inl ⟨by rfl, ?_⟩) ?_ ?_
              rotate_left
              ·intro w'
               go_simp
               with_reducible rfl
              rotate_left
              ·simp only [Act.put, List.setIfInBounds_toArray, List.set_cons_zero, List.set_cons_succ, i64_w, i32_w]
               rfl
              refine pure_ (i := 18) (N := some 57) (v := ?_) (a' := ?_) #[true, true, true, true, true, true, true, true, true, true, true, true, true, true, true, true, false, false, true, false, false, false, false, false, false, false, false, false, false, false, false, false, false, false] rfl rfl (any_of HT_.out (by kernel_rfl)) (fun _ _ _ h => h) (Or.inl ⟨by rfl, ?_⟩) ?_ ?_
              rotate_left
              ·intro w'
               go_simp
               with_reducible rfl
              rotate_left
              ·simp only [Act.put, List.setIfInBounds_toArray, List.set_cons_zero, List.set_cons_succ, i64_w, i32_w]
               rfl
              refine pure_ (i := 19) (N := some 58) (v := ?_) (a' := ?_) #[true, true, true, true, true, true, true, true, true, true, true, true, true, true, true, true, false, false, true, true, false, false, false, false, false, false, false, false, false, false, false, false, false, false] rfl rfl (any_of HT_.out (by kernel_rfl)) (fun _ _ _ h => h) (Or.inl ⟨by rfl, ?_⟩) ?_ ?_
              rotate_left
              ·intro w'
               go_simp
               with_reducible rfl
              rotate_left
              ·simp only [Act.put, List.setIfInBounds_toArray, List.set_cons_zero, List.set_cons_succ, i64_w, i32_w]
               rfl
              refine pure_ (i := 20) (N := some 59) (v := ?_) (a' := ?_) #[true, true, true, true, true, true, true, true, true, true, true, true, true, true, true, true, false, false, true, true, true, false, false, false, false, false, false, false, false, false, false, false, false, false] rfl rfl (any_of HT_.out (by kernel_rfl)) (fun _ _ _ h => h) (Or.inl ⟨by rfl, ?_⟩) ?_ ?_
              rotate_left
              ·intro w'
               go_simp
               with_reducible rfl
              rotate_left
              ·simp only [Act.put, List.setIfInBounds_toArray, List.set_cons_zero, List.set_cons_succ, i64_w, i32_w]
               rfl
              refine pure_ (i := 21) (N := some 60) (v := ?_) (a' := ?_) #[true, true, true, true, true, true, true, true, true, true, true, true, true, true, true, true, false, false, true, true, true, true, false, false, false, false, false, false, false, false, false, false, false, false] rfl rfl (any_of HT_.out (by kernel_rfl)) (fun _ _ _ h => h) (Or.inl ⟨by rfl, ?_⟩) ?_ ?_
              rotate_left
              ·intro w'
               go_simp
               with_reducible rfl
              rotate_left
              ·simp only [Act.put, List.setIfInBounds_toArray, List.set_cons_zero, List.set_cons_succ, i64_w, i32_w]
               rfl
              refine take_ (i := 16) (N := some 55) (v := ?_) (a' := ?_) #[true, true, true, true, true, true, true, true, true, true, true, true, true, true, true, true, true, false, true, true, true, true, false, false, false, false, false, false, false, false, false, false, false, false] rfl rfl (take_ofW HT_.out HW_.out (by kernel_rfl)) (fun _ _ _ h => h) (Or.inl ⟨by rfl, ?_⟩) hHeld ?_ ?_
              rotate_left
              ·rintro w' ⟨s0, s1, s2, s3, s4, s5, s6, s7, s8, s9, s10, s11, s12, s13, s14, s15⟩
               go_simp
               with_reducible rfl
              rotate_left
              ·simp only [Act.put, List.setIfInBounds_toArray, List.set_cons_zero, List.set_cons_succ, i64_w, i32_w]
               rfl
              refine take_ (i := 22) (N := some 61) (v := ?_) (a' := ?_) #[true, true, true, true, true, true, true, true, true, true, true, true, true, true, true, true, true, false, true, true, true, true, true, false, false, false, false, false, false, false, false, false, false, false] rfl rfl (take_ofW HT_.out HW_.out (by kernel_rfl)) (fun _ _ _ h => h) (Or.inl ⟨by rfl, ?_⟩) hHeld ?_ ?_
              rotate_left
              ·rintro w' ⟨s0, s1, s2, s3, s4, s5, s6, s7, s8, s9, s10, s11, s12, s13, s14, s15⟩
               go_simp
               with_reducible rfl
              rotate_left
              ·simp only [Act.put, List.setIfInBounds_toArray, List.set_cons_zero, List.set_cons_succ, i64_w, i32_w]
               rfl
              refine pure_ (i := 23) (N := some 62) (v := ?_) (a' := ?_) #[true, true, true, true, true, true, true, true, true, true, true, true, true, true, true, true, true, false, true, true, true, true, true, true, false, false, false, false, false, false, false, false, false, false] rfl rfl (any_of HT_.out (by kernel_rfl)) (fun _ _ _ h => h) (Or.inl ⟨by rfl, ?_⟩) ?_ ?_
              rotate_left
              ·intro w'
               go_simp
               with_reducible rfl
              rotate_left
              ·simp only [Act.put, List.setIfInBounds_toArray, List.set_cons_zero, List.set_cons_succ, i64_w, i32_w]
               rfl
              refine one_ (i := 17) (N := some 56) #[true, true, true, true, true, true, true, true, true, true, true, true, true, true, true, true, true, true, true, true, true, true, true, true, false, false, false, false, false, false, false, false, false, false] rfl rfl (one_of HT_.out (by kernel_rfl)) (by decide) (fun K hK => ?_)
              refine goes_ Tryd.func13 (by kernel_rfl) rfl #[.int .i64 ((rd_T36 l0 x5_1).f0)] (by rfl) rfl rfl (by (try simp only [List.map_toArray, List.map_cons, List.map_nil]); first | done | rfl | (simp only [List.length_drop, List.length_take]; rfl) | (simp only [decide_eq_true_eq, decide_eq_false_iff_not, eq_iff_iff, iff_true, iff_false] at *; have w_id : ∀ {n : Int}, -9223372036854775808 ≤ n → n ≤ 9223372036854775807 → wrap64 n = n := fun h0 h1 => (by unfold wrap64; omega); rw [w_id (by omega) (by omega)]; rfl)) ?_
              with_reducible refine (code_Jumps.calls ((rd_T36 l0 x5_1).f0) t165 _ A34.out).mono ?_
              rintro e w' ⟨rfl, ⟨nd, rfl⟩⟩
              refine ⟨_, rfl, ?_⟩
              refine hK.out _ _ ⟨((HB.out.cell (World.block_lt_of_cell? w _ hw160_0)).trans hw160_0), ((HB.out.cell (World.block_lt_of_cell? w _ hw160_1)).trans hw160_1), ((HB.out.cell (World.block_lt_of_cell? w _ hw160_2)).trans hw160_2), ((HB.out.cell (World.block_lt_of_cell? w _ hw160_3)).trans hw160_3), ((HB.out.cell (World.block_lt_of_cell? w _ hw162_0)).trans hw162_0), ((HB.out.cell (World.block_lt_of_cell? w _ hw162_1)).trans hw162_1), ((HB.out.cell (World.block_lt_of_cell? w _ hw162_2)).trans hw162_2), ((HB.out.cell (World.block_lt_of_cell? w _ hw162_3)).trans hw162_3), ((HB.out.cell (World.block_lt_of_cell? w _ hw164_0)).trans hw164_0), ((HB.out.cell (World.block_lt_of_cell? w _ hw164_1)).trans hw164_1), ((HB.out.cell (World.block_lt_of_cell? w _ hw164_2)).trans hw164_2), ((HB.out.cell (World.block_lt_of_cell? w _ hw164_3)).trans hw164_3), ((HB.out.cell (World.block_lt_of_cell? w _ hw166_0)).trans hw166_0), ((HB.out.cell (World.block_lt_of_cell? w _ hw166_1)).trans hw166_1), ((HB.out.cell (World.block_lt_of_cell? w _ hw166_2)).trans hw166_2), ((HB.out.cell (World.block_lt_of_cell? w _ hw166_3)).trans hw166_3)⟩ (fun hHeld => ?_)
              clear hK K
              refine norm_ (a' := ?_) ?_ ?_
              rotate_left
              ·show Act.put _ (some 56) _ = _
               simp only [Act.put, List.setIfInBounds_toArray, List.set_cons_zero, List.set_cons_succ, i64_w, i32_w]
               rfl
              refine pure_ (i := 24) (N := some 63) (v := ?_) (a' := ?_) #[true, true, true, true, true, true, true, true, true, true, true, true, true, true, true, true, true, true, true, true, true, true, true, true, true, false, false, false, false, false, false, false, false, false] rfl rfl (any_of HT_.out (by kernel_rfl)) (fun _ _ _ h => h) (Or.inl ⟨by rfl, ?_⟩) ?_ ?_
              rotate_left
              ·intro w'
               go_simp
               with_reducible rfl
              rotate_left
              ·simp only [Act.put, List.setIfInBounds_toArray, List.set_cons_zero, List.set_cons_succ, i64_w, i32_w]
               rfl
              refine pure_ (i := 25) (N := some 64) (v := undef) (a' := ?_) #[true, true, true, true, true, true, true, true, true, true, true, true, true, true, true, true, true, true, true, true, true, true, true, true, true, true, false, false, false, false, false, false, false, false] rfl rfl (any_of HT_.out (by kernel_rfl)) (fun _ _ _ h => h) (Or.inr ⟨by rfl, rfl⟩) ?_ ?_
              rotate_left
              ·simp only [Act.put, List.setIfInBounds_toArray, List.set_cons_zero, List.set_cons_succ, i64_w, i32_w]
               rfl
              refine pure_ (i := 26) (N := some 65) (v := undef) (a' := ?_) #[true, true, true, true, true, true, true, true, true, true, true, true, true, true, true, true, true, true, true, true, true, true, true, true, true, true, true, false, false, false, false, false, false, false] rfl rfl (any_of HT_.out (by kernel_rfl)) (fun _ _ _ h => h) (Or.inr ⟨by rfl, rfl⟩) ?_ ?_
              rotate_left
              ·simp only [Act.put, List.setIfInBounds_toArray, List.set_cons_zero, List.set_cons_succ, i64_w, i32_w]
               rfl
              refine pure_ (i := 27) (N := some 66) (v := undef) (a' := ?_) #[true, true, true, true, true, true, true, true, true, true, true, true, true, true, true, true, true, true, true, true, true, true, true, true, true, true, true, true, false, false, false, false, false, false] rfl rfl (any_of HT_.out (by kernel_rfl)) (fun _ _ _ h => h) (Or.inr ⟨by rfl, rfl⟩) ?_ ?_
              rotate_left
              ·simp only [Act.put, List.setIfInBounds_toArray, List.set_cons_zero, List.set_cons_succ, i64_w, i32_w]
               rfl
              refine pure_ (i := 28) (N := some 67) (v := undef) (a' := ?_) #[true, true, true, true, true, true, true, true, true, true, true, true, true, true, true, true, true, true, true, true, true, true, true, true, true, true, true, true, true, false, false, false, false, false] rfl rfl (any_of HT_.out (by kernel_rfl)) (fun _ _ _ h => h) (Or.inr ⟨by rfl, rfl⟩) ?_ ?_
              rotate_left
              ·simp only [Act.put, List.setIfInBounds_toArray, List.set_cons_zero, List.set_cons_succ, i64_w, i32_w]
               rfl
              refine pure_ (i := 29) (N := some 68) (v := undef) (a' := ?_) #[true, true, true, true, true, true, true, true, true, true, true, true, true, true, true, true, true, true, true, true, true, true, true, true, true, true, true, true, true, true, false, false, false, false] rfl rfl (any_of HT_.out (by kernel_rfl)) (fun _ _ _ h => h) (Or.inr ⟨by rfl, rfl⟩) ?_ ?_
              rotate_left
              ·simp only [Act.put, List.setIfInBounds_toArray, List.set_cons_zero, List.set_cons_succ, i64_w, i32_w]
               rfl
              refine pure_ (i := 30) (N := some 69) (v := undef) (a' := ?_) #[true, true, true, true, true, true, true, true, true, true, true, true, true, true, true, true, true, true, true, true, true, true, true, true, true, true, true, true, true, true, true, false, false, false] rfl rfl (any_of HT_.out (by kernel_rfl)) (fun _ _ _ h => h) (Or.inr ⟨by rfl, rfl⟩) ?_ ?_
              rotate_left
              ·simp only [Act.put, List.setIfInBounds_toArray, List.set_cons_zero, List.set_cons_succ, i64_w, i32_w]
               rfl
              refine pure_ (i := 31) (N := some 70) (v := ?_) (a' := ?_) #[true, true, true, true, true, true, true, true, true, true, true, true, true, true, true, true, true, true, true, true, true, true, true, true, true, true, true, true, true, true, true, true, false, false] rfl rfl (any_of HT_.out (by kernel_rfl)) (fun _ _ _ h => h) (Or.inl ⟨by rfl, ?_⟩) ?_ ?_
              rotate_left
              ·intro w'
               go_simp
               with_reducible rfl
              rotate_left
              ·simp only [Act.put, List.setIfInBounds_toArray, List.set_cons_zero, List.set_cons_succ, i64_w, i32_w]
               rfl
              refine pure_ (i := 32) (N := some 71) (v := ?_) (a' := ?_) #[true, true, true, true, true, true, true, true, true, true, true, true, true, true, true, true, true, true, true, true, true, true, true, true, true, true, true, true, true, true, true, true, true, false] rfl rfl (any_of HT_.out (by kernel_rfl)) (fun _ _ _ h => h) (Or.inl ⟨by rfl, ?_⟩) ?_ ?_
              rotate_left
              ·intro w'
               go_simp
               with_reducible rfl
              rotate_left
              ·simp only [Act.put, List.setIfInBounds_toArray, List.set_cons_zero, List.set_cons_succ, i64_w, i32_w]
               rfl
              refine pure_ (i := 33) (N := some 72) (v := ?_) (a' := ?_) #[true, true, true, true, true, true, true, true, true, true, true, true, true, true, true, true, true, true, true, true, true, true, true, true, true, true, true, true, true, true, true, true, true, true] rfl rfl (any_of HT_.out (by kernel_rfl)) (fun _ _ _ h => h) (Or.inl ⟨by rfl, ?_⟩) ?_ ?_
              rotate_left
              ·intro w'
               go_simp
               with_reducible rfl
              rotate_left
              ·simp only [Act.put, List.setIfInBounds_toArray, List.set_cons_zero, List.set_cons_succ, i64_w, i32_w]
               rfl
              refine done_ (done_of HT_.out (by kernel_rfl)) ?_
              try go_wp2
              go_meet
              case rel => exact ⟨_, ((t165 != false)), (by first | rfl | (simp; done) | (simp [*]; done)), H', ⟨by have := HK1.out; have := HJ4.out; have := HJ7.out; first | omega | exact Nat.le_refl _⟩, ⟨by (with_reducible repeat (first | apply Kd.R_alloc | apply Kd.R_drewN | apply Kd.R_drew)); exact HO_3.out⟩, ⟨by (with_reducible repeat (first | apply Kd.R_alloc | apply Kd.R_drewN | apply Kd.R_drew)); exact HO_4.out⟩, ⟨by repeat (first | (with_reducible first | exact HB.out | apply below_alloc | apply pw_below_drewN | apply below_drew1) | exact HB.out)⟩⟩
           ·rw [if_neg c27] at H
            exact absurd H (by simp)
          ·rw [if_neg c26] at H
           exact absurd H (by simp)
         case rest =>
          clear HC25
          try clear c1
          try clear p1
          try clear q1
          try clear hx1
          try clear c2
          try clear p2
          try clear c3
          try clear c11
          try clear c12
          try clear c13
          try clear p16
          try clear q16
          try clear hx16
          try clear c26
          try clear c27
          try clear c35
          try clear c35b0
          try clear hx160_0
          try clear hx160_1
          try clear hx160_2
          try clear hx160_3
          try clear hx162_0
          try clear hx162_1
          try clear hx162_2
          try clear hx162_3
          try clear hx164_0
          try clear hx164_1
          try clear hx164_2
          try clear hx164_3
          try clear hx166_0
          try clear hx166_1
          try clear hx166_2
          try clear hx166_3
          try clear p160
          try clear p162
          try clear p164
          try clear p166
          try clear q160
          try clear q162
          try clear q164
          try clear q166
          obtain ⟨kq, x72_24, rfl, HA, HJ24, HO_3, HO_4, HB⟩ := hcut
          cases kq with
          | zero => exact absurd HA.out (by simp [posthorselaw17_CodePuts.j3])
          | succ kj24 =>
           have H := HA.out
           clear HA
           simp only [posthorselaw17_CodePuts.j3] at H
           by_cases c42 : x72_24 = true
           ·subst c42
            have H1 : (some false) = some r := by rw [if_pos rfl] at H; exact H
            clear H
            have H := H1
            clear H1
            obtain rfl := Option.some.inj H
            go_wp2
            go_ret
            exact ⟨by first | rfl | (simp [errW_none, errW_some] <;> rfl) | (simp [*, errW_none, errW_some] <;> rfl), by repeat (first | (with_reducible first | exact HB.out | apply below_alloc | apply pw_below_drewN | apply below_drew1) | exact HB.out)⟩
           ·replace c42 := Bool.eq_false_iff.mpr c42
            subst c42
            have H1 : (posthorselaw17_CodePuts.l0 kj24 l0 x3_7 x4_7 (wrap64 (x5_1 + 1))) = some r := by rw [if_neg (show ¬ (false = true) by decide)] at H; exact H
            clear H
            have H := H1
            clear H1
            have H' := Aside0.mk H
            clear H
            go_wp2
            go_roundg kj24
            case measure => have := HK1.out; have := HJ4.out; have := HJ7.out; have := HJ24.out; omega
            case rel => exact ⟨(x3_7), (x4_7), (wrap64 (x5_1 + 1)), (by first | rfl | (simp; done) | (simp [*]; done)), H', ⟨by have := HK1.out; have := HJ4.out; have := HJ7.out; have := HJ24.out; omega⟩, ⟨by (with_reducible repeat (first | apply Kd.R_alloc | apply Kd.R_drewN | apply Kd.R_drew)); exact HO_3.out⟩, ⟨by (with_reducible repeat (first | apply Kd.R_alloc | apply Kd.R_drewN | apply Kd.R_drew)); exact HO_4.out⟩, ⟨by repeat (first | (with_reducible first | exact HB.out | apply below_alloc | apply pw_below_drewN | apply below_drew1) | exact HB.out)⟩⟩
      ·replace c7 := Bool.eq_false_iff.mpr c7
       subst c7
       have H1 : ((code_Put.f kj4 x3_1).bind fun bt168 => ((posthorseref17_Put.f kj4 x4_1).bind fun bt170 => (if bt168.1.toList = bt170.1.toList then ((posthorselaw17_number.f bt168.2).bind fun t172 => (posthorselaw17_CodePuts.j4 kj4 x3_1 bt168.1 bt170.2 (t172 != bt170.2))) else (posthorselaw17_CodePuts.j4 kj4 x3_1 bt168.1 bt170.2 true)))) = some r := by rw [if_neg (show ¬ (false = true) by decide)] at H; exact H
       clear H
       have H := H1
       clear H1
       replace H := Option.bind_eq_some_iff.mp H
       obtain ⟨⟨t168, t169⟩, A430, H⟩ := H
       replace H : ((posthorseref17_Put.f kj4 x4_1).bind fun bt170 => (if t168.toList = bt170.1.toList then ((posthorselaw17_number.f t169).bind fun t172 => (posthorselaw17_CodePuts.j4 kj4 x3_1 t168 bt170.2 (t172 != bt170.2))) else (posthorselaw17_CodePuts.j4 kj4 x3_1 t168 bt170.2 true))) = some r := H
       have A43 := Aside0.mk A430
       clear A430
       replace H := Option.bind_eq_some_iff.mp H
       obtain ⟨⟨t170, t171⟩, A440, H⟩ := H
       replace H : (if t168.toList = t170.toList then ((posthorselaw17_number.f t169).bind fun t172 => (posthorselaw17_CodePuts.j4 kj4 x3_1 t168 t171 (t172 != t171))) else (posthorselaw17_CodePuts.j4 kj4 x3_1 t168 t171 true)) = some r := H
       have A44 := Aside0.mk A440
       clear A440
       have HC45 := Aside0.mk H
       clear H
       obtain ⟨Ao46, co46, eo46⟩ := Kd.R_slice HO_3.out
       subst eo46
       go_upto_region 13 with (first | ((with_reducible refine gate_callee (f := 14) rfl ?_); refine goesL_ (some 75) rfl rfl Tryd.func14 (by kernel_rfl) rfl #[.slice Ao46 x3_1.length co46] rfl (by (try simp only [List.map_toArray, List.map_cons, List.map_nil]); first | done | rfl | (simp only [List.length_drop, List.length_take]; rfl) | (simp only [decide_eq_true_eq, decide_eq_false_iff_not, eq_iff_iff, iff_true, iff_false] at *; have w_id : ∀ {n : Int}, -9223372036854775808 ≤ n → n ≤ 9223372036854775807 → wrap64 n = n := fun h0 h1 => (by unfold wrap64; omega); rw [w_id (by omega) (by omega)]; rfl)) ?_; (with_reducible refine (code_Put.calls kj4 _ _ x3_1 t168 t169 _ ?side1 ?side2 A43.out).mono ?_); (case side1 => repeat (first | exact (Kd.R_reads' HO_3.out).2.2 | (with_reducible refine Kd.C_alloc ?_ _) | (with_reducible refine Kd.C_drewN ?_ _) | (with_reducible refine Kd.C_drew ?_))); (case side2 => exact (Kd.R_reads' HO_3.out).2.1); rintro e w47 ⟨rfl, hb⟩; refine ⟨_, rfl, ?_⟩; have n0_ := Aside0.mk (Kd.R_below (by (with_reducible repeat (first | apply Kd.R_alloc | apply Kd.R_drewN | apply Kd.R_drew)); exact HO_3.out) hb); have n1_ := Aside0.mk (Kd.R_below (by (with_reducible repeat (first | apply Kd.R_alloc | apply Kd.R_drewN | apply Kd.R_drew)); exact HO_4.out) hb); have n2_ := Aside0.mk (below_step (by repeat (first | (with_reducible first | exact HB.out | apply below_alloc | apply pw_below_drewN | apply below_drew1) | exact HB.out)) hb); clear HO_3; clear HO_4; clear HB; have HO_3 := n0_; have HO_4 := n1_; have HB := n2_; clear n0_ n1_ n2_; (try clear hb); (try clear hb2); (try clear hk); (try clear hi); (try simp only [errW_none, errW_some]); obtain ⟨Ao48, co48, eo48⟩ := Kd.R_slice HO_4.out; subst eo48) | ((with_reducible refine gate_callee (f := 15) rfl ?_); refine goesL_ (some 80) rfl rfl Tryd.func15 (by kernel_rfl) rfl #[.slice Ao48 x4_1.length co48] rfl (by (try simp only [List.map_toArray, List.map_cons, List.map_nil]); first | done | rfl | (simp only [List.length_drop, List.length_take]; rfl) | (simp only [decide_eq_true_eq, decide_eq_false_iff_not, eq_iff_iff, iff_true, iff_false] at *; have w_id : ∀ {n : Int}, -9223372036854775808 ≤ n → n ≤ 9223372036854775807 → wrap64 n = n := fun h0 h1 => (by unfold wrap64; omega); rw [w_id (by omega) (by omega)]; rfl)) ?_; (with_reducible refine (posthorseref17_Put.calls kj4 _ _ x4_1 t170 t171 _ ?side1 ?side2 A44.out).mono ?_); (case side1 => repeat (first | exact (Kd.R_reads' HO_4.out).2.2 | (with_reducible refine Kd.C_alloc ?_ _) | (with_reducible refine Kd.C_drewN ?_ _) | (with_reducible refine Kd.C_drew ?_))); (case side2 => exact (Kd.R_reads' HO_4.out).2.1); rintro e w49 ⟨rfl, hb⟩; refine ⟨_, rfl, ?_⟩; have n0_ := Aside0.mk (Kd.R_below (by (with_reducible repeat (first | apply Kd.R_alloc | apply Kd.R_drewN | apply Kd.R_drew)); exact HO_3.out) hb); have n1_ := Aside0.mk (Kd.R_below (by (with_reducible repeat (first | apply Kd.R_alloc | apply Kd.R_drewN | apply Kd.R_drew)); exact HO_4.out) hb); have n2_ := Aside0.mk (below_step (by repeat (first | (with_reducible first | exact HB.out | apply below_alloc | apply pw_below_drewN | apply below_drew1) | exact HB.out)) hb); clear HO_3; clear HO_4; clear HB; have HO_3 := n0_; have HO_4 := n1_; have HB := n2_; clear n0_ n1_ n2_; (try clear hb); (try clear hb2); (try clear hk); (try clear hi)))
       (try simp only [Act.put, List.setIfInBounds_toArray, List.set_cons_zero, List.set_cons_succ])
       go_cut [91] (fun v91 wc => ∃ (kq : Nat) (x91_44 : Bool), v91 = .bool x91_44 ∧ Aside0 (posthorselaw17_CodePuts.j4 kq x3_1 t168 t171 x91_44 = some r) ∧ Aside0 (kq ≤ kj4) ∧ Aside0 (Kd.R k35 35 wc w.heap.size (fun _ => True) (.slice Ao46 x3_1.length co46) x3_1) ∧ Aside0 (Below w.heap.size w wc))
       case first =>
        have H := HC45.out
        clear HC45
        by_cases c50 : t168.toList = t170.toList
        ·rw [if_pos c50] at H
         have c50b0 : (t168.toList == t170.toList) = true := beq_iff_eq.mpr c50
         have c50b1 : (t168.toList != t170.toList) = false := bne_eq_false_iff_eq.mpr c50
         clear c50
         (first | rw [c50b0] | (simp only [i64_w, i32_w]; rw [c50b0]) | skip)
         replace H := Option.bind_eq_some_iff.mp H
         obtain ⟨t172, A510, H⟩ := H
         replace H : (posthorselaw17_CodePuts.j4 kj4 x3_1 t168 t171 (t172 != t171)) = some r := H
         have A51 := Aside0.mk A510
         clear A510
         have H' := Aside0.mk H
         clear H
         have CA51 := fun W hL_ => posthorselaw17_number.calls t169 t172 W hL_ A51.out
         try simp only [errW_none, errW_some] at CA51
         go_wp2_with (first | (go_at_call 16; (with_reducible refine (CA51 _ (Laid.below HL_.out (by repeat (first | (with_reducible first | exact HB.out | apply below_alloc | apply pw_below_drewN | apply below_drew1) | exact HB.out)))).mono ?_); rintro e w52 ⟨rfl, hb⟩; have n0_ := Aside0.mk (Kd.R_below (by (with_reducible repeat (first | apply Kd.R_alloc | apply Kd.R_drewN | apply Kd.R_drew)); exact HO_3.out) hb); have n1_ := Aside0.mk (Kd.R_below (by (with_reducible repeat (first | apply Kd.R_alloc | apply Kd.R_drewN | apply Kd.R_drew)); exact HO_4.out) hb); have n2_ := Aside0.mk (below_step (by repeat (first | (with_reducible first | exact HB.out | apply below_alloc | apply pw_below_drewN | apply below_drew1) | exact HB.out)) hb); clear HO_3; clear HO_4; clear HB; have HO_3 := n0_; have HO_4 := n1_; have HB := n2_; clear n0_ n1_ n2_; (try clear hb); (try clear hb2); (try clear hk); (try clear hi)))
         go_meet
         case rel => exact ⟨_, ((t172 != t171)), (by first | rfl | (simp; done) | (simp [*]; done)), H', ⟨by have := HK1.out; have := HJ4.out; first | omega | exact Nat.le_refl _⟩, ⟨by (with_reducible repeat (first | apply Kd.R_alloc | apply Kd.R_drewN | apply Kd.R_drew)); exact HO_3.out⟩, ⟨by repeat (first | (with_reducible first | exact HB.out | apply below_alloc | apply pw_below_drewN | apply below_drew1) | exact HB.out)⟩⟩
        ·rw [if_neg c50] at H
         have c50b0 : (t168.toList == t170.toList) = false := beq_eq_false_iff_ne.mpr c50
         have c50b1 : (t168.toList != t170.toList) = true := bne_iff_ne.mpr c50
         (first | rw [c50b0] | (simp only [i64_w, i32_w]; rw [c50b0]) | skip)
         have H' := Aside0.mk H
         clear H
         go_wp2
         go_meet
         case rel => exact ⟨_, (true), (by first | rfl | (simp; done) | (simp [*]; done)), H', ⟨by have := HK1.out; have := HJ4.out; first | omega | exact Nat.le_refl _⟩, ⟨by (with_reducible repeat (first | apply Kd.R_alloc | apply Kd.R_drewN | apply Kd.R_drew)); exact HO_3.out⟩, ⟨by repeat (first | (with_reducible first | exact HB.out | apply below_alloc | apply pw_below_drewN | apply below_drew1) | exact HB.out)⟩⟩
       case rest =>
        clear HC45
        try clear c1
        try clear p1
        try clear q1
        try clear hx1
        try clear c2
        try clear p2
        try clear c3
        try clear c4
        try clear c5
        try clear p6
        try clear c7
        try clear c11
        try clear c12
        try clear c13
        try clear c14
        try clear c15
        try clear p16
        try clear q16
        try clear hx16
        try clear c26
        try clear c27
        try clear c35
        try clear c35b0
        try clear c42
        try clear c50
        try clear c50b0
        try clear c50b1
        try clear hx160_0
        try clear hx160_1
        try clear hx160_2
        try clear hx160_3
        try clear hx162_0
        try clear hx162_1
        try clear hx162_2
        try clear hx162_3
        try clear hx164_0
        try clear hx164_1
        try clear hx164_2
        try clear hx164_3
        try clear hx166_0
        try clear hx166_1
        try clear hx166_2
        try clear hx166_3
        try clear p1
        try clear p16
        try clear p160
        try clear p162
        try clear p164
        try clear p166
        try clear p2
        try clear q1
        try clear q16
        try clear q160
        try clear q162
        try clear q164
        try clear q166
        obtain ⟨kq, x91_44, rfl, HA, HJ44, HO_3, HB⟩ := hcut
        cases kq with
        | zero => exact absurd HA.out (by simp [posthorselaw17_CodePuts.j4])
        | succ kj44 =>
         have H := HA.out
         clear HA
         simp only [posthorselaw17_CodePuts.j4] at H
         by_cases c53 : x91_44 = true
         ·subst c53
          have H1 : (some false) = some r := by rw [if_pos rfl] at H; exact H
          clear H
          have H := H1
          clear H1
          obtain rfl := Option.some.inj H
          go_wp2
          go_ret
          exact ⟨by first | rfl | (simp [errW_none, errW_some] <;> rfl) | (simp [*, errW_none, errW_some] <;> rfl), by repeat (first | (with_reducible first | exact HB.out | apply below_alloc | apply pw_below_drewN | apply below_drew1) | exact HB.out)⟩
         ·replace c53 := Bool.eq_false_iff.mpr c53
          subst c53
          have H1 : (if t171 = 0 then ((code_Get.f kj44 t168).bind fun bt173 => (if bt173.2.isNone = true then (posthorselaw17_CodePuts.j5 kj44 x3_1 bt173.1 ((bt173.1.length : Int) != (x3_1.length : Int))) else (posthorselaw17_CodePuts.j5 kj44 x3_1 bt173.1 true))) else (some true)) = some r := by rw [if_neg (show ¬ (false = true) by decide)] at H; exact H
          clear H
          have H := H1
          clear H1
          by_cases c54 : t171 = 0
          ·rw [if_pos c54] at H
           have c54b0 : (t171 == 0) = true := beq_iff_eq.mpr c54
           have c54b1 : (t171 != 0) = false := bne_eq_false_iff_eq.mpr c54
           clear c54
           replace H := Option.bind_eq_some_iff.mp H
           obtain ⟨⟨t173, t174⟩, A550, H⟩ := H
           replace H : (if t174.isNone = true then (posthorselaw17_CodePuts.j5 kj44 x3_1 t173 ((t173.length : Int) != (x3_1.length : Int))) else (posthorselaw17_CodePuts.j5 kj44 x3_1 t173 true)) = some r := H
           have A55 := Aside0.mk A550
           clear A550
           have HC56 := Aside0.mk H
           clear H
           go_upto_region 18 with (first | ((with_reducible refine gate_callee (f := 17) rfl ?_); refine goesL_ (some 96) rfl rfl Tryd.func17 (by kernel_rfl) rfl #[.string t168] rfl (by (try simp only [List.map_toArray, List.map_cons, List.map_nil]); first | done | rfl | (simp only [List.length_drop, List.length_take]; rfl) | (simp only [decide_eq_true_eq, decide_eq_false_iff_not, eq_iff_iff, iff_true, iff_false] at *; have w_id : ∀ {n : Int}, -9223372036854775808 ≤ n → n ≤ 9223372036854775807 → wrap64 n = n := fun h0 h1 => (by unfold wrap64; omega); rw [w_id (by omega) (by omega)]; rfl)) ?_; (with_reducible refine (code_Get.calls kj44 t168 t173 t174 _ A55.out).mono ?_); rintro e w57 ⟨v175, rfl, ho0, hb⟩; refine ⟨_, rfl, ?_⟩; have n0_ := Aside0.mk (Kd.R_elder' (by (with_reducible repeat (first | apply Kd.R_alloc | apply Kd.R_drewN | apply Kd.R_drew)); exact HO_3.out) (Kd.R_base ho0) hb); have n1_ := Aside0.mk (Kd.R_lower (Kd.R_new' ho0 (Kd.R_lt (by (with_reducible repeat (first | apply Kd.R_alloc | apply Kd.R_drewN | apply Kd.R_drew)); exact HO_3.out))) (below_size (by repeat (first | (with_reducible first | exact HB.out | apply below_alloc | apply pw_below_drewN | apply below_drew1) | exact HB.out)))); have n2_ := Aside0.mk (below_step (by repeat (first | (with_reducible first | exact HB.out | apply below_alloc | apply pw_below_drewN | apply below_drew1) | exact HB.out)) hb); clear HO_3; clear HB; have HO_3 := n0_; have HO176 := n1_; have HB := n2_; clear n0_ n1_ n2_; (try clear hb); (try clear hb2); (try clear hk); (try clear hi); (try clear ho0); (try simp only [errW_none, errW_some])))
           (try simp only [Act.put, List.setIfInBounds_toArray, List.set_cons_zero, List.set_cons_succ])
           go_cut [107] (fun v107 wc => ∃ (kq : Nat) (x107_55 : Bool), v107 = .bool x107_55 ∧ Aside0 (posthorselaw17_CodePuts.j5 kq x3_1 t173 x107_55 = some r) ∧ Aside0 (kq ≤ kj44) ∧ Aside0 (Kd.R k35 35 wc w.heap.size (fun k_ => some k_ ≠ (v175 : Value).ownBlock) (.slice Ao46 x3_1.length co46) x3_1) ∧ Aside0 (Kd.R k35 35 wc w.heap.size (fun k_ => some k_ ≠ ((.slice Ao46 x3_1.length co46) : Value).ownBlock) v175 t173) ∧ Aside0 (Below w.heap.size w wc))
           case first =>
            have H := HC56.out
            clear HC56
            rcases t174 with _ | q177
            ·have H1 : (posthorselaw17_CodePuts.j5 kj44 x3_1 t173 ((t173.length : Int) != (x3_1.length : Int))) = some r := by rw [if_pos (show (none : Option Int).isNone = true by rfl)] at H; exact H
             clear H
             have H := H1
             clear H1
             try simp only [errW_none, errW_some]
             have H' := Aside0.mk H
             clear H
             obtain ⟨Ao58, co58, eo58⟩ := Kd.R_slice HO176.out
             subst eo58
             go_wp2
             go_meet
             case rel => exact ⟨_, (((t173.length : Int) != (x3_1.length : Int))), (by first | rfl | (simp; done) | (simp [*]; done)), H', ⟨by have := HK1.out; have := HJ4.out; have := HJ44.out; first | omega | exact Nat.le_refl _⟩, ⟨by (with_reducible repeat (first | apply Kd.R_alloc | apply Kd.R_drewN | apply Kd.R_drew)); exact Kd.R_mono HO_3.out (fun _ hk => hk.2)⟩, ⟨by (with_reducible repeat (first | apply Kd.R_alloc | apply Kd.R_drewN | apply Kd.R_drew)); exact Kd.R_mono HO176.out (fun _ hk => hk.2)⟩, ⟨by repeat (first | (with_reducible first | exact HB.out | apply below_alloc | apply pw_below_drewN | apply below_drew1) | exact HB.out)⟩⟩
            ·have H1 : (posthorselaw17_CodePuts.j5 kj44 x3_1 t173 true) = some r := by rw [if_neg (show ¬ (some q177).isNone = true by simp)] at H; exact H
             clear H
             have H := H1
             clear H1
             try simp only [errW_none, errW_some]
             have H' := Aside0.mk H
             clear H
             go_wp2
             go_meet
             case rel => exact ⟨_, (true), (by first | rfl | (simp; done) | (simp [*]; done)), H', ⟨by have := HK1.out; have := HJ4.out; have := HJ44.out; first | omega | exact Nat.le_refl _⟩, ⟨by (with_reducible repeat (first | apply Kd.R_alloc | apply Kd.R_drewN | apply Kd.R_drew)); exact Kd.R_mono HO_3.out (fun _ hk => hk.2)⟩, ⟨by (with_reducible repeat (first | apply Kd.R_alloc | apply Kd.R_drewN | apply Kd.R_drew)); exact Kd.R_mono HO176.out (fun _ hk => hk.2)⟩, ⟨by repeat (first | (with_reducible first | exact HB.out | apply below_alloc | apply pw_below_drewN | apply below_drew1) | exact HB.out)⟩⟩
           case rest =>
            clear HC56
            try clear c1
            try clear p1
            try clear q1
            try clear hx1
            try clear c2
            try clear p2
            try clear c3
            try clear c4
            try clear c5
            try clear p6
            try clear c7
            try clear c11
            try clear c12
            try clear c13
            try clear c14
            try clear c15
            try clear p16
            try clear q16
            try clear hx16
            try clear c17
            try clear q17
            try clear c26
            try clear c27
            try clear c35
            try clear c35b0
            try clear c42
            try clear c50
            try clear c50b0
            try clear c50b1
            try clear c53
            try clear c54
            try clear c54b0
            try clear c54b1
            try clear hx160_0
            try clear hx160_1
            try clear hx160_2
            try clear hx160_3
            try clear hx162_0
            try clear hx162_1
            try clear hx162_2
            try clear hx162_3
            try clear hx164_0
            try clear hx164_1
            try clear hx164_2
            try clear hx164_3
            try clear hx166_0
            try clear hx166_1
            try clear hx166_2
            try clear hx166_3
            try clear p1
            try clear p16
            try clear p160
            try clear p162
            try clear p164
            try clear p166
            try clear p2
            try clear p6
            try clear q1
            try clear q16
            try clear q160
            try clear q162
            try clear q164
            try clear q166
            try clear q177
            obtain ⟨kq, x107_55, rfl, HA, HJ55, HO_3, HO_10, HB⟩ := hcut
            cases kq with
            | zero => exact absurd HA.out (by simp [posthorselaw17_CodePuts.j5])
            | succ kj55 =>
             have H := HA.out
             clear HA
             simp only [posthorselaw17_CodePuts.j5] at H
             by_cases c59 : x107_55 = true
             ·subst c59
              have H1 : (some false) = some r := by rw [if_pos rfl] at H; exact H
              clear H
              have H := H1
              clear H1
              obtain rfl := Option.some.inj H
              go_wp2
              go_ret
              exact ⟨by first | rfl | (simp [errW_none, errW_some] <;> rfl) | (simp [*, errW_none, errW_some] <;> rfl), by repeat (first | (with_reducible first | exact HB.out | apply below_alloc | apply pw_below_drewN | apply below_drew1) | exact HB.out)⟩
             ·replace c59 := Bool.eq_false_iff.mpr c59
              subst c59
              have H1 : (posthorselaw17_CodePuts.l1 kj55 x3_1 t173 0) = some r := by rw [if_neg (show ¬ (false = true) by decide)] at H; exact H
              clear H
              have H := H1
              clear H1
              have H' := Aside0.mk H
              clear H
              go_wp2
              go_loopg [12] kj55 (fun kq v12 w' => ∃ (x12_5 : Int), v12 = .int .i64 x12_5 ∧ Aside0 (posthorselaw17_CodePuts.l1 kq x3_1 t173 x12_5 = some r) ∧ Aside0 (kq ≤ kj55) ∧ Aside0 (Kd.R k35 35 w' w.heap.size (fun k_ => some k_ ≠ (v175 : Value).ownBlock) (.slice Ao46 x3_1.length co46) x3_1) ∧ Aside0 (Kd.R k35 35 w' w.heap.size (fun k_ => some k_ ≠ ((.slice Ao46 x3_1.length co46) : Value).ownBlock) v175 t173) ∧ Aside0 (Below w.heap.size w w'))
              case atStart => exact ⟨(0), (by first | rfl | (simp; done) | (simp [*]; done)), H', ⟨Nat.le_refl _⟩, ⟨by (with_reducible repeat (first | apply Kd.R_alloc | apply Kd.R_drewN | apply Kd.R_drew)); exact HO_3.out⟩, ⟨by (with_reducible repeat (first | apply Kd.R_alloc | apply Kd.R_drewN | apply Kd.R_drew)); exact HO_10.out⟩, ⟨by repeat (first | (with_reducible first | exact HB.out | apply below_alloc | apply pw_below_drewN | apply below_drew1) | exact HB.out)⟩⟩
              case round =>
               clear H'
               try clear c1
               try clear p1
               try clear q1
               try clear hx1
               try clear c2
               try clear p2
               try clear c3
               try clear c4
               try clear c5
               try clear p6
               try clear c7
               try clear c11
               try clear c12
               try clear c13
               try clear c14
               try clear c15
               try clear p16
               try clear q16
               try clear hx16
               try clear c17
               try clear q17
               try clear c26
               try clear c27
               try clear c35
               try clear c35b0
               try clear c42
               try clear c50
               try clear c50b0
               try clear c50b1
               try clear c53
               try clear c54
               try clear c54b0
               try clear c54b1
               try clear c59
               try clear hx160_0
               try clear hx160_1
               try clear hx160_2
               try clear hx160_3
               try clear hx162_0
               try clear hx162_1
               try clear hx162_2
               try clear hx162_3
               try clear hx164_0
               try clear hx164_1
               try clear hx164_2
               try clear hx164_3
               try clear hx166_0
               try clear hx166_1
               try clear hx166_2
               try clear hx166_3
               try clear p1
               try clear p16
               try clear p160
               try clear p162
               try clear p164
               try clear p166
               try clear p2
               try clear p6
               try clear q1
               try clear q16
               try clear q160
               try clear q162
               try clear q164
               try clear q166
               try clear q17
               try clear q177
               obtain ⟨x12_5, rfl, HA, HK5, HO_3, HO_10, HB⟩ := hrel
               cases gk with
               | zero => exact absurd HA.out (by simp [posthorselaw17_CodePuts.l1])
               | succ k5 =>
                have H := HA.out
                clear HA
                simp only [posthorselaw17_CodePuts.l1] at H
                by_cases c60 : x12_5 < (x3_1.length : Int)
                ·rw [if_pos c60] at H
                 have c60b0 : decide (x12_5 < (x3_1.length : Int)) = true := decide_eq_true c60
                 clear c60
                 by_cases c61 : 0 ≤ x12_5
                 ·rw [if_pos c61] at H
                  have c61b0 : decide (0 ≤ x12_5) = true := decide_eq_true c61
                  clear c61
                  by_cases c62 : x12_5 < (t173.length : Int)
                  ·rw [if_pos c62] at H
                   have c62b0 : decide (x12_5 < (t173.length : Int)) = true := decide_eq_true c62
                   clear c62
                   by_cases c63 : (!(((rd_T35 t173 x12_5).f0) == ((rd_T35 x3_1 x12_5).f0)) || (!(((rd_T35 t173 x12_5).f1) == ((rd_T35 x3_1 x12_5).f1)) || (!(((rd_T35 t173 x12_5).f2) == ((rd_T35 x3_1 x12_5).f2)) || (!(((rd_T35 t173 x12_5).f3) == ((rd_T35 x3_1 x12_5).f3)))))) = true
                   ·rw [if_pos c63] at H
                    have c63b0 : (!(((rd_T35 t173 x12_5).f0) == ((rd_T35 x3_1 x12_5).f0)) || (!(((rd_T35 t173 x12_5).f1) == ((rd_T35 x3_1 x12_5).f1)) || (!(((rd_T35 t173 x12_5).f2) == ((rd_T35 x3_1 x12_5).f2)) || (!(((rd_T35 t173 x12_5).f3) == ((rd_T35 x3_1 x12_5).f3)))))) = true := c63
                    clear c63
                    obtain rfl := Option.some.inj H
                    try go_wp2
                    have n0_ := Aside0.mk (Kd.R_drew HO_3.out)
                    have n1_ := Aside0.mk (Kd.R_drew HO_10.out)
                    have n2_ := Aside0.mk (below_drew1 HB.out)
                    clear HO_3
                    clear HO_10
                    clear HB
                    have HO_3 := n0_
                    have HO_10 := n1_
                    have HB := n2_
                    clear n0_ n1_ n2_
                    obtain ⟨Ao65, co65, eo65⟩ := Kd.R_slice HO_10.out
                    (first | subst eo65 | (injection eo65 with f1_ f2_ f3_; have f4_ := f1_.symm; have f5_ := f3_.symm; clear f1_ f2_ f3_; subst f4_; subst f5_))
                    have p178 : 0 ≤ (x12_5 : Int) := of_decide_eq_true (by first | (with_reducible assumption) | assumption)
                    have q178 : x12_5 < (t173.length : Int) := of_decide_eq_true (by first | (with_reducible assumption) | assumption)
                    obtain ⟨ad178, e178, hx178_0, hx178_1, hx178_2, hx178_3⟩ := at_T35 (Kd.R_reads' HO_10.out).2.2 x12_5 p178 q178
                    cases e178
                    replace p178 := eq_true p178
                    replace q178 := eq_true q178
                    have p179 : 0 ≤ (x12_5 : Int) := of_decide_eq_true (by first | (with_reducible assumption) | assumption)
                    have q179 : x12_5 < (x3_1.length : Int) := of_decide_eq_true (by first | (with_reducible assumption) | assumption)
                    obtain ⟨ad179, e179, hx179_0, hx179_1, hx179_2, hx179_3⟩ := at_T35 (Kd.R_reads' HO_3.out).2.2 x12_5 p179 q179
                    cases e179
                    replace p179 := eq_true p179
                    replace q179 := eq_true q179
                    refine start_ (n := 9) (S := fun w' => w'.cell? (ad178.add ((x12_5).toNat * 4)) = some (.int .i64 ((rd_T35 t173 x12_5).f0)) ∧ w'.cell? ⟨(ad178.add ((x12_5).toNat * 4)).block, (ad178.add ((x12_5).toNat * 4)).off + 1, none⟩ = some (.int .i64 ((rd_T35 t173 x12_5).f1)) ∧ w'.cell? ⟨(ad178.add ((x12_5).toNat * 4)).block, (ad178.add ((x12_5).toNat * 4)).off + 2, none⟩ = some (.int .i64 ((rd_T35 t173 x12_5).f2)) ∧ w'.cell? ⟨(ad178.add ((x12_5).toNat * 4)).block, (ad178.add ((x12_5).toNat * 4)).off + 3, none⟩ = some (.int .i64 ((rd_T35 t173 x12_5).f3)) ∧ w'.cell? (ad179.add ((x12_5).toNat * 4)) = some (.int .i64 ((rd_T35 x3_1 x12_5).f0)) ∧ w'.cell? ⟨(ad179.add ((x12_5).toNat * 4)).block, (ad179.add ((x12_5).toNat * 4)).off + 1, none⟩ = some (.int .i64 ((rd_T35 x3_1 x12_5).f1)) ∧ w'.cell? ⟨(ad179.add ((x12_5).toNat * 4)).block, (ad179.add ((x12_5).toNat * 4)).off + 2, none⟩ = some (.int .i64 ((rd_T35 x3_1 x12_5).f2)) ∧ w'.cell? ⟨(ad179.add ((x12_5).toNat * 4)).block, (ad179.add ((x12_5).toNat * 4)).off + 3, none⟩ = some (.int .i64 ((rd_T35 x3_1 x12_5).f3))) (ds := []) #[false, false, false, false, false, false, false, false, false] (by kernel_rfl) rfl rfl ⟨hx178_0, hx178_1, hx178_2, hx178_3, hx179_0, hx179_1, hx179_2, hx179_3⟩ (fun hHeld => ?_); refine with_tabW posthorselaw17_CodePuts.tab23 posthorselaw17_CodePuts.bits23 (fun HT_ HW_ => ?_)
                    generalize wr.drew = w64 at HO_3 HO_10 HB hx178_0 hx178_1 hx178_2 hx178_3 hx179_0 hx179_1 hx179_2 hx179_3 hHeld ⊢
                    refine pure_ (i := 0) (N := some 114) (v := ?_) (a' := ?_) #[true, false, false, false, false, false, false, false, false] rfl rfl (any_of HT_.out (by kernel_rfl)) (fun _ _ _ h => h) (Or.inl ⟨by rfl, ?_⟩) ?_ ?_
                    rotate_left
                    ·intro w'
                     go_simp
                     with_reducible rfl
                    rotate_left
                    ·simp only [Act.put, List.setIfInBounds_toArray, List.set_cons_zero, List.set_cons_succ, i64_w, i32_w]
                     rfl
                    refine pure_ (i := 1) (N := some 115) (v := ?_) (a' := ?_) #[true, true, false, false, false, false, false, false, false] rfl rfl (any_of HT_.out (by kernel_rfl)) (fun _ _ _ h => h) (Or.inl ⟨by rfl, ?_⟩) ?_ ?_
                    rotate_left
                    ·intro w'
                     go_simp
                     with_reducible rfl
                    rotate_left
                    ·simp only [Act.put, List.setIfInBounds_toArray, List.set_cons_zero, List.set_cons_succ, i64_w, i32_w]
                     rfl
                    refine pure_ (i := 2) (N := some 116) (v := ?_) (a' := ?_) #[true, true, true, false, false, false, false, false, false] rfl rfl (any_of HT_.out (by kernel_rfl)) (fun _ _ _ h => h) (Or.inl ⟨by rfl, ?_⟩) ?_ ?_
                    rotate_left
                    ·intro w'
                     go_simp
                     with_reducible rfl
                    rotate_left
                    ·simp only [Act.put, List.setIfInBounds_toArray, List.set_cons_zero, List.set_cons_succ, i64_w, i32_w]
                     rfl
                    refine pure_ (i := 4) (N := some 118) (v := ?_) (a' := ?_) #[true, true, true, false, true, false, false, false, false] rfl rfl (any_of HT_.out (by kernel_rfl)) (fun _ _ _ h => h) (Or.inl ⟨by rfl, ?_⟩) ?_ ?_
                    rotate_left
                    ·intro w'
                     go_simp
                     with_reducible rfl
                    rotate_left
                    ·simp only [Act.put, List.setIfInBounds_toArray, List.set_cons_zero, List.set_cons_succ, i64_w, i32_w]
                     rfl
                    refine pure_ (i := 5) (N := some 119) (v := ?_) (a' := ?_) #[true, true, true, false, true, true, false, false, false] rfl rfl (any_of HT_.out (by kernel_rfl)) (fun _ _ _ h => h) (Or.inl ⟨by rfl, ?_⟩) ?_ ?_
                    rotate_left
                    ·intro w'
                     go_simp
                     with_reducible rfl
                    rotate_left
                    ·simp only [Act.put, List.setIfInBounds_toArray, List.set_cons_zero, List.set_cons_succ, i64_w, i32_w]
                     rfl
                    refine pure_ (i := 6) (N := some 120) (v := ?_) (a' := ?_) #[true, true, true, false, true, true, true, false, false] rfl rfl (any_of HT_.out (by kernel_rfl)) (fun _ _ _ h => h) (Or.inl ⟨by rfl, ?_⟩) ?_ ?_
                    rotate_left
                    ·intro w'
                     go_simp
                     with_reducible rfl
                    rotate_left
                    ·simp only [Act.put, List.setIfInBounds_toArray, List.set_cons_zero, List.set_cons_succ, i64_w, i32_w]
                     rfl
                    refine take_ (i := 3) (N := some 117) (v := ?_) (a' := ?_) #[true, true, true, true, true, true, true, false, false] rfl rfl (take_ofW HT_.out HW_.out (by kernel_rfl)) (fun _ _ _ h => h) (Or.inl ⟨by rfl, ?_⟩) hHeld ?_ ?_
                    rotate_left
                    ·rintro w' ⟨s0, s1, s2, s3, s4, s5, s6, s7⟩
                     go_simp
                     with_reducible rfl
                    rotate_left
                    ·simp only [Act.put, List.setIfInBounds_toArray, List.set_cons_zero, List.set_cons_succ, i64_w, i32_w]
                     rfl
                    refine take_ (i := 7) (N := some 121) (v := ?_) (a' := ?_) #[true, true, true, true, true, true, true, true, false] rfl rfl (take_ofW HT_.out HW_.out (by kernel_rfl)) (fun _ _ _ h => h) (Or.inl ⟨by rfl, ?_⟩) hHeld ?_ ?_
                    rotate_left
                    ·rintro w' ⟨s0, s1, s2, s3, s4, s5, s6, s7⟩
                     go_simp
                     with_reducible rfl
                    rotate_left
                    ·simp only [Act.put, List.setIfInBounds_toArray, List.set_cons_zero, List.set_cons_succ, i64_w, i32_w]
                     rfl
                    refine pure_ (i := 8) (N := some 122) (v := ?_) (a' := ?_) #[true, true, true, true, true, true, true, true, true] rfl rfl (any_of HT_.out (by kernel_rfl)) (fun _ _ _ h => h) (Or.inl ⟨by rfl, ?_⟩) ?_ ?_
                    rotate_left
                    ·intro w'
                     go_simp
                     with_reducible rfl
                    rotate_left
                    ·simp only [Act.put, List.setIfInBounds_toArray, List.set_cons_zero, List.set_cons_succ, i64_w, i32_w]
                     rfl
                    refine done_ (done_of HT_.out (by kernel_rfl)) ?_
                    try go_wp2
                    go_ret
                    exact ⟨by first | rfl | (simp [errW_none, errW_some] <;> rfl) | (simp [*, errW_none, errW_some] <;> rfl), by repeat (first | (with_reducible first | exact HB.out | apply below_alloc | apply pw_below_drewN | apply below_drew1) | exact HB.out)⟩
                   ·rw [if_neg c63] at H
                    have c63b0 : (!(((rd_T35 t173 x12_5).f0) == ((rd_T35 x3_1 x12_5).f0)) || (!(((rd_T35 t173 x12_5).f1) == ((rd_T35 x3_1 x12_5).f1)) || (!(((rd_T35 t173 x12_5).f2) == ((rd_T35 x3_1 x12_5).f2)) || (!(((rd_T35 t173 x12_5).f3) == ((rd_T35 x3_1 x12_5).f3)))))) = false := by simpa using c63
                    clear c63
                    have H' := Aside0.mk H
                    clear H
                    try go_wp2
                    have n0_ := Aside0.mk (Kd.R_drew HO_3.out)
                    have n1_ := Aside0.mk (Kd.R_drew HO_10.out)
                    have n2_ := Aside0.mk (below_drew1 HB.out)
                    clear HO_3
                    clear HO_10
                    clear HB
                    have HO_3 := n0_
                    have HO_10 := n1_
                    have HB := n2_
                    clear n0_ n1_ n2_
                    obtain ⟨Ao67, co67, eo67⟩ := Kd.R_slice HO_10.out
                    (first | subst eo67 | (injection eo67 with f1_ f2_ f3_; have f4_ := f1_.symm; have f5_ := f3_.symm; clear f1_ f2_ f3_; subst f4_; subst f5_))
                    have p178 : 0 ≤ (x12_5 : Int) := of_decide_eq_true (by first | (with_reducible assumption) | assumption)
                    have q178 : x12_5 < (t173.length : Int) := of_decide_eq_true (by first | (with_reducible assumption) | assumption)
                    obtain ⟨ad178, e178, hx178_0, hx178_1, hx178_2, hx178_3⟩ := at_T35 (Kd.R_reads' HO_10.out).2.2 x12_5 p178 q178
                    cases e178
                    replace p178 := eq_true p178
                    replace q178 := eq_true q178
                    have p179 : 0 ≤ (x12_5 : Int) := of_decide_eq_true (by first | (with_reducible assumption) | assumption)
                    have q179 : x12_5 < (x3_1.length : Int) := of_decide_eq_true (by first | (with_reducible assumption) | assumption)
                    obtain ⟨ad179, e179, hx179_0, hx179_1, hx179_2, hx179_3⟩ := at_T35 (Kd.R_reads' HO_3.out).2.2 x12_5 p179 q179
                    cases e179
                    replace p179 := eq_true p179
                    replace q179 := eq_true q179
                    refine start_ (n := 9) (S := fun w' => w'.cell? (ad178.add ((x12_5).toNat * 4)) = some (.int .i64 ((rd_T35 t173 x12_5).f0)) ∧ w'.cell? ⟨(ad178.add ((x12_5).toNat * 4)).block, (ad178.add ((x12_5).toNat * 4)).off + 1, none⟩ = some (.int .i64 ((rd_T35 t173 x12_5).f1)) ∧ w'.cell? ⟨(ad178.add ((x12_5).toNat * 4)).block, (ad178.add ((x12_5).toNat * 4)).off + 2, none⟩ = some (.int .i64 ((rd_T35 t173 x12_5).f2)) ∧ w'.cell? ⟨(ad178.add ((x12_5).toNat * 4)).block, (ad178.add ((x12_5).toNat * 4)).off + 3, none⟩ = some (.int .i64 ((rd_T35 t173 x12_5).f3)) ∧ w'.cell? (ad179.add ((x12_5).toNat * 4)) = some (.int .i64 ((rd_T35 x3_1 x12_5).f0)) ∧ w'.cell? ⟨(ad179.add ((x12_5).toNat * 4)).block, (ad179.add ((x12_5).toNat * 4)).off + 1, none⟩ = some (.int .i64 ((rd_T35 x3_1 x12_5).f1)) ∧ w'.cell? ⟨(ad179.add ((x12_5).toNat * 4)).block, (ad179.add ((x12_5).toNat * 4)).off + 2, none⟩ = some (.int .i64 ((rd_T35 x3_1 x12_5).f2)) ∧ w'.cell? ⟨(ad179.add ((x12_5).toNat * 4)).block, (ad179.add ((x12_5).toNat * 4)).off + 3, none⟩ = some (.int .i64 ((rd_T35 x3_1 x12_5).f3))) (ds := []) #[false, false, false, false, false, false, false, false, false] (by kernel_rfl) rfl rfl ⟨hx178_0, hx178_1, hx178_2, hx178_3, hx179_0, hx179_1, hx179_2, hx179_3⟩ (fun hHeld => ?_); refine with_tabW posthorselaw17_CodePuts.tab23 posthorselaw17_CodePuts.bits23 (fun HT_ HW_ => ?_)
                    generalize wr.drew = w66 at HO_3 HO_10 HB hx178_0 hx178_1 hx178_2 hx178_3 hx179_0 hx179_1 hx179_2 hx179_3 hHeld ⊢
                    refine pure_ (i := 0) (N := some 114) (v := ?_) (a' := ?_) #[true, false, false, false, false, false, false, false, false] rfl rfl (any_of HT_.out (by kernel_rfl)) (fun _ _ _ h => h) (Or.inl ⟨by rfl, ?_⟩) ?_ ?_
                    rotate_left
                    ·intro w'
                     go_simp
                     with_reducible rfl
                    rotate_left
                    ·simp only [Act.put, List.setIfInBounds_toArray, List.set_cons_zero, List.set_cons_succ, i64_w, i32_w]
                     rfl
                    refine pure_ (i := 1) (N := some 115) (v := ?_) (a' := ?_) #[true, true, false, false, false, false, false, false, false] rfl rfl (any_of HT_.out (by kernel_rfl)) (fun _ _ _ h => h) (Or.inl ⟨by rfl, ?_⟩) ?_ ?_
                    rotate_left
                    ·intro w'
                     go_simp
                     with_reducible rfl
                    rotate_left
                    ·simp only [Act.put, List.setIfInBounds_toArray, List.set_cons_zero, List.set_cons_succ, i64_w, i32_w]
                     rfl
                    refine pure_ (i := 2) (N := some 116) (v := ?_) (a' := ?_) #[true, true, true, false, false, false, false, false, false] rfl rfl (any_of HT_.out (by kernel_rfl)) (fun _ _ _ h => h) (Or.inl ⟨by rfl, ?_⟩) ?_ ?_
                    rotate_left
                    ·intro w'
                     go_simp
                     with_reducible rfl
                    rotate_left
                    ·simp only [Act.put, List.setIfInBounds_toArray, List.set_cons_zero, List.set_cons_succ, i64_w, i32_w]
                     rfl
                    refine pure_ (i := 4) (N := some 118) (v := ?_) (a' := ?_) #[true, true, true, false, true, false, false, false, false] rfl rfl (any_of HT_.out (by kernel_rfl)) (fun _ _ _ h => h) (Or.inl ⟨by rfl, ?_⟩) ?_ ?_
                    rotate_left
                    ·intro w'
                     go_simp
                     with_reducible rfl
                    rotate_left
                    ·simp only [Act.put, List.setIfInBounds_toArray, List.set_cons_zero, List.set_cons_succ, i64_w, i32_w]
                     rfl
                    refine pure_ (i := 5) (N := some 119) (v := ?_) (a' := ?_) #[true, true, true, false, true, true, false, false, false] rfl rfl (any_of HT_.out (by kernel_rfl)) (fun _ _ _ h => h) (Or.inl ⟨by rfl, ?_⟩) ?_ ?_
                    rotate_left
                    ·intro w'
                     go_simp
                     with_reducible rfl
                    rotate_left
                    ·simp only [Act.put, List.setIfInBounds_toArray, List.set_cons_zero, List.set_cons_succ, i64_w, i32_w]
                     rfl
                    refine pure_ (i := 6) (N := some 120) (v := ?_) (a' := ?_) #[true, true, true, false, true, true, true, false, false] rfl rfl (any_of HT_.out (by kernel_rfl)) (fun _ _ _ h => h) (Or.inl ⟨by rfl, ?_⟩) ?_ ?_
                    rotate_left
                    ·intro w'
                     go_simp
                     with_reducible rfl
                    rotate_left
                    ·simp only [Act.put, List.setIfInBounds_toArray, List.set_cons_zero, List.set_cons_succ, i64_w, i32_w]
                     rfl
                    refine take_ (i := 3) (N := some 117) (v := ?_) (a' := ?_) #[true, true, true, true, true, true, true, false, false] rfl rfl (take_ofW HT_.out HW_.out (by kernel_rfl)) (fun _ _ _ h => h) (Or.inl ⟨by rfl, ?_⟩) hHeld ?_ ?_
                    rotate_left
                    ·rintro w' ⟨s0, s1, s2, s3, s4, s5, s6, s7⟩
                     go_simp
                     with_reducible rfl
                    rotate_left
                    ·simp only [Act.put, List.setIfInBounds_toArray, List.set_cons_zero, List.set_cons_succ, i64_w, i32_w]
                     rfl
                    refine take_ (i := 7) (N := some 121) (v := ?_) (a' := ?_) #[true, true, true, true, true, true, true, true, false] rfl rfl (take_ofW HT_.out HW_.out (by kernel_rfl)) (fun _ _ _ h => h) (Or.inl ⟨by rfl, ?_⟩) hHeld ?_ ?_
                    rotate_left
                    ·rintro w' ⟨s0, s1, s2, s3, s4, s5, s6, s7⟩
                     go_simp
                     with_reducible rfl
                    rotate_left
                    ·simp only [Act.put, List.setIfInBounds_toArray, List.set_cons_zero, List.set_cons_succ, i64_w, i32_w]
                     rfl
                    refine pure_ (i := 8) (N := some 122) (v := ?_) (a' := ?_) #[true, true, true, true, true, true, true, true, true] rfl rfl (any_of HT_.out (by kernel_rfl)) (fun _ _ _ h => h) (Or.inl ⟨by rfl, ?_⟩) ?_ ?_
                    rotate_left
                    ·intro w'
                     go_simp
                     with_reducible rfl
                    rotate_left
                    ·simp only [Act.put, List.setIfInBounds_toArray, List.set_cons_zero, List.set_cons_succ, i64_w, i32_w]
                     rfl
                    refine done_ (done_of HT_.out (by kernel_rfl)) ?_
                    try go_wp2
                    go_roundg k5
                    case measure => have := HK1.out; have := HJ4.out; have := HJ44.out; have := HJ55.out; have := HK5.out; omega
                    case rel => exact ⟨(wrap64 (x12_5 + 1)), (by first | rfl | (simp; done) | (simp [*]; done)), H', ⟨by have := HK1.out; have := HJ4.out; have := HJ44.out; have := HJ55.out; have := HK5.out; omega⟩, ⟨by (with_reducible repeat (first | apply Kd.R_alloc | apply Kd.R_drewN | apply Kd.R_drew)); exact HO_3.out⟩, ⟨by (with_reducible repeat (first | apply Kd.R_alloc | apply Kd.R_drewN | apply Kd.R_drew)); exact HO_10.out⟩, ⟨by repeat (first | (with_reducible first | exact HB.out | apply below_alloc | apply pw_below_drewN | apply below_drew1) | exact HB.out)⟩⟩
                  ·rw [if_neg c62] at H
                   exact absurd H (by simp)
                 ·rw [if_neg c61] at H
                  exact absurd H (by simp)
                ·rw [if_neg c60] at H
                 have c60b0 : decide (x12_5 < (x3_1.length : Int)) = false := decide_eq_false c60
                 clear c60
                 obtain rfl := Option.some.inj H
                 go_wp2
                 go_ret
                 exact ⟨by first | rfl | (simp [errW_none, errW_some] <;> rfl) | (simp [*, errW_none, errW_some] <;> rfl), by repeat (first | (with_reducible first | exact HB.out | apply below_alloc | apply pw_below_drewN | apply below_drew1) | exact HB.out)⟩
          ·rw [if_neg c54] at H
           have c54b0 : (t171 == 0) = false := beq_eq_false_iff_ne.mpr c54
           have c54b1 : (t171 != 0) = true := bne_iff_ne.mpr c54
           obtain rfl := Option.some.inj H
           go_wp2
           go_ret
           exact ⟨by first | rfl | (simp [errW_none, errW_some] <;> rfl) | (simp [*, errW_none, errW_some] <;> rfl), by repeat (first | (with_reducible first | exact HB.out | apply below_alloc | apply pw_below_drewN | apply below_drew1) | exact HB.out)⟩
 ·replace c3 := Bool.eq_false_iff.mpr c3
  subst c3
  have H1 : (some false) = some r := by rw [if_neg (show ¬ (false = true) by decide)] at H; exact H
  clear H
  have H := H1
  clear H1
  obtain rfl := Option.some.inj H
  go_enter Tryd.func4, Tryd.ntmps4
  go_wp2_with (first | ((with_reducible refine gate_callee (f := 10) rfl ?_); refine goesL_ (some 13) rfl rfl Tryd.func10 (by kernel_rfl) rfl #[] rfl (by (try simp only [List.map_toArray, List.map_cons, List.map_nil]); first | done | rfl | (simp only [List.length_drop, List.length_take]; rfl) | (simp only [decide_eq_true_eq, decide_eq_false_iff_not, eq_iff_iff, iff_true, iff_false] at *; have w_id : ∀ {n : Int}, -9223372036854775808 ≤ n → n ≤ 9223372036854775807 → wrap64 n = n := fun h0 h1 => (by unfold wrap64; omega); rw [w_id (by omega) (by omega)]; rfl)) ?_; (with_reducible refine (posthorselaw17_speaks.calls k  false _ A2.out).mono ?_); rintro e w68 ⟨rfl, hb⟩; refine ⟨_, rfl, ?_⟩; have n0_ := Aside0.mk (below_step (by repeat (first | (with_reducible first | exact HB.out | apply below_alloc | apply pw_below_drewN | apply below_drew1) | exact HB.out)) hb); clear HB; have HB := n0_; clear n0_; (try clear hb); (try clear hb2); (try clear hk); (try clear hi)))
  go_ret
  exact ⟨by first | rfl | (simp [errW_none, errW_some] <;> rfl) | (simp [*, errW_none, errW_some] <;> rfl), by repeat (first | (with_reducible first | exact HB.out | apply below_alloc | apply pw_below_drewN | apply below_drew1) | exact HB.out)⟩

end Go.Proofs.YtekjkbocblonmaaDoor.VCodePuts
