/- Contracts of functions of this seat: each call comes to what its Lean function computes; no condition beyond what each theorem states. Printed by a program of this session's own laid over the kit's printer. -/
import Derived.Test.YtekjkbocblonmaaVCodeJoinsx0
import Derived.Test.YtekjkbocblonmaaVCodeJoinsx1
import Derived.Test.YtekjkbocblonmaaVCodeJoinsx3
import Derived.Test.YtekjkbocblonmaaVCodeJoinsx6
import Derived.Test.YtekjkbocblonmaaVCodeJoinsx7
import Derived.Test.YtekjkbocblonmaaVCodeJoinsx8
namespace Go.Proofs.Ytekjkbocblonmaa.VCodeJoins
open Go.RowKit Go.Proofs.YtekjkbocblonmaaW.PrintWords Go.Proofs.YtekjkbocblonmaaW.PrintLast Go.Proofs.YtekjkbocblonmaaW.PrintMore
attribute [local go_sem] max2_int min2_int max_two min_two max_three min_three max_four min_four   -- for this text's walks alone
set_option linter.unusedVariables false
set_option linter.unusedSimpArgs false

attribute [local go_sem high] eqA40
/-! ### posthorselaw17_CodeJoins: function 6 -/
mutual
def posthorselaw17_CodeJoins.l0 : Nat → List (S41) → List (S41) → Int → List (S40) → Int → Option (Bool)
  | 0, _, _, _, _, _ => none
  | k + 1, x0, x1, x2, x7, x9 => if x9 < (x0.length : Int) then (posthorselaw17_CodeJoins.j1 k x0 x1 x2 x7 ([] : List (S40)) x9 (decide (x9 < 50))) else (posthorselaw17_CodeJoins.j1 k x0 x1 x2 x7 ([] : List (S40)) x9 false)
def posthorselaw17_CodeJoins.j1 : Nat → List (S41) → List (S41) → Int → List (S40) → List (S40) → Int → Bool → Option (Bool)
  | 0, _, _, _, _, _, _, _ => none
  | k + 1, x0, x1, x2, x7, x8, x9, x32 => if x32 = true then (if 0 ≤ x9 then (if x9 < (x0.length : Int) then ((code_Right.f k ((rd_T41 x0 x9).f0) ((rd_T41 x0 x9).f1) ((rd_T41 x0 x9).f2) ((rd_T41 x0 x9).f3)).bind fun t133 => (if t133 = true then (if x7.length < 4398046511104 then (posthorselaw17_CodeJoins.l0 k x0 x1 x2 (x7 ++ [(⟨(rd_T41 x0 x9).f0, (rd_T41 x0 x9).f1, (rd_T41 x0 x9).f2, (rd_T41 x0 x9).f3⟩ : S40)]) (wrap64 (x9 + 1))) else (none)) else (posthorselaw17_CodeJoins.l0 k x0 x1 x2 x7 (wrap64 (x9 + 1))))) else (none)) else (none)) else (posthorselaw17_CodeJoins.l1 k x1 x2 x7 x8 0)
def posthorselaw17_CodeJoins.l1 : Nat → List (S41) → Int → List (S40) → List (S40) → Int → Option (Bool)
  | 0, _, _, _, _, _ => none
  | k + 1, x1, x2, x7, x8, x11 => if x11 < (x1.length : Int) then (posthorselaw17_CodeJoins.j3 k x1 x2 x7 x8 x11 (decide (x11 < 50))) else (posthorselaw17_CodeJoins.j3 k x1 x2 x7 x8 x11 false)
def posthorselaw17_CodeJoins.j3 : Nat → List (S41) → Int → List (S40) → List (S40) → Int → Bool → Option (Bool)
  | 0, _, _, _, _, _, _ => none
  | k + 1, x1, x2, x7, x8, x11, x52 => if x52 = true then (if 0 ≤ x11 then (if x11 < (x1.length : Int) then ((code_Right.f k ((rd_T41 x1 x11).f0) ((rd_T41 x1 x11).f1) ((rd_T41 x1 x11).f2) ((rd_T41 x1 x11).f3)).bind fun t139 => (if t139 = true then (if x8.length < 4398046511104 then (posthorselaw17_CodeJoins.l1 k x1 x2 x7 (x8 ++ [(⟨(rd_T41 x1 x11).f0, (rd_T41 x1 x11).f1, (rd_T41 x1 x11).f2, (rd_T41 x1 x11).f3⟩ : S40)]) (wrap64 (x11 + 1))) else (none)) else (posthorselaw17_CodeJoins.l1 k x1 x2 x7 x8 (wrap64 (x11 + 1))))) else (none)) else (none)) else ((code_Put.f k x7).bind fun bt143 => ((code_Put.f k x8).bind fun bt145 => (if bt143.1.size + bt145.1.size ≤ 9223372036854775807 then ((code_Get.f k (bt143.1 ++ bt145.1)).bind fun bt147 => (if bt143.2.isNone = true then (if bt145.2.isNone = true then (if bt147.2.isNone = true then (posthorselaw17_CodeJoins.j4 k x2 x7 x8 bt143.1 bt145.1 bt147.1 ((bt147.1.length : Int) != (wrap64 ((x7.length : Int) + (x8.length : Int))))) else (posthorselaw17_CodeJoins.j4 k x2 x7 x8 bt143.1 bt145.1 bt147.1 true)) else (posthorselaw17_CodeJoins.j4 k x2 x7 x8 bt143.1 bt145.1 bt147.1 true)) else (posthorselaw17_CodeJoins.j4 k x2 x7 x8 bt143.1 bt145.1 bt147.1 true))) else (none))))
def posthorselaw17_CodeJoins.j4 : Nat → Int → List (S40) → List (S40) → ByteArray → ByteArray → List (S40) → Bool → Option (Bool)
  | 0, _, _, _, _, _, _, _ => none
  | k + 1, x2, x7, x8, x13, x15, x17, x101 => if x101 = true then (some false) else (if (wrap64 ((x17.length : Int) + 1)) = 0 then (none) else (if x13.size + x15.size ≤ 9223372036854775807 then (if 0 ≤ (wrap64 (8 * (Int.tmod (wrap64 ((wrap64 ((Int.tmod x2 (wrap64 ((x17.length : Int) + 1))) + (x17.length : Int))) + 1)) (wrap64 ((x17.length : Int) + 1))))) then (if (wrap64 (8 * (Int.tmod (wrap64 ((wrap64 ((Int.tmod x2 (wrap64 ((x17.length : Int) + 1))) + (x17.length : Int))) + 1)) (wrap64 ((x17.length : Int) + 1))))) ≤ ((x13 ++ x15).size : Int) then ((code_Get.f k ((x13 ++ x15).extract 0 ((wrap64 (8 * (Int.tmod (wrap64 ((wrap64 ((Int.tmod x2 (wrap64 ((x17.length : Int) + 1))) + (x17.length : Int))) + 1)) (wrap64 ((x17.length : Int) + 1))))) : Int).toNat)).bind fun bt154 => (if bt154.2.isNone = true then (posthorselaw17_CodeJoins.j5 k x7 x8 x17 (Int.tmod (wrap64 ((wrap64 ((Int.tmod x2 (wrap64 ((x17.length : Int) + 1))) + (x17.length : Int))) + 1)) (wrap64 ((x17.length : Int) + 1))) bt154.1 ((bt154.1.length : Int) != (Int.tmod (wrap64 ((wrap64 ((Int.tmod x2 (wrap64 ((x17.length : Int) + 1))) + (x17.length : Int))) + 1)) (wrap64 ((x17.length : Int) + 1))))) else (posthorselaw17_CodeJoins.j5 k x7 x8 x17 (Int.tmod (wrap64 ((wrap64 ((Int.tmod x2 (wrap64 ((x17.length : Int) + 1))) + (x17.length : Int))) + 1)) (wrap64 ((x17.length : Int) + 1))) bt154.1 true))) else (none)) else (none)) else (none)))
def posthorselaw17_CodeJoins.j5 : Nat → List (S40) → List (S40) → List (S40) → Int → List (S40) → Bool → Option (Bool)
  | 0, _, _, _, _, _, _ => none
  | k + 1, x7, x8, x17, x19, x20, x132 => if x132 = true then (some false) else (posthorselaw17_CodeJoins.l2 k x7 x8 x17 x19 x20 0)
def posthorselaw17_CodeJoins.l2 : Nat → List (S40) → List (S40) → List (S40) → Int → List (S40) → Int → Option (Bool)
  | 0, _, _, _, _, _, _ => none
  | k + 1, x7, x8, x17, x19, x20, x22 => if x22 < (x17.length : Int) then (if x22 < (x7.length : Int) then (if 0 ≤ x22 then (if (!(((rd_T40 x17 x22).f0) == ((rd_T40 x7 x22).f0)) || (!(((rd_T40 x17 x22).f1) == ((rd_T40 x7 x22).f1)) || (!(((rd_T40 x17 x22).f2) == ((rd_T40 x7 x22).f2)) || (!(((rd_T40 x17 x22).f3) == ((rd_T40 x7 x22).f3)))))) = true then (some false) else (if x22 ≥ (x7.length : Int) then (if 0 ≤ (wrap64 (x22 - (x7.length : Int))) then (if (wrap64 (x22 - (x7.length : Int))) < (x8.length : Int) then (if (!(((rd_T40 x17 x22).f0) == ((rd_T40 x8 (wrap64 (x22 - (x7.length : Int)))).f0)) || (!(((rd_T40 x17 x22).f1) == ((rd_T40 x8 (wrap64 (x22 - (x7.length : Int)))).f1)) || (!(((rd_T40 x17 x22).f2) == ((rd_T40 x8 (wrap64 (x22 - (x7.length : Int)))).f2)) || (!(((rd_T40 x17 x22).f3) == ((rd_T40 x8 (wrap64 (x22 - (x7.length : Int)))).f3)))))) = true then (some false) else (if x22 < x19 then (if x22 < (x20.length : Int) then (if (!(((rd_T40 x20 x22).f0) == ((rd_T40 x17 x22).f0)) || (!(((rd_T40 x20 x22).f1) == ((rd_T40 x17 x22).f1)) || (!(((rd_T40 x20 x22).f2) == ((rd_T40 x17 x22).f2)) || (!(((rd_T40 x20 x22).f3) == ((rd_T40 x17 x22).f3)))))) = true then (some false) else (posthorselaw17_CodeJoins.l2 k x7 x8 x17 x19 x20 (wrap64 (x22 + 1)))) else (none)) else (posthorselaw17_CodeJoins.l2 k x7 x8 x17 x19 x20 (wrap64 (x22 + 1))))) else (none)) else (none)) else (if x22 < x19 then (if x22 < (x20.length : Int) then (if (!(((rd_T40 x20 x22).f0) == ((rd_T40 x17 x22).f0)) || (!(((rd_T40 x20 x22).f1) == ((rd_T40 x17 x22).f1)) || (!(((rd_T40 x20 x22).f2) == ((rd_T40 x17 x22).f2)) || (!(((rd_T40 x20 x22).f3) == ((rd_T40 x17 x22).f3)))))) = true then (some false) else (posthorselaw17_CodeJoins.l2 k x7 x8 x17 x19 x20 (wrap64 (x22 + 1)))) else (none)) else (posthorselaw17_CodeJoins.l2 k x7 x8 x17 x19 x20 (wrap64 (x22 + 1)))))) else (none)) else (if x22 ≥ (x7.length : Int) then (if 0 ≤ x22 then (if 0 ≤ (wrap64 (x22 - (x7.length : Int))) then (if (wrap64 (x22 - (x7.length : Int))) < (x8.length : Int) then (if (!(((rd_T40 x17 x22).f0) == ((rd_T40 x8 (wrap64 (x22 - (x7.length : Int)))).f0)) || (!(((rd_T40 x17 x22).f1) == ((rd_T40 x8 (wrap64 (x22 - (x7.length : Int)))).f1)) || (!(((rd_T40 x17 x22).f2) == ((rd_T40 x8 (wrap64 (x22 - (x7.length : Int)))).f2)) || (!(((rd_T40 x17 x22).f3) == ((rd_T40 x8 (wrap64 (x22 - (x7.length : Int)))).f3)))))) = true then (some false) else (if x22 < x19 then (if x22 < (x20.length : Int) then (if (!(((rd_T40 x20 x22).f0) == ((rd_T40 x17 x22).f0)) || (!(((rd_T40 x20 x22).f1) == ((rd_T40 x17 x22).f1)) || (!(((rd_T40 x20 x22).f2) == ((rd_T40 x17 x22).f2)) || (!(((rd_T40 x20 x22).f3) == ((rd_T40 x17 x22).f3)))))) = true then (some false) else (posthorselaw17_CodeJoins.l2 k x7 x8 x17 x19 x20 (wrap64 (x22 + 1)))) else (none)) else (posthorselaw17_CodeJoins.l2 k x7 x8 x17 x19 x20 (wrap64 (x22 + 1))))) else (none)) else (none)) else (none)) else (if x22 < x19 then (if 0 ≤ x22 then (if x22 < (x20.length : Int) then (if (!(((rd_T40 x20 x22).f0) == ((rd_T40 x17 x22).f0)) || (!(((rd_T40 x20 x22).f1) == ((rd_T40 x17 x22).f1)) || (!(((rd_T40 x20 x22).f2) == ((rd_T40 x17 x22).f2)) || (!(((rd_T40 x20 x22).f3) == ((rd_T40 x17 x22).f3)))))) = true then (some false) else (posthorselaw17_CodeJoins.l2 k x7 x8 x17 x19 x20 (wrap64 (x22 + 1)))) else (none)) else (none)) else (posthorselaw17_CodeJoins.l2 k x7 x8 x17 x19 x20 (wrap64 (x22 + 1)))))) else (some true)
end
def posthorselaw17_CodeJoins.f (k : Nat) (l0 : List (S41)) (l1 : List (S41)) (a2 : Int) : Option (Bool) := (posthorselaw17_speaks.f k).bind fun t130 => (if t130 = true then (posthorselaw17_CodeJoins.l0 k l0 l1 a2 ([] : List (S40)) 0) else (some false))
theorem posthorselaw17_CodeJoins.mono_l : ∀ k, (∀ y0 y1 y2 y3 y4, LeO (posthorselaw17_CodeJoins.l0 k y0 y1 y2 y3 y4) (posthorselaw17_CodeJoins.l0 (k + 1) y0 y1 y2 y3 y4)) ∧ (∀ y0 y1 y2 y3 y4 y5 y6, LeO (posthorselaw17_CodeJoins.j1 k y0 y1 y2 y3 y4 y5 y6) (posthorselaw17_CodeJoins.j1 (k + 1) y0 y1 y2 y3 y4 y5 y6)) ∧ (∀ y0 y1 y2 y3 y4, LeO (posthorselaw17_CodeJoins.l1 k y0 y1 y2 y3 y4) (posthorselaw17_CodeJoins.l1 (k + 1) y0 y1 y2 y3 y4)) ∧ (∀ y0 y1 y2 y3 y4 y5, LeO (posthorselaw17_CodeJoins.j3 k y0 y1 y2 y3 y4 y5) (posthorselaw17_CodeJoins.j3 (k + 1) y0 y1 y2 y3 y4 y5)) ∧ (∀ y0 y1 y2 y3 y4 y5 y6, LeO (posthorselaw17_CodeJoins.j4 k y0 y1 y2 y3 y4 y5 y6) (posthorselaw17_CodeJoins.j4 (k + 1) y0 y1 y2 y3 y4 y5 y6)) ∧ (∀ y0 y1 y2 y3 y4 y5, LeO (posthorselaw17_CodeJoins.j5 k y0 y1 y2 y3 y4 y5) (posthorselaw17_CodeJoins.j5 (k + 1) y0 y1 y2 y3 y4 y5)) ∧ (∀ y0 y1 y2 y3 y4 y5, LeO (posthorselaw17_CodeJoins.l2 k y0 y1 y2 y3 y4 y5) (posthorselaw17_CodeJoins.l2 (k + 1) y0 y1 y2 y3 y4 y5))
  | 0 => ⟨fun _ _ _ _ _ r h => by simp [posthorselaw17_CodeJoins.l0] at h, fun _ _ _ _ _ _ _ r h => by simp [posthorselaw17_CodeJoins.j1] at h, fun _ _ _ _ _ r h => by simp [posthorselaw17_CodeJoins.l1] at h, fun _ _ _ _ _ _ r h => by simp [posthorselaw17_CodeJoins.j3] at h, fun _ _ _ _ _ _ _ r h => by simp [posthorselaw17_CodeJoins.j4] at h, fun _ _ _ _ _ _ r h => by simp [posthorselaw17_CodeJoins.j5] at h, fun _ _ _ _ _ _ r h => by simp [posthorselaw17_CodeJoins.l2] at h⟩
  | k + 1 => by
    obtain ⟨ih0, ih1, ih2, ih3, ih4, ih5, ih6⟩ := posthorselaw17_CodeJoins.mono_l k
    refine ⟨?_, ?_, ?_, ?_, ?_, ?_, ?_⟩
    · intro y0 y1 y2 y3 y4
      unfold posthorselaw17_CodeJoins.l0
      repeat' first
      | (with_reducible exact ih0 _ _ _ _ _)
      | (with_reducible exact ih1 _ _ _ _ _ _ _)
      | (with_reducible exact ih2 _ _ _ _ _)
      | (with_reducible exact ih3 _ _ _ _ _ _)
      | (with_reducible exact ih4 _ _ _ _ _ _ _)
      | (with_reducible exact ih5 _ _ _ _ _ _)
      | (with_reducible exact ih6 _ _ _ _ _ _)
      | (with_reducible exact code_Get.mono _ _)
      | (with_reducible exact code_Put.mono _ _)
      | (with_reducible exact code_Right.mono _ _ _ _ _)
      | (with_reducible exact posthorselaw17_speaks.mono _)
      | (with_reducible exact LeO.refl _)
      | (with_reducible exact LeO.none _)
      | (with_reducible refine LeO.ite ?_ ?_)
      | (with_reducible refine LeO.bind ?_ (fun _ => ?_))
      | exact ih0 _ _ _ _ _
      | exact ih1 _ _ _ _ _ _ _
      | exact ih2 _ _ _ _ _
      | exact ih3 _ _ _ _ _ _
      | exact ih4 _ _ _ _ _ _ _
      | exact ih5 _ _ _ _ _ _
      | exact ih6 _ _ _ _ _ _
      | exact code_Get.mono _ _
      | exact code_Put.mono _ _
      | exact code_Right.mono _ _ _ _ _
      | exact posthorselaw17_speaks.mono _
      | exact LeO.none _
      | refine LeO.ite ?_ ?_
      | refine LeO.bind ?_ (fun _ => ?_)
    · intro y0 y1 y2 y3 y4 y5 y6
      unfold posthorselaw17_CodeJoins.j1
      repeat' first
      | (with_reducible exact ih0 _ _ _ _ _)
      | (with_reducible exact ih1 _ _ _ _ _ _ _)
      | (with_reducible exact ih2 _ _ _ _ _)
      | (with_reducible exact ih3 _ _ _ _ _ _)
      | (with_reducible exact ih4 _ _ _ _ _ _ _)
      | (with_reducible exact ih5 _ _ _ _ _ _)
      | (with_reducible exact ih6 _ _ _ _ _ _)
      | (with_reducible exact code_Get.mono _ _)
      | (with_reducible exact code_Put.mono _ _)
      | (with_reducible exact code_Right.mono _ _ _ _ _)
      | (with_reducible exact posthorselaw17_speaks.mono _)
      | (with_reducible exact LeO.refl _)
      | (with_reducible exact LeO.none _)
      | (with_reducible refine LeO.ite ?_ ?_)
      | (with_reducible refine LeO.bind ?_ (fun _ => ?_))
      | exact ih0 _ _ _ _ _
      | exact ih1 _ _ _ _ _ _ _
      | exact ih2 _ _ _ _ _
      | exact ih3 _ _ _ _ _ _
      | exact ih4 _ _ _ _ _ _ _
      | exact ih5 _ _ _ _ _ _
      | exact ih6 _ _ _ _ _ _
      | exact code_Get.mono _ _
      | exact code_Put.mono _ _
      | exact code_Right.mono _ _ _ _ _
      | exact posthorselaw17_speaks.mono _
      | exact LeO.none _
      | refine LeO.ite ?_ ?_
      | refine LeO.bind ?_ (fun _ => ?_)
    · intro y0 y1 y2 y3 y4
      unfold posthorselaw17_CodeJoins.l1
      repeat' first
      | (with_reducible exact ih0 _ _ _ _ _)
      | (with_reducible exact ih1 _ _ _ _ _ _ _)
      | (with_reducible exact ih2 _ _ _ _ _)
      | (with_reducible exact ih3 _ _ _ _ _ _)
      | (with_reducible exact ih4 _ _ _ _ _ _ _)
      | (with_reducible exact ih5 _ _ _ _ _ _)
      | (with_reducible exact ih6 _ _ _ _ _ _)
      | (with_reducible exact code_Get.mono _ _)
      | (with_reducible exact code_Put.mono _ _)
      | (with_reducible exact code_Right.mono _ _ _ _ _)
      | (with_reducible exact posthorselaw17_speaks.mono _)
      | (with_reducible exact LeO.refl _)
      | (with_reducible exact LeO.none _)
      | (with_reducible refine LeO.ite ?_ ?_)
      | (with_reducible refine LeO.bind ?_ (fun _ => ?_))
      | exact ih0 _ _ _ _ _
      | exact ih1 _ _ _ _ _ _ _
      | exact ih2 _ _ _ _ _
      | exact ih3 _ _ _ _ _ _
      | exact ih4 _ _ _ _ _ _ _
      | exact ih5 _ _ _ _ _ _
      | exact ih6 _ _ _ _ _ _
      | exact code_Get.mono _ _
      | exact code_Put.mono _ _
      | exact code_Right.mono _ _ _ _ _
      | exact posthorselaw17_speaks.mono _
      | exact LeO.none _
      | refine LeO.ite ?_ ?_
      | refine LeO.bind ?_ (fun _ => ?_)
    · intro y0 y1 y2 y3 y4 y5
      unfold posthorselaw17_CodeJoins.j3
      repeat' first
      | (with_reducible exact ih0 _ _ _ _ _)
      | (with_reducible exact ih1 _ _ _ _ _ _ _)
      | (with_reducible exact ih2 _ _ _ _ _)
      | (with_reducible exact ih3 _ _ _ _ _ _)
      | (with_reducible exact ih4 _ _ _ _ _ _ _)
      | (with_reducible exact ih5 _ _ _ _ _ _)
      | (with_reducible exact ih6 _ _ _ _ _ _)
      | (with_reducible exact code_Get.mono _ _)
      | (with_reducible exact code_Put.mono _ _)
      | (with_reducible exact code_Right.mono _ _ _ _ _)
      | (with_reducible exact posthorselaw17_speaks.mono _)
      | (with_reducible exact LeO.refl _)
      | (with_reducible exact LeO.none _)
      | (with_reducible refine LeO.ite ?_ ?_)
      | (with_reducible refine LeO.bind ?_ (fun _ => ?_))
      | exact ih0 _ _ _ _ _
      | exact ih1 _ _ _ _ _ _ _
      | exact ih2 _ _ _ _ _
      | exact ih3 _ _ _ _ _ _
      | exact ih4 _ _ _ _ _ _ _
      | exact ih5 _ _ _ _ _ _
      | exact ih6 _ _ _ _ _ _
      | exact code_Get.mono _ _
      | exact code_Put.mono _ _
      | exact code_Right.mono _ _ _ _ _
      | exact posthorselaw17_speaks.mono _
      | exact LeO.none _
      | refine LeO.ite ?_ ?_
      | refine LeO.bind ?_ (fun _ => ?_)
    · intro y0 y1 y2 y3 y4 y5 y6
      unfold posthorselaw17_CodeJoins.j4
      repeat' first
      | (with_reducible exact ih0 _ _ _ _ _)
      | (with_reducible exact ih1 _ _ _ _ _ _ _)
      | (with_reducible exact ih2 _ _ _ _ _)
      | (with_reducible exact ih3 _ _ _ _ _ _)
      | (with_reducible exact ih4 _ _ _ _ _ _ _)
      | (with_reducible exact ih5 _ _ _ _ _ _)
      | (with_reducible exact ih6 _ _ _ _ _ _)
      | (with_reducible exact code_Get.mono _ _)
      | (with_reducible exact code_Put.mono _ _)
      | (with_reducible exact code_Right.mono _ _ _ _ _)
      | (with_reducible exact posthorselaw17_speaks.mono _)
      | (with_reducible exact LeO.refl _)
      | (with_reducible exact LeO.none _)
      | (with_reducible refine LeO.ite ?_ ?_)
      | (with_reducible refine LeO.bind ?_ (fun _ => ?_))
      | exact ih0 _ _ _ _ _
      | exact ih1 _ _ _ _ _ _ _
      | exact ih2 _ _ _ _ _
      | exact ih3 _ _ _ _ _ _
      | exact ih4 _ _ _ _ _ _ _
      | exact ih5 _ _ _ _ _ _
      | exact ih6 _ _ _ _ _ _
      | exact code_Get.mono _ _
      | exact code_Put.mono _ _
      | exact code_Right.mono _ _ _ _ _
      | exact posthorselaw17_speaks.mono _
      | exact LeO.none _
      | refine LeO.ite ?_ ?_
      | refine LeO.bind ?_ (fun _ => ?_)
    · intro y0 y1 y2 y3 y4 y5
      unfold posthorselaw17_CodeJoins.j5
      repeat' first
      | (with_reducible exact ih0 _ _ _ _ _)
      | (with_reducible exact ih1 _ _ _ _ _ _ _)
      | (with_reducible exact ih2 _ _ _ _ _)
      | (with_reducible exact ih3 _ _ _ _ _ _)
      | (with_reducible exact ih4 _ _ _ _ _ _ _)
      | (with_reducible exact ih5 _ _ _ _ _ _)
      | (with_reducible exact ih6 _ _ _ _ _ _)
      | (with_reducible exact code_Get.mono _ _)
      | (with_reducible exact code_Put.mono _ _)
      | (with_reducible exact code_Right.mono _ _ _ _ _)
      | (with_reducible exact posthorselaw17_speaks.mono _)
      | (with_reducible exact LeO.refl _)
      | (with_reducible exact LeO.none _)
      | (with_reducible refine LeO.ite ?_ ?_)
      | (with_reducible refine LeO.bind ?_ (fun _ => ?_))
      | exact ih0 _ _ _ _ _
      | exact ih1 _ _ _ _ _ _ _
      | exact ih2 _ _ _ _ _
      | exact ih3 _ _ _ _ _ _
      | exact ih4 _ _ _ _ _ _ _
      | exact ih5 _ _ _ _ _ _
      | exact ih6 _ _ _ _ _ _
      | exact code_Get.mono _ _
      | exact code_Put.mono _ _
      | exact code_Right.mono _ _ _ _ _
      | exact posthorselaw17_speaks.mono _
      | exact LeO.none _
      | refine LeO.ite ?_ ?_
      | refine LeO.bind ?_ (fun _ => ?_)
    · intro y0 y1 y2 y3 y4 y5
      unfold posthorselaw17_CodeJoins.l2
      repeat' first
      | (with_reducible exact ih0 _ _ _ _ _)
      | (with_reducible exact ih1 _ _ _ _ _ _ _)
      | (with_reducible exact ih2 _ _ _ _ _)
      | (with_reducible exact ih3 _ _ _ _ _ _)
      | (with_reducible exact ih4 _ _ _ _ _ _ _)
      | (with_reducible exact ih5 _ _ _ _ _ _)
      | (with_reducible exact ih6 _ _ _ _ _ _)
      | (with_reducible exact code_Get.mono _ _)
      | (with_reducible exact code_Put.mono _ _)
      | (with_reducible exact code_Right.mono _ _ _ _ _)
      | (with_reducible exact posthorselaw17_speaks.mono _)
      | (with_reducible exact LeO.refl _)
      | (with_reducible exact LeO.none _)
      | (with_reducible refine LeO.ite ?_ ?_)
      | (with_reducible refine LeO.bind ?_ (fun _ => ?_))
      | exact ih0 _ _ _ _ _
      | exact ih1 _ _ _ _ _ _ _
      | exact ih2 _ _ _ _ _
      | exact ih3 _ _ _ _ _ _
      | exact ih4 _ _ _ _ _ _ _
      | exact ih5 _ _ _ _ _ _
      | exact ih6 _ _ _ _ _ _
      | exact code_Get.mono _ _
      | exact code_Put.mono _ _
      | exact code_Right.mono _ _ _ _ _
      | exact posthorselaw17_speaks.mono _
      | exact LeO.none _
      | refine LeO.ite ?_ ?_
      | refine LeO.bind ?_ (fun _ => ?_)
theorem posthorselaw17_CodeJoins.mono : ∀ a0 a1 a2 k, LeO (posthorselaw17_CodeJoins.f k a0 a1 a2) (posthorselaw17_CodeJoins.f (k + 1) a0 a1 a2) := by
  intro a0 a1 a2 k
  obtain ⟨ih0, ih1, ih2, ih3, ih4, ih5, ih6⟩ := posthorselaw17_CodeJoins.mono_l k
  unfold posthorselaw17_CodeJoins.f
  repeat' first
      | (with_reducible exact ih0 _ _ _ _ _)
      | (with_reducible exact ih1 _ _ _ _ _ _ _)
      | (with_reducible exact ih2 _ _ _ _ _)
      | (with_reducible exact ih3 _ _ _ _ _ _)
      | (with_reducible exact ih4 _ _ _ _ _ _ _)
      | (with_reducible exact ih5 _ _ _ _ _ _)
      | (with_reducible exact ih6 _ _ _ _ _ _)
      | (with_reducible exact code_Get.mono _ _)
      | (with_reducible exact code_Put.mono _ _)
      | (with_reducible exact code_Right.mono _ _ _ _ _)
      | (with_reducible exact posthorselaw17_speaks.mono _)
      | (with_reducible exact LeO.refl _)
      | (with_reducible exact LeO.none _)
      | (with_reducible refine LeO.ite ?_ ?_)
      | (with_reducible refine LeO.bind ?_ (fun _ => ?_))
      | exact ih0 _ _ _ _ _
      | exact ih1 _ _ _ _ _ _ _
      | exact ih2 _ _ _ _ _
      | exact ih3 _ _ _ _ _ _
      | exact ih4 _ _ _ _ _ _ _
      | exact ih5 _ _ _ _ _ _
      | exact ih6 _ _ _ _ _ _
      | exact code_Get.mono _ _
      | exact code_Put.mono _ _
      | exact code_Right.mono _ _ _ _ _
      | exact posthorselaw17_speaks.mono _
      | exact LeO.none _
      | refine LeO.ite ?_ ?_
      | refine LeO.bind ?_ (fun _ => ?_)
set_option maxHeartbeats 8000000 in
set_option maxRecDepth 100000 in
theorem posthorselaw17_CodeJoins.calls (k : Nat) (A0 : Option Addr) (c0 : Nat) (l0 : List (S41)) (A1 : Option Addr) (c1 : Nat) (l1 : List (S41)) (a2 : Int) (r : Bool) (w : World) (hr0 : Kd.C k41 w A0 l0.length l0) (hc0 : l0.length ≤ c0) (hr1 : Kd.C k41 w A1 l1.length l1) (hc1 : l1.length ≤ c1) (h : posthorselaw17_CodeJoins.f k l0 l1 a2 = some r) :
    Calls Try.prog 6 #[.slice A0 l0.length c0, .slice A1 l1.length c1, .int .i64 a2] w fun e w' => e = .returned (.bool r) ∧ Below w.heap.size w w' := by
  have hu41 := Try.underlying41
  have hu40 := Try.underlying40
  have hu43 := Try.underlying43
  have hu52 := Try.underlying52
  have HR0 := Aside0.mk hr0
  have HC0 := Aside0.mk hc0
  clear hr0 hc0
  have HR1 := Aside0.mk hr1
  have HC1 := Aside0.mk hc1
  clear hr1 hc1
  have HB := Aside0.mk (Below.refl w.heap.size w)
  have H : ((posthorselaw17_speaks.f k).bind fun t130 => (if t130 = true then (posthorselaw17_CodeJoins.l0 k l0 l1 a2 ([] : List (S40)) 0) else (some false))) = some r := h
  clear h
  replace H := Option.bind_eq_some_iff.mp H
  obtain ⟨t130, A40, H⟩ := H
  replace H : (if t130 = true then (posthorselaw17_CodeJoins.l0 k l0 l1 a2 ([] : List (S40)) 0) else (some false)) = some r := H
  have A4 := Aside0.mk A40
  clear A40
  by_cases c5 : t130 = true
  · subst c5
    have H1 : (posthorselaw17_CodeJoins.l0 k l0 l1 a2 ([] : List (S40)) 0) = some r := by rw [if_pos rfl] at H; exact H
    clear H
    have H := H1
    clear H1
    have H' := Aside0.mk H
    clear H
    go_enter Try.func6, Try.ntmps6
    go_wp2_with (first | (go_at_call 15; (with_reducible refine (posthorselaw17_speaks.calls k  true _ A4.out).mono ?_); rintro e w6 ⟨rfl, hb⟩; have n0_ := Aside0.mk (below_step (by repeat (first | (with_reducible first | exact HB.out | apply below_alloc | apply pw_below_drewN | apply below_drew1) | exact HB.out)) hb); clear HB; have HB := n0_; clear n0_; (try clear hb); (try clear hb2); (try clear hk); (try clear hi)))
    repeat (go_quiet (first | (go_at_call 15; (with_reducible refine (posthorselaw17_speaks.calls k  true _ A4.out).mono ?_); rintro e w6 ⟨rfl, hb⟩; have n0_ := Aside0.mk (below_step (by repeat (first | (with_reducible first | exact HB.out | apply below_alloc | apply pw_below_drewN | apply below_drew1) | exact HB.out)) hb); clear HB; have HB := n0_; clear n0_; (try clear hb); (try clear hb2); (try clear hk); (try clear hi))); try go_wp2_with (first | (go_at_call 15; (with_reducible refine (posthorselaw17_speaks.calls k  true _ A4.out).mono ?_); rintro e w6 ⟨rfl, hb⟩; have n0_ := Aside0.mk (below_step (by repeat (first | (with_reducible first | exact HB.out | apply below_alloc | apply pw_below_drewN | apply below_drew1) | exact HB.out)) hb); clear HB; have HB := n0_; clear n0_; (try clear hb); (try clear hb2); (try clear hk); (try clear hi))))
    go_loopg [7, 9] k (fun kq v7 v9 w' => ∃ (x7_1 : List (S40)) (x9_1 : Int), v9 = .int .i64 x9_1 ∧ Aside0 (posthorselaw17_CodeJoins.l0 kq l0 l1 a2 x7_1 x9_1 = some r) ∧ Aside0 (kq ≤ k) ∧ Aside0 (Kd.R k40 40 w' w.heap.size (fun _ => True) v7 x7_1) ∧ Aside0 (Below w.heap.size w w'))
    case atStart => exact ⟨(([] : List (S40))), (0), (by first | rfl | (simp; done) | (simp [*]; done)), H', ⟨Nat.le_refl _⟩, ⟨by first | exact Kd.R_nil _ _ _ _ _ | exact Kd.N_nil _ _ _ _ _ | exact Kd.V_nil _ _ _ _ _ | exact Kd.Q_nil _ _ _ _ _ | exact Kd.S_nil _ _ _ _ _⟩, ⟨by repeat (first | (with_reducible first | exact HB.out | apply below_alloc | apply pw_below_drewN | apply below_drew1) | exact HB.out)⟩⟩
    case round =>
      as_aux_lemma =>
      clear H'
      try clear c1
      try clear p2
      try clear c5
      try clear c6
      obtain ⟨x7_1, x9_1, rfl, HA, HK1, HO_7, HB⟩ := hrel
      cases gk with
      | zero => exact absurd HA.out (by simp [posthorselaw17_CodeJoins.l0])
      | succ k1 =>
        have H := HA.out
        clear HA
        simp only [posthorselaw17_CodeJoins.l0] at H
        have HC7 := Aside0.mk H
        clear H
        go_upto_region 5 with (fail)
        repeat (go_quiet (fail); go_upto_region 5 with (fail))
        go_cut [32] (fun v32 wc => ∃ (kq : Nat) (x32_6 : Bool), v32 = .bool x32_6 ∧ Aside0 (posthorselaw17_CodeJoins.j1 kq l0 l1 a2 x7_1 ([] : List (S40)) x9_1 x32_6 = some r) ∧ Aside0 (kq ≤ k1) ∧ Aside0 (Kd.R k40 40 wc w.heap.size (fun k_ => some k_ ≠ ((.slice none 0 0) : Value).ownBlock) u7 x7_1) ∧ Aside0 (Kd.R k40 40 wc w.heap.size (fun k_ => some k_ ≠ (u7 : Value).ownBlock) (.slice none 0 0) ([] : List (S40))) ∧ Aside0 (Below w.heap.size w wc))
        case first =>
          as_aux_lemma =>
          have H := HC7.out
          clear HC7
          by_cases c8 : x9_1 < (l0.length : Int)
          · rw [if_pos c8] at H
            have c8b0 : decide (x9_1 < (l0.length : Int)) = true := decide_eq_true c8
            clear c8
            (first | rw [c8b0] | (simp only [i64_w, i32_w]; rw [c8b0]) | skip)
            as_aux_lemma =>
              have H' := Aside0.mk H
              clear H
              go_wp2
              repeat (go_quiet (fail); try go_wp2)
              go_meet
              case rel => exact ⟨_, (decide (x9_1 < 50)), (by first | rfl | (simp; done) | (simp [*]; done)), H', ⟨by have := HK1.out; first | omega | exact Nat.le_refl _⟩, ⟨by (with_reducible repeat (first | apply Kd.R_alloc | apply Kd.R_drewN | apply Kd.R_drew)); exact Kd.R_mono HO_7.out (fun _ hk => (by simp [Value.ownBlock]))⟩, ⟨by first | exact Kd.R_nil _ _ _ _ _ | exact Kd.N_nil _ _ _ _ _ | exact Kd.V_nil _ _ _ _ _ | exact Kd.Q_nil _ _ _ _ _ | exact Kd.S_nil _ _ _ _ _⟩, ⟨by repeat (first | (with_reducible first | exact HB.out | apply below_alloc | apply pw_below_drewN | apply below_drew1) | exact HB.out)⟩⟩
          · rw [if_neg c8] at H
            have c8b0 : decide (x9_1 < (l0.length : Int)) = false := decide_eq_false c8
            clear c8
            (first | rw [c8b0] | (simp only [i64_w, i32_w]; rw [c8b0]) | skip)
            as_aux_lemma =>
              have H' := Aside0.mk H
              clear H
              go_wp2
              repeat (go_quiet (fail); try go_wp2)
              go_meet
              case rel => exact ⟨_, (false), (by first | rfl | (simp; done) | (simp [*]; done)), H', ⟨by have := HK1.out; first | omega | exact Nat.le_refl _⟩, ⟨by (with_reducible repeat (first | apply Kd.R_alloc | apply Kd.R_drewN | apply Kd.R_drew)); exact Kd.R_mono HO_7.out (fun _ hk => (by simp [Value.ownBlock]))⟩, ⟨by first | exact Kd.R_nil _ _ _ _ _ | exact Kd.N_nil _ _ _ _ _ | exact Kd.V_nil _ _ _ _ _ | exact Kd.Q_nil _ _ _ _ _ | exact Kd.S_nil _ _ _ _ _⟩, ⟨by repeat (first | (with_reducible first | exact HB.out | apply below_alloc | apply pw_below_drewN | apply below_drew1) | exact HB.out)⟩⟩
        case rest =>
          clear HC7
          try clear c1
          try clear p2
          try clear c5
          try clear c6
          try clear c8
          try clear c8b0
          try clear p2
          obtain ⟨kq, x32_6, rfl, HA, HJ6, HO_7, HO_8, HB⟩ := hcut
          cases kq with
          | zero => exact absurd HA.out (by simp [posthorselaw17_CodeJoins.j1])
          | succ kj6 =>
            have H := HA.out
            clear HA
            simp only [posthorselaw17_CodeJoins.j1] at H
            by_cases c9 : x32_6 = true
            · subst c9
              have H1 : (if 0 ≤ x9_1 then (if x9_1 < (l0.length : Int) then ((code_Right.f kj6 ((rd_T41 l0 x9_1).f0) ((rd_T41 l0 x9_1).f1) ((rd_T41 l0 x9_1).f2) ((rd_T41 l0 x9_1).f3)).bind fun t133 => (if t133 = true then (if x7_1.length < 4398046511104 then (posthorselaw17_CodeJoins.l0 kj6 l0 l1 a2 (x7_1 ++ [(⟨(rd_T41 l0 x9_1).f0, (rd_T41 l0 x9_1).f1, (rd_T41 l0 x9_1).f2, (rd_T41 l0 x9_1).f3⟩ : S40)]) (wrap64 (x9_1 + 1))) else (none)) else (posthorselaw17_CodeJoins.l0 kj6 l0 l1 a2 x7_1 (wrap64 (x9_1 + 1))))) else (none)) else (none)) = some r := by rw [if_pos rfl] at H; exact H
              clear H
              have H := H1
              clear H1
              by_cases c10 : 0 ≤ x9_1
              · rw [if_pos c10] at H
                have c10b0 : decide (0 ≤ x9_1) = true := decide_eq_true c10
                clear c10
                by_cases c11 : x9_1 < (l0.length : Int)
                · rw [if_pos c11] at H
                  have c11b0 : decide (x9_1 < (l0.length : Int)) = true := decide_eq_true c11
                  clear c11
                  replace H := Option.bind_eq_some_iff.mp H
                  obtain ⟨t133, A120, H⟩ := H
                  replace H : (if t133 = true then (if x7_1.length < 4398046511104 then (posthorselaw17_CodeJoins.l0 kj6 l0 l1 a2 (x7_1 ++ [(⟨(rd_T41 l0 x9_1).f0, (rd_T41 l0 x9_1).f1, (rd_T41 l0 x9_1).f2, (rd_T41 l0 x9_1).f3⟩ : S40)]) (wrap64 (x9_1 + 1))) else (none)) else (posthorselaw17_CodeJoins.l0 kj6 l0 l1 a2 x7_1 (wrap64 (x9_1 + 1)))) = some r := H
                  have A12 := Aside0.mk A120
                  clear A120
                  by_cases c13 : t133 = true
                  · subst c13
                    have H1 : (if x7_1.length < 4398046511104 then (posthorselaw17_CodeJoins.l0 kj6 l0 l1 a2 (x7_1 ++ [(⟨(rd_T41 l0 x9_1).f0, (rd_T41 l0 x9_1).f1, (rd_T41 l0 x9_1).f2, (rd_T41 l0 x9_1).f3⟩ : S40)]) (wrap64 (x9_1 + 1))) else (none)) = some r := by rw [if_pos rfl] at H; exact H
                    clear H
                    have H := H1
                    clear H1
                    by_cases c14 : x7_1.length < 4398046511104
                    · rw [if_pos c14] at H
                      have LMc14 := Aside0.mk c14
                      clear c14
                      obtain ⟨y134, hy134⟩ : ∃ y_ : List (S40), y_ = (x7_1 ++ [(⟨(rd_T41 l0 x9_1).f0, (rd_T41 l0 x9_1).f1, (rd_T41 l0 x9_1).f2, (rd_T41 l0 x9_1).f3⟩ : S40)]) := ⟨_, rfl⟩
                      replace H : (posthorselaw17_CodeJoins.l0 kj6 l0 l1 a2 y134 (wrap64 (x9_1 + 1))) = some r := by first | (rw [hy134]; with_reducible exact H) | (have H2_ := (Option.bind_some _ _).symm.trans H; rw [hy134]; with_reducible exact H2_) | (have H2_ := (Option.bind_some _ _).symm.trans H; with_reducible exact H2_) | with_reducible exact H | (rw [hy134]; exact H) | exact H
                      have Ny134 := Aside0.mk hy134
                      clear hy134
                      as_aux_lemma =>
                        have H' := Aside0.mk H
                        clear H
                        have p131 : 0 ≤ (x9_1 : Int) := of_decide_eq_true (by first | (with_reducible assumption) | assumption)
                        have q131 : x9_1 < (l0.length : Int) := of_decide_eq_true (by first | (with_reducible assumption) | assumption)
                        obtain ⟨ad131, e131, hx131_0, hx131_1, hx131_2, hx131_3⟩ := at_T41 HR0.out x9_1 p131 q131
                        cases e131
                        replace hx131_0 := (HB.out.cell (World.block_lt_of_cell? w _ hx131_0)).trans hx131_0
                        replace hx131_1 := (HB.out.cell (World.block_lt_of_cell? w _ hx131_1)).trans hx131_1
                        replace hx131_2 := (HB.out.cell (World.block_lt_of_cell? w _ hx131_2)).trans hx131_2
                        replace hx131_3 := (HB.out.cell (World.block_lt_of_cell? w _ hx131_3)).trans hx131_3
                        replace p131 := eq_true p131
                        replace q131 := eq_true q131
                        go_wp2_with (first | ((with_reducible refine gate_dst (N := 10) rfl ?_); (try (refine gate_guard (by rfl) ?_; dsimp only)); refine box_event ?hg (N := 10) ?hd (cs := #[.int .i64 0, .int .i64 0, .int .i64 0, .int .i64 0]) (t := 40) ?hr ?_; (case hd => rfl); (case hg => rfl); (case hr => first | (go_simp; done) | (go_simp; rfl)); intro gb132 hg w15 hbox hb; have n0_ := Aside0.mk (Kd.R_below (Kd.R_elderB (by (with_reducible repeat (first | apply Kd.R_alloc | apply Kd.R_drewN | apply Kd.R_drew)); exact HO_7.out) gb132 (Nat.le_of_eq hg.symm)) hb); have n1_ := Aside0.mk (Kd.R_below (Kd.R_elderB (by (with_reducible repeat (first | apply Kd.R_alloc | apply Kd.R_drewN | apply Kd.R_drew)); exact HO_8.out) gb132 (Nat.le_of_eq hg.symm)) hb); have n2_ := Aside0.mk (below_step (by repeat (first | (with_reducible first | exact HB.out | apply below_alloc | apply pw_below_drewN | apply below_drew1) | exact HB.out)) hb); have n3_ := Aside0.mk (hbox); have n4_ := Aside0.mk ((by rw [hg]; exact (below_size (by repeat (first | (with_reducible first | exact HB.out | apply below_alloc | apply pw_below_drewN | apply below_drew1) | exact HB.out))) : w.heap.size ≤ gb132)); have n5_ := Aside0.mk ((by rw [hg]; exact (below_size (by repeat (first | (with_reducible first | exact HB.out | apply below_alloc | apply pw_below_drewN | apply below_drew1) | exact HB.out))) : w.heap.size ≤ gb132)); clear HO_7; clear HO_8; clear HB; have HO_7 := n0_; have HO_8 := n1_; have HB := n2_; have BK132 := n3_; have GW132 := n4_; have GE132 := n5_; clear n0_ n1_ n2_ n3_ n4_ n5_; clear hb hbox hg; have hcz16_0 : w15.cell? ⟨gb132, 0, none⟩ = some (.int .i64 0) := (blk_cell BK132.out 0).trans rfl; have hcz16_1 : w15.cell? ⟨gb132, 1, none⟩ = some (.int .i64 0) := (blk_cell BK132.out 1).trans rfl; have hcz16_2 : w15.cell? ⟨gb132, 2, none⟩ = some (.int .i64 0) := (blk_cell BK132.out 2).trans rfl; have hcz16_3 : w15.cell? ⟨gb132, 3, none⟩ = some (.int .i64 0) := (blk_cell BK132.out 3).trans rfl; have hfz16_0 := blk_frozen BK132.out 0; have hfz16_1 := blk_frozen BK132.out 1; have hfz16_2 := blk_frozen BK132.out 2; have hfz16_3 := blk_frozen BK132.out 3) | (go_at_call 17; (with_reducible refine (code_Right.calls kj6 ((rd_T41 l0 x9_1).f0) ((rd_T41 l0 x9_1).f1) ((rd_T41 l0 x9_1).f2) ((rd_T41 l0 x9_1).f3) true _ A12.out).mono ?_); rintro e w17 ⟨rfl, hb⟩; have n0_ := Aside0.mk (Kd.R_below (by (with_reducible repeat (first | apply Kd.R_alloc | apply Kd.R_drewN | apply Kd.R_drew)); exact (Kd.R_mono (Kd.R_far (p := ⟨gb132, 3, none⟩) (Kd.R_far (p := ⟨gb132, 2, none⟩) (Kd.R_far (p := ⟨gb132, 1, none⟩) (Kd.R_far (p := ⟨gb132, 0, none⟩) (Kd.R_mono HO_7.out (fun k_ hk => (⟨hk, hk.2⟩ : _ ∧ k_ ≠ gb132))) (fun _ hk => hk.2) (.int .i64 ((rd_T41 l0 x9_1).f0))) (fun _ hk => hk.2) (.int .i64 ((rd_T41 l0 x9_1).f1))) (fun _ hk => hk.2) (.int .i64 ((rd_T41 l0 x9_1).f2))) (fun _ hk => hk.2) (.int .i64 ((rd_T41 l0 x9_1).f3))) (fun _ h_ => h_.1))) hb); have n1_ := Aside0.mk (Kd.R_below (by (with_reducible repeat (first | apply Kd.R_alloc | apply Kd.R_drewN | apply Kd.R_drew)); exact (Kd.R_mono (Kd.R_far (p := ⟨gb132, 3, none⟩) (Kd.R_far (p := ⟨gb132, 2, none⟩) (Kd.R_far (p := ⟨gb132, 1, none⟩) (Kd.R_far (p := ⟨gb132, 0, none⟩) (Kd.R_mono HO_8.out (fun k_ hk => (⟨hk, hk.2⟩ : _ ∧ k_ ≠ gb132))) (fun _ hk => hk.2) (.int .i64 ((rd_T41 l0 x9_1).f0))) (fun _ hk => hk.2) (.int .i64 ((rd_T41 l0 x9_1).f1))) (fun _ hk => hk.2) (.int .i64 ((rd_T41 l0 x9_1).f2))) (fun _ hk => hk.2) (.int .i64 ((rd_T41 l0 x9_1).f3))) (fun _ h_ => h_.1))) hb); have n2_ := Aside0.mk (blk_below (g := gb132) (o := .cells #[.int .i64 ((rd_T41 l0 x9_1).f0), .int .i64 ((rd_T41 l0 x9_1).f1), .int .i64 ((rd_T41 l0 x9_1).f2), .int .i64 ((rd_T41 l0 x9_1).f3)] 40 (0, 0)) (by (with_reducible repeat (first | refine blk_drewN ?_ _ | refine blk_drew ?_ | refine blk_alloc ?_ _)); refine blk_put (cs := #[.int .i64 ((rd_T41 l0 x9_1).f0), .int .i64 ((rd_T41 l0 x9_1).f1), .int .i64 ((rd_T41 l0 x9_1).f2), .int .i64 0]) ?_ 3 _ rfl; (with_reducible repeat (first | refine blk_drewN ?_ _ | refine blk_drew ?_ | refine blk_alloc ?_ _)); refine blk_put (cs := #[.int .i64 ((rd_T41 l0 x9_1).f0), .int .i64 ((rd_T41 l0 x9_1).f1), .int .i64 0, .int .i64 0]) ?_ 2 _ rfl; (with_reducible repeat (first | refine blk_drewN ?_ _ | refine blk_drew ?_ | refine blk_alloc ?_ _)); refine blk_put (cs := #[.int .i64 ((rd_T41 l0 x9_1).f0), .int .i64 0, .int .i64 0, .int .i64 0]) ?_ 1 _ rfl; (with_reducible repeat (first | refine blk_drewN ?_ _ | refine blk_drew ?_ | refine blk_alloc ?_ _)); refine blk_put (cs := #[.int .i64 0, .int .i64 0, .int .i64 0, .int .i64 0]) ?_ 0 _ rfl; (with_reducible repeat (first | refine blk_drewN ?_ _ | refine blk_drew ?_ | refine blk_alloc ?_ _)); exact BK132.out) hb); have n3_ := Aside0.mk (below_step (by repeat (first | (with_reducible first | exact HB.out | apply below_alloc | apply pw_below_drewN | apply below_drew1 | refine below_set ?_ GE132.out) | exact HB.out)) hb); clear HO_7; clear HO_8; clear BK132; clear HB; have HO_7 := n0_; have HO_8 := n1_; have BK132 := n2_; have HB := n3_; clear n0_ n1_ n2_ n3_; (try clear hb); (try clear hb2); (try clear hk); (try clear hi); have hcz18_0 : w17.cell? ⟨gb132, 0, none⟩ = some (.int .i64 ((rd_T41 l0 x9_1).f0)) := (blk_cell BK132.out 0).trans rfl; have hcz18_1 : w17.cell? ⟨gb132, 1, none⟩ = some (.int .i64 ((rd_T41 l0 x9_1).f1)) := (blk_cell BK132.out 1).trans rfl; have hcz18_2 : w17.cell? ⟨gb132, 2, none⟩ = some (.int .i64 ((rd_T41 l0 x9_1).f2)) := (blk_cell BK132.out 2).trans rfl; have hcz18_3 : w17.cell? ⟨gb132, 3, none⟩ = some (.int .i64 ((rd_T41 l0 x9_1).f3)) := (blk_cell BK132.out 3).trans rfl; have hfz18_0 := blk_frozen BK132.out 0; have hfz18_1 := blk_frozen BK132.out 1; have hfz18_2 := blk_frozen BK132.out 2; have hfz18_3 := blk_frozen BK132.out 3) | ((with_reducible refine gate_builtin (b := .append) (xs := #[.tmp 41, .tmp 43]) rfl ?_); (try (refine gate_guard (by rfl) ?_; dsimp only)); at_builtin; refine Kd.R_append k40 (w0 := w) w.heap.size rfl (.tmp 41) (.tmp 43) 38 40 (.agg #[(.int .i64 0), (.int .i64 0), (.int .i64 0), (.int .i64 0)]) 32 rfl Try.underlying38 info40 rfl (by decide) (by omega) u7 x7_1 (⟨(rd_T41 l0 x9_1).f0, (rd_T41 l0 x9_1).f1, (rd_T41 l0 x9_1).f2, (rd_T41 l0 x9_1).f3⟩ : S40) [.int .i64 ((rd_T41 l0 x9_1).f0), .int .i64 ((rd_T41 l0 x9_1).f1), .int .i64 ((rd_T41 l0 x9_1).f2), .int .i64 ((rd_T41 l0 x9_1).f3)] (fun k_ => some k_ ≠ (.slice none 0 0 : Value).ownBlock ∧ k_ ≠ gb132) (fun _ => False) rfl rfl ?aP (fun _ hk => hk.elim) ?aF ?aO ?aB ?aS ?aL ?_; (case aP => exact k40_mkM _ _ _ (⟨(rd_T41 l0 x9_1).f0, (rd_T41 l0 x9_1).f1, (rd_T41 l0 x9_1).f2, (rd_T41 l0 x9_1).f3⟩ : S40)); (case aB => exact (by repeat (first | (with_reducible first | exact HB.out | apply below_alloc | apply pw_below_drewN | apply below_drew1 | refine below_set ?_ GE132.out) | exact HB.out))); (case aF => exact (fun k_ hk => ⟨Kd.fresh' (Kd.R_lt (by (with_reducible repeat (first | apply Kd.R_alloc | apply Kd.R_drewN | apply Kd.R_drew)); exact HO_8.out)) k_ hk, Kd.freshB (g := gb132) (o := .cells #[.int .i64 ((rd_T41 l0 x9_1).f0), .int .i64 ((rd_T41 l0 x9_1).f1), .int .i64 ((rd_T41 l0 x9_1).f2), .int .i64 ((rd_T41 l0 x9_1).f3)] 40 (0, 0)) (by (with_reducible repeat (first | refine blk_drewN ?_ _ | refine blk_drew ?_ | refine blk_alloc ?_ _)); exact BK132.out) k_ hk⟩)); (case aO => exact (by (with_reducible repeat (first | apply Kd.R_alloc | apply Kd.R_drewN | apply Kd.R_drew)); exact HO_7.out)); (case aS => exact (below_size (by repeat (first | (with_reducible first | exact HB.out | apply below_alloc | apply pw_below_drewN | apply below_drew1 | refine below_set ?_ GE132.out) | exact HB.out)))); (case aL => have := LMc14.out; omega); intro v135 w19 ho hb hg hat; rw [← Ny134.out] at ho; have n0_ := Aside0.mk (Kd.R_after (ok := (fun k_ => k_ ≠ gb132)) (by (with_reducible repeat (first | apply Kd.R_alloc | apply Kd.R_drewN | apply Kd.R_drew)); exact Kd.R_mono HO_8.out (fun _ hk => ⟨hk.2, hk.1⟩)) hg hat); have n1_ := Aside0.mk (blk_grown (g := gb132) (o := .cells #[.int .i64 ((rd_T41 l0 x9_1).f0), .int .i64 ((rd_T41 l0 x9_1).f1), .int .i64 ((rd_T41 l0 x9_1).f2), .int .i64 ((rd_T41 l0 x9_1).f3)] 40 (0, 0)) (by (with_reducible repeat (first | refine blk_drewN ?_ _ | refine blk_drew ?_ | refine blk_alloc ?_ _)); exact BK132.out) hg (Kd.R_away HO_7.out (fun _ hk => hk.2))); have n2_ := Aside0.mk (hb); have n3_ := Aside0.mk (ho); clear HO_8; clear BK132; clear HB; clear HO_7; have HO_8 := n0_; have BK132 := n1_; have HB := n2_; have HO136 := n3_; clear n0_ n1_ n2_ n3_; clear ho hb hg hat))
                        repeat (go_quiet (first | ((with_reducible refine gate_dst (N := 10) rfl ?_); (try (refine gate_guard (by rfl) ?_; dsimp only)); refine box_event ?hg (N := 10) ?hd (cs := #[.int .i64 0, .int .i64 0, .int .i64 0, .int .i64 0]) (t := 40) ?hr ?_; (case hd => rfl); (case hg => rfl); (case hr => first | (go_simp; done) | (go_simp; rfl)); intro gb132 hg w15 hbox hb; have n0_ := Aside0.mk (Kd.R_below (Kd.R_elderB (by (with_reducible repeat (first | apply Kd.R_alloc | apply Kd.R_drewN | apply Kd.R_drew)); exact HO_7.out) gb132 (Nat.le_of_eq hg.symm)) hb); have n1_ := Aside0.mk (Kd.R_below (Kd.R_elderB (by (with_reducible repeat (first | apply Kd.R_alloc | apply Kd.R_drewN | apply Kd.R_drew)); exact HO_8.out) gb132 (Nat.le_of_eq hg.symm)) hb); have n2_ := Aside0.mk (below_step (by repeat (first | (with_reducible first | exact HB.out | apply below_alloc | apply pw_below_drewN | apply below_drew1) | exact HB.out)) hb); have n3_ := Aside0.mk (hbox); have n4_ := Aside0.mk ((by rw [hg]; exact (below_size (by repeat (first | (with_reducible first | exact HB.out | apply below_alloc | apply pw_below_drewN | apply below_drew1) | exact HB.out))) : w.heap.size ≤ gb132)); have n5_ := Aside0.mk ((by rw [hg]; exact (below_size (by repeat (first | (with_reducible first | exact HB.out | apply below_alloc | apply pw_below_drewN | apply below_drew1) | exact HB.out))) : w.heap.size ≤ gb132)); clear HO_7; clear HO_8; clear HB; have HO_7 := n0_; have HO_8 := n1_; have HB := n2_; have BK132 := n3_; have GW132 := n4_; have GE132 := n5_; clear n0_ n1_ n2_ n3_ n4_ n5_; clear hb hbox hg; have hcz16_0 : w15.cell? ⟨gb132, 0, none⟩ = some (.int .i64 0) := (blk_cell BK132.out 0).trans rfl; have hcz16_1 : w15.cell? ⟨gb132, 1, none⟩ = some (.int .i64 0) := (blk_cell BK132.out 1).trans rfl; have hcz16_2 : w15.cell? ⟨gb132, 2, none⟩ = some (.int .i64 0) := (blk_cell BK132.out 2).trans rfl; have hcz16_3 : w15.cell? ⟨gb132, 3, none⟩ = some (.int .i64 0) := (blk_cell BK132.out 3).trans rfl; have hfz16_0 := blk_frozen BK132.out 0; have hfz16_1 := blk_frozen BK132.out 1; have hfz16_2 := blk_frozen BK132.out 2; have hfz16_3 := blk_frozen BK132.out 3) | (go_at_call 17; (with_reducible refine (code_Right.calls kj6 ((rd_T41 l0 x9_1).f0) ((rd_T41 l0 x9_1).f1) ((rd_T41 l0 x9_1).f2) ((rd_T41 l0 x9_1).f3) true _ A12.out).mono ?_); rintro e w17 ⟨rfl, hb⟩; have n0_ := Aside0.mk (Kd.R_below (by (with_reducible repeat (first | apply Kd.R_alloc | apply Kd.R_drewN | apply Kd.R_drew)); exact (Kd.R_mono (Kd.R_far (p := ⟨gb132, 3, none⟩) (Kd.R_far (p := ⟨gb132, 2, none⟩) (Kd.R_far (p := ⟨gb132, 1, none⟩) (Kd.R_far (p := ⟨gb132, 0, none⟩) (Kd.R_mono HO_7.out (fun k_ hk => (⟨hk, hk.2⟩ : _ ∧ k_ ≠ gb132))) (fun _ hk => hk.2) (.int .i64 ((rd_T41 l0 x9_1).f0))) (fun _ hk => hk.2) (.int .i64 ((rd_T41 l0 x9_1).f1))) (fun _ hk => hk.2) (.int .i64 ((rd_T41 l0 x9_1).f2))) (fun _ hk => hk.2) (.int .i64 ((rd_T41 l0 x9_1).f3))) (fun _ h_ => h_.1))) hb); have n1_ := Aside0.mk (Kd.R_below (by (with_reducible repeat (first | apply Kd.R_alloc | apply Kd.R_drewN | apply Kd.R_drew)); exact (Kd.R_mono (Kd.R_far (p := ⟨gb132, 3, none⟩) (Kd.R_far (p := ⟨gb132, 2, none⟩) (Kd.R_far (p := ⟨gb132, 1, none⟩) (Kd.R_far (p := ⟨gb132, 0, none⟩) (Kd.R_mono HO_8.out (fun k_ hk => (⟨hk, hk.2⟩ : _ ∧ k_ ≠ gb132))) (fun _ hk => hk.2) (.int .i64 ((rd_T41 l0 x9_1).f0))) (fun _ hk => hk.2) (.int .i64 ((rd_T41 l0 x9_1).f1))) (fun _ hk => hk.2) (.int .i64 ((rd_T41 l0 x9_1).f2))) (fun _ hk => hk.2) (.int .i64 ((rd_T41 l0 x9_1).f3))) (fun _ h_ => h_.1))) hb); have n2_ := Aside0.mk (blk_below (g := gb132) (o := .cells #[.int .i64 ((rd_T41 l0 x9_1).f0), .int .i64 ((rd_T41 l0 x9_1).f1), .int .i64 ((rd_T41 l0 x9_1).f2), .int .i64 ((rd_T41 l0 x9_1).f3)] 40 (0, 0)) (by (with_reducible repeat (first | refine blk_drewN ?_ _ | refine blk_drew ?_ | refine blk_alloc ?_ _)); refine blk_put (cs := #[.int .i64 ((rd_T41 l0 x9_1).f0), .int .i64 ((rd_T41 l0 x9_1).f1), .int .i64 ((rd_T41 l0 x9_1).f2), .int .i64 0]) ?_ 3 _ rfl; (with_reducible repeat (first | refine blk_drewN ?_ _ | refine blk_drew ?_ | refine blk_alloc ?_ _)); refine blk_put (cs := #[.int .i64 ((rd_T41 l0 x9_1).f0), .int .i64 ((rd_T41 l0 x9_1).f1), .int .i64 0, .int .i64 0]) ?_ 2 _ rfl; (with_reducible repeat (first | refine blk_drewN ?_ _ | refine blk_drew ?_ | refine blk_alloc ?_ _)); refine blk_put (cs := #[.int .i64 ((rd_T41 l0 x9_1).f0), .int .i64 0, .int .i64 0, .int .i64 0]) ?_ 1 _ rfl; (with_reducible repeat (first | refine blk_drewN ?_ _ | refine blk_drew ?_ | refine blk_alloc ?_ _)); refine blk_put (cs := #[.int .i64 0, .int .i64 0, .int .i64 0, .int .i64 0]) ?_ 0 _ rfl; (with_reducible repeat (first | refine blk_drewN ?_ _ | refine blk_drew ?_ | refine blk_alloc ?_ _)); exact BK132.out) hb); have n3_ := Aside0.mk (below_step (by repeat (first | (with_reducible first | exact HB.out | apply below_alloc | apply pw_below_drewN | apply below_drew1 | refine below_set ?_ GE132.out) | exact HB.out)) hb); clear HO_7; clear HO_8; clear BK132; clear HB; have HO_7 := n0_; have HO_8 := n1_; have BK132 := n2_; have HB := n3_; clear n0_ n1_ n2_ n3_; (try clear hb); (try clear hb2); (try clear hk); (try clear hi); have hcz18_0 : w17.cell? ⟨gb132, 0, none⟩ = some (.int .i64 ((rd_T41 l0 x9_1).f0)) := (blk_cell BK132.out 0).trans rfl; have hcz18_1 : w17.cell? ⟨gb132, 1, none⟩ = some (.int .i64 ((rd_T41 l0 x9_1).f1)) := (blk_cell BK132.out 1).trans rfl; have hcz18_2 : w17.cell? ⟨gb132, 2, none⟩ = some (.int .i64 ((rd_T41 l0 x9_1).f2)) := (blk_cell BK132.out 2).trans rfl; have hcz18_3 : w17.cell? ⟨gb132, 3, none⟩ = some (.int .i64 ((rd_T41 l0 x9_1).f3)) := (blk_cell BK132.out 3).trans rfl; have hfz18_0 := blk_frozen BK132.out 0; have hfz18_1 := blk_frozen BK132.out 1; have hfz18_2 := blk_frozen BK132.out 2; have hfz18_3 := blk_frozen BK132.out 3) | ((with_reducible refine gate_builtin (b := .append) (xs := #[.tmp 41, .tmp 43]) rfl ?_); (try (refine gate_guard (by rfl) ?_; dsimp only)); at_builtin; refine Kd.R_append k40 (w0 := w) w.heap.size rfl (.tmp 41) (.tmp 43) 38 40 (.agg #[(.int .i64 0), (.int .i64 0), (.int .i64 0), (.int .i64 0)]) 32 rfl Try.underlying38 info40 rfl (by decide) (by omega) u7 x7_1 (⟨(rd_T41 l0 x9_1).f0, (rd_T41 l0 x9_1).f1, (rd_T41 l0 x9_1).f2, (rd_T41 l0 x9_1).f3⟩ : S40) [.int .i64 ((rd_T41 l0 x9_1).f0), .int .i64 ((rd_T41 l0 x9_1).f1), .int .i64 ((rd_T41 l0 x9_1).f2), .int .i64 ((rd_T41 l0 x9_1).f3)] (fun k_ => some k_ ≠ (.slice none 0 0 : Value).ownBlock ∧ k_ ≠ gb132) (fun _ => False) rfl rfl ?aP (fun _ hk => hk.elim) ?aF ?aO ?aB ?aS ?aL ?_; (case aP => exact k40_mkM _ _ _ (⟨(rd_T41 l0 x9_1).f0, (rd_T41 l0 x9_1).f1, (rd_T41 l0 x9_1).f2, (rd_T41 l0 x9_1).f3⟩ : S40)); (case aB => exact (by repeat (first | (with_reducible first | exact HB.out | apply below_alloc | apply pw_below_drewN | apply below_drew1 | refine below_set ?_ GE132.out) | exact HB.out))); (case aF => exact (fun k_ hk => ⟨Kd.fresh' (Kd.R_lt (by (with_reducible repeat (first | apply Kd.R_alloc | apply Kd.R_drewN | apply Kd.R_drew)); exact HO_8.out)) k_ hk, Kd.freshB (g := gb132) (o := .cells #[.int .i64 ((rd_T41 l0 x9_1).f0), .int .i64 ((rd_T41 l0 x9_1).f1), .int .i64 ((rd_T41 l0 x9_1).f2), .int .i64 ((rd_T41 l0 x9_1).f3)] 40 (0, 0)) (by (with_reducible repeat (first | refine blk_drewN ?_ _ | refine blk_drew ?_ | refine blk_alloc ?_ _)); exact BK132.out) k_ hk⟩)); (case aO => exact (by (with_reducible repeat (first | apply Kd.R_alloc | apply Kd.R_drewN | apply Kd.R_drew)); exact HO_7.out)); (case aS => exact (below_size (by repeat (first | (with_reducible first | exact HB.out | apply below_alloc | apply pw_below_drewN | apply below_drew1 | refine below_set ?_ GE132.out) | exact HB.out)))); (case aL => have := LMc14.out; omega); intro v135 w19 ho hb hg hat; rw [← Ny134.out] at ho; have n0_ := Aside0.mk (Kd.R_after (ok := (fun k_ => k_ ≠ gb132)) (by (with_reducible repeat (first | apply Kd.R_alloc | apply Kd.R_drewN | apply Kd.R_drew)); exact Kd.R_mono HO_8.out (fun _ hk => ⟨hk.2, hk.1⟩)) hg hat); have n1_ := Aside0.mk (blk_grown (g := gb132) (o := .cells #[.int .i64 ((rd_T41 l0 x9_1).f0), .int .i64 ((rd_T41 l0 x9_1).f1), .int .i64 ((rd_T41 l0 x9_1).f2), .int .i64 ((rd_T41 l0 x9_1).f3)] 40 (0, 0)) (by (with_reducible repeat (first | refine blk_drewN ?_ _ | refine blk_drew ?_ | refine blk_alloc ?_ _)); exact BK132.out) hg (Kd.R_away HO_7.out (fun _ hk => hk.2))); have n2_ := Aside0.mk (hb); have n3_ := Aside0.mk (ho); clear HO_8; clear BK132; clear HB; clear HO_7; have HO_8 := n0_; have BK132 := n1_; have HB := n2_; have HO136 := n3_; clear n0_ n1_ n2_ n3_; clear ho hb hg hat)); try go_wp2_with (first | ((with_reducible refine gate_dst (N := 10) rfl ?_); (try (refine gate_guard (by rfl) ?_; dsimp only)); refine box_event ?hg (N := 10) ?hd (cs := #[.int .i64 0, .int .i64 0, .int .i64 0, .int .i64 0]) (t := 40) ?hr ?_; (case hd => rfl); (case hg => rfl); (case hr => first | (go_simp; done) | (go_simp; rfl)); intro gb132 hg w15 hbox hb; have n0_ := Aside0.mk (Kd.R_below (Kd.R_elderB (by (with_reducible repeat (first | apply Kd.R_alloc | apply Kd.R_drewN | apply Kd.R_drew)); exact HO_7.out) gb132 (Nat.le_of_eq hg.symm)) hb); have n1_ := Aside0.mk (Kd.R_below (Kd.R_elderB (by (with_reducible repeat (first | apply Kd.R_alloc | apply Kd.R_drewN | apply Kd.R_drew)); exact HO_8.out) gb132 (Nat.le_of_eq hg.symm)) hb); have n2_ := Aside0.mk (below_step (by repeat (first | (with_reducible first | exact HB.out | apply below_alloc | apply pw_below_drewN | apply below_drew1) | exact HB.out)) hb); have n3_ := Aside0.mk (hbox); have n4_ := Aside0.mk ((by rw [hg]; exact (below_size (by repeat (first | (with_reducible first | exact HB.out | apply below_alloc | apply pw_below_drewN | apply below_drew1) | exact HB.out))) : w.heap.size ≤ gb132)); have n5_ := Aside0.mk ((by rw [hg]; exact (below_size (by repeat (first | (with_reducible first | exact HB.out | apply below_alloc | apply pw_below_drewN | apply below_drew1) | exact HB.out))) : w.heap.size ≤ gb132)); clear HO_7; clear HO_8; clear HB; have HO_7 := n0_; have HO_8 := n1_; have HB := n2_; have BK132 := n3_; have GW132 := n4_; have GE132 := n5_; clear n0_ n1_ n2_ n3_ n4_ n5_; clear hb hbox hg; have hcz16_0 : w15.cell? ⟨gb132, 0, none⟩ = some (.int .i64 0) := (blk_cell BK132.out 0).trans rfl; have hcz16_1 : w15.cell? ⟨gb132, 1, none⟩ = some (.int .i64 0) := (blk_cell BK132.out 1).trans rfl; have hcz16_2 : w15.cell? ⟨gb132, 2, none⟩ = some (.int .i64 0) := (blk_cell BK132.out 2).trans rfl; have hcz16_3 : w15.cell? ⟨gb132, 3, none⟩ = some (.int .i64 0) := (blk_cell BK132.out 3).trans rfl; have hfz16_0 := blk_frozen BK132.out 0; have hfz16_1 := blk_frozen BK132.out 1; have hfz16_2 := blk_frozen BK132.out 2; have hfz16_3 := blk_frozen BK132.out 3) | (go_at_call 17; (with_reducible refine (code_Right.calls kj6 ((rd_T41 l0 x9_1).f0) ((rd_T41 l0 x9_1).f1) ((rd_T41 l0 x9_1).f2) ((rd_T41 l0 x9_1).f3) true _ A12.out).mono ?_); rintro e w17 ⟨rfl, hb⟩; have n0_ := Aside0.mk (Kd.R_below (by (with_reducible repeat (first | apply Kd.R_alloc | apply Kd.R_drewN | apply Kd.R_drew)); exact (Kd.R_mono (Kd.R_far (p := ⟨gb132, 3, none⟩) (Kd.R_far (p := ⟨gb132, 2, none⟩) (Kd.R_far (p := ⟨gb132, 1, none⟩) (Kd.R_far (p := ⟨gb132, 0, none⟩) (Kd.R_mono HO_7.out (fun k_ hk => (⟨hk, hk.2⟩ : _ ∧ k_ ≠ gb132))) (fun _ hk => hk.2) (.int .i64 ((rd_T41 l0 x9_1).f0))) (fun _ hk => hk.2) (.int .i64 ((rd_T41 l0 x9_1).f1))) (fun _ hk => hk.2) (.int .i64 ((rd_T41 l0 x9_1).f2))) (fun _ hk => hk.2) (.int .i64 ((rd_T41 l0 x9_1).f3))) (fun _ h_ => h_.1))) hb); have n1_ := Aside0.mk (Kd.R_below (by (with_reducible repeat (first | apply Kd.R_alloc | apply Kd.R_drewN | apply Kd.R_drew)); exact (Kd.R_mono (Kd.R_far (p := ⟨gb132, 3, none⟩) (Kd.R_far (p := ⟨gb132, 2, none⟩) (Kd.R_far (p := ⟨gb132, 1, none⟩) (Kd.R_far (p := ⟨gb132, 0, none⟩) (Kd.R_mono HO_8.out (fun k_ hk => (⟨hk, hk.2⟩ : _ ∧ k_ ≠ gb132))) (fun _ hk => hk.2) (.int .i64 ((rd_T41 l0 x9_1).f0))) (fun _ hk => hk.2) (.int .i64 ((rd_T41 l0 x9_1).f1))) (fun _ hk => hk.2) (.int .i64 ((rd_T41 l0 x9_1).f2))) (fun _ hk => hk.2) (.int .i64 ((rd_T41 l0 x9_1).f3))) (fun _ h_ => h_.1))) hb); have n2_ := Aside0.mk (blk_below (g := gb132) (o := .cells #[.int .i64 ((rd_T41 l0 x9_1).f0), .int .i64 ((rd_T41 l0 x9_1).f1), .int .i64 ((rd_T41 l0 x9_1).f2), .int .i64 ((rd_T41 l0 x9_1).f3)] 40 (0, 0)) (by (with_reducible repeat (first | refine blk_drewN ?_ _ | refine blk_drew ?_ | refine blk_alloc ?_ _)); refine blk_put (cs := #[.int .i64 ((rd_T41 l0 x9_1).f0), .int .i64 ((rd_T41 l0 x9_1).f1), .int .i64 ((rd_T41 l0 x9_1).f2), .int .i64 0]) ?_ 3 _ rfl; (with_reducible repeat (first | refine blk_drewN ?_ _ | refine blk_drew ?_ | refine blk_alloc ?_ _)); refine blk_put (cs := #[.int .i64 ((rd_T41 l0 x9_1).f0), .int .i64 ((rd_T41 l0 x9_1).f1), .int .i64 0, .int .i64 0]) ?_ 2 _ rfl; (with_reducible repeat (first | refine blk_drewN ?_ _ | refine blk_drew ?_ | refine blk_alloc ?_ _)); refine blk_put (cs := #[.int .i64 ((rd_T41 l0 x9_1).f0), .int .i64 0, .int .i64 0, .int .i64 0]) ?_ 1 _ rfl; (with_reducible repeat (first | refine blk_drewN ?_ _ | refine blk_drew ?_ | refine blk_alloc ?_ _)); refine blk_put (cs := #[.int .i64 0, .int .i64 0, .int .i64 0, .int .i64 0]) ?_ 0 _ rfl; (with_reducible repeat (first | refine blk_drewN ?_ _ | refine blk_drew ?_ | refine blk_alloc ?_ _)); exact BK132.out) hb); have n3_ := Aside0.mk (below_step (by repeat (first | (with_reducible first | exact HB.out | apply below_alloc | apply pw_below_drewN | apply below_drew1 | refine below_set ?_ GE132.out) | exact HB.out)) hb); clear HO_7; clear HO_8; clear BK132; clear HB; have HO_7 := n0_; have HO_8 := n1_; have BK132 := n2_; have HB := n3_; clear n0_ n1_ n2_ n3_; (try clear hb); (try clear hb2); (try clear hk); (try clear hi); have hcz18_0 : w17.cell? ⟨gb132, 0, none⟩ = some (.int .i64 ((rd_T41 l0 x9_1).f0)) := (blk_cell BK132.out 0).trans rfl; have hcz18_1 : w17.cell? ⟨gb132, 1, none⟩ = some (.int .i64 ((rd_T41 l0 x9_1).f1)) := (blk_cell BK132.out 1).trans rfl; have hcz18_2 : w17.cell? ⟨gb132, 2, none⟩ = some (.int .i64 ((rd_T41 l0 x9_1).f2)) := (blk_cell BK132.out 2).trans rfl; have hcz18_3 : w17.cell? ⟨gb132, 3, none⟩ = some (.int .i64 ((rd_T41 l0 x9_1).f3)) := (blk_cell BK132.out 3).trans rfl; have hfz18_0 := blk_frozen BK132.out 0; have hfz18_1 := blk_frozen BK132.out 1; have hfz18_2 := blk_frozen BK132.out 2; have hfz18_3 := blk_frozen BK132.out 3) | ((with_reducible refine gate_builtin (b := .append) (xs := #[.tmp 41, .tmp 43]) rfl ?_); (try (refine gate_guard (by rfl) ?_; dsimp only)); at_builtin; refine Kd.R_append k40 (w0 := w) w.heap.size rfl (.tmp 41) (.tmp 43) 38 40 (.agg #[(.int .i64 0), (.int .i64 0), (.int .i64 0), (.int .i64 0)]) 32 rfl Try.underlying38 info40 rfl (by decide) (by omega) u7 x7_1 (⟨(rd_T41 l0 x9_1).f0, (rd_T41 l0 x9_1).f1, (rd_T41 l0 x9_1).f2, (rd_T41 l0 x9_1).f3⟩ : S40) [.int .i64 ((rd_T41 l0 x9_1).f0), .int .i64 ((rd_T41 l0 x9_1).f1), .int .i64 ((rd_T41 l0 x9_1).f2), .int .i64 ((rd_T41 l0 x9_1).f3)] (fun k_ => some k_ ≠ (.slice none 0 0 : Value).ownBlock ∧ k_ ≠ gb132) (fun _ => False) rfl rfl ?aP (fun _ hk => hk.elim) ?aF ?aO ?aB ?aS ?aL ?_; (case aP => exact k40_mkM _ _ _ (⟨(rd_T41 l0 x9_1).f0, (rd_T41 l0 x9_1).f1, (rd_T41 l0 x9_1).f2, (rd_T41 l0 x9_1).f3⟩ : S40)); (case aB => exact (by repeat (first | (with_reducible first | exact HB.out | apply below_alloc | apply pw_below_drewN | apply below_drew1 | refine below_set ?_ GE132.out) | exact HB.out))); (case aF => exact (fun k_ hk => ⟨Kd.fresh' (Kd.R_lt (by (with_reducible repeat (first | apply Kd.R_alloc | apply Kd.R_drewN | apply Kd.R_drew)); exact HO_8.out)) k_ hk, Kd.freshB (g := gb132) (o := .cells #[.int .i64 ((rd_T41 l0 x9_1).f0), .int .i64 ((rd_T41 l0 x9_1).f1), .int .i64 ((rd_T41 l0 x9_1).f2), .int .i64 ((rd_T41 l0 x9_1).f3)] 40 (0, 0)) (by (with_reducible repeat (first | refine blk_drewN ?_ _ | refine blk_drew ?_ | refine blk_alloc ?_ _)); exact BK132.out) k_ hk⟩)); (case aO => exact (by (with_reducible repeat (first | apply Kd.R_alloc | apply Kd.R_drewN | apply Kd.R_drew)); exact HO_7.out)); (case aS => exact (below_size (by repeat (first | (with_reducible first | exact HB.out | apply below_alloc | apply pw_below_drewN | apply below_drew1 | refine below_set ?_ GE132.out) | exact HB.out)))); (case aL => have := LMc14.out; omega); intro v135 w19 ho hb hg hat; rw [← Ny134.out] at ho; have n0_ := Aside0.mk (Kd.R_after (ok := (fun k_ => k_ ≠ gb132)) (by (with_reducible repeat (first | apply Kd.R_alloc | apply Kd.R_drewN | apply Kd.R_drew)); exact Kd.R_mono HO_8.out (fun _ hk => ⟨hk.2, hk.1⟩)) hg hat); have n1_ := Aside0.mk (blk_grown (g := gb132) (o := .cells #[.int .i64 ((rd_T41 l0 x9_1).f0), .int .i64 ((rd_T41 l0 x9_1).f1), .int .i64 ((rd_T41 l0 x9_1).f2), .int .i64 ((rd_T41 l0 x9_1).f3)] 40 (0, 0)) (by (with_reducible repeat (first | refine blk_drewN ?_ _ | refine blk_drew ?_ | refine blk_alloc ?_ _)); exact BK132.out) hg (Kd.R_away HO_7.out (fun _ hk => hk.2))); have n2_ := Aside0.mk (hb); have n3_ := Aside0.mk (ho); clear HO_8; clear BK132; clear HB; clear HO_7; have HO_8 := n0_; have BK132 := n1_; have HB := n2_; have HO136 := n3_; clear n0_ n1_ n2_ n3_; clear ho hb hg hat)))
                        go_roundg kj6
                        case measure => have := HK1.out; have := HJ6.out; omega
                        case rel => exact ⟨(y134), (wrap64 (x9_1 + 1)), (by first | rfl | (simp; done) | (simp [*]; done)), H', ⟨by have := HK1.out; have := HJ6.out; omega⟩, ⟨by (with_reducible repeat (first | apply Kd.R_alloc | apply Kd.R_drewN | apply Kd.R_drew)); exact Kd.R_mono HO136.out (fun _ hk => trivial)⟩, ⟨by repeat (first | (with_reducible first | exact HB.out | apply below_alloc | apply pw_below_drewN | apply below_drew1 | refine below_set ?_ GE132.out) | exact HB.out)⟩⟩
                    · rw [if_neg c14] at H
                      exact absurd H (by simp)
                  · replace c13 := Bool.eq_false_iff.mpr c13
                    subst c13
                    have H1 : (posthorselaw17_CodeJoins.l0 kj6 l0 l1 a2 x7_1 (wrap64 (x9_1 + 1))) = some r := by rw [if_neg (show ¬ (false = true) by decide)] at H; exact H
                    clear H
                    have H := H1
                    clear H1
                    as_aux_lemma =>
                      have H' := Aside0.mk H
                      clear H
                      have p131 : 0 ≤ (x9_1 : Int) := of_decide_eq_true (by first | (with_reducible assumption) | assumption)
                      have q131 : x9_1 < (l0.length : Int) := of_decide_eq_true (by first | (with_reducible assumption) | assumption)
                      obtain ⟨ad131, e131, hx131_0, hx131_1, hx131_2, hx131_3⟩ := at_T41 HR0.out x9_1 p131 q131
                      cases e131
                      replace hx131_0 := (HB.out.cell (World.block_lt_of_cell? w _ hx131_0)).trans hx131_0
                      replace hx131_1 := (HB.out.cell (World.block_lt_of_cell? w _ hx131_1)).trans hx131_1
                      replace hx131_2 := (HB.out.cell (World.block_lt_of_cell? w _ hx131_2)).trans hx131_2
                      replace hx131_3 := (HB.out.cell (World.block_lt_of_cell? w _ hx131_3)).trans hx131_3
                      replace p131 := eq_true p131
                      replace q131 := eq_true q131
                      go_wp2_with (first | ((with_reducible refine gate_dst (N := 10) rfl ?_); (try (refine gate_guard (by rfl) ?_; dsimp only)); refine box_event ?hg (N := 10) ?hd (cs := #[.int .i64 0, .int .i64 0, .int .i64 0, .int .i64 0]) (t := 40) ?hr ?_; (case hd => rfl); (case hg => rfl); (case hr => first | (go_simp; done) | (go_simp; rfl)); intro gb132 hg w20 hbox hb; have n0_ := Aside0.mk (Kd.R_below (Kd.R_elderB (by (with_reducible repeat (first | apply Kd.R_alloc | apply Kd.R_drewN | apply Kd.R_drew)); exact HO_7.out) gb132 (Nat.le_of_eq hg.symm)) hb); have n1_ := Aside0.mk (Kd.R_below (Kd.R_elderB (by (with_reducible repeat (first | apply Kd.R_alloc | apply Kd.R_drewN | apply Kd.R_drew)); exact HO_8.out) gb132 (Nat.le_of_eq hg.symm)) hb); have n2_ := Aside0.mk (below_step (by repeat (first | (with_reducible first | exact HB.out | apply below_alloc | apply pw_below_drewN | apply below_drew1) | exact HB.out)) hb); have n3_ := Aside0.mk (hbox); have n4_ := Aside0.mk ((by rw [hg]; exact (below_size (by repeat (first | (with_reducible first | exact HB.out | apply below_alloc | apply pw_below_drewN | apply below_drew1) | exact HB.out))) : w.heap.size ≤ gb132)); have n5_ := Aside0.mk ((by rw [hg]; exact (below_size (by repeat (first | (with_reducible first | exact HB.out | apply below_alloc | apply pw_below_drewN | apply below_drew1) | exact HB.out))) : w.heap.size ≤ gb132)); clear HO_7; clear HO_8; clear HB; have HO_7 := n0_; have HO_8 := n1_; have HB := n2_; have BK132 := n3_; have GW132 := n4_; have GE132 := n5_; clear n0_ n1_ n2_ n3_ n4_ n5_; clear hb hbox hg; have hcz21_0 : w20.cell? ⟨gb132, 0, none⟩ = some (.int .i64 0) := (blk_cell BK132.out 0).trans rfl; have hcz21_1 : w20.cell? ⟨gb132, 1, none⟩ = some (.int .i64 0) := (blk_cell BK132.out 1).trans rfl; have hcz21_2 : w20.cell? ⟨gb132, 2, none⟩ = some (.int .i64 0) := (blk_cell BK132.out 2).trans rfl; have hcz21_3 : w20.cell? ⟨gb132, 3, none⟩ = some (.int .i64 0) := (blk_cell BK132.out 3).trans rfl; have hfz21_0 := blk_frozen BK132.out 0; have hfz21_1 := blk_frozen BK132.out 1; have hfz21_2 := blk_frozen BK132.out 2; have hfz21_3 := blk_frozen BK132.out 3) | (go_at_call 17; (with_reducible refine (code_Right.calls kj6 ((rd_T41 l0 x9_1).f0) ((rd_T41 l0 x9_1).f1) ((rd_T41 l0 x9_1).f2) ((rd_T41 l0 x9_1).f3) false _ A12.out).mono ?_); rintro e w22 ⟨rfl, hb⟩; have n0_ := Aside0.mk (Kd.R_below (by (with_reducible repeat (first | apply Kd.R_alloc | apply Kd.R_drewN | apply Kd.R_drew)); exact (Kd.R_mono (Kd.R_far (p := ⟨gb132, 3, none⟩) (Kd.R_far (p := ⟨gb132, 2, none⟩) (Kd.R_far (p := ⟨gb132, 1, none⟩) (Kd.R_far (p := ⟨gb132, 0, none⟩) (Kd.R_mono HO_7.out (fun k_ hk => (⟨hk, hk.2⟩ : _ ∧ k_ ≠ gb132))) (fun _ hk => hk.2) (.int .i64 ((rd_T41 l0 x9_1).f0))) (fun _ hk => hk.2) (.int .i64 ((rd_T41 l0 x9_1).f1))) (fun _ hk => hk.2) (.int .i64 ((rd_T41 l0 x9_1).f2))) (fun _ hk => hk.2) (.int .i64 ((rd_T41 l0 x9_1).f3))) (fun _ h_ => h_.1))) hb); have n1_ := Aside0.mk (Kd.R_below (by (with_reducible repeat (first | apply Kd.R_alloc | apply Kd.R_drewN | apply Kd.R_drew)); exact (Kd.R_mono (Kd.R_far (p := ⟨gb132, 3, none⟩) (Kd.R_far (p := ⟨gb132, 2, none⟩) (Kd.R_far (p := ⟨gb132, 1, none⟩) (Kd.R_far (p := ⟨gb132, 0, none⟩) (Kd.R_mono HO_8.out (fun k_ hk => (⟨hk, hk.2⟩ : _ ∧ k_ ≠ gb132))) (fun _ hk => hk.2) (.int .i64 ((rd_T41 l0 x9_1).f0))) (fun _ hk => hk.2) (.int .i64 ((rd_T41 l0 x9_1).f1))) (fun _ hk => hk.2) (.int .i64 ((rd_T41 l0 x9_1).f2))) (fun _ hk => hk.2) (.int .i64 ((rd_T41 l0 x9_1).f3))) (fun _ h_ => h_.1))) hb); have n2_ := Aside0.mk (blk_below (g := gb132) (o := .cells #[.int .i64 ((rd_T41 l0 x9_1).f0), .int .i64 ((rd_T41 l0 x9_1).f1), .int .i64 ((rd_T41 l0 x9_1).f2), .int .i64 ((rd_T41 l0 x9_1).f3)] 40 (0, 0)) (by (with_reducible repeat (first | refine blk_drewN ?_ _ | refine blk_drew ?_ | refine blk_alloc ?_ _)); refine blk_put (cs := #[.int .i64 ((rd_T41 l0 x9_1).f0), .int .i64 ((rd_T41 l0 x9_1).f1), .int .i64 ((rd_T41 l0 x9_1).f2), .int .i64 0]) ?_ 3 _ rfl; (with_reducible repeat (first | refine blk_drewN ?_ _ | refine blk_drew ?_ | refine blk_alloc ?_ _)); refine blk_put (cs := #[.int .i64 ((rd_T41 l0 x9_1).f0), .int .i64 ((rd_T41 l0 x9_1).f1), .int .i64 0, .int .i64 0]) ?_ 2 _ rfl; (with_reducible repeat (first | refine blk_drewN ?_ _ | refine blk_drew ?_ | refine blk_alloc ?_ _)); refine blk_put (cs := #[.int .i64 ((rd_T41 l0 x9_1).f0), .int .i64 0, .int .i64 0, .int .i64 0]) ?_ 1 _ rfl; (with_reducible repeat (first | refine blk_drewN ?_ _ | refine blk_drew ?_ | refine blk_alloc ?_ _)); refine blk_put (cs := #[.int .i64 0, .int .i64 0, .int .i64 0, .int .i64 0]) ?_ 0 _ rfl; (with_reducible repeat (first | refine blk_drewN ?_ _ | refine blk_drew ?_ | refine blk_alloc ?_ _)); exact BK132.out) hb); have n3_ := Aside0.mk (below_step (by repeat (first | (with_reducible first | exact HB.out | apply below_alloc | apply pw_below_drewN | apply below_drew1 | refine below_set ?_ GE132.out) | exact HB.out)) hb); clear HO_7; clear HO_8; clear BK132; clear HB; have HO_7 := n0_; have HO_8 := n1_; have BK132 := n2_; have HB := n3_; clear n0_ n1_ n2_ n3_; (try clear hb); (try clear hb2); (try clear hk); (try clear hi)))
                      repeat (go_quiet (first | ((with_reducible refine gate_dst (N := 10) rfl ?_); (try (refine gate_guard (by rfl) ?_; dsimp only)); refine box_event ?hg (N := 10) ?hd (cs := #[.int .i64 0, .int .i64 0, .int .i64 0, .int .i64 0]) (t := 40) ?hr ?_; (case hd => rfl); (case hg => rfl); (case hr => first | (go_simp; done) | (go_simp; rfl)); intro gb132 hg w20 hbox hb; have n0_ := Aside0.mk (Kd.R_below (Kd.R_elderB (by (with_reducible repeat (first | apply Kd.R_alloc | apply Kd.R_drewN | apply Kd.R_drew)); exact HO_7.out) gb132 (Nat.le_of_eq hg.symm)) hb); have n1_ := Aside0.mk (Kd.R_below (Kd.R_elderB (by (with_reducible repeat (first | apply Kd.R_alloc | apply Kd.R_drewN | apply Kd.R_drew)); exact HO_8.out) gb132 (Nat.le_of_eq hg.symm)) hb); have n2_ := Aside0.mk (below_step (by repeat (first | (with_reducible first | exact HB.out | apply below_alloc | apply pw_below_drewN | apply below_drew1) | exact HB.out)) hb); have n3_ := Aside0.mk (hbox); have n4_ := Aside0.mk ((by rw [hg]; exact (below_size (by repeat (first | (with_reducible first | exact HB.out | apply below_alloc | apply pw_below_drewN | apply below_drew1) | exact HB.out))) : w.heap.size ≤ gb132)); have n5_ := Aside0.mk ((by rw [hg]; exact (below_size (by repeat (first | (with_reducible first | exact HB.out | apply below_alloc | apply pw_below_drewN | apply below_drew1) | exact HB.out))) : w.heap.size ≤ gb132)); clear HO_7; clear HO_8; clear HB; have HO_7 := n0_; have HO_8 := n1_; have HB := n2_; have BK132 := n3_; have GW132 := n4_; have GE132 := n5_; clear n0_ n1_ n2_ n3_ n4_ n5_; clear hb hbox hg; have hcz21_0 : w20.cell? ⟨gb132, 0, none⟩ = some (.int .i64 0) := (blk_cell BK132.out 0).trans rfl; have hcz21_1 : w20.cell? ⟨gb132, 1, none⟩ = some (.int .i64 0) := (blk_cell BK132.out 1).trans rfl; have hcz21_2 : w20.cell? ⟨gb132, 2, none⟩ = some (.int .i64 0) := (blk_cell BK132.out 2).trans rfl; have hcz21_3 : w20.cell? ⟨gb132, 3, none⟩ = some (.int .i64 0) := (blk_cell BK132.out 3).trans rfl; have hfz21_0 := blk_frozen BK132.out 0; have hfz21_1 := blk_frozen BK132.out 1; have hfz21_2 := blk_frozen BK132.out 2; have hfz21_3 := blk_frozen BK132.out 3) | (go_at_call 17; (with_reducible refine (code_Right.calls kj6 ((rd_T41 l0 x9_1).f0) ((rd_T41 l0 x9_1).f1) ((rd_T41 l0 x9_1).f2) ((rd_T41 l0 x9_1).f3) false _ A12.out).mono ?_); rintro e w22 ⟨rfl, hb⟩; have n0_ := Aside0.mk (Kd.R_below (by (with_reducible repeat (first | apply Kd.R_alloc | apply Kd.R_drewN | apply Kd.R_drew)); exact (Kd.R_mono (Kd.R_far (p := ⟨gb132, 3, none⟩) (Kd.R_far (p := ⟨gb132, 2, none⟩) (Kd.R_far (p := ⟨gb132, 1, none⟩) (Kd.R_far (p := ⟨gb132, 0, none⟩) (Kd.R_mono HO_7.out (fun k_ hk => (⟨hk, hk.2⟩ : _ ∧ k_ ≠ gb132))) (fun _ hk => hk.2) (.int .i64 ((rd_T41 l0 x9_1).f0))) (fun _ hk => hk.2) (.int .i64 ((rd_T41 l0 x9_1).f1))) (fun _ hk => hk.2) (.int .i64 ((rd_T41 l0 x9_1).f2))) (fun _ hk => hk.2) (.int .i64 ((rd_T41 l0 x9_1).f3))) (fun _ h_ => h_.1))) hb); have n1_ := Aside0.mk (Kd.R_below (by (with_reducible repeat (first | apply Kd.R_alloc | apply Kd.R_drewN | apply Kd.R_drew)); exact (Kd.R_mono (Kd.R_far (p := ⟨gb132, 3, none⟩) (Kd.R_far (p := ⟨gb132, 2, none⟩) (Kd.R_far (p := ⟨gb132, 1, none⟩) (Kd.R_far (p := ⟨gb132, 0, none⟩) (Kd.R_mono HO_8.out (fun k_ hk => (⟨hk, hk.2⟩ : _ ∧ k_ ≠ gb132))) (fun _ hk => hk.2) (.int .i64 ((rd_T41 l0 x9_1).f0))) (fun _ hk => hk.2) (.int .i64 ((rd_T41 l0 x9_1).f1))) (fun _ hk => hk.2) (.int .i64 ((rd_T41 l0 x9_1).f2))) (fun _ hk => hk.2) (.int .i64 ((rd_T41 l0 x9_1).f3))) (fun _ h_ => h_.1))) hb); have n2_ := Aside0.mk (blk_below (g := gb132) (o := .cells #[.int .i64 ((rd_T41 l0 x9_1).f0), .int .i64 ((rd_T41 l0 x9_1).f1), .int .i64 ((rd_T41 l0 x9_1).f2), .int .i64 ((rd_T41 l0 x9_1).f3)] 40 (0, 0)) (by (with_reducible repeat (first | refine blk_drewN ?_ _ | refine blk_drew ?_ | refine blk_alloc ?_ _)); refine blk_put (cs := #[.int .i64 ((rd_T41 l0 x9_1).f0), .int .i64 ((rd_T41 l0 x9_1).f1), .int .i64 ((rd_T41 l0 x9_1).f2), .int .i64 0]) ?_ 3 _ rfl; (with_reducible repeat (first | refine blk_drewN ?_ _ | refine blk_drew ?_ | refine blk_alloc ?_ _)); refine blk_put (cs := #[.int .i64 ((rd_T41 l0 x9_1).f0), .int .i64 ((rd_T41 l0 x9_1).f1), .int .i64 0, .int .i64 0]) ?_ 2 _ rfl; (with_reducible repeat (first | refine blk_drewN ?_ _ | refine blk_drew ?_ | refine blk_alloc ?_ _)); refine blk_put (cs := #[.int .i64 ((rd_T41 l0 x9_1).f0), .int .i64 0, .int .i64 0, .int .i64 0]) ?_ 1 _ rfl; (with_reducible repeat (first | refine blk_drewN ?_ _ | refine blk_drew ?_ | refine blk_alloc ?_ _)); refine blk_put (cs := #[.int .i64 0, .int .i64 0, .int .i64 0, .int .i64 0]) ?_ 0 _ rfl; (with_reducible repeat (first | refine blk_drewN ?_ _ | refine blk_drew ?_ | refine blk_alloc ?_ _)); exact BK132.out) hb); have n3_ := Aside0.mk (below_step (by repeat (first | (with_reducible first | exact HB.out | apply below_alloc | apply pw_below_drewN | apply below_drew1 | refine below_set ?_ GE132.out) | exact HB.out)) hb); clear HO_7; clear HO_8; clear BK132; clear HB; have HO_7 := n0_; have HO_8 := n1_; have BK132 := n2_; have HB := n3_; clear n0_ n1_ n2_ n3_; (try clear hb); (try clear hb2); (try clear hk); (try clear hi))); try go_wp2_with (first | ((with_reducible refine gate_dst (N := 10) rfl ?_); (try (refine gate_guard (by rfl) ?_; dsimp only)); refine box_event ?hg (N := 10) ?hd (cs := #[.int .i64 0, .int .i64 0, .int .i64 0, .int .i64 0]) (t := 40) ?hr ?_; (case hd => rfl); (case hg => rfl); (case hr => first | (go_simp; done) | (go_simp; rfl)); intro gb132 hg w20 hbox hb; have n0_ := Aside0.mk (Kd.R_below (Kd.R_elderB (by (with_reducible repeat (first | apply Kd.R_alloc | apply Kd.R_drewN | apply Kd.R_drew)); exact HO_7.out) gb132 (Nat.le_of_eq hg.symm)) hb); have n1_ := Aside0.mk (Kd.R_below (Kd.R_elderB (by (with_reducible repeat (first | apply Kd.R_alloc | apply Kd.R_drewN | apply Kd.R_drew)); exact HO_8.out) gb132 (Nat.le_of_eq hg.symm)) hb); have n2_ := Aside0.mk (below_step (by repeat (first | (with_reducible first | exact HB.out | apply below_alloc | apply pw_below_drewN | apply below_drew1) | exact HB.out)) hb); have n3_ := Aside0.mk (hbox); have n4_ := Aside0.mk ((by rw [hg]; exact (below_size (by repeat (first | (with_reducible first | exact HB.out | apply below_alloc | apply pw_below_drewN | apply below_drew1) | exact HB.out))) : w.heap.size ≤ gb132)); have n5_ := Aside0.mk ((by rw [hg]; exact (below_size (by repeat (first | (with_reducible first | exact HB.out | apply below_alloc | apply pw_below_drewN | apply below_drew1) | exact HB.out))) : w.heap.size ≤ gb132)); clear HO_7; clear HO_8; clear HB; have HO_7 := n0_; have HO_8 := n1_; have HB := n2_; have BK132 := n3_; have GW132 := n4_; have GE132 := n5_; clear n0_ n1_ n2_ n3_ n4_ n5_; clear hb hbox hg; have hcz21_0 : w20.cell? ⟨gb132, 0, none⟩ = some (.int .i64 0) := (blk_cell BK132.out 0).trans rfl; have hcz21_1 : w20.cell? ⟨gb132, 1, none⟩ = some (.int .i64 0) := (blk_cell BK132.out 1).trans rfl; have hcz21_2 : w20.cell? ⟨gb132, 2, none⟩ = some (.int .i64 0) := (blk_cell BK132.out 2).trans rfl; have hcz21_3 : w20.cell? ⟨gb132, 3, none⟩ = some (.int .i64 0) := (blk_cell BK132.out 3).trans rfl; have hfz21_0 := blk_frozen BK132.out 0; have hfz21_1 := blk_frozen BK132.out 1; have hfz21_2 := blk_frozen BK132.out 2; have hfz21_3 := blk_frozen BK132.out 3) | (go_at_call 17; (with_reducible refine (code_Right.calls kj6 ((rd_T41 l0 x9_1).f0) ((rd_T41 l0 x9_1).f1) ((rd_T41 l0 x9_1).f2) ((rd_T41 l0 x9_1).f3) false _ A12.out).mono ?_); rintro e w22 ⟨rfl, hb⟩; have n0_ := Aside0.mk (Kd.R_below (by (with_reducible repeat (first | apply Kd.R_alloc | apply Kd.R_drewN | apply Kd.R_drew)); exact (Kd.R_mono (Kd.R_far (p := ⟨gb132, 3, none⟩) (Kd.R_far (p := ⟨gb132, 2, none⟩) (Kd.R_far (p := ⟨gb132, 1, none⟩) (Kd.R_far (p := ⟨gb132, 0, none⟩) (Kd.R_mono HO_7.out (fun k_ hk => (⟨hk, hk.2⟩ : _ ∧ k_ ≠ gb132))) (fun _ hk => hk.2) (.int .i64 ((rd_T41 l0 x9_1).f0))) (fun _ hk => hk.2) (.int .i64 ((rd_T41 l0 x9_1).f1))) (fun _ hk => hk.2) (.int .i64 ((rd_T41 l0 x9_1).f2))) (fun _ hk => hk.2) (.int .i64 ((rd_T41 l0 x9_1).f3))) (fun _ h_ => h_.1))) hb); have n1_ := Aside0.mk (Kd.R_below (by (with_reducible repeat (first | apply Kd.R_alloc | apply Kd.R_drewN | apply Kd.R_drew)); exact (Kd.R_mono (Kd.R_far (p := ⟨gb132, 3, none⟩) (Kd.R_far (p := ⟨gb132, 2, none⟩) (Kd.R_far (p := ⟨gb132, 1, none⟩) (Kd.R_far (p := ⟨gb132, 0, none⟩) (Kd.R_mono HO_8.out (fun k_ hk => (⟨hk, hk.2⟩ : _ ∧ k_ ≠ gb132))) (fun _ hk => hk.2) (.int .i64 ((rd_T41 l0 x9_1).f0))) (fun _ hk => hk.2) (.int .i64 ((rd_T41 l0 x9_1).f1))) (fun _ hk => hk.2) (.int .i64 ((rd_T41 l0 x9_1).f2))) (fun _ hk => hk.2) (.int .i64 ((rd_T41 l0 x9_1).f3))) (fun _ h_ => h_.1))) hb); have n2_ := Aside0.mk (blk_below (g := gb132) (o := .cells #[.int .i64 ((rd_T41 l0 x9_1).f0), .int .i64 ((rd_T41 l0 x9_1).f1), .int .i64 ((rd_T41 l0 x9_1).f2), .int .i64 ((rd_T41 l0 x9_1).f3)] 40 (0, 0)) (by (with_reducible repeat (first | refine blk_drewN ?_ _ | refine blk_drew ?_ | refine blk_alloc ?_ _)); refine blk_put (cs := #[.int .i64 ((rd_T41 l0 x9_1).f0), .int .i64 ((rd_T41 l0 x9_1).f1), .int .i64 ((rd_T41 l0 x9_1).f2), .int .i64 0]) ?_ 3 _ rfl; (with_reducible repeat (first | refine blk_drewN ?_ _ | refine blk_drew ?_ | refine blk_alloc ?_ _)); refine blk_put (cs := #[.int .i64 ((rd_T41 l0 x9_1).f0), .int .i64 ((rd_T41 l0 x9_1).f1), .int .i64 0, .int .i64 0]) ?_ 2 _ rfl; (with_reducible repeat (first | refine blk_drewN ?_ _ | refine blk_drew ?_ | refine blk_alloc ?_ _)); refine blk_put (cs := #[.int .i64 ((rd_T41 l0 x9_1).f0), .int .i64 0, .int .i64 0, .int .i64 0]) ?_ 1 _ rfl; (with_reducible repeat (first | refine blk_drewN ?_ _ | refine blk_drew ?_ | refine blk_alloc ?_ _)); refine blk_put (cs := #[.int .i64 0, .int .i64 0, .int .i64 0, .int .i64 0]) ?_ 0 _ rfl; (with_reducible repeat (first | refine blk_drewN ?_ _ | refine blk_drew ?_ | refine blk_alloc ?_ _)); exact BK132.out) hb); have n3_ := Aside0.mk (below_step (by repeat (first | (with_reducible first | exact HB.out | apply below_alloc | apply pw_below_drewN | apply below_drew1 | refine below_set ?_ GE132.out) | exact HB.out)) hb); clear HO_7; clear HO_8; clear BK132; clear HB; have HO_7 := n0_; have HO_8 := n1_; have BK132 := n2_; have HB := n3_; clear n0_ n1_ n2_ n3_; (try clear hb); (try clear hb2); (try clear hk); (try clear hi))))
                      go_roundg kj6
                      case measure => have := HK1.out; have := HJ6.out; omega
                      case rel => exact ⟨(x7_1), (wrap64 (x9_1 + 1)), (by first | rfl | (simp; done) | (simp [*]; done)), H', ⟨by have := HK1.out; have := HJ6.out; omega⟩, ⟨by (with_reducible repeat (first | apply Kd.R_alloc | apply Kd.R_drewN | apply Kd.R_drew)); exact Kd.R_mono HO_7.out (fun _ hk => trivial)⟩, ⟨by repeat (first | (with_reducible first | exact HB.out | apply below_alloc | apply pw_below_drewN | apply below_drew1 | refine below_set ?_ GE132.out) | exact HB.out)⟩⟩
                · rw [if_neg c11] at H
                  exact absurd H (by simp)
              · rw [if_neg c10] at H
                exact absurd H (by simp)
            · replace c9 := Bool.eq_false_iff.mpr c9
              subst c9
              have H1 : (posthorselaw17_CodeJoins.l1 kj6 l1 a2 x7_1 ([] : List (S40)) 0) = some r := by rw [if_neg (show ¬ (false = true) by decide)] at H; exact H
              clear H
              have H := H1
              clear H1
              have H' := Aside0.mk H
              clear H
              go_wp2
              repeat (go_quiet (fail); try go_wp2)
              go_loopg [8, 11] kj6 (fun kq v8 v11 w' => ∃ (x8_3 : List (S40)) (x11_3 : Int), v11 = .int .i64 x11_3 ∧ Aside0 (posthorselaw17_CodeJoins.l1 kq l1 a2 x7_1 x8_3 x11_3 = some r) ∧ Aside0 (kq ≤ kj6) ∧ Aside0 (Kd.R k40 40 w' w.heap.size (fun k_ => some k_ ≠ (v8 : Value).ownBlock) u7 x7_1) ∧ Aside0 (Kd.R k40 40 w' w.heap.size (fun k_ => some k_ ≠ (u7 : Value).ownBlock) v8 x8_3) ∧ Aside0 (Below w.heap.size w w'))
              case atStart => exact ⟨(([] : List (S40))), (0), (by first | rfl | (simp; done) | (simp [*]; done)), H', ⟨Nat.le_refl _⟩, ⟨by (with_reducible repeat (first | apply Kd.R_alloc | apply Kd.R_drewN | apply Kd.R_drew)); exact HO_7.out⟩, ⟨by (with_reducible repeat (first | apply Kd.R_alloc | apply Kd.R_drewN | apply Kd.R_drew)); exact HO_8.out⟩, ⟨by repeat (first | (with_reducible first | exact HB.out | apply below_alloc | apply pw_below_drewN | apply below_drew1) | exact HB.out)⟩⟩
              case round =>
                as_aux_lemma =>
                clear H'
                try clear c1
                try clear p1
                try clear q1
                try clear hx1
                try clear p2
                try clear c5
                try clear c6
                try clear p6
                try clear c8
                try clear c8b0
                try clear c9
                try clear c10
                try clear c10b0
                try clear c11
                try clear c11b0
                try clear c13
                try clear p13
                try clear q13
                try clear hx13
                try clear c14
                try clear hcz16_0
                try clear hcz16_1
                try clear hcz16_2
                try clear hcz16_3
                try clear hcz18_0
                try clear hcz18_1
                try clear hcz18_2
                try clear hcz18_3
                try clear hcz21_0
                try clear hcz21_1
                try clear hcz21_2
                try clear hcz21_3
                try clear hfz16_0
                try clear hfz16_1
                try clear hfz16_2
                try clear hfz16_3
                try clear hfz18_0
                try clear hfz18_1
                try clear hfz18_2
                try clear hfz18_3
                try clear hfz21_0
                try clear hfz21_1
                try clear hfz21_2
                try clear hfz21_3
                try clear hx131_0
                try clear hx131_1
                try clear hx131_2
                try clear hx131_3
                try clear p131
                try clear p2
                try clear q131
                obtain ⟨x8_3, x11_3, rfl, HA, HK3, HO_7, HO_8, HB⟩ := hrel
                cases gk with
                | zero => exact absurd HA.out (by simp [posthorselaw17_CodeJoins.l1])
                | succ k3 =>
                  have H := HA.out
                  clear HA
                  simp only [posthorselaw17_CodeJoins.l1] at H
                  have HC23 := Aside0.mk H
                  clear H
                  go_upto_region 11 with (fail)
                  repeat (go_quiet (fail); go_upto_region 11 with (fail))
                  go_cut [52] (fun v52 wc => ∃ (kq : Nat) (x52_22 : Bool), v52 = .bool x52_22 ∧ Aside0 (posthorselaw17_CodeJoins.j3 kq l1 a2 x7_1 x8_3 x11_3 x52_22 = some r) ∧ Aside0 (kq ≤ k3) ∧ Aside0 (Kd.R k40 40 wc w.heap.size (fun k_ => some k_ ≠ (u8 : Value).ownBlock) u7 x7_1) ∧ Aside0 (Kd.R k40 40 wc w.heap.size (fun k_ => some k_ ≠ (u7 : Value).ownBlock) u8 x8_3) ∧ Aside0 (Below w.heap.size w wc))
                  case first =>
                    as_aux_lemma =>
                    have H := HC23.out
                    clear HC23
                    by_cases c24 : x11_3 < (l1.length : Int)
                    · rw [if_pos c24] at H
                      have c24b0 : decide (x11_3 < (l1.length : Int)) = true := decide_eq_true c24
                      clear c24
                      (first | rw [c24b0] | (simp only [i64_w, i32_w]; rw [c24b0]) | skip)
                      as_aux_lemma =>
                        have H' := Aside0.mk H
                        clear H
                        go_wp2
                        repeat (go_quiet (fail); try go_wp2)
                        go_meet
                        case rel => exact ⟨_, (decide (x11_3 < 50)), (by first | rfl | (simp; done) | (simp [*]; done)), H', ⟨by have := HK1.out; have := HJ6.out; have := HK3.out; first | omega | exact Nat.le_refl _⟩, ⟨by (with_reducible repeat (first | apply Kd.R_alloc | apply Kd.R_drewN | apply Kd.R_drew)); exact HO_7.out⟩, ⟨by (with_reducible repeat (first | apply Kd.R_alloc | apply Kd.R_drewN | apply Kd.R_drew)); exact HO_8.out⟩, ⟨by repeat (first | (with_reducible first | exact HB.out | apply below_alloc | apply pw_below_drewN | apply below_drew1) | exact HB.out)⟩⟩
                    · rw [if_neg c24] at H
                      have c24b0 : decide (x11_3 < (l1.length : Int)) = false := decide_eq_false c24
                      clear c24
                      (first | rw [c24b0] | (simp only [i64_w, i32_w]; rw [c24b0]) | skip)
                      as_aux_lemma =>
                        have H' := Aside0.mk H
                        clear H
                        go_wp2
                        repeat (go_quiet (fail); try go_wp2)
                        go_meet
                        case rel => exact ⟨_, (false), (by first | rfl | (simp; done) | (simp [*]; done)), H', ⟨by have := HK1.out; have := HJ6.out; have := HK3.out; first | omega | exact Nat.le_refl _⟩, ⟨by (with_reducible repeat (first | apply Kd.R_alloc | apply Kd.R_drewN | apply Kd.R_drew)); exact HO_7.out⟩, ⟨by (with_reducible repeat (first | apply Kd.R_alloc | apply Kd.R_drewN | apply Kd.R_drew)); exact HO_8.out⟩, ⟨by repeat (first | (with_reducible first | exact HB.out | apply below_alloc | apply pw_below_drewN | apply below_drew1) | exact HB.out)⟩⟩
                  case rest =>
                    clear HC23
                    try clear c1
                    try clear p1
                    try clear q1
                    try clear hx1
                    try clear c2
                    try clear p2
                    try clear c5
                    try clear c6
                    try clear p6
                    try clear c8
                    try clear c8b0
                    try clear c9
                    try clear c10
                    try clear c10b0
                    try clear c11
                    try clear c11b0
                    try clear c13
                    try clear p13
                    try clear q13
                    try clear hx13
                    try clear c14
                    try clear c24
                    try clear c24b0
                    try clear hcz16_0
                    try clear hcz16_1
                    try clear hcz16_2
                    try clear hcz16_3
                    try clear hcz18_0
                    try clear hcz18_1
                    try clear hcz18_2
                    try clear hcz18_3
                    try clear hcz21_0
                    try clear hcz21_1
                    try clear hcz21_2
                    try clear hcz21_3
                    try clear hfz16_0
                    try clear hfz16_1
                    try clear hfz16_2
                    try clear hfz16_3
                    try clear hfz18_0
                    try clear hfz18_1
                    try clear hfz18_2
                    try clear hfz18_3
                    try clear hfz21_0
                    try clear hfz21_1
                    try clear hfz21_2
                    try clear hfz21_3
                    try clear hx131_0
                    try clear hx131_1
                    try clear hx131_2
                    try clear hx131_3
                    try clear p1
                    try clear p13
                    try clear p131
                    try clear p2
                    try clear p6
                    try clear q1
                    try clear q13
                    try clear q131
                    obtain ⟨kq, x52_22, rfl, HA, HJ22, HO_7, HO_8, HB⟩ := hcut
                    cases kq with
                    | zero => exact absurd HA.out (by simp [posthorselaw17_CodeJoins.j3])
                    | succ kj22 =>
                      have H := HA.out
                      clear HA
                      simp only [posthorselaw17_CodeJoins.j3] at H
                      by_cases c25 : x52_22 = true
                      · subst c25
                        have H1 : (if 0 ≤ x11_3 then (if x11_3 < (l1.length : Int) then ((code_Right.f kj22 ((rd_T41 l1 x11_3).f0) ((rd_T41 l1 x11_3).f1) ((rd_T41 l1 x11_3).f2) ((rd_T41 l1 x11_3).f3)).bind fun t139 => (if t139 = true then (if x8_3.length < 4398046511104 then (posthorselaw17_CodeJoins.l1 kj22 l1 a2 x7_1 (x8_3 ++ [(⟨(rd_T41 l1 x11_3).f0, (rd_T41 l1 x11_3).f1, (rd_T41 l1 x11_3).f2, (rd_T41 l1 x11_3).f3⟩ : S40)]) (wrap64 (x11_3 + 1))) else (none)) else (posthorselaw17_CodeJoins.l1 kj22 l1 a2 x7_1 x8_3 (wrap64 (x11_3 + 1))))) else (none)) else (none)) = some r := by rw [if_pos rfl] at H; exact H
                        clear H
                        have H := H1
                        clear H1
                        by_cases c26 : 0 ≤ x11_3
                        · rw [if_pos c26] at H
                          have c26b0 : decide (0 ≤ x11_3) = true := decide_eq_true c26
                          clear c26
                          by_cases c27 : x11_3 < (l1.length : Int)
                          · rw [if_pos c27] at H
                            have c27b0 : decide (x11_3 < (l1.length : Int)) = true := decide_eq_true c27
                            clear c27
                            replace H := Option.bind_eq_some_iff.mp H
                            obtain ⟨t139, A280, H⟩ := H
                            replace H : (if t139 = true then (if x8_3.length < 4398046511104 then (posthorselaw17_CodeJoins.l1 kj22 l1 a2 x7_1 (x8_3 ++ [(⟨(rd_T41 l1 x11_3).f0, (rd_T41 l1 x11_3).f1, (rd_T41 l1 x11_3).f2, (rd_T41 l1 x11_3).f3⟩ : S40)]) (wrap64 (x11_3 + 1))) else (none)) else (posthorselaw17_CodeJoins.l1 kj22 l1 a2 x7_1 x8_3 (wrap64 (x11_3 + 1)))) = some r := H
                            have A28 := Aside0.mk A280
                            clear A280
                            by_cases c29 : t139 = true
                            · subst c29
                              have H1 : (if x8_3.length < 4398046511104 then (posthorselaw17_CodeJoins.l1 kj22 l1 a2 x7_1 (x8_3 ++ [(⟨(rd_T41 l1 x11_3).f0, (rd_T41 l1 x11_3).f1, (rd_T41 l1 x11_3).f2, (rd_T41 l1 x11_3).f3⟩ : S40)]) (wrap64 (x11_3 + 1))) else (none)) = some r := by rw [if_pos rfl] at H; exact H
                              clear H
                              have H := H1
                              clear H1
                              by_cases c30 : x8_3.length < 4398046511104
                              · rw [if_pos c30] at H
                                have LMc30 := Aside0.mk c30
                                clear c30
                                obtain ⟨y140, hy140⟩ : ∃ y_ : List (S40), y_ = (x8_3 ++ [(⟨(rd_T41 l1 x11_3).f0, (rd_T41 l1 x11_3).f1, (rd_T41 l1 x11_3).f2, (rd_T41 l1 x11_3).f3⟩ : S40)]) := ⟨_, rfl⟩
                                replace H : (posthorselaw17_CodeJoins.l1 kj22 l1 a2 x7_1 y140 (wrap64 (x11_3 + 1))) = some r := by first | (rw [hy140]; with_reducible exact H) | (have H2_ := (Option.bind_some _ _).symm.trans H; rw [hy140]; with_reducible exact H2_) | (have H2_ := (Option.bind_some _ _).symm.trans H; with_reducible exact H2_) | with_reducible exact H | (rw [hy140]; exact H) | exact H
                                have Ny140 := Aside0.mk hy140
                                clear hy140
                                as_aux_lemma =>
                                  have H' := Aside0.mk H
                                  clear H
                                  have p137 : 0 ≤ (x11_3 : Int) := of_decide_eq_true (by first | (with_reducible assumption) | assumption)
                                  have q137 : x11_3 < (l1.length : Int) := of_decide_eq_true (by first | (with_reducible assumption) | assumption)
                                  obtain ⟨ad137, e137, hx137_0, hx137_1, hx137_2, hx137_3⟩ := at_T41 HR1.out x11_3 p137 q137
                                  cases e137
                                  replace hx137_0 := (HB.out.cell (World.block_lt_of_cell? w _ hx137_0)).trans hx137_0
                                  replace hx137_1 := (HB.out.cell (World.block_lt_of_cell? w _ hx137_1)).trans hx137_1
                                  replace hx137_2 := (HB.out.cell (World.block_lt_of_cell? w _ hx137_2)).trans hx137_2
                                  replace hx137_3 := (HB.out.cell (World.block_lt_of_cell? w _ hx137_3)).trans hx137_3
                                  replace p137 := eq_true p137
                                  replace q137 := eq_true q137
                                  go_wp2_with (first | ((with_reducible refine gate_dst (N := 12) rfl ?_); (try (refine gate_guard (by rfl) ?_; dsimp only)); refine box_event ?hg (N := 12) ?hd (cs := #[.int .i64 0, .int .i64 0, .int .i64 0, .int .i64 0]) (t := 40) ?hr ?_; (case hd => rfl); (case hg => rfl); (case hr => first | (go_simp; done) | (go_simp; rfl)); intro gb138 hg w31 hbox hb; have n0_ := Aside0.mk (Kd.R_below (Kd.R_elderB (by (with_reducible repeat (first | apply Kd.R_alloc | apply Kd.R_drewN | apply Kd.R_drew)); exact HO_7.out) gb138 (Nat.le_of_eq hg.symm)) hb); have n1_ := Aside0.mk (Kd.R_below (Kd.R_elderB (by (with_reducible repeat (first | apply Kd.R_alloc | apply Kd.R_drewN | apply Kd.R_drew)); exact HO_8.out) gb138 (Nat.le_of_eq hg.symm)) hb); have n2_ := Aside0.mk (below_step (by repeat (first | (with_reducible first | exact HB.out | apply below_alloc | apply pw_below_drewN | apply below_drew1) | exact HB.out)) hb); have n3_ := Aside0.mk (hbox); have n4_ := Aside0.mk ((by rw [hg]; exact (below_size (by repeat (first | (with_reducible first | exact HB.out | apply below_alloc | apply pw_below_drewN | apply below_drew1) | exact HB.out))) : w.heap.size ≤ gb138)); have n5_ := Aside0.mk ((by rw [hg]; exact (below_size (by repeat (first | (with_reducible first | exact HB.out | apply below_alloc | apply pw_below_drewN | apply below_drew1) | exact HB.out))) : w.heap.size ≤ gb138)); clear HO_7; clear HO_8; clear HB; have HO_7 := n0_; have HO_8 := n1_; have HB := n2_; have BK138 := n3_; have GW138 := n4_; have GE138 := n5_; clear n0_ n1_ n2_ n3_ n4_ n5_; clear hb hbox hg; have hcz32_0 : w31.cell? ⟨gb138, 0, none⟩ = some (.int .i64 0) := (blk_cell BK138.out 0).trans rfl; have hcz32_1 : w31.cell? ⟨gb138, 1, none⟩ = some (.int .i64 0) := (blk_cell BK138.out 1).trans rfl; have hcz32_2 : w31.cell? ⟨gb138, 2, none⟩ = some (.int .i64 0) := (blk_cell BK138.out 2).trans rfl; have hcz32_3 : w31.cell? ⟨gb138, 3, none⟩ = some (.int .i64 0) := (blk_cell BK138.out 3).trans rfl; have hfz32_0 := blk_frozen BK138.out 0; have hfz32_1 := blk_frozen BK138.out 1; have hfz32_2 := blk_frozen BK138.out 2; have hfz32_3 := blk_frozen BK138.out 3) | (go_at_call 17; (with_reducible refine (code_Right.calls kj22 ((rd_T41 l1 x11_3).f0) ((rd_T41 l1 x11_3).f1) ((rd_T41 l1 x11_3).f2) ((rd_T41 l1 x11_3).f3) true _ A28.out).mono ?_); rintro e w33 ⟨rfl, hb⟩; have n0_ := Aside0.mk (Kd.R_below (by (with_reducible repeat (first | apply Kd.R_alloc | apply Kd.R_drewN | apply Kd.R_drew)); exact (Kd.R_mono (Kd.R_far (p := ⟨gb138, 3, none⟩) (Kd.R_far (p := ⟨gb138, 2, none⟩) (Kd.R_far (p := ⟨gb138, 1, none⟩) (Kd.R_far (p := ⟨gb138, 0, none⟩) (Kd.R_mono HO_7.out (fun k_ hk => (⟨hk, hk.2⟩ : _ ∧ k_ ≠ gb138))) (fun _ hk => hk.2) (.int .i64 ((rd_T41 l1 x11_3).f0))) (fun _ hk => hk.2) (.int .i64 ((rd_T41 l1 x11_3).f1))) (fun _ hk => hk.2) (.int .i64 ((rd_T41 l1 x11_3).f2))) (fun _ hk => hk.2) (.int .i64 ((rd_T41 l1 x11_3).f3))) (fun _ h_ => h_.1))) hb); have n1_ := Aside0.mk (Kd.R_below (by (with_reducible repeat (first | apply Kd.R_alloc | apply Kd.R_drewN | apply Kd.R_drew)); exact (Kd.R_mono (Kd.R_far (p := ⟨gb138, 3, none⟩) (Kd.R_far (p := ⟨gb138, 2, none⟩) (Kd.R_far (p := ⟨gb138, 1, none⟩) (Kd.R_far (p := ⟨gb138, 0, none⟩) (Kd.R_mono HO_8.out (fun k_ hk => (⟨hk, hk.2⟩ : _ ∧ k_ ≠ gb138))) (fun _ hk => hk.2) (.int .i64 ((rd_T41 l1 x11_3).f0))) (fun _ hk => hk.2) (.int .i64 ((rd_T41 l1 x11_3).f1))) (fun _ hk => hk.2) (.int .i64 ((rd_T41 l1 x11_3).f2))) (fun _ hk => hk.2) (.int .i64 ((rd_T41 l1 x11_3).f3))) (fun _ h_ => h_.1))) hb); have n2_ := Aside0.mk (blk_below (g := gb138) (o := .cells #[.int .i64 ((rd_T41 l1 x11_3).f0), .int .i64 ((rd_T41 l1 x11_3).f1), .int .i64 ((rd_T41 l1 x11_3).f2), .int .i64 ((rd_T41 l1 x11_3).f3)] 40 (0, 0)) (by (with_reducible repeat (first | refine blk_drewN ?_ _ | refine blk_drew ?_ | refine blk_alloc ?_ _)); refine blk_put (cs := #[.int .i64 ((rd_T41 l1 x11_3).f0), .int .i64 ((rd_T41 l1 x11_3).f1), .int .i64 ((rd_T41 l1 x11_3).f2), .int .i64 0]) ?_ 3 _ rfl; (with_reducible repeat (first | refine blk_drewN ?_ _ | refine blk_drew ?_ | refine blk_alloc ?_ _)); refine blk_put (cs := #[.int .i64 ((rd_T41 l1 x11_3).f0), .int .i64 ((rd_T41 l1 x11_3).f1), .int .i64 0, .int .i64 0]) ?_ 2 _ rfl; (with_reducible repeat (first | refine blk_drewN ?_ _ | refine blk_drew ?_ | refine blk_alloc ?_ _)); refine blk_put (cs := #[.int .i64 ((rd_T41 l1 x11_3).f0), .int .i64 0, .int .i64 0, .int .i64 0]) ?_ 1 _ rfl; (with_reducible repeat (first | refine blk_drewN ?_ _ | refine blk_drew ?_ | refine blk_alloc ?_ _)); refine blk_put (cs := #[.int .i64 0, .int .i64 0, .int .i64 0, .int .i64 0]) ?_ 0 _ rfl; (with_reducible repeat (first | refine blk_drewN ?_ _ | refine blk_drew ?_ | refine blk_alloc ?_ _)); exact BK138.out) hb); have n3_ := Aside0.mk (below_step (by repeat (first | (with_reducible first | exact HB.out | apply below_alloc | apply pw_below_drewN | apply below_drew1 | refine below_set ?_ GE138.out) | exact HB.out)) hb); clear HO_7; clear HO_8; clear BK138; clear HB; have HO_7 := n0_; have HO_8 := n1_; have BK138 := n2_; have HB := n3_; clear n0_ n1_ n2_ n3_; (try clear hb); (try clear hb2); (try clear hk); (try clear hi); have hcz34_0 : w33.cell? ⟨gb138, 0, none⟩ = some (.int .i64 ((rd_T41 l1 x11_3).f0)) := (blk_cell BK138.out 0).trans rfl; have hcz34_1 : w33.cell? ⟨gb138, 1, none⟩ = some (.int .i64 ((rd_T41 l1 x11_3).f1)) := (blk_cell BK138.out 1).trans rfl; have hcz34_2 : w33.cell? ⟨gb138, 2, none⟩ = some (.int .i64 ((rd_T41 l1 x11_3).f2)) := (blk_cell BK138.out 2).trans rfl; have hcz34_3 : w33.cell? ⟨gb138, 3, none⟩ = some (.int .i64 ((rd_T41 l1 x11_3).f3)) := (blk_cell BK138.out 3).trans rfl; have hfz34_0 := blk_frozen BK138.out 0; have hfz34_1 := blk_frozen BK138.out 1; have hfz34_2 := blk_frozen BK138.out 2; have hfz34_3 := blk_frozen BK138.out 3) | ((with_reducible refine gate_builtin (b := .append) (xs := #[.tmp 61, .tmp 63]) rfl ?_); (try (refine gate_guard (by rfl) ?_; dsimp only)); at_builtin; refine Kd.R_append k40 (w0 := w) w.heap.size rfl (.tmp 61) (.tmp 63) 38 40 (.agg #[(.int .i64 0), (.int .i64 0), (.int .i64 0), (.int .i64 0)]) 32 rfl Try.underlying38 info40 rfl (by decide) (by omega) u8 x8_3 (⟨(rd_T41 l1 x11_3).f0, (rd_T41 l1 x11_3).f1, (rd_T41 l1 x11_3).f2, (rd_T41 l1 x11_3).f3⟩ : S40) [.int .i64 ((rd_T41 l1 x11_3).f0), .int .i64 ((rd_T41 l1 x11_3).f1), .int .i64 ((rd_T41 l1 x11_3).f2), .int .i64 ((rd_T41 l1 x11_3).f3)] (fun k_ => some k_ ≠ (u7 : Value).ownBlock ∧ k_ ≠ gb138) (fun _ => False) rfl rfl ?aP (fun _ hk => hk.elim) ?aF ?aO ?aB ?aS ?aL ?_; (case aP => exact k40_mkM _ _ _ (⟨(rd_T41 l1 x11_3).f0, (rd_T41 l1 x11_3).f1, (rd_T41 l1 x11_3).f2, (rd_T41 l1 x11_3).f3⟩ : S40)); (case aB => exact (by repeat (first | (with_reducible first | exact HB.out | apply below_alloc | apply pw_below_drewN | apply below_drew1 | refine below_set ?_ GE138.out) | exact HB.out))); (case aF => exact (fun k_ hk => ⟨Kd.fresh' (Kd.R_lt (by (with_reducible repeat (first | apply Kd.R_alloc | apply Kd.R_drewN | apply Kd.R_drew)); exact HO_7.out)) k_ hk, Kd.freshB (g := gb138) (o := .cells #[.int .i64 ((rd_T41 l1 x11_3).f0), .int .i64 ((rd_T41 l1 x11_3).f1), .int .i64 ((rd_T41 l1 x11_3).f2), .int .i64 ((rd_T41 l1 x11_3).f3)] 40 (0, 0)) (by (with_reducible repeat (first | refine blk_drewN ?_ _ | refine blk_drew ?_ | refine blk_alloc ?_ _)); exact BK138.out) k_ hk⟩)); (case aO => exact (by (with_reducible repeat (first | apply Kd.R_alloc | apply Kd.R_drewN | apply Kd.R_drew)); exact HO_8.out)); (case aS => exact (below_size (by repeat (first | (with_reducible first | exact HB.out | apply below_alloc | apply pw_below_drewN | apply below_drew1 | refine below_set ?_ GE138.out) | exact HB.out)))); (case aL => have := LMc30.out; omega); intro v141 w35 ho hb hg hat; rw [← Ny140.out] at ho; have n0_ := Aside0.mk (Kd.R_after (ok := (fun k_ => k_ ≠ gb138)) (by (with_reducible repeat (first | apply Kd.R_alloc | apply Kd.R_drewN | apply Kd.R_drew)); exact Kd.R_mono HO_7.out (fun _ hk => ⟨hk.2, hk.1⟩)) hg hat); have n1_ := Aside0.mk (blk_grown (g := gb138) (o := .cells #[.int .i64 ((rd_T41 l1 x11_3).f0), .int .i64 ((rd_T41 l1 x11_3).f1), .int .i64 ((rd_T41 l1 x11_3).f2), .int .i64 ((rd_T41 l1 x11_3).f3)] 40 (0, 0)) (by (with_reducible repeat (first | refine blk_drewN ?_ _ | refine blk_drew ?_ | refine blk_alloc ?_ _)); exact BK138.out) hg (Kd.R_away HO_8.out (fun _ hk => hk.2))); have n2_ := Aside0.mk (hb); have n3_ := Aside0.mk (ho); clear HO_7; clear BK138; clear HB; clear HO_8; have HO_7 := n0_; have BK138 := n1_; have HB := n2_; have HO142 := n3_; clear n0_ n1_ n2_ n3_; clear ho hb hg hat))
                                  repeat (go_quiet (first | ((with_reducible refine gate_dst (N := 12) rfl ?_); (try (refine gate_guard (by rfl) ?_; dsimp only)); refine box_event ?hg (N := 12) ?hd (cs := #[.int .i64 0, .int .i64 0, .int .i64 0, .int .i64 0]) (t := 40) ?hr ?_; (case hd => rfl); (case hg => rfl); (case hr => first | (go_simp; done) | (go_simp; rfl)); intro gb138 hg w31 hbox hb; have n0_ := Aside0.mk (Kd.R_below (Kd.R_elderB (by (with_reducible repeat (first | apply Kd.R_alloc | apply Kd.R_drewN | apply Kd.R_drew)); exact HO_7.out) gb138 (Nat.le_of_eq hg.symm)) hb); have n1_ := Aside0.mk (Kd.R_below (Kd.R_elderB (by (with_reducible repeat (first | apply Kd.R_alloc | apply Kd.R_drewN | apply Kd.R_drew)); exact HO_8.out) gb138 (Nat.le_of_eq hg.symm)) hb); have n2_ := Aside0.mk (below_step (by repeat (first | (with_reducible first | exact HB.out | apply below_alloc | apply pw_below_drewN | apply below_drew1) | exact HB.out)) hb); have n3_ := Aside0.mk (hbox); have n4_ := Aside0.mk ((by rw [hg]; exact (below_size (by repeat (first | (with_reducible first | exact HB.out | apply below_alloc | apply pw_below_drewN | apply below_drew1) | exact HB.out))) : w.heap.size ≤ gb138)); have n5_ := Aside0.mk ((by rw [hg]; exact (below_size (by repeat (first | (with_reducible first | exact HB.out | apply below_alloc | apply pw_below_drewN | apply below_drew1) | exact HB.out))) : w.heap.size ≤ gb138)); clear HO_7; clear HO_8; clear HB; have HO_7 := n0_; have HO_8 := n1_; have HB := n2_; have BK138 := n3_; have GW138 := n4_; have GE138 := n5_; clear n0_ n1_ n2_ n3_ n4_ n5_; clear hb hbox hg; have hcz32_0 : w31.cell? ⟨gb138, 0, none⟩ = some (.int .i64 0) := (blk_cell BK138.out 0).trans rfl; have hcz32_1 : w31.cell? ⟨gb138, 1, none⟩ = some (.int .i64 0) := (blk_cell BK138.out 1).trans rfl; have hcz32_2 : w31.cell? ⟨gb138, 2, none⟩ = some (.int .i64 0) := (blk_cell BK138.out 2).trans rfl; have hcz32_3 : w31.cell? ⟨gb138, 3, none⟩ = some (.int .i64 0) := (blk_cell BK138.out 3).trans rfl; have hfz32_0 := blk_frozen BK138.out 0; have hfz32_1 := blk_frozen BK138.out 1; have hfz32_2 := blk_frozen BK138.out 2; have hfz32_3 := blk_frozen BK138.out 3) | (go_at_call 17; (with_reducible refine (code_Right.calls kj22 ((rd_T41 l1 x11_3).f0) ((rd_T41 l1 x11_3).f1) ((rd_T41 l1 x11_3).f2) ((rd_T41 l1 x11_3).f3) true _ A28.out).mono ?_); rintro e w33 ⟨rfl, hb⟩; have n0_ := Aside0.mk (Kd.R_below (by (with_reducible repeat (first | apply Kd.R_alloc | apply Kd.R_drewN | apply Kd.R_drew)); exact (Kd.R_mono (Kd.R_far (p := ⟨gb138, 3, none⟩) (Kd.R_far (p := ⟨gb138, 2, none⟩) (Kd.R_far (p := ⟨gb138, 1, none⟩) (Kd.R_far (p := ⟨gb138, 0, none⟩) (Kd.R_mono HO_7.out (fun k_ hk => (⟨hk, hk.2⟩ : _ ∧ k_ ≠ gb138))) (fun _ hk => hk.2) (.int .i64 ((rd_T41 l1 x11_3).f0))) (fun _ hk => hk.2) (.int .i64 ((rd_T41 l1 x11_3).f1))) (fun _ hk => hk.2) (.int .i64 ((rd_T41 l1 x11_3).f2))) (fun _ hk => hk.2) (.int .i64 ((rd_T41 l1 x11_3).f3))) (fun _ h_ => h_.1))) hb); have n1_ := Aside0.mk (Kd.R_below (by (with_reducible repeat (first | apply Kd.R_alloc | apply Kd.R_drewN | apply Kd.R_drew)); exact (Kd.R_mono (Kd.R_far (p := ⟨gb138, 3, none⟩) (Kd.R_far (p := ⟨gb138, 2, none⟩) (Kd.R_far (p := ⟨gb138, 1, none⟩) (Kd.R_far (p := ⟨gb138, 0, none⟩) (Kd.R_mono HO_8.out (fun k_ hk => (⟨hk, hk.2⟩ : _ ∧ k_ ≠ gb138))) (fun _ hk => hk.2) (.int .i64 ((rd_T41 l1 x11_3).f0))) (fun _ hk => hk.2) (.int .i64 ((rd_T41 l1 x11_3).f1))) (fun _ hk => hk.2) (.int .i64 ((rd_T41 l1 x11_3).f2))) (fun _ hk => hk.2) (.int .i64 ((rd_T41 l1 x11_3).f3))) (fun _ h_ => h_.1))) hb); have n2_ := Aside0.mk (blk_below (g := gb138) (o := .cells #[.int .i64 ((rd_T41 l1 x11_3).f0), .int .i64 ((rd_T41 l1 x11_3).f1), .int .i64 ((rd_T41 l1 x11_3).f2), .int .i64 ((rd_T41 l1 x11_3).f3)] 40 (0, 0)) (by (with_reducible repeat (first | refine blk_drewN ?_ _ | refine blk_drew ?_ | refine blk_alloc ?_ _)); refine blk_put (cs := #[.int .i64 ((rd_T41 l1 x11_3).f0), .int .i64 ((rd_T41 l1 x11_3).f1), .int .i64 ((rd_T41 l1 x11_3).f2), .int .i64 0]) ?_ 3 _ rfl; (with_reducible repeat (first | refine blk_drewN ?_ _ | refine blk_drew ?_ | refine blk_alloc ?_ _)); refine blk_put (cs := #[.int .i64 ((rd_T41 l1 x11_3).f0), .int .i64 ((rd_T41 l1 x11_3).f1), .int .i64 0, .int .i64 0]) ?_ 2 _ rfl; (with_reducible repeat (first | refine blk_drewN ?_ _ | refine blk_drew ?_ | refine blk_alloc ?_ _)); refine blk_put (cs := #[.int .i64 ((rd_T41 l1 x11_3).f0), .int .i64 0, .int .i64 0, .int .i64 0]) ?_ 1 _ rfl; (with_reducible repeat (first | refine blk_drewN ?_ _ | refine blk_drew ?_ | refine blk_alloc ?_ _)); refine blk_put (cs := #[.int .i64 0, .int .i64 0, .int .i64 0, .int .i64 0]) ?_ 0 _ rfl; (with_reducible repeat (first | refine blk_drewN ?_ _ | refine blk_drew ?_ | refine blk_alloc ?_ _)); exact BK138.out) hb); have n3_ := Aside0.mk (below_step (by repeat (first | (with_reducible first | exact HB.out | apply below_alloc | apply pw_below_drewN | apply below_drew1 | refine below_set ?_ GE138.out) | exact HB.out)) hb); clear HO_7; clear HO_8; clear BK138; clear HB; have HO_7 := n0_; have HO_8 := n1_; have BK138 := n2_; have HB := n3_; clear n0_ n1_ n2_ n3_; (try clear hb); (try clear hb2); (try clear hk); (try clear hi); have hcz34_0 : w33.cell? ⟨gb138, 0, none⟩ = some (.int .i64 ((rd_T41 l1 x11_3).f0)) := (blk_cell BK138.out 0).trans rfl; have hcz34_1 : w33.cell? ⟨gb138, 1, none⟩ = some (.int .i64 ((rd_T41 l1 x11_3).f1)) := (blk_cell BK138.out 1).trans rfl; have hcz34_2 : w33.cell? ⟨gb138, 2, none⟩ = some (.int .i64 ((rd_T41 l1 x11_3).f2)) := (blk_cell BK138.out 2).trans rfl; have hcz34_3 : w33.cell? ⟨gb138, 3, none⟩ = some (.int .i64 ((rd_T41 l1 x11_3).f3)) := (blk_cell BK138.out 3).trans rfl; have hfz34_0 := blk_frozen BK138.out 0; have hfz34_1 := blk_frozen BK138.out 1; have hfz34_2 := blk_frozen BK138.out 2; have hfz34_3 := blk_frozen BK138.out 3) | ((with_reducible refine gate_builtin (b := .append) (xs := #[.tmp 61, .tmp 63]) rfl ?_); (try (refine gate_guard (by rfl) ?_; dsimp only)); at_builtin; refine Kd.R_append k40 (w0 := w) w.heap.size rfl (.tmp 61) (.tmp 63) 38 40 (.agg #[(.int .i64 0), (.int .i64 0), (.int .i64 0), (.int .i64 0)]) 32 rfl Try.underlying38 info40 rfl (by decide) (by omega) u8 x8_3 (⟨(rd_T41 l1 x11_3).f0, (rd_T41 l1 x11_3).f1, (rd_T41 l1 x11_3).f2, (rd_T41 l1 x11_3).f3⟩ : S40) [.int .i64 ((rd_T41 l1 x11_3).f0), .int .i64 ((rd_T41 l1 x11_3).f1), .int .i64 ((rd_T41 l1 x11_3).f2), .int .i64 ((rd_T41 l1 x11_3).f3)] (fun k_ => some k_ ≠ (u7 : Value).ownBlock ∧ k_ ≠ gb138) (fun _ => False) rfl rfl ?aP (fun _ hk => hk.elim) ?aF ?aO ?aB ?aS ?aL ?_; (case aP => exact k40_mkM _ _ _ (⟨(rd_T41 l1 x11_3).f0, (rd_T41 l1 x11_3).f1, (rd_T41 l1 x11_3).f2, (rd_T41 l1 x11_3).f3⟩ : S40)); (case aB => exact (by repeat (first | (with_reducible first | exact HB.out | apply below_alloc | apply pw_below_drewN | apply below_drew1 | refine below_set ?_ GE138.out) | exact HB.out))); (case aF => exact (fun k_ hk => ⟨Kd.fresh' (Kd.R_lt (by (with_reducible repeat (first | apply Kd.R_alloc | apply Kd.R_drewN | apply Kd.R_drew)); exact HO_7.out)) k_ hk, Kd.freshB (g := gb138) (o := .cells #[.int .i64 ((rd_T41 l1 x11_3).f0), .int .i64 ((rd_T41 l1 x11_3).f1), .int .i64 ((rd_T41 l1 x11_3).f2), .int .i64 ((rd_T41 l1 x11_3).f3)] 40 (0, 0)) (by (with_reducible repeat (first | refine blk_drewN ?_ _ | refine blk_drew ?_ | refine blk_alloc ?_ _)); exact BK138.out) k_ hk⟩)); (case aO => exact (by (with_reducible repeat (first | apply Kd.R_alloc | apply Kd.R_drewN | apply Kd.R_drew)); exact HO_8.out)); (case aS => exact (below_size (by repeat (first | (with_reducible first | exact HB.out | apply below_alloc | apply pw_below_drewN | apply below_drew1 | refine below_set ?_ GE138.out) | exact HB.out)))); (case aL => have := LMc30.out; omega); intro v141 w35 ho hb hg hat; rw [← Ny140.out] at ho; have n0_ := Aside0.mk (Kd.R_after (ok := (fun k_ => k_ ≠ gb138)) (by (with_reducible repeat (first | apply Kd.R_alloc | apply Kd.R_drewN | apply Kd.R_drew)); exact Kd.R_mono HO_7.out (fun _ hk => ⟨hk.2, hk.1⟩)) hg hat); have n1_ := Aside0.mk (blk_grown (g := gb138) (o := .cells #[.int .i64 ((rd_T41 l1 x11_3).f0), .int .i64 ((rd_T41 l1 x11_3).f1), .int .i64 ((rd_T41 l1 x11_3).f2), .int .i64 ((rd_T41 l1 x11_3).f3)] 40 (0, 0)) (by (with_reducible repeat (first | refine blk_drewN ?_ _ | refine blk_drew ?_ | refine blk_alloc ?_ _)); exact BK138.out) hg (Kd.R_away HO_8.out (fun _ hk => hk.2))); have n2_ := Aside0.mk (hb); have n3_ := Aside0.mk (ho); clear HO_7; clear BK138; clear HB; clear HO_8; have HO_7 := n0_; have BK138 := n1_; have HB := n2_; have HO142 := n3_; clear n0_ n1_ n2_ n3_; clear ho hb hg hat)); try go_wp2_with (first | ((with_reducible refine gate_dst (N := 12) rfl ?_); (try (refine gate_guard (by rfl) ?_; dsimp only)); refine box_event ?hg (N := 12) ?hd (cs := #[.int .i64 0, .int .i64 0, .int .i64 0, .int .i64 0]) (t := 40) ?hr ?_; (case hd => rfl); (case hg => rfl); (case hr => first | (go_simp; done) | (go_simp; rfl)); intro gb138 hg w31 hbox hb; have n0_ := Aside0.mk (Kd.R_below (Kd.R_elderB (by (with_reducible repeat (first | apply Kd.R_alloc | apply Kd.R_drewN | apply Kd.R_drew)); exact HO_7.out) gb138 (Nat.le_of_eq hg.symm)) hb); have n1_ := Aside0.mk (Kd.R_below (Kd.R_elderB (by (with_reducible repeat (first | apply Kd.R_alloc | apply Kd.R_drewN | apply Kd.R_drew)); exact HO_8.out) gb138 (Nat.le_of_eq hg.symm)) hb); have n2_ := Aside0.mk (below_step (by repeat (first | (with_reducible first | exact HB.out | apply below_alloc | apply pw_below_drewN | apply below_drew1) | exact HB.out)) hb); have n3_ := Aside0.mk (hbox); have n4_ := Aside0.mk ((by rw [hg]; exact (below_size (by repeat (first | (with_reducible first | exact HB.out | apply below_alloc | apply pw_below_drewN | apply below_drew1) | exact HB.out))) : w.heap.size ≤ gb138)); have n5_ := Aside0.mk ((by rw [hg]; exact (below_size (by repeat (first | (with_reducible first | exact HB.out | apply below_alloc | apply pw_below_drewN | apply below_drew1) | exact HB.out))) : w.heap.size ≤ gb138)); clear HO_7; clear HO_8; clear HB; have HO_7 := n0_; have HO_8 := n1_; have HB := n2_; have BK138 := n3_; have GW138 := n4_; have GE138 := n5_; clear n0_ n1_ n2_ n3_ n4_ n5_; clear hb hbox hg; have hcz32_0 : w31.cell? ⟨gb138, 0, none⟩ = some (.int .i64 0) := (blk_cell BK138.out 0).trans rfl; have hcz32_1 : w31.cell? ⟨gb138, 1, none⟩ = some (.int .i64 0) := (blk_cell BK138.out 1).trans rfl; have hcz32_2 : w31.cell? ⟨gb138, 2, none⟩ = some (.int .i64 0) := (blk_cell BK138.out 2).trans rfl; have hcz32_3 : w31.cell? ⟨gb138, 3, none⟩ = some (.int .i64 0) := (blk_cell BK138.out 3).trans rfl; have hfz32_0 := blk_frozen BK138.out 0; have hfz32_1 := blk_frozen BK138.out 1; have hfz32_2 := blk_frozen BK138.out 2; have hfz32_3 := blk_frozen BK138.out 3) | (go_at_call 17; (with_reducible refine (code_Right.calls kj22 ((rd_T41 l1 x11_3).f0) ((rd_T41 l1 x11_3).f1) ((rd_T41 l1 x11_3).f2) ((rd_T41 l1 x11_3).f3) true _ A28.out).mono ?_); rintro e w33 ⟨rfl, hb⟩; have n0_ := Aside0.mk (Kd.R_below (by (with_reducible repeat (first | apply Kd.R_alloc | apply Kd.R_drewN | apply Kd.R_drew)); exact (Kd.R_mono (Kd.R_far (p := ⟨gb138, 3, none⟩) (Kd.R_far (p := ⟨gb138, 2, none⟩) (Kd.R_far (p := ⟨gb138, 1, none⟩) (Kd.R_far (p := ⟨gb138, 0, none⟩) (Kd.R_mono HO_7.out (fun k_ hk => (⟨hk, hk.2⟩ : _ ∧ k_ ≠ gb138))) (fun _ hk => hk.2) (.int .i64 ((rd_T41 l1 x11_3).f0))) (fun _ hk => hk.2) (.int .i64 ((rd_T41 l1 x11_3).f1))) (fun _ hk => hk.2) (.int .i64 ((rd_T41 l1 x11_3).f2))) (fun _ hk => hk.2) (.int .i64 ((rd_T41 l1 x11_3).f3))) (fun _ h_ => h_.1))) hb); have n1_ := Aside0.mk (Kd.R_below (by (with_reducible repeat (first | apply Kd.R_alloc | apply Kd.R_drewN | apply Kd.R_drew)); exact (Kd.R_mono (Kd.R_far (p := ⟨gb138, 3, none⟩) (Kd.R_far (p := ⟨gb138, 2, none⟩) (Kd.R_far (p := ⟨gb138, 1, none⟩) (Kd.R_far (p := ⟨gb138, 0, none⟩) (Kd.R_mono HO_8.out (fun k_ hk => (⟨hk, hk.2⟩ : _ ∧ k_ ≠ gb138))) (fun _ hk => hk.2) (.int .i64 ((rd_T41 l1 x11_3).f0))) (fun _ hk => hk.2) (.int .i64 ((rd_T41 l1 x11_3).f1))) (fun _ hk => hk.2) (.int .i64 ((rd_T41 l1 x11_3).f2))) (fun _ hk => hk.2) (.int .i64 ((rd_T41 l1 x11_3).f3))) (fun _ h_ => h_.1))) hb); have n2_ := Aside0.mk (blk_below (g := gb138) (o := .cells #[.int .i64 ((rd_T41 l1 x11_3).f0), .int .i64 ((rd_T41 l1 x11_3).f1), .int .i64 ((rd_T41 l1 x11_3).f2), .int .i64 ((rd_T41 l1 x11_3).f3)] 40 (0, 0)) (by (with_reducible repeat (first | refine blk_drewN ?_ _ | refine blk_drew ?_ | refine blk_alloc ?_ _)); refine blk_put (cs := #[.int .i64 ((rd_T41 l1 x11_3).f0), .int .i64 ((rd_T41 l1 x11_3).f1), .int .i64 ((rd_T41 l1 x11_3).f2), .int .i64 0]) ?_ 3 _ rfl; (with_reducible repeat (first | refine blk_drewN ?_ _ | refine blk_drew ?_ | refine blk_alloc ?_ _)); refine blk_put (cs := #[.int .i64 ((rd_T41 l1 x11_3).f0), .int .i64 ((rd_T41 l1 x11_3).f1), .int .i64 0, .int .i64 0]) ?_ 2 _ rfl; (with_reducible repeat (first | refine blk_drewN ?_ _ | refine blk_drew ?_ | refine blk_alloc ?_ _)); refine blk_put (cs := #[.int .i64 ((rd_T41 l1 x11_3).f0), .int .i64 0, .int .i64 0, .int .i64 0]) ?_ 1 _ rfl; (with_reducible repeat (first | refine blk_drewN ?_ _ | refine blk_drew ?_ | refine blk_alloc ?_ _)); refine blk_put (cs := #[.int .i64 0, .int .i64 0, .int .i64 0, .int .i64 0]) ?_ 0 _ rfl; (with_reducible repeat (first | refine blk_drewN ?_ _ | refine blk_drew ?_ | refine blk_alloc ?_ _)); exact BK138.out) hb); have n3_ := Aside0.mk (below_step (by repeat (first | (with_reducible first | exact HB.out | apply below_alloc | apply pw_below_drewN | apply below_drew1 | refine below_set ?_ GE138.out) | exact HB.out)) hb); clear HO_7; clear HO_8; clear BK138; clear HB; have HO_7 := n0_; have HO_8 := n1_; have BK138 := n2_; have HB := n3_; clear n0_ n1_ n2_ n3_; (try clear hb); (try clear hb2); (try clear hk); (try clear hi); have hcz34_0 : w33.cell? ⟨gb138, 0, none⟩ = some (.int .i64 ((rd_T41 l1 x11_3).f0)) := (blk_cell BK138.out 0).trans rfl; have hcz34_1 : w33.cell? ⟨gb138, 1, none⟩ = some (.int .i64 ((rd_T41 l1 x11_3).f1)) := (blk_cell BK138.out 1).trans rfl; have hcz34_2 : w33.cell? ⟨gb138, 2, none⟩ = some (.int .i64 ((rd_T41 l1 x11_3).f2)) := (blk_cell BK138.out 2).trans rfl; have hcz34_3 : w33.cell? ⟨gb138, 3, none⟩ = some (.int .i64 ((rd_T41 l1 x11_3).f3)) := (blk_cell BK138.out 3).trans rfl; have hfz34_0 := blk_frozen BK138.out 0; have hfz34_1 := blk_frozen BK138.out 1; have hfz34_2 := blk_frozen BK138.out 2; have hfz34_3 := blk_frozen BK138.out 3) | ((with_reducible refine gate_builtin (b := .append) (xs := #[.tmp 61, .tmp 63]) rfl ?_); (try (refine gate_guard (by rfl) ?_; dsimp only)); at_builtin; refine Kd.R_append k40 (w0 := w) w.heap.size rfl (.tmp 61) (.tmp 63) 38 40 (.agg #[(.int .i64 0), (.int .i64 0), (.int .i64 0), (.int .i64 0)]) 32 rfl Try.underlying38 info40 rfl (by decide) (by omega) u8 x8_3 (⟨(rd_T41 l1 x11_3).f0, (rd_T41 l1 x11_3).f1, (rd_T41 l1 x11_3).f2, (rd_T41 l1 x11_3).f3⟩ : S40) [.int .i64 ((rd_T41 l1 x11_3).f0), .int .i64 ((rd_T41 l1 x11_3).f1), .int .i64 ((rd_T41 l1 x11_3).f2), .int .i64 ((rd_T41 l1 x11_3).f3)] (fun k_ => some k_ ≠ (u7 : Value).ownBlock ∧ k_ ≠ gb138) (fun _ => False) rfl rfl ?aP (fun _ hk => hk.elim) ?aF ?aO ?aB ?aS ?aL ?_; (case aP => exact k40_mkM _ _ _ (⟨(rd_T41 l1 x11_3).f0, (rd_T41 l1 x11_3).f1, (rd_T41 l1 x11_3).f2, (rd_T41 l1 x11_3).f3⟩ : S40)); (case aB => exact (by repeat (first | (with_reducible first | exact HB.out | apply below_alloc | apply pw_below_drewN | apply below_drew1 | refine below_set ?_ GE138.out) | exact HB.out))); (case aF => exact (fun k_ hk => ⟨Kd.fresh' (Kd.R_lt (by (with_reducible repeat (first | apply Kd.R_alloc | apply Kd.R_drewN | apply Kd.R_drew)); exact HO_7.out)) k_ hk, Kd.freshB (g := gb138) (o := .cells #[.int .i64 ((rd_T41 l1 x11_3).f0), .int .i64 ((rd_T41 l1 x11_3).f1), .int .i64 ((rd_T41 l1 x11_3).f2), .int .i64 ((rd_T41 l1 x11_3).f3)] 40 (0, 0)) (by (with_reducible repeat (first | refine blk_drewN ?_ _ | refine blk_drew ?_ | refine blk_alloc ?_ _)); exact BK138.out) k_ hk⟩)); (case aO => exact (by (with_reducible repeat (first | apply Kd.R_alloc | apply Kd.R_drewN | apply Kd.R_drew)); exact HO_8.out)); (case aS => exact (below_size (by repeat (first | (with_reducible first | exact HB.out | apply below_alloc | apply pw_below_drewN | apply below_drew1 | refine below_set ?_ GE138.out) | exact HB.out)))); (case aL => have := LMc30.out; omega); intro v141 w35 ho hb hg hat; rw [← Ny140.out] at ho; have n0_ := Aside0.mk (Kd.R_after (ok := (fun k_ => k_ ≠ gb138)) (by (with_reducible repeat (first | apply Kd.R_alloc | apply Kd.R_drewN | apply Kd.R_drew)); exact Kd.R_mono HO_7.out (fun _ hk => ⟨hk.2, hk.1⟩)) hg hat); have n1_ := Aside0.mk (blk_grown (g := gb138) (o := .cells #[.int .i64 ((rd_T41 l1 x11_3).f0), .int .i64 ((rd_T41 l1 x11_3).f1), .int .i64 ((rd_T41 l1 x11_3).f2), .int .i64 ((rd_T41 l1 x11_3).f3)] 40 (0, 0)) (by (with_reducible repeat (first | refine blk_drewN ?_ _ | refine blk_drew ?_ | refine blk_alloc ?_ _)); exact BK138.out) hg (Kd.R_away HO_8.out (fun _ hk => hk.2))); have n2_ := Aside0.mk (hb); have n3_ := Aside0.mk (ho); clear HO_7; clear BK138; clear HB; clear HO_8; have HO_7 := n0_; have BK138 := n1_; have HB := n2_; have HO142 := n3_; clear n0_ n1_ n2_ n3_; clear ho hb hg hat)))
                                  go_roundg kj22
                                  case measure => have := HK1.out; have := HJ6.out; have := HK3.out; have := HJ22.out; omega
                                  case rel => exact ⟨(y140), (wrap64 (x11_3 + 1)), (by first | rfl | (simp; done) | (simp [*]; done)), H', ⟨by have := HK1.out; have := HJ6.out; have := HK3.out; have := HJ22.out; omega⟩, ⟨by (with_reducible repeat (first | apply Kd.R_alloc | apply Kd.R_drewN | apply Kd.R_drew)); exact Kd.R_mono HO_7.out (fun _ hk => hk.2)⟩, ⟨by (with_reducible repeat (first | apply Kd.R_alloc | apply Kd.R_drewN | apply Kd.R_drew)); exact Kd.R_mono HO142.out (fun _ hk => hk.1)⟩, ⟨by repeat (first | (with_reducible first | exact HB.out | apply below_alloc | apply pw_below_drewN | apply below_drew1 | refine below_set ?_ GE138.out) | exact HB.out)⟩⟩
                              · rw [if_neg c30] at H
                                exact absurd H (by simp)
                            · replace c29 := Bool.eq_false_iff.mpr c29
                              subst c29
                              have H1 : (posthorselaw17_CodeJoins.l1 kj22 l1 a2 x7_1 x8_3 (wrap64 (x11_3 + 1))) = some r := by rw [if_neg (show ¬ (false = true) by decide)] at H; exact H
                              clear H
                              have H := H1
                              clear H1
                              as_aux_lemma =>
                                have H' := Aside0.mk H
                                clear H
                                have p137 : 0 ≤ (x11_3 : Int) := of_decide_eq_true (by first | (with_reducible assumption) | assumption)
                                have q137 : x11_3 < (l1.length : Int) := of_decide_eq_true (by first | (with_reducible assumption) | assumption)
                                obtain ⟨ad137, e137, hx137_0, hx137_1, hx137_2, hx137_3⟩ := at_T41 HR1.out x11_3 p137 q137
                                cases e137
                                replace hx137_0 := (HB.out.cell (World.block_lt_of_cell? w _ hx137_0)).trans hx137_0
                                replace hx137_1 := (HB.out.cell (World.block_lt_of_cell? w _ hx137_1)).trans hx137_1
                                replace hx137_2 := (HB.out.cell (World.block_lt_of_cell? w _ hx137_2)).trans hx137_2
                                replace hx137_3 := (HB.out.cell (World.block_lt_of_cell? w _ hx137_3)).trans hx137_3
                                replace p137 := eq_true p137
                                replace q137 := eq_true q137
                                go_wp2_with (first | ((with_reducible refine gate_dst (N := 12) rfl ?_); (try (refine gate_guard (by rfl) ?_; dsimp only)); refine box_event ?hg (N := 12) ?hd (cs := #[.int .i64 0, .int .i64 0, .int .i64 0, .int .i64 0]) (t := 40) ?hr ?_; (case hd => rfl); (case hg => rfl); (case hr => first | (go_simp; done) | (go_simp; rfl)); intro gb138 hg w36 hbox hb; have n0_ := Aside0.mk (Kd.R_below (Kd.R_elderB (by (with_reducible repeat (first | apply Kd.R_alloc | apply Kd.R_drewN | apply Kd.R_drew)); exact HO_7.out) gb138 (Nat.le_of_eq hg.symm)) hb); have n1_ := Aside0.mk (Kd.R_below (Kd.R_elderB (by (with_reducible repeat (first | apply Kd.R_alloc | apply Kd.R_drewN | apply Kd.R_drew)); exact HO_8.out) gb138 (Nat.le_of_eq hg.symm)) hb); have n2_ := Aside0.mk (below_step (by repeat (first | (with_reducible first | exact HB.out | apply below_alloc | apply pw_below_drewN | apply below_drew1) | exact HB.out)) hb); have n3_ := Aside0.mk (hbox); have n4_ := Aside0.mk ((by rw [hg]; exact (below_size (by repeat (first | (with_reducible first | exact HB.out | apply below_alloc | apply pw_below_drewN | apply below_drew1) | exact HB.out))) : w.heap.size ≤ gb138)); have n5_ := Aside0.mk ((by rw [hg]; exact (below_size (by repeat (first | (with_reducible first | exact HB.out | apply below_alloc | apply pw_below_drewN | apply below_drew1) | exact HB.out))) : w.heap.size ≤ gb138)); clear HO_7; clear HO_8; clear HB; have HO_7 := n0_; have HO_8 := n1_; have HB := n2_; have BK138 := n3_; have GW138 := n4_; have GE138 := n5_; clear n0_ n1_ n2_ n3_ n4_ n5_; clear hb hbox hg; have hcz37_0 : w36.cell? ⟨gb138, 0, none⟩ = some (.int .i64 0) := (blk_cell BK138.out 0).trans rfl; have hcz37_1 : w36.cell? ⟨gb138, 1, none⟩ = some (.int .i64 0) := (blk_cell BK138.out 1).trans rfl; have hcz37_2 : w36.cell? ⟨gb138, 2, none⟩ = some (.int .i64 0) := (blk_cell BK138.out 2).trans rfl; have hcz37_3 : w36.cell? ⟨gb138, 3, none⟩ = some (.int .i64 0) := (blk_cell BK138.out 3).trans rfl; have hfz37_0 := blk_frozen BK138.out 0; have hfz37_1 := blk_frozen BK138.out 1; have hfz37_2 := blk_frozen BK138.out 2; have hfz37_3 := blk_frozen BK138.out 3) | (go_at_call 17; (with_reducible refine (code_Right.calls kj22 ((rd_T41 l1 x11_3).f0) ((rd_T41 l1 x11_3).f1) ((rd_T41 l1 x11_3).f2) ((rd_T41 l1 x11_3).f3) false _ A28.out).mono ?_); rintro e w38 ⟨rfl, hb⟩; have n0_ := Aside0.mk (Kd.R_below (by (with_reducible repeat (first | apply Kd.R_alloc | apply Kd.R_drewN | apply Kd.R_drew)); exact (Kd.R_mono (Kd.R_far (p := ⟨gb138, 3, none⟩) (Kd.R_far (p := ⟨gb138, 2, none⟩) (Kd.R_far (p := ⟨gb138, 1, none⟩) (Kd.R_far (p := ⟨gb138, 0, none⟩) (Kd.R_mono HO_7.out (fun k_ hk => (⟨hk, hk.2⟩ : _ ∧ k_ ≠ gb138))) (fun _ hk => hk.2) (.int .i64 ((rd_T41 l1 x11_3).f0))) (fun _ hk => hk.2) (.int .i64 ((rd_T41 l1 x11_3).f1))) (fun _ hk => hk.2) (.int .i64 ((rd_T41 l1 x11_3).f2))) (fun _ hk => hk.2) (.int .i64 ((rd_T41 l1 x11_3).f3))) (fun _ h_ => h_.1))) hb); have n1_ := Aside0.mk (Kd.R_below (by (with_reducible repeat (first | apply Kd.R_alloc | apply Kd.R_drewN | apply Kd.R_drew)); exact (Kd.R_mono (Kd.R_far (p := ⟨gb138, 3, none⟩) (Kd.R_far (p := ⟨gb138, 2, none⟩) (Kd.R_far (p := ⟨gb138, 1, none⟩) (Kd.R_far (p := ⟨gb138, 0, none⟩) (Kd.R_mono HO_8.out (fun k_ hk => (⟨hk, hk.2⟩ : _ ∧ k_ ≠ gb138))) (fun _ hk => hk.2) (.int .i64 ((rd_T41 l1 x11_3).f0))) (fun _ hk => hk.2) (.int .i64 ((rd_T41 l1 x11_3).f1))) (fun _ hk => hk.2) (.int .i64 ((rd_T41 l1 x11_3).f2))) (fun _ hk => hk.2) (.int .i64 ((rd_T41 l1 x11_3).f3))) (fun _ h_ => h_.1))) hb); have n2_ := Aside0.mk (blk_below (g := gb138) (o := .cells #[.int .i64 ((rd_T41 l1 x11_3).f0), .int .i64 ((rd_T41 l1 x11_3).f1), .int .i64 ((rd_T41 l1 x11_3).f2), .int .i64 ((rd_T41 l1 x11_3).f3)] 40 (0, 0)) (by (with_reducible repeat (first | refine blk_drewN ?_ _ | refine blk_drew ?_ | refine blk_alloc ?_ _)); refine blk_put (cs := #[.int .i64 ((rd_T41 l1 x11_3).f0), .int .i64 ((rd_T41 l1 x11_3).f1), .int .i64 ((rd_T41 l1 x11_3).f2), .int .i64 0]) ?_ 3 _ rfl; (with_reducible repeat (first | refine blk_drewN ?_ _ | refine blk_drew ?_ | refine blk_alloc ?_ _)); refine blk_put (cs := #[.int .i64 ((rd_T41 l1 x11_3).f0), .int .i64 ((rd_T41 l1 x11_3).f1), .int .i64 0, .int .i64 0]) ?_ 2 _ rfl; (with_reducible repeat (first | refine blk_drewN ?_ _ | refine blk_drew ?_ | refine blk_alloc ?_ _)); refine blk_put (cs := #[.int .i64 ((rd_T41 l1 x11_3).f0), .int .i64 0, .int .i64 0, .int .i64 0]) ?_ 1 _ rfl; (with_reducible repeat (first | refine blk_drewN ?_ _ | refine blk_drew ?_ | refine blk_alloc ?_ _)); refine blk_put (cs := #[.int .i64 0, .int .i64 0, .int .i64 0, .int .i64 0]) ?_ 0 _ rfl; (with_reducible repeat (first | refine blk_drewN ?_ _ | refine blk_drew ?_ | refine blk_alloc ?_ _)); exact BK138.out) hb); have n3_ := Aside0.mk (below_step (by repeat (first | (with_reducible first | exact HB.out | apply below_alloc | apply pw_below_drewN | apply below_drew1 | refine below_set ?_ GE138.out) | exact HB.out)) hb); clear HO_7; clear HO_8; clear BK138; clear HB; have HO_7 := n0_; have HO_8 := n1_; have BK138 := n2_; have HB := n3_; clear n0_ n1_ n2_ n3_; (try clear hb); (try clear hb2); (try clear hk); (try clear hi)))
                                repeat (go_quiet (first | ((with_reducible refine gate_dst (N := 12) rfl ?_); (try (refine gate_guard (by rfl) ?_; dsimp only)); refine box_event ?hg (N := 12) ?hd (cs := #[.int .i64 0, .int .i64 0, .int .i64 0, .int .i64 0]) (t := 40) ?hr ?_; (case hd => rfl); (case hg => rfl); (case hr => first | (go_simp; done) | (go_simp; rfl)); intro gb138 hg w36 hbox hb; have n0_ := Aside0.mk (Kd.R_below (Kd.R_elderB (by (with_reducible repeat (first | apply Kd.R_alloc | apply Kd.R_drewN | apply Kd.R_drew)); exact HO_7.out) gb138 (Nat.le_of_eq hg.symm)) hb); have n1_ := Aside0.mk (Kd.R_below (Kd.R_elderB (by (with_reducible repeat (first | apply Kd.R_alloc | apply Kd.R_drewN | apply Kd.R_drew)); exact HO_8.out) gb138 (Nat.le_of_eq hg.symm)) hb); have n2_ := Aside0.mk (below_step (by repeat (first | (with_reducible first | exact HB.out | apply below_alloc | apply pw_below_drewN | apply below_drew1) | exact HB.out)) hb); have n3_ := Aside0.mk (hbox); have n4_ := Aside0.mk ((by rw [hg]; exact (below_size (by repeat (first | (with_reducible first | exact HB.out | apply below_alloc | apply pw_below_drewN | apply below_drew1) | exact HB.out))) : w.heap.size ≤ gb138)); have n5_ := Aside0.mk ((by rw [hg]; exact (below_size (by repeat (first | (with_reducible first | exact HB.out | apply below_alloc | apply pw_below_drewN | apply below_drew1) | exact HB.out))) : w.heap.size ≤ gb138)); clear HO_7; clear HO_8; clear HB; have HO_7 := n0_; have HO_8 := n1_; have HB := n2_; have BK138 := n3_; have GW138 := n4_; have GE138 := n5_; clear n0_ n1_ n2_ n3_ n4_ n5_; clear hb hbox hg; have hcz37_0 : w36.cell? ⟨gb138, 0, none⟩ = some (.int .i64 0) := (blk_cell BK138.out 0).trans rfl; have hcz37_1 : w36.cell? ⟨gb138, 1, none⟩ = some (.int .i64 0) := (blk_cell BK138.out 1).trans rfl; have hcz37_2 : w36.cell? ⟨gb138, 2, none⟩ = some (.int .i64 0) := (blk_cell BK138.out 2).trans rfl; have hcz37_3 : w36.cell? ⟨gb138, 3, none⟩ = some (.int .i64 0) := (blk_cell BK138.out 3).trans rfl; have hfz37_0 := blk_frozen BK138.out 0; have hfz37_1 := blk_frozen BK138.out 1; have hfz37_2 := blk_frozen BK138.out 2; have hfz37_3 := blk_frozen BK138.out 3) | (go_at_call 17; (with_reducible refine (code_Right.calls kj22 ((rd_T41 l1 x11_3).f0) ((rd_T41 l1 x11_3).f1) ((rd_T41 l1 x11_3).f2) ((rd_T41 l1 x11_3).f3) false _ A28.out).mono ?_); rintro e w38 ⟨rfl, hb⟩; have n0_ := Aside0.mk (Kd.R_below (by (with_reducible repeat (first | apply Kd.R_alloc | apply Kd.R_drewN | apply Kd.R_drew)); exact (Kd.R_mono (Kd.R_far (p := ⟨gb138, 3, none⟩) (Kd.R_far (p := ⟨gb138, 2, none⟩) (Kd.R_far (p := ⟨gb138, 1, none⟩) (Kd.R_far (p := ⟨gb138, 0, none⟩) (Kd.R_mono HO_7.out (fun k_ hk => (⟨hk, hk.2⟩ : _ ∧ k_ ≠ gb138))) (fun _ hk => hk.2) (.int .i64 ((rd_T41 l1 x11_3).f0))) (fun _ hk => hk.2) (.int .i64 ((rd_T41 l1 x11_3).f1))) (fun _ hk => hk.2) (.int .i64 ((rd_T41 l1 x11_3).f2))) (fun _ hk => hk.2) (.int .i64 ((rd_T41 l1 x11_3).f3))) (fun _ h_ => h_.1))) hb); have n1_ := Aside0.mk (Kd.R_below (by (with_reducible repeat (first | apply Kd.R_alloc | apply Kd.R_drewN | apply Kd.R_drew)); exact (Kd.R_mono (Kd.R_far (p := ⟨gb138, 3, none⟩) (Kd.R_far (p := ⟨gb138, 2, none⟩) (Kd.R_far (p := ⟨gb138, 1, none⟩) (Kd.R_far (p := ⟨gb138, 0, none⟩) (Kd.R_mono HO_8.out (fun k_ hk => (⟨hk, hk.2⟩ : _ ∧ k_ ≠ gb138))) (fun _ hk => hk.2) (.int .i64 ((rd_T41 l1 x11_3).f0))) (fun _ hk => hk.2) (.int .i64 ((rd_T41 l1 x11_3).f1))) (fun _ hk => hk.2) (.int .i64 ((rd_T41 l1 x11_3).f2))) (fun _ hk => hk.2) (.int .i64 ((rd_T41 l1 x11_3).f3))) (fun _ h_ => h_.1))) hb); have n2_ := Aside0.mk (blk_below (g := gb138) (o := .cells #[.int .i64 ((rd_T41 l1 x11_3).f0), .int .i64 ((rd_T41 l1 x11_3).f1), .int .i64 ((rd_T41 l1 x11_3).f2), .int .i64 ((rd_T41 l1 x11_3).f3)] 40 (0, 0)) (by (with_reducible repeat (first | refine blk_drewN ?_ _ | refine blk_drew ?_ | refine blk_alloc ?_ _)); refine blk_put (cs := #[.int .i64 ((rd_T41 l1 x11_3).f0), .int .i64 ((rd_T41 l1 x11_3).f1), .int .i64 ((rd_T41 l1 x11_3).f2), .int .i64 0]) ?_ 3 _ rfl; (with_reducible repeat (first | refine blk_drewN ?_ _ | refine blk_drew ?_ | refine blk_alloc ?_ _)); refine blk_put (cs := #[.int .i64 ((rd_T41 l1 x11_3).f0), .int .i64 ((rd_T41 l1 x11_3).f1), .int .i64 0, .int .i64 0]) ?_ 2 _ rfl; (with_reducible repeat (first | refine blk_drewN ?_ _ | refine blk_drew ?_ | refine blk_alloc ?_ _)); refine blk_put (cs := #[.int .i64 ((rd_T41 l1 x11_3).f0), .int .i64 0, .int .i64 0, .int .i64 0]) ?_ 1 _ rfl; (with_reducible repeat (first | refine blk_drewN ?_ _ | refine blk_drew ?_ | refine blk_alloc ?_ _)); refine blk_put (cs := #[.int .i64 0, .int .i64 0, .int .i64 0, .int .i64 0]) ?_ 0 _ rfl; (with_reducible repeat (first | refine blk_drewN ?_ _ | refine blk_drew ?_ | refine blk_alloc ?_ _)); exact BK138.out) hb); have n3_ := Aside0.mk (below_step (by repeat (first | (with_reducible first | exact HB.out | apply below_alloc | apply pw_below_drewN | apply below_drew1 | refine below_set ?_ GE138.out) | exact HB.out)) hb); clear HO_7; clear HO_8; clear BK138; clear HB; have HO_7 := n0_; have HO_8 := n1_; have BK138 := n2_; have HB := n3_; clear n0_ n1_ n2_ n3_; (try clear hb); (try clear hb2); (try clear hk); (try clear hi))); try go_wp2_with (first | ((with_reducible refine gate_dst (N := 12) rfl ?_); (try (refine gate_guard (by rfl) ?_; dsimp only)); refine box_event ?hg (N := 12) ?hd (cs := #[.int .i64 0, .int .i64 0, .int .i64 0, .int .i64 0]) (t := 40) ?hr ?_; (case hd => rfl); (case hg => rfl); (case hr => first | (go_simp; done) | (go_simp; rfl)); intro gb138 hg w36 hbox hb; have n0_ := Aside0.mk (Kd.R_below (Kd.R_elderB (by (with_reducible repeat (first | apply Kd.R_alloc | apply Kd.R_drewN | apply Kd.R_drew)); exact HO_7.out) gb138 (Nat.le_of_eq hg.symm)) hb); have n1_ := Aside0.mk (Kd.R_below (Kd.R_elderB (by (with_reducible repeat (first | apply Kd.R_alloc | apply Kd.R_drewN | apply Kd.R_drew)); exact HO_8.out) gb138 (Nat.le_of_eq hg.symm)) hb); have n2_ := Aside0.mk (below_step (by repeat (first | (with_reducible first | exact HB.out | apply below_alloc | apply pw_below_drewN | apply below_drew1) | exact HB.out)) hb); have n3_ := Aside0.mk (hbox); have n4_ := Aside0.mk ((by rw [hg]; exact (below_size (by repeat (first | (with_reducible first | exact HB.out | apply below_alloc | apply pw_below_drewN | apply below_drew1) | exact HB.out))) : w.heap.size ≤ gb138)); have n5_ := Aside0.mk ((by rw [hg]; exact (below_size (by repeat (first | (with_reducible first | exact HB.out | apply below_alloc | apply pw_below_drewN | apply below_drew1) | exact HB.out))) : w.heap.size ≤ gb138)); clear HO_7; clear HO_8; clear HB; have HO_7 := n0_; have HO_8 := n1_; have HB := n2_; have BK138 := n3_; have GW138 := n4_; have GE138 := n5_; clear n0_ n1_ n2_ n3_ n4_ n5_; clear hb hbox hg; have hcz37_0 : w36.cell? ⟨gb138, 0, none⟩ = some (.int .i64 0) := (blk_cell BK138.out 0).trans rfl; have hcz37_1 : w36.cell? ⟨gb138, 1, none⟩ = some (.int .i64 0) := (blk_cell BK138.out 1).trans rfl; have hcz37_2 : w36.cell? ⟨gb138, 2, none⟩ = some (.int .i64 0) := (blk_cell BK138.out 2).trans rfl; have hcz37_3 : w36.cell? ⟨gb138, 3, none⟩ = some (.int .i64 0) := (blk_cell BK138.out 3).trans rfl; have hfz37_0 := blk_frozen BK138.out 0; have hfz37_1 := blk_frozen BK138.out 1; have hfz37_2 := blk_frozen BK138.out 2; have hfz37_3 := blk_frozen BK138.out 3) | (go_at_call 17; (with_reducible refine (code_Right.calls kj22 ((rd_T41 l1 x11_3).f0) ((rd_T41 l1 x11_3).f1) ((rd_T41 l1 x11_3).f2) ((rd_T41 l1 x11_3).f3) false _ A28.out).mono ?_); rintro e w38 ⟨rfl, hb⟩; have n0_ := Aside0.mk (Kd.R_below (by (with_reducible repeat (first | apply Kd.R_alloc | apply Kd.R_drewN | apply Kd.R_drew)); exact (Kd.R_mono (Kd.R_far (p := ⟨gb138, 3, none⟩) (Kd.R_far (p := ⟨gb138, 2, none⟩) (Kd.R_far (p := ⟨gb138, 1, none⟩) (Kd.R_far (p := ⟨gb138, 0, none⟩) (Kd.R_mono HO_7.out (fun k_ hk => (⟨hk, hk.2⟩ : _ ∧ k_ ≠ gb138))) (fun _ hk => hk.2) (.int .i64 ((rd_T41 l1 x11_3).f0))) (fun _ hk => hk.2) (.int .i64 ((rd_T41 l1 x11_3).f1))) (fun _ hk => hk.2) (.int .i64 ((rd_T41 l1 x11_3).f2))) (fun _ hk => hk.2) (.int .i64 ((rd_T41 l1 x11_3).f3))) (fun _ h_ => h_.1))) hb); have n1_ := Aside0.mk (Kd.R_below (by (with_reducible repeat (first | apply Kd.R_alloc | apply Kd.R_drewN | apply Kd.R_drew)); exact (Kd.R_mono (Kd.R_far (p := ⟨gb138, 3, none⟩) (Kd.R_far (p := ⟨gb138, 2, none⟩) (Kd.R_far (p := ⟨gb138, 1, none⟩) (Kd.R_far (p := ⟨gb138, 0, none⟩) (Kd.R_mono HO_8.out (fun k_ hk => (⟨hk, hk.2⟩ : _ ∧ k_ ≠ gb138))) (fun _ hk => hk.2) (.int .i64 ((rd_T41 l1 x11_3).f0))) (fun _ hk => hk.2) (.int .i64 ((rd_T41 l1 x11_3).f1))) (fun _ hk => hk.2) (.int .i64 ((rd_T41 l1 x11_3).f2))) (fun _ hk => hk.2) (.int .i64 ((rd_T41 l1 x11_3).f3))) (fun _ h_ => h_.1))) hb); have n2_ := Aside0.mk (blk_below (g := gb138) (o := .cells #[.int .i64 ((rd_T41 l1 x11_3).f0), .int .i64 ((rd_T41 l1 x11_3).f1), .int .i64 ((rd_T41 l1 x11_3).f2), .int .i64 ((rd_T41 l1 x11_3).f3)] 40 (0, 0)) (by (with_reducible repeat (first | refine blk_drewN ?_ _ | refine blk_drew ?_ | refine blk_alloc ?_ _)); refine blk_put (cs := #[.int .i64 ((rd_T41 l1 x11_3).f0), .int .i64 ((rd_T41 l1 x11_3).f1), .int .i64 ((rd_T41 l1 x11_3).f2), .int .i64 0]) ?_ 3 _ rfl; (with_reducible repeat (first | refine blk_drewN ?_ _ | refine blk_drew ?_ | refine blk_alloc ?_ _)); refine blk_put (cs := #[.int .i64 ((rd_T41 l1 x11_3).f0), .int .i64 ((rd_T41 l1 x11_3).f1), .int .i64 0, .int .i64 0]) ?_ 2 _ rfl; (with_reducible repeat (first | refine blk_drewN ?_ _ | refine blk_drew ?_ | refine blk_alloc ?_ _)); refine blk_put (cs := #[.int .i64 ((rd_T41 l1 x11_3).f0), .int .i64 0, .int .i64 0, .int .i64 0]) ?_ 1 _ rfl; (with_reducible repeat (first | refine blk_drewN ?_ _ | refine blk_drew ?_ | refine blk_alloc ?_ _)); refine blk_put (cs := #[.int .i64 0, .int .i64 0, .int .i64 0, .int .i64 0]) ?_ 0 _ rfl; (with_reducible repeat (first | refine blk_drewN ?_ _ | refine blk_drew ?_ | refine blk_alloc ?_ _)); exact BK138.out) hb); have n3_ := Aside0.mk (below_step (by repeat (first | (with_reducible first | exact HB.out | apply below_alloc | apply pw_below_drewN | apply below_drew1 | refine below_set ?_ GE138.out) | exact HB.out)) hb); clear HO_7; clear HO_8; clear BK138; clear HB; have HO_7 := n0_; have HO_8 := n1_; have BK138 := n2_; have HB := n3_; clear n0_ n1_ n2_ n3_; (try clear hb); (try clear hb2); (try clear hk); (try clear hi))))
                                go_roundg kj22
                                case measure => have := HK1.out; have := HJ6.out; have := HK3.out; have := HJ22.out; omega
                                case rel => exact ⟨(x8_3), (wrap64 (x11_3 + 1)), (by first | rfl | (simp; done) | (simp [*]; done)), H', ⟨by have := HK1.out; have := HJ6.out; have := HK3.out; have := HJ22.out; omega⟩, ⟨by (with_reducible repeat (first | apply Kd.R_alloc | apply Kd.R_drewN | apply Kd.R_drew)); exact Kd.R_mono HO_7.out (fun _ hk => hk.1)⟩, ⟨by (with_reducible repeat (first | apply Kd.R_alloc | apply Kd.R_drewN | apply Kd.R_drew)); exact Kd.R_mono HO_8.out (fun _ hk => hk.1)⟩, ⟨by repeat (first | (with_reducible first | exact HB.out | apply below_alloc | apply pw_below_drewN | apply below_drew1 | refine below_set ?_ GE138.out) | exact HB.out)⟩⟩
                          · rw [if_neg c27] at H
                            exact absurd H (by simp)
                        · rw [if_neg c26] at H
                          exact absurd H (by simp)
                      · replace c25 := Bool.eq_false_iff.mpr c25
                        subst c25
                        have H1 : ((code_Put.f kj22 x7_1).bind fun bt143 => ((code_Put.f kj22 x8_3).bind fun bt145 => (if bt143.1.size + bt145.1.size ≤ 9223372036854775807 then ((code_Get.f kj22 (bt143.1 ++ bt145.1)).bind fun bt147 => (if bt143.2.isNone = true then (if bt145.2.isNone = true then (if bt147.2.isNone = true then (posthorselaw17_CodeJoins.j4 kj22 a2 x7_1 x8_3 bt143.1 bt145.1 bt147.1 ((bt147.1.length : Int) != (wrap64 ((x7_1.length : Int) + (x8_3.length : Int))))) else (posthorselaw17_CodeJoins.j4 kj22 a2 x7_1 x8_3 bt143.1 bt145.1 bt147.1 true)) else (posthorselaw17_CodeJoins.j4 kj22 a2 x7_1 x8_3 bt143.1 bt145.1 bt147.1 true)) else (posthorselaw17_CodeJoins.j4 kj22 a2 x7_1 x8_3 bt143.1 bt145.1 bt147.1 true))) else (none)))) = some r := by rw [if_neg (show ¬ (false = true) by decide)] at H; exact H
                        clear H
                        have H := H1
                        clear H1
                        replace H := Option.bind_eq_some_iff.mp H
                        obtain ⟨⟨t143, t144⟩, A390, H⟩ := H
                        replace H : ((code_Put.f kj22 x8_3).bind fun bt145 => (if t143.size + bt145.1.size ≤ 9223372036854775807 then ((code_Get.f kj22 (t143 ++ bt145.1)).bind fun bt147 => (if t144.isNone = true then (if bt145.2.isNone = true then (if bt147.2.isNone = true then (posthorselaw17_CodeJoins.j4 kj22 a2 x7_1 x8_3 t143 bt145.1 bt147.1 ((bt147.1.length : Int) != (wrap64 ((x7_1.length : Int) + (x8_3.length : Int))))) else (posthorselaw17_CodeJoins.j4 kj22 a2 x7_1 x8_3 t143 bt145.1 bt147.1 true)) else (posthorselaw17_CodeJoins.j4 kj22 a2 x7_1 x8_3 t143 bt145.1 bt147.1 true)) else (posthorselaw17_CodeJoins.j4 kj22 a2 x7_1 x8_3 t143 bt145.1 bt147.1 true))) else (none))) = some r := H
                        have A39 := Aside0.mk A390
                        clear A390
                        replace H := Option.bind_eq_some_iff.mp H
                        obtain ⟨⟨t145, t146⟩, A400, H⟩ := H
                        replace H : (if t143.size + t145.size ≤ 9223372036854775807 then ((code_Get.f kj22 (t143 ++ t145)).bind fun bt147 => (if t144.isNone = true then (if t146.isNone = true then (if bt147.2.isNone = true then (posthorselaw17_CodeJoins.j4 kj22 a2 x7_1 x8_3 t143 t145 bt147.1 ((bt147.1.length : Int) != (wrap64 ((x7_1.length : Int) + (x8_3.length : Int))))) else (posthorselaw17_CodeJoins.j4 kj22 a2 x7_1 x8_3 t143 t145 bt147.1 true)) else (posthorselaw17_CodeJoins.j4 kj22 a2 x7_1 x8_3 t143 t145 bt147.1 true)) else (posthorselaw17_CodeJoins.j4 kj22 a2 x7_1 x8_3 t143 t145 bt147.1 true))) else (none)) = some r := H
                        have A40 := Aside0.mk A400
                        clear A400
                        by_cases c41 : t143.size + t145.size ≤ 9223372036854775807
                        · rw [if_pos c41] at H
                          have c41b0 := eq_true c41
                          try (have c41sa0 := c41b0; simp only [ByteArray.size_append, Int.natCast_add] at c41sa0)
                          have c41b1 : decide (t143.size + t145.size ≤ 9223372036854775807) = true := decide_eq_true c41
                          try have c41b2 : (9223372036854775807 < t143.size + t145.size) = False := eq_false (Nat.not_lt.2 c41)
                          replace H := Option.bind_eq_some_iff.mp H
                          obtain ⟨⟨t147, t148⟩, A420, H⟩ := H
                          replace H : (if t144.isNone = true then (if t146.isNone = true then (if t148.isNone = true then (posthorselaw17_CodeJoins.j4 kj22 a2 x7_1 x8_3 t143 t145 t147 ((t147.length : Int) != (wrap64 ((x7_1.length : Int) + (x8_3.length : Int))))) else (posthorselaw17_CodeJoins.j4 kj22 a2 x7_1 x8_3 t143 t145 t147 true)) else (posthorselaw17_CodeJoins.j4 kj22 a2 x7_1 x8_3 t143 t145 t147 true)) else (posthorselaw17_CodeJoins.j4 kj22 a2 x7_1 x8_3 t143 t145 t147 true)) = some r := H
                          have A42 := Aside0.mk A420
                          clear A420
                          have HC43 := Aside0.mk H
                          clear H
                          obtain ⟨Ao44, co44, eo44⟩ := Kd.R_slice HO_7.out
                          subst eo44
                          go_upto_region 19 with (first | (go_at_call 16; (with_reducible refine (code_Put.calls kj22 _ _ x7_1 t143 t144 _ ?side1 ?side2 A39.out).mono ?_); (case side1 => repeat (first | exact (Kd.R_reads' HO_7.out).2.2 | (with_reducible refine Kd.C_alloc ?_ _) | (with_reducible refine Kd.C_drewN ?_ _) | (with_reducible refine Kd.C_drew ?_))); (case side2 => exact (Kd.R_reads' HO_7.out).2.1); rintro e w45 ⟨rfl, hb⟩; have n0_ := Aside0.mk (Kd.R_below (by (with_reducible repeat (first | apply Kd.R_alloc | apply Kd.R_drewN | apply Kd.R_drew)); exact HO_7.out) hb); have n1_ := Aside0.mk (Kd.R_below (by (with_reducible repeat (first | apply Kd.R_alloc | apply Kd.R_drewN | apply Kd.R_drew)); exact HO_8.out) hb); have n2_ := Aside0.mk (below_step (by repeat (first | (with_reducible first | exact HB.out | apply below_alloc | apply pw_below_drewN | apply below_drew1) | exact HB.out)) hb); clear HO_7; clear HO_8; clear HB; have HO_7 := n0_; have HO_8 := n1_; have HB := n2_; clear n0_ n1_ n2_; (try clear hb); (try clear hb2); (try clear hk); (try clear hi); (try simp only [errW_none, errW_some]); obtain ⟨Ao46, co46, eo46⟩ := Kd.R_slice HO_8.out; subst eo46) | (go_at_call 16; (with_reducible refine (code_Put.calls kj22 _ _ x8_3 t145 t146 _ ?side1 ?side2 A40.out).mono ?_); (case side1 => repeat (first | exact (Kd.R_reads' HO_8.out).2.2 | (with_reducible refine Kd.C_alloc ?_ _) | (with_reducible refine Kd.C_drewN ?_ _) | (with_reducible refine Kd.C_drew ?_))); (case side2 => exact (Kd.R_reads' HO_8.out).2.1); rintro e w47 ⟨rfl, hb⟩; have n0_ := Aside0.mk (Kd.R_below (by (with_reducible repeat (first | apply Kd.R_alloc | apply Kd.R_drewN | apply Kd.R_drew)); exact HO_7.out) hb); have n1_ := Aside0.mk (Kd.R_below (by (with_reducible repeat (first | apply Kd.R_alloc | apply Kd.R_drewN | apply Kd.R_drew)); exact HO_8.out) hb); have n2_ := Aside0.mk (below_step (by repeat (first | (with_reducible first | exact HB.out | apply below_alloc | apply pw_below_drewN | apply below_drew1) | exact HB.out)) hb); clear HO_7; clear HO_8; clear HB; have HO_7 := n0_; have HO_8 := n1_; have HB := n2_; clear n0_ n1_ n2_; (try clear hb); (try clear hb2); (try clear hk); (try clear hi); (try simp only [errW_none, errW_some])) | (go_at_call 18; (with_reducible refine (code_Get.calls kj22 (t143 ++ t145) t147 t148 _ A42.out).mono ?_); rintro e w48 ⟨v149, rfl, ho0, hb⟩; have n0_ := Aside0.mk (Kd.R_elder' (by (with_reducible repeat (first | apply Kd.R_alloc | apply Kd.R_drewN | apply Kd.R_drew)); exact HO_7.out) (Kd.R_base ho0) hb); have n1_ := Aside0.mk (Kd.R_elder' (by (with_reducible repeat (first | apply Kd.R_alloc | apply Kd.R_drewN | apply Kd.R_drew)); exact HO_8.out) (Kd.R_base ho0) hb); have n2_ := Aside0.mk (Kd.R_lower (Kd.R_new' (Kd.R_new' ho0 (Kd.R_lt (by (with_reducible repeat (first | apply Kd.R_alloc | apply Kd.R_drewN | apply Kd.R_drew)); exact HO_7.out))) (Kd.R_lt (by (with_reducible repeat (first | apply Kd.R_alloc | apply Kd.R_drewN | apply Kd.R_drew)); exact HO_8.out))) (below_size (by repeat (first | (with_reducible first | exact HB.out | apply below_alloc | apply pw_below_drewN | apply below_drew1) | exact HB.out)))); have n3_ := Aside0.mk (below_step (by repeat (first | (with_reducible first | exact HB.out | apply below_alloc | apply pw_below_drewN | apply below_drew1) | exact HB.out)) hb); clear HO_7; clear HO_8; clear HB; have HO_7 := n0_; have HO_8 := n1_; have HO150 := n2_; have HB := n3_; clear n0_ n1_ n2_ n3_; (try clear hb); (try clear hb2); (try clear hk); (try clear hi); (try clear ho0); (try simp only [errW_none, errW_some])))
                          repeat (go_quiet (first | (go_at_call 16; (with_reducible refine (code_Put.calls kj22 _ _ x7_1 t143 t144 _ ?side1 ?side2 A39.out).mono ?_); (case side1 => repeat (first | exact (Kd.R_reads' HO_7.out).2.2 | (with_reducible refine Kd.C_alloc ?_ _) | (with_reducible refine Kd.C_drewN ?_ _) | (with_reducible refine Kd.C_drew ?_))); (case side2 => exact (Kd.R_reads' HO_7.out).2.1); rintro e w45 ⟨rfl, hb⟩; have n0_ := Aside0.mk (Kd.R_below (by (with_reducible repeat (first | apply Kd.R_alloc | apply Kd.R_drewN | apply Kd.R_drew)); exact HO_7.out) hb); have n1_ := Aside0.mk (Kd.R_below (by (with_reducible repeat (first | apply Kd.R_alloc | apply Kd.R_drewN | apply Kd.R_drew)); exact HO_8.out) hb); have n2_ := Aside0.mk (below_step (by repeat (first | (with_reducible first | exact HB.out | apply below_alloc | apply pw_below_drewN | apply below_drew1) | exact HB.out)) hb); clear HO_7; clear HO_8; clear HB; have HO_7 := n0_; have HO_8 := n1_; have HB := n2_; clear n0_ n1_ n2_; (try clear hb); (try clear hb2); (try clear hk); (try clear hi); (try simp only [errW_none, errW_some]); obtain ⟨Ao46, co46, eo46⟩ := Kd.R_slice HO_8.out; subst eo46) | (go_at_call 16; (with_reducible refine (code_Put.calls kj22 _ _ x8_3 t145 t146 _ ?side1 ?side2 A40.out).mono ?_); (case side1 => repeat (first | exact (Kd.R_reads' HO_8.out).2.2 | (with_reducible refine Kd.C_alloc ?_ _) | (with_reducible refine Kd.C_drewN ?_ _) | (with_reducible refine Kd.C_drew ?_))); (case side2 => exact (Kd.R_reads' HO_8.out).2.1); rintro e w47 ⟨rfl, hb⟩; have n0_ := Aside0.mk (Kd.R_below (by (with_reducible repeat (first | apply Kd.R_alloc | apply Kd.R_drewN | apply Kd.R_drew)); exact HO_7.out) hb); have n1_ := Aside0.mk (Kd.R_below (by (with_reducible repeat (first | apply Kd.R_alloc | apply Kd.R_drewN | apply Kd.R_drew)); exact HO_8.out) hb); have n2_ := Aside0.mk (below_step (by repeat (first | (with_reducible first | exact HB.out | apply below_alloc | apply pw_below_drewN | apply below_drew1) | exact HB.out)) hb); clear HO_7; clear HO_8; clear HB; have HO_7 := n0_; have HO_8 := n1_; have HB := n2_; clear n0_ n1_ n2_; (try clear hb); (try clear hb2); (try clear hk); (try clear hi); (try simp only [errW_none, errW_some])) | (go_at_call 18; (with_reducible refine (code_Get.calls kj22 (t143 ++ t145) t147 t148 _ A42.out).mono ?_); rintro e w48 ⟨v149, rfl, ho0, hb⟩; have n0_ := Aside0.mk (Kd.R_elder' (by (with_reducible repeat (first | apply Kd.R_alloc | apply Kd.R_drewN | apply Kd.R_drew)); exact HO_7.out) (Kd.R_base ho0) hb); have n1_ := Aside0.mk (Kd.R_elder' (by (with_reducible repeat (first | apply Kd.R_alloc | apply Kd.R_drewN | apply Kd.R_drew)); exact HO_8.out) (Kd.R_base ho0) hb); have n2_ := Aside0.mk (Kd.R_lower (Kd.R_new' (Kd.R_new' ho0 (Kd.R_lt (by (with_reducible repeat (first | apply Kd.R_alloc | apply Kd.R_drewN | apply Kd.R_drew)); exact HO_7.out))) (Kd.R_lt (by (with_reducible repeat (first | apply Kd.R_alloc | apply Kd.R_drewN | apply Kd.R_drew)); exact HO_8.out))) (below_size (by repeat (first | (with_reducible first | exact HB.out | apply below_alloc | apply pw_below_drewN | apply below_drew1) | exact HB.out)))); have n3_ := Aside0.mk (below_step (by repeat (first | (with_reducible first | exact HB.out | apply below_alloc | apply pw_below_drewN | apply below_drew1) | exact HB.out)) hb); clear HO_7; clear HO_8; clear HB; have HO_7 := n0_; have HO_8 := n1_; have HO150 := n2_; have HB := n3_; clear n0_ n1_ n2_ n3_; (try clear hb); (try clear hb2); (try clear hk); (try clear hi); (try clear ho0); (try simp only [errW_none, errW_some]))); go_upto_region 19 with (first | (go_at_call 16; (with_reducible refine (code_Put.calls kj22 _ _ x7_1 t143 t144 _ ?side1 ?side2 A39.out).mono ?_); (case side1 => repeat (first | exact (Kd.R_reads' HO_7.out).2.2 | (with_reducible refine Kd.C_alloc ?_ _) | (with_reducible refine Kd.C_drewN ?_ _) | (with_reducible refine Kd.C_drew ?_))); (case side2 => exact (Kd.R_reads' HO_7.out).2.1); rintro e w45 ⟨rfl, hb⟩; have n0_ := Aside0.mk (Kd.R_below (by (with_reducible repeat (first | apply Kd.R_alloc | apply Kd.R_drewN | apply Kd.R_drew)); exact HO_7.out) hb); have n1_ := Aside0.mk (Kd.R_below (by (with_reducible repeat (first | apply Kd.R_alloc | apply Kd.R_drewN | apply Kd.R_drew)); exact HO_8.out) hb); have n2_ := Aside0.mk (below_step (by repeat (first | (with_reducible first | exact HB.out | apply below_alloc | apply pw_below_drewN | apply below_drew1) | exact HB.out)) hb); clear HO_7; clear HO_8; clear HB; have HO_7 := n0_; have HO_8 := n1_; have HB := n2_; clear n0_ n1_ n2_; (try clear hb); (try clear hb2); (try clear hk); (try clear hi); (try simp only [errW_none, errW_some]); obtain ⟨Ao46, co46, eo46⟩ := Kd.R_slice HO_8.out; subst eo46) | (go_at_call 16; (with_reducible refine (code_Put.calls kj22 _ _ x8_3 t145 t146 _ ?side1 ?side2 A40.out).mono ?_); (case side1 => repeat (first | exact (Kd.R_reads' HO_8.out).2.2 | (with_reducible refine Kd.C_alloc ?_ _) | (with_reducible refine Kd.C_drewN ?_ _) | (with_reducible refine Kd.C_drew ?_))); (case side2 => exact (Kd.R_reads' HO_8.out).2.1); rintro e w47 ⟨rfl, hb⟩; have n0_ := Aside0.mk (Kd.R_below (by (with_reducible repeat (first | apply Kd.R_alloc | apply Kd.R_drewN | apply Kd.R_drew)); exact HO_7.out) hb); have n1_ := Aside0.mk (Kd.R_below (by (with_reducible repeat (first | apply Kd.R_alloc | apply Kd.R_drewN | apply Kd.R_drew)); exact HO_8.out) hb); have n2_ := Aside0.mk (below_step (by repeat (first | (with_reducible first | exact HB.out | apply below_alloc | apply pw_below_drewN | apply below_drew1) | exact HB.out)) hb); clear HO_7; clear HO_8; clear HB; have HO_7 := n0_; have HO_8 := n1_; have HB := n2_; clear n0_ n1_ n2_; (try clear hb); (try clear hb2); (try clear hk); (try clear hi); (try simp only [errW_none, errW_some])) | (go_at_call 18; (with_reducible refine (code_Get.calls kj22 (t143 ++ t145) t147 t148 _ A42.out).mono ?_); rintro e w48 ⟨v149, rfl, ho0, hb⟩; have n0_ := Aside0.mk (Kd.R_elder' (by (with_reducible repeat (first | apply Kd.R_alloc | apply Kd.R_drewN | apply Kd.R_drew)); exact HO_7.out) (Kd.R_base ho0) hb); have n1_ := Aside0.mk (Kd.R_elder' (by (with_reducible repeat (first | apply Kd.R_alloc | apply Kd.R_drewN | apply Kd.R_drew)); exact HO_8.out) (Kd.R_base ho0) hb); have n2_ := Aside0.mk (Kd.R_lower (Kd.R_new' (Kd.R_new' ho0 (Kd.R_lt (by (with_reducible repeat (first | apply Kd.R_alloc | apply Kd.R_drewN | apply Kd.R_drew)); exact HO_7.out))) (Kd.R_lt (by (with_reducible repeat (first | apply Kd.R_alloc | apply Kd.R_drewN | apply Kd.R_drew)); exact HO_8.out))) (below_size (by repeat (first | (with_reducible first | exact HB.out | apply below_alloc | apply pw_below_drewN | apply below_drew1) | exact HB.out)))); have n3_ := Aside0.mk (below_step (by repeat (first | (with_reducible first | exact HB.out | apply below_alloc | apply pw_below_drewN | apply below_drew1) | exact HB.out)) hb); clear HO_7; clear HO_8; clear HB; have HO_7 := n0_; have HO_8 := n1_; have HO150 := n2_; have HB := n3_; clear n0_ n1_ n2_ n3_; (try clear hb); (try clear hb2); (try clear hk); (try clear hi); (try clear ho0); (try simp only [errW_none, errW_some]))))
                          (try simp only [Act.put, List.setIfInBounds_toArray, List.set_cons_zero, List.set_cons_succ])
                          go_cut [101] (fun v101 wc => ∃ (kq : Nat) (x101_42 : Bool), v101 = .bool x101_42 ∧ Aside0 (posthorselaw17_CodeJoins.j4 kq a2 x7_1 x8_3 t143 t145 t147 x101_42 = some r) ∧ Aside0 (kq ≤ kj22) ∧ Aside0 (Kd.R k40 40 wc w.heap.size (fun k_ => some k_ ≠ ((.slice Ao46 x8_3.length co46) : Value).ownBlock ∧ some k_ ≠ (v149 : Value).ownBlock) (.slice Ao44 x7_1.length co44) x7_1) ∧ Aside0 (Kd.R k40 40 wc w.heap.size (fun k_ => some k_ ≠ ((.slice Ao44 x7_1.length co44) : Value).ownBlock ∧ some k_ ≠ (v149 : Value).ownBlock) (.slice Ao46 x8_3.length co46) x8_3) ∧ Aside0 (Kd.R k40 40 wc w.heap.size (fun k_ => some k_ ≠ ((.slice Ao44 x7_1.length co44) : Value).ownBlock ∧ some k_ ≠ ((.slice Ao46 x8_3.length co46) : Value).ownBlock) v149 t147) ∧ Aside0 (Below w.heap.size w wc))
                          case first =>
                            as_aux_lemma =>
                            have H := HC43.out
                            clear HC43
                            rcases t144 with _ | q151
                            · have H1 : (if t146.isNone = true then (if t148.isNone = true then (posthorselaw17_CodeJoins.j4 kj22 a2 x7_1 x8_3 t143 t145 t147 ((t147.length : Int) != (wrap64 ((x7_1.length : Int) + (x8_3.length : Int))))) else (posthorselaw17_CodeJoins.j4 kj22 a2 x7_1 x8_3 t143 t145 t147 true)) else (posthorselaw17_CodeJoins.j4 kj22 a2 x7_1 x8_3 t143 t145 t147 true)) = some r := by rw [if_pos (show (none : Option Int).isNone = true by rfl)] at H; exact H
                              clear H
                              have H := H1
                              clear H1
                              try simp only [errW_none, errW_some]
                              rcases t146 with _ | q152
                              · have H1 : (if t148.isNone = true then (posthorselaw17_CodeJoins.j4 kj22 a2 x7_1 x8_3 t143 t145 t147 ((t147.length : Int) != (wrap64 ((x7_1.length : Int) + (x8_3.length : Int))))) else (posthorselaw17_CodeJoins.j4 kj22 a2 x7_1 x8_3 t143 t145 t147 true)) = some r := by rw [if_pos (show (none : Option Int).isNone = true by rfl)] at H; exact H
                                clear H
                                have H := H1
                                clear H1
                                try simp only [errW_none, errW_some]
                                rcases t148 with _ | q153
                                · have H1 : (posthorselaw17_CodeJoins.j4 kj22 a2 x7_1 x8_3 t143 t145 t147 ((t147.length : Int) != (wrap64 ((x7_1.length : Int) + (x8_3.length : Int))))) = some r := by rw [if_pos (show (none : Option Int).isNone = true by rfl)] at H; exact H
                                  clear H
                                  have H := H1
                                  clear H1
                                  try simp only [errW_none, errW_some]
                                  as_aux_lemma =>
                                    have H' := Aside0.mk H
                                    clear H
                                    obtain ⟨Ao49, co49, eo49⟩ := Kd.R_slice HO150.out
                                    subst eo49
                                    go_wp2
                                    repeat (go_quiet (fail); try go_wp2)
                                    go_meet
                                    case rel => exact ⟨_, (((t147.length : Int) != (wrap64 ((x7_1.length : Int) + (x8_3.length : Int))))), (by first | rfl | (simp; done) | (simp [*]; done)), H', ⟨by have := HK1.out; have := HJ6.out; have := HK3.out; have := HJ22.out; first | omega | exact Nat.le_refl _⟩, ⟨by (with_reducible repeat (first | apply Kd.R_alloc | apply Kd.R_drewN | apply Kd.R_drew)); exact HO_7.out⟩, ⟨by (with_reducible repeat (first | apply Kd.R_alloc | apply Kd.R_drewN | apply Kd.R_drew)); exact HO_8.out⟩, ⟨by (with_reducible repeat (first | apply Kd.R_alloc | apply Kd.R_drewN | apply Kd.R_drew)); exact Kd.R_mono HO150.out (fun _ hk => ⟨hk.1.2, hk.2⟩)⟩, ⟨by repeat (first | (with_reducible first | exact HB.out | apply below_alloc | apply pw_below_drewN | apply below_drew1) | exact HB.out)⟩⟩
                                · have H1 : (posthorselaw17_CodeJoins.j4 kj22 a2 x7_1 x8_3 t143 t145 t147 true) = some r := by rw [if_neg (show ¬ (some q153).isNone = true by simp)] at H; exact H
                                  clear H
                                  have H := H1
                                  clear H1
                                  try simp only [errW_none, errW_some]
                                  as_aux_lemma =>
                                    have H' := Aside0.mk H
                                    clear H
                                    go_wp2
                                    repeat (go_quiet (fail); try go_wp2)
                                    go_meet
                                    case rel => exact ⟨_, (true), (by first | rfl | (simp; done) | (simp [*]; done)), H', ⟨by have := HK1.out; have := HJ6.out; have := HK3.out; have := HJ22.out; first | omega | exact Nat.le_refl _⟩, ⟨by (with_reducible repeat (first | apply Kd.R_alloc | apply Kd.R_drewN | apply Kd.R_drew)); exact HO_7.out⟩, ⟨by (with_reducible repeat (first | apply Kd.R_alloc | apply Kd.R_drewN | apply Kd.R_drew)); exact HO_8.out⟩, ⟨by (with_reducible repeat (first | apply Kd.R_alloc | apply Kd.R_drewN | apply Kd.R_drew)); exact Kd.R_mono HO150.out (fun _ hk => ⟨hk.1.2, hk.2⟩)⟩, ⟨by repeat (first | (with_reducible first | exact HB.out | apply below_alloc | apply pw_below_drewN | apply below_drew1) | exact HB.out)⟩⟩
                              · have H1 : (posthorselaw17_CodeJoins.j4 kj22 a2 x7_1 x8_3 t143 t145 t147 true) = some r := by rw [if_neg (show ¬ (some q152).isNone = true by simp)] at H; exact H
                                clear H
                                have H := H1
                                clear H1
                                try simp only [errW_none, errW_some]
                                as_aux_lemma =>
                                  have H' := Aside0.mk H
                                  clear H
                                  go_wp2
                                  repeat (go_quiet (fail); try go_wp2)
                                  go_meet
                                  case rel => exact ⟨_, (true), (by first | rfl | (simp; done) | (simp [*]; done)), H', ⟨by have := HK1.out; have := HJ6.out; have := HK3.out; have := HJ22.out; first | omega | exact Nat.le_refl _⟩, ⟨by (with_reducible repeat (first | apply Kd.R_alloc | apply Kd.R_drewN | apply Kd.R_drew)); exact HO_7.out⟩, ⟨by (with_reducible repeat (first | apply Kd.R_alloc | apply Kd.R_drewN | apply Kd.R_drew)); exact HO_8.out⟩, ⟨by (with_reducible repeat (first | apply Kd.R_alloc | apply Kd.R_drewN | apply Kd.R_drew)); exact Kd.R_mono HO150.out (fun _ hk => ⟨hk.1.2, hk.2⟩)⟩, ⟨by repeat (first | (with_reducible first | exact HB.out | apply below_alloc | apply pw_below_drewN | apply below_drew1) | exact HB.out)⟩⟩
                            · have H1 : (posthorselaw17_CodeJoins.j4 kj22 a2 x7_1 x8_3 t143 t145 t147 true) = some r := by rw [if_neg (show ¬ (some q151).isNone = true by simp)] at H; exact H
                              clear H
                              have H := H1
                              clear H1
                              try simp only [errW_none, errW_some]
                              as_aux_lemma =>
                                have H' := Aside0.mk H
                                clear H
                                go_wp2
                                repeat (go_quiet (fail); try go_wp2)
                                go_meet
                                case rel => exact ⟨_, (true), (by first | rfl | (simp; done) | (simp [*]; done)), H', ⟨by have := HK1.out; have := HJ6.out; have := HK3.out; have := HJ22.out; first | omega | exact Nat.le_refl _⟩, ⟨by (with_reducible repeat (first | apply Kd.R_alloc | apply Kd.R_drewN | apply Kd.R_drew)); exact HO_7.out⟩, ⟨by (with_reducible repeat (first | apply Kd.R_alloc | apply Kd.R_drewN | apply Kd.R_drew)); exact HO_8.out⟩, ⟨by (with_reducible repeat (first | apply Kd.R_alloc | apply Kd.R_drewN | apply Kd.R_drew)); exact Kd.R_mono HO150.out (fun _ hk => ⟨hk.1.2, hk.2⟩)⟩, ⟨by repeat (first | (with_reducible first | exact HB.out | apply below_alloc | apply pw_below_drewN | apply below_drew1) | exact HB.out)⟩⟩
                          case rest =>
                            clear HC43
                            try clear c1
                            try clear p1
                            try clear q1
                            try clear hx1
                            try clear c2
                            try clear p2
                            try clear c3
                            try clear c4
                            try clear c5
                            try clear c6
                            try clear p6
                            try clear c8
                            try clear c8b0
                            try clear c9
                            try clear c10
                            try clear c10b0
                            try clear c11
                            try clear c11b0
                            try clear c13
                            try clear p13
                            try clear q13
                            try clear hx13
                            try clear c14
                            try clear q15
                            try clear c24
                            try clear c24b0
                            try clear c25
                            try clear c26
                            try clear c26b0
                            try clear c27
                            try clear c27b0
                            try clear c29
                            try clear c30
                            try clear c41
                            try clear c41b0
                            try clear c41b1
                            try clear c41b2
                            try clear hcz16_0
                            try clear hcz16_1
                            try clear hcz16_2
                            try clear hcz16_3
                            try clear hcz18_0
                            try clear hcz18_1
                            try clear hcz18_2
                            try clear hcz18_3
                            try clear hcz21_0
                            try clear hcz21_1
                            try clear hcz21_2
                            try clear hcz21_3
                            try clear hcz32_0
                            try clear hcz32_1
                            try clear hcz32_2
                            try clear hcz32_3
                            try clear hcz34_0
                            try clear hcz34_1
                            try clear hcz34_2
                            try clear hcz34_3
                            try clear hcz37_0
                            try clear hcz37_1
                            try clear hcz37_2
                            try clear hcz37_3
                            try clear hfz16_0
                            try clear hfz16_1
                            try clear hfz16_2
                            try clear hfz16_3
                            try clear hfz18_0
                            try clear hfz18_1
                            try clear hfz18_2
                            try clear hfz18_3
                            try clear hfz21_0
                            try clear hfz21_1
                            try clear hfz21_2
                            try clear hfz21_3
                            try clear hfz32_0
                            try clear hfz32_1
                            try clear hfz32_2
                            try clear hfz32_3
                            try clear hfz34_0
                            try clear hfz34_1
                            try clear hfz34_2
                            try clear hfz34_3
                            try clear hfz37_0
                            try clear hfz37_1
                            try clear hfz37_2
                            try clear hfz37_3
                            try clear hx131_0
                            try clear hx131_1
                            try clear hx131_2
                            try clear hx131_3
                            try clear hx137_0
                            try clear hx137_1
                            try clear hx137_2
                            try clear hx137_3
                            try clear p1
                            try clear p13
                            try clear p131
                            try clear p137
                            try clear p2
                            try clear p6
                            try clear q1
                            try clear q13
                            try clear q131
                            try clear q137
                            try clear q151
                            try clear q152
                            try clear q153
                            obtain ⟨kq, x101_42, rfl, HA, HJ42, HO_7, HO_8, HO_17, HB⟩ := hcut
                            cases kq with
                            | zero => exact absurd HA.out (by simp [posthorselaw17_CodeJoins.j4])
                            | succ kj42 =>
                              have H := HA.out
                              clear HA
                              simp only [posthorselaw17_CodeJoins.j4] at H
                              by_cases c50 : x101_42 = true
                              · subst c50
                                have H1 : (some false) = some r := by rw [if_pos rfl] at H; exact H
                                clear H
                                have H := H1
                                clear H1
                                as_aux_lemma =>
                                  obtain rfl := Option.some.inj H
                                  go_wp2
                                  repeat (go_quiet (fail); try go_wp2)
                                  go_ret
                                  exact ⟨by first | rfl | (simp [errW_none, errW_some] <;> rfl) | (simp [*, errW_none, errW_some] <;> rfl), by repeat (first | (with_reducible first | exact HB.out | apply below_alloc | apply pw_below_drewN | apply below_drew1) | exact HB.out)⟩
                              · replace c50 := Bool.eq_false_iff.mpr c50
                                subst c50
                                have H1 : (if (wrap64 ((t147.length : Int) + 1)) = 0 then (none) else (if t143.size + t145.size ≤ 9223372036854775807 then (if 0 ≤ (wrap64 (8 * (Int.tmod (wrap64 ((wrap64 ((Int.tmod a2 (wrap64 ((t147.length : Int) + 1))) + (t147.length : Int))) + 1)) (wrap64 ((t147.length : Int) + 1))))) then (if (wrap64 (8 * (Int.tmod (wrap64 ((wrap64 ((Int.tmod a2 (wrap64 ((t147.length : Int) + 1))) + (t147.length : Int))) + 1)) (wrap64 ((t147.length : Int) + 1))))) ≤ ((t143 ++ t145).size : Int) then ((code_Get.f kj42 ((t143 ++ t145).extract 0 ((wrap64 (8 * (Int.tmod (wrap64 ((wrap64 ((Int.tmod a2 (wrap64 ((t147.length : Int) + 1))) + (t147.length : Int))) + 1)) (wrap64 ((t147.length : Int) + 1))))) : Int).toNat)).bind fun bt154 => (if bt154.2.isNone = true then (posthorselaw17_CodeJoins.j5 kj42 x7_1 x8_3 t147 (Int.tmod (wrap64 ((wrap64 ((Int.tmod a2 (wrap64 ((t147.length : Int) + 1))) + (t147.length : Int))) + 1)) (wrap64 ((t147.length : Int) + 1))) bt154.1 ((bt154.1.length : Int) != (Int.tmod (wrap64 ((wrap64 ((Int.tmod a2 (wrap64 ((t147.length : Int) + 1))) + (t147.length : Int))) + 1)) (wrap64 ((t147.length : Int) + 1))))) else (posthorselaw17_CodeJoins.j5 kj42 x7_1 x8_3 t147 (Int.tmod (wrap64 ((wrap64 ((Int.tmod a2 (wrap64 ((t147.length : Int) + 1))) + (t147.length : Int))) + 1)) (wrap64 ((t147.length : Int) + 1))) bt154.1 true))) else (none)) else (none)) else (none))) = some r := by rw [if_neg (show ¬ (false = true) by decide)] at H; exact H
                                clear H
                                have H := H1
                                clear H1
                                by_cases c51 : (wrap64 ((t147.length : Int) + 1)) = 0
                                · rw [if_pos c51] at H
                                  exact absurd H (by simp)
                                · rw [if_neg c51] at H
                                  have c51b0 : ((wrap64 ((t147.length : Int) + 1)) == 0) = false := beq_eq_false_iff_ne.mpr c51
                                  have c51b1 : ((wrap64 ((t147.length : Int) + 1)) != 0) = true := bne_iff_ne.mpr c51
                                  by_cases c52 : t143.size + t145.size ≤ 9223372036854775807
                                  · rw [if_pos c52] at H
                                    have c52b0 := eq_true c52
                                    try (have c52sa0 := c52b0; simp only [ByteArray.size_append, Int.natCast_add] at c52sa0)
                                    have c52b1 : decide (t143.size + t145.size ≤ 9223372036854775807) = true := decide_eq_true c52
                                    try have c52b2 : (9223372036854775807 < t143.size + t145.size) = False := eq_false (Nat.not_lt.2 c52)
                                    obtain ⟨ji53, hji53⟩ : ∃ j_ : Int, (wrap64 (8 * (Int.tmod (wrap64 ((wrap64 ((Int.tmod a2 (wrap64 ((t147.length : Int) + 1))) + (t147.length : Int))) + 1)) (wrap64 ((t147.length : Int) + 1))))) = j_ := ⟨_, rfl⟩
                                    replace H : (if 0 ≤ (ji53) then (if (ji53) ≤ ((t143 ++ t145).size : Int) then ((code_Get.f kj42 ((t143 ++ t145).extract 0 ((ji53) : Int).toNat)).bind fun bt154 => (if bt154.2.isNone = true then (posthorselaw17_CodeJoins.j5 kj42 x7_1 x8_3 t147 (Int.tmod (wrap64 ((wrap64 ((Int.tmod a2 (wrap64 ((t147.length : Int) + 1))) + (t147.length : Int))) + 1)) (wrap64 ((t147.length : Int) + 1))) bt154.1 ((bt154.1.length : Int) != (Int.tmod (wrap64 ((wrap64 ((Int.tmod a2 (wrap64 ((t147.length : Int) + 1))) + (t147.length : Int))) + 1)) (wrap64 ((t147.length : Int) + 1))))) else (posthorselaw17_CodeJoins.j5 kj42 x7_1 x8_3 t147 (Int.tmod (wrap64 ((wrap64 ((Int.tmod a2 (wrap64 ((t147.length : Int) + 1))) + (t147.length : Int))) + 1)) (wrap64 ((t147.length : Int) + 1))) bt154.1 true))) else (none)) else (none)) = some r := by first | (rw [hji53] at H; exact H) | (simp only [hji53] at H ⊢; exact H)
                                    have hji53w : (IntKind.i64.wrap (8 * (Int.tmod (wrap64 ((wrap64 ((Int.tmod a2 (wrap64 ((t147.length : Int) + 1))) + (t147.length : Int))) + 1)) (wrap64 ((t147.length : Int) + 1))))) = ji53 := (i64_w _).trans hji53
                                    by_cases c54 : 0 ≤ (ji53)
                                    · rw [if_pos c54] at H
                                      have c54b0 := eq_true c54
                                      try (have c54sa0 := c54b0; simp only [ByteArray.size_append, Int.natCast_add] at c54sa0)
                                      have c54b1 : decide (0 ≤ (ji53)) = true := decide_eq_true c54
                                      clear c54
                                      by_cases c55 : (ji53) ≤ ((t143 ++ t145).size : Int)
                                      · rw [if_pos c55] at H
                                        have c55b0 := eq_true c55
                                        try (have c55sa0 := c55b0; simp only [ByteArray.size_append, Int.natCast_add] at c55sa0)
                                        have c55b1 : decide ((ji53) ≤ ((t143 ++ t145).size : Int)) = true := decide_eq_true c55
                                        try (have c55sa1 := c55b1; simp only [ByteArray.size_append, Int.natCast_add] at c55sa1)
                                        replace H := Option.bind_eq_some_iff.mp H
                                        obtain ⟨⟨t154, t155⟩, A560, H⟩ := H
                                        replace H : (if t155.isNone = true then (posthorselaw17_CodeJoins.j5 kj42 x7_1 x8_3 t147 (Int.tmod (wrap64 ((wrap64 ((Int.tmod a2 (wrap64 ((t147.length : Int) + 1))) + (t147.length : Int))) + 1)) (wrap64 ((t147.length : Int) + 1))) t154 ((t154.length : Int) != (Int.tmod (wrap64 ((wrap64 ((Int.tmod a2 (wrap64 ((t147.length : Int) + 1))) + (t147.length : Int))) + 1)) (wrap64 ((t147.length : Int) + 1))))) else (posthorselaw17_CodeJoins.j5 kj42 x7_1 x8_3 t147 (Int.tmod (wrap64 ((wrap64 ((Int.tmod a2 (wrap64 ((t147.length : Int) + 1))) + (t147.length : Int))) + 1)) (wrap64 ((t147.length : Int) + 1))) t154 true)) = some r := H
                                        have A56 := Aside0.mk A560
                                        clear A560
                                        have HC57 := Aside0.mk H
                                        clear H
                                        obtain ⟨Ao58, co58, eo58⟩ := Kd.R_slice HO_17.out
                                        subst eo58
                                        go_upto_region 23 with (first | (go_at_call 18; (with_reducible refine (code_Get.calls kj42 ((t143 ++ t145).extract 0 ((ji53) : Int).toNat) t154 t155 _ A56.out).mono ?_); rintro e w59 ⟨v156, rfl, ho0, hb⟩; have n0_ := Aside0.mk (Kd.R_elder' (by (with_reducible repeat (first | apply Kd.R_alloc | apply Kd.R_drewN | apply Kd.R_drew)); exact HO_7.out) (Kd.R_base ho0) hb); have n1_ := Aside0.mk (Kd.R_elder' (by (with_reducible repeat (first | apply Kd.R_alloc | apply Kd.R_drewN | apply Kd.R_drew)); exact HO_8.out) (Kd.R_base ho0) hb); have n2_ := Aside0.mk (Kd.R_elder' (by (with_reducible repeat (first | apply Kd.R_alloc | apply Kd.R_drewN | apply Kd.R_drew)); exact HO_17.out) (Kd.R_base ho0) hb); have n3_ := Aside0.mk (Kd.R_lower (Kd.R_new' (Kd.R_new' (Kd.R_new' ho0 (Kd.R_lt (by (with_reducible repeat (first | apply Kd.R_alloc | apply Kd.R_drewN | apply Kd.R_drew)); exact HO_7.out))) (Kd.R_lt (by (with_reducible repeat (first | apply Kd.R_alloc | apply Kd.R_drewN | apply Kd.R_drew)); exact HO_8.out))) (Kd.R_lt (by (with_reducible repeat (first | apply Kd.R_alloc | apply Kd.R_drewN | apply Kd.R_drew)); exact HO_17.out))) (below_size (by repeat (first | (with_reducible first | exact HB.out | apply below_alloc | apply pw_below_drewN | apply below_drew1) | exact HB.out)))); have n4_ := Aside0.mk (below_step (by repeat (first | (with_reducible first | exact HB.out | apply below_alloc | apply pw_below_drewN | apply below_drew1) | exact HB.out)) hb); clear HO_7; clear HO_8; clear HO_17; clear HB; have HO_7 := n0_; have HO_8 := n1_; have HO_17 := n2_; have HO157 := n3_; have HB := n4_; clear n0_ n1_ n2_ n3_ n4_; (try clear hb); (try clear hb2); (try clear hk); (try clear hi); (try clear ho0); (try simp only [errW_none, errW_some])))
                                        repeat (go_quiet (first | (go_at_call 18; (with_reducible refine (code_Get.calls kj42 ((t143 ++ t145).extract 0 ((ji53) : Int).toNat) t154 t155 _ A56.out).mono ?_); rintro e w59 ⟨v156, rfl, ho0, hb⟩; have n0_ := Aside0.mk (Kd.R_elder' (by (with_reducible repeat (first | apply Kd.R_alloc | apply Kd.R_drewN | apply Kd.R_drew)); exact HO_7.out) (Kd.R_base ho0) hb); have n1_ := Aside0.mk (Kd.R_elder' (by (with_reducible repeat (first | apply Kd.R_alloc | apply Kd.R_drewN | apply Kd.R_drew)); exact HO_8.out) (Kd.R_base ho0) hb); have n2_ := Aside0.mk (Kd.R_elder' (by (with_reducible repeat (first | apply Kd.R_alloc | apply Kd.R_drewN | apply Kd.R_drew)); exact HO_17.out) (Kd.R_base ho0) hb); have n3_ := Aside0.mk (Kd.R_lower (Kd.R_new' (Kd.R_new' (Kd.R_new' ho0 (Kd.R_lt (by (with_reducible repeat (first | apply Kd.R_alloc | apply Kd.R_drewN | apply Kd.R_drew)); exact HO_7.out))) (Kd.R_lt (by (with_reducible repeat (first | apply Kd.R_alloc | apply Kd.R_drewN | apply Kd.R_drew)); exact HO_8.out))) (Kd.R_lt (by (with_reducible repeat (first | apply Kd.R_alloc | apply Kd.R_drewN | apply Kd.R_drew)); exact HO_17.out))) (below_size (by repeat (first | (with_reducible first | exact HB.out | apply below_alloc | apply pw_below_drewN | apply below_drew1) | exact HB.out)))); have n4_ := Aside0.mk (below_step (by repeat (first | (with_reducible first | exact HB.out | apply below_alloc | apply pw_below_drewN | apply below_drew1) | exact HB.out)) hb); clear HO_7; clear HO_8; clear HO_17; clear HB; have HO_7 := n0_; have HO_8 := n1_; have HO_17 := n2_; have HO157 := n3_; have HB := n4_; clear n0_ n1_ n2_ n3_ n4_; (try clear hb); (try clear hb2); (try clear hk); (try clear hi); (try clear ho0); (try simp only [errW_none, errW_some]))); go_upto_region 23 with (first | (go_at_call 18; (with_reducible refine (code_Get.calls kj42 ((t143 ++ t145).extract 0 ((ji53) : Int).toNat) t154 t155 _ A56.out).mono ?_); rintro e w59 ⟨v156, rfl, ho0, hb⟩; have n0_ := Aside0.mk (Kd.R_elder' (by (with_reducible repeat (first | apply Kd.R_alloc | apply Kd.R_drewN | apply Kd.R_drew)); exact HO_7.out) (Kd.R_base ho0) hb); have n1_ := Aside0.mk (Kd.R_elder' (by (with_reducible repeat (first | apply Kd.R_alloc | apply Kd.R_drewN | apply Kd.R_drew)); exact HO_8.out) (Kd.R_base ho0) hb); have n2_ := Aside0.mk (Kd.R_elder' (by (with_reducible repeat (first | apply Kd.R_alloc | apply Kd.R_drewN | apply Kd.R_drew)); exact HO_17.out) (Kd.R_base ho0) hb); have n3_ := Aside0.mk (Kd.R_lower (Kd.R_new' (Kd.R_new' (Kd.R_new' ho0 (Kd.R_lt (by (with_reducible repeat (first | apply Kd.R_alloc | apply Kd.R_drewN | apply Kd.R_drew)); exact HO_7.out))) (Kd.R_lt (by (with_reducible repeat (first | apply Kd.R_alloc | apply Kd.R_drewN | apply Kd.R_drew)); exact HO_8.out))) (Kd.R_lt (by (with_reducible repeat (first | apply Kd.R_alloc | apply Kd.R_drewN | apply Kd.R_drew)); exact HO_17.out))) (below_size (by repeat (first | (with_reducible first | exact HB.out | apply below_alloc | apply pw_below_drewN | apply below_drew1) | exact HB.out)))); have n4_ := Aside0.mk (below_step (by repeat (first | (with_reducible first | exact HB.out | apply below_alloc | apply pw_below_drewN | apply below_drew1) | exact HB.out)) hb); clear HO_7; clear HO_8; clear HO_17; clear HB; have HO_7 := n0_; have HO_8 := n1_; have HO_17 := n2_; have HO157 := n3_; have HB := n4_; clear n0_ n1_ n2_ n3_ n4_; (try clear hb); (try clear hb2); (try clear hk); (try clear hi); (try clear ho0); (try simp only [errW_none, errW_some]))))
                                        (try simp only [Act.put, List.setIfInBounds_toArray, List.set_cons_zero, List.set_cons_succ])
                                        go_cut [132] (fun v132 wc => ∃ (kq : Nat) (x132_56 : Bool), v132 = .bool x132_56 ∧ Aside0 (posthorselaw17_CodeJoins.j5 kq x7_1 x8_3 t147 (Int.tmod (wrap64 ((wrap64 ((Int.tmod a2 (wrap64 ((t147.length : Int) + 1))) + (t147.length : Int))) + 1)) (wrap64 ((t147.length : Int) + 1))) t154 x132_56 = some r) ∧ Aside0 (kq ≤ kj42) ∧ Aside0 (Kd.R k40 40 wc w.heap.size (fun k_ => some k_ ≠ ((.slice Ao46 x8_3.length co46) : Value).ownBlock ∧ some k_ ≠ ((.slice Ao58 t147.length co58) : Value).ownBlock ∧ some k_ ≠ (v156 : Value).ownBlock) (.slice Ao44 x7_1.length co44) x7_1) ∧ Aside0 (Kd.R k40 40 wc w.heap.size (fun k_ => some k_ ≠ ((.slice Ao44 x7_1.length co44) : Value).ownBlock ∧ some k_ ≠ ((.slice Ao58 t147.length co58) : Value).ownBlock ∧ some k_ ≠ (v156 : Value).ownBlock) (.slice Ao46 x8_3.length co46) x8_3) ∧ Aside0 (Kd.R k40 40 wc w.heap.size (fun k_ => some k_ ≠ ((.slice Ao44 x7_1.length co44) : Value).ownBlock ∧ some k_ ≠ ((.slice Ao46 x8_3.length co46) : Value).ownBlock ∧ some k_ ≠ (v156 : Value).ownBlock) (.slice Ao58 t147.length co58) t147) ∧ Aside0 (Kd.R k40 40 wc w.heap.size (fun k_ => some k_ ≠ ((.slice Ao44 x7_1.length co44) : Value).ownBlock ∧ some k_ ≠ ((.slice Ao46 x8_3.length co46) : Value).ownBlock ∧ some k_ ≠ ((.slice Ao58 t147.length co58) : Value).ownBlock) v156 t154) ∧ Aside0 (Below w.heap.size w wc))
                                        case first =>
                                          as_aux_lemma =>
                                          have H := HC57.out
                                          clear HC57
                                          rcases t155 with _ | q158
                                          · have H1 : (posthorselaw17_CodeJoins.j5 kj42 x7_1 x8_3 t147 (Int.tmod (wrap64 ((wrap64 ((Int.tmod a2 (wrap64 ((t147.length : Int) + 1))) + (t147.length : Int))) + 1)) (wrap64 ((t147.length : Int) + 1))) t154 ((t154.length : Int) != (Int.tmod (wrap64 ((wrap64 ((Int.tmod a2 (wrap64 ((t147.length : Int) + 1))) + (t147.length : Int))) + 1)) (wrap64 ((t147.length : Int) + 1))))) = some r := by rw [if_pos (show (none : Option Int).isNone = true by rfl)] at H; exact H
                                            clear H
                                            have H := H1
                                            clear H1
                                            try simp only [errW_none, errW_some]
                                            as_aux_lemma =>
                                              have H' := Aside0.mk H
                                              clear H
                                              obtain ⟨Ao60, co60, eo60⟩ := Kd.R_slice HO157.out
                                              subst eo60
                                              go_wp2
                                              repeat (go_quiet (fail); try go_wp2)
                                              go_meet
                                              case rel => exact ⟨_, (((t154.length : Int) != (Int.tmod (wrap64 ((wrap64 ((Int.tmod a2 (wrap64 ((t147.length : Int) + 1))) + (t147.length : Int))) + 1)) (wrap64 ((t147.length : Int) + 1))))), (by first | rfl | (simp; done) | (simp [*]; done)), H', ⟨by have := HK1.out; have := HJ6.out; have := HK3.out; have := HJ22.out; have := HJ42.out; first | omega | exact Nat.le_refl _⟩, ⟨by (with_reducible repeat (first | apply Kd.R_alloc | apply Kd.R_drewN | apply Kd.R_drew)); exact Kd.R_mono HO_7.out (fun _ hk => ⟨hk.1.1, ⟨hk.1.2, hk.2⟩⟩)⟩, ⟨by (with_reducible repeat (first | apply Kd.R_alloc | apply Kd.R_drewN | apply Kd.R_drew)); exact Kd.R_mono HO_8.out (fun _ hk => ⟨hk.1.1, ⟨hk.1.2, hk.2⟩⟩)⟩, ⟨by (with_reducible repeat (first | apply Kd.R_alloc | apply Kd.R_drewN | apply Kd.R_drew)); exact Kd.R_mono HO_17.out (fun _ hk => ⟨hk.1.1, ⟨hk.1.2, hk.2⟩⟩)⟩, ⟨by (with_reducible repeat (first | apply Kd.R_alloc | apply Kd.R_drewN | apply Kd.R_drew)); exact Kd.R_mono HO157.out (fun _ hk => ⟨hk.1.1.2, ⟨hk.1.2, hk.2⟩⟩)⟩, ⟨by repeat (first | (with_reducible first | exact HB.out | apply below_alloc | apply pw_below_drewN | apply below_drew1) | exact HB.out)⟩⟩
                                          · have H1 : (posthorselaw17_CodeJoins.j5 kj42 x7_1 x8_3 t147 (Int.tmod (wrap64 ((wrap64 ((Int.tmod a2 (wrap64 ((t147.length : Int) + 1))) + (t147.length : Int))) + 1)) (wrap64 ((t147.length : Int) + 1))) t154 true) = some r := by rw [if_neg (show ¬ (some q158).isNone = true by simp)] at H; exact H
                                            clear H
                                            have H := H1
                                            clear H1
                                            try simp only [errW_none, errW_some]
                                            as_aux_lemma =>
                                              have H' := Aside0.mk H
                                              clear H
                                              go_wp2
                                              repeat (go_quiet (fail); try go_wp2)
                                              go_meet
                                              case rel => exact ⟨_, (true), (by first | rfl | (simp; done) | (simp [*]; done)), H', ⟨by have := HK1.out; have := HJ6.out; have := HK3.out; have := HJ22.out; have := HJ42.out; first | omega | exact Nat.le_refl _⟩, ⟨by (with_reducible repeat (first | apply Kd.R_alloc | apply Kd.R_drewN | apply Kd.R_drew)); exact Kd.R_mono HO_7.out (fun _ hk => ⟨hk.1.1, ⟨hk.1.2, hk.2⟩⟩)⟩, ⟨by (with_reducible repeat (first | apply Kd.R_alloc | apply Kd.R_drewN | apply Kd.R_drew)); exact Kd.R_mono HO_8.out (fun _ hk => ⟨hk.1.1, ⟨hk.1.2, hk.2⟩⟩)⟩, ⟨by (with_reducible repeat (first | apply Kd.R_alloc | apply Kd.R_drewN | apply Kd.R_drew)); exact Kd.R_mono HO_17.out (fun _ hk => ⟨hk.1.1, ⟨hk.1.2, hk.2⟩⟩)⟩, ⟨by (with_reducible repeat (first | apply Kd.R_alloc | apply Kd.R_drewN | apply Kd.R_drew)); exact Kd.R_mono HO157.out (fun _ hk => ⟨hk.1.1.2, ⟨hk.1.2, hk.2⟩⟩)⟩, ⟨by repeat (first | (with_reducible first | exact HB.out | apply below_alloc | apply pw_below_drewN | apply below_drew1) | exact HB.out)⟩⟩
                                        case rest =>
                                          clear HC57
                                          try clear c1
                                          try clear p1
                                          try clear q1
                                          try clear hx1
                                          try clear c2
                                          try clear p2
                                          try clear c3
                                          try clear c4
                                          try clear c5
                                          try clear c6
                                          try clear p6
                                          try clear c8
                                          try clear c8b0
                                          try clear c9
                                          try clear c10
                                          try clear c10b0
                                          try clear c11
                                          try clear c11b0
                                          try clear c13
                                          try clear p13
                                          try clear q13
                                          try clear hx13
                                          try clear c14
                                          try clear q15
                                          try clear c24
                                          try clear c24b0
                                          try clear c25
                                          try clear c26
                                          try clear c26b0
                                          try clear c27
                                          try clear c27b0
                                          try clear c29
                                          try clear c30
                                          try clear c41
                                          try clear c41b0
                                          try clear c41b1
                                          try clear c41b2
                                          try clear c50
                                          try clear c51
                                          try clear c51b0
                                          try clear c51b1
                                          try clear c52
                                          try clear c52b0
                                          try clear c52b1
                                          try clear c52b2
                                          try clear c54
                                          try clear c54b0
                                          try clear c54b1
                                          try clear c55
                                          try clear c55b0
                                          try clear c55b1
                                          try clear hcz16_0
                                          try clear hcz16_1
                                          try clear hcz16_2
                                          try clear hcz16_3
                                          try clear hcz18_0
                                          try clear hcz18_1
                                          try clear hcz18_2
                                          try clear hcz18_3
                                          try clear hcz21_0
                                          try clear hcz21_1
                                          try clear hcz21_2
                                          try clear hcz21_3
                                          try clear hcz32_0
                                          try clear hcz32_1
                                          try clear hcz32_2
                                          try clear hcz32_3
                                          try clear hcz34_0
                                          try clear hcz34_1
                                          try clear hcz34_2
                                          try clear hcz34_3
                                          try clear hcz37_0
                                          try clear hcz37_1
                                          try clear hcz37_2
                                          try clear hcz37_3
                                          try clear hfz16_0
                                          try clear hfz16_1
                                          try clear hfz16_2
                                          try clear hfz16_3
                                          try clear hfz18_0
                                          try clear hfz18_1
                                          try clear hfz18_2
                                          try clear hfz18_3
                                          try clear hfz21_0
                                          try clear hfz21_1
                                          try clear hfz21_2
                                          try clear hfz21_3
                                          try clear hfz32_0
                                          try clear hfz32_1
                                          try clear hfz32_2
                                          try clear hfz32_3
                                          try clear hfz34_0
                                          try clear hfz34_1
                                          try clear hfz34_2
                                          try clear hfz34_3
                                          try clear hfz37_0
                                          try clear hfz37_1
                                          try clear hfz37_2
                                          try clear hfz37_3
                                          try clear hx131_0
                                          try clear hx131_1
                                          try clear hx131_2
                                          try clear hx131_3
                                          try clear hx137_0
                                          try clear hx137_1
                                          try clear hx137_2
                                          try clear hx137_3
                                          try clear p1
                                          try clear p13
                                          try clear p131
                                          try clear p137
                                          try clear p2
                                          try clear p6
                                          try clear q1
                                          try clear q13
                                          try clear q131
                                          try clear q137
                                          try clear q15
                                          try clear q151
                                          try clear q152
                                          try clear q153
                                          try clear q158
                                          obtain ⟨kq, x132_56, rfl, HA, HJ56, HO_7, HO_8, HO_17, HO_20, HB⟩ := hcut
                                          cases kq with
                                          | zero => exact absurd HA.out (by simp [posthorselaw17_CodeJoins.j5])
                                          | succ kj56 =>
                                            have H := HA.out
                                            clear HA
                                            simp only [posthorselaw17_CodeJoins.j5] at H
                                            by_cases c61 : x132_56 = true
                                            · subst c61
                                              have H1 : (some false) = some r := by rw [if_pos rfl] at H; exact H
                                              clear H
                                              have H := H1
                                              clear H1
                                              as_aux_lemma =>
                                                obtain rfl := Option.some.inj H
                                                go_wp2
                                                repeat (go_quiet (fail); try go_wp2)
                                                go_ret
                                                exact ⟨by first | rfl | (simp [errW_none, errW_some] <;> rfl) | (simp only [← hji53]; first | rfl | (simp [errW_none, errW_some] <;> rfl)) | (simp [*, errW_none, errW_some] <;> rfl), by repeat (first | (with_reducible first | exact HB.out | apply below_alloc | apply pw_below_drewN | apply below_drew1) | exact HB.out)⟩
                                            · replace c61 := Bool.eq_false_iff.mpr c61
                                              subst c61
                                              have H1 : (posthorselaw17_CodeJoins.l2 kj56 x7_1 x8_3 t147 (Int.tmod (wrap64 ((wrap64 ((Int.tmod a2 (wrap64 ((t147.length : Int) + 1))) + (t147.length : Int))) + 1)) (wrap64 ((t147.length : Int) + 1))) t154 0) = some r := by rw [if_neg (show ¬ (false = true) by decide)] at H; exact H
                                              clear H
                                              have H := H1
                                              clear H1
                                              have H' := Aside0.mk H
                                              clear H
                                              go_wp2
                                              repeat (go_quiet (fail); try go_wp2)
                                              go_loopg [22] kj56 (fun kq v22 w' => ∃ (x22_7 : Int), v22 = .int .i64 x22_7 ∧ Aside0 (posthorselaw17_CodeJoins.l2 kq x7_1 x8_3 t147 (Int.tmod (wrap64 ((wrap64 ((Int.tmod a2 (wrap64 ((t147.length : Int) + 1))) + (t147.length : Int))) + 1)) (wrap64 ((t147.length : Int) + 1))) t154 x22_7 = some r) ∧ Aside0 (kq ≤ kj56) ∧ Aside0 (Kd.R k40 40 w' w.heap.size (fun k_ => some k_ ≠ ((.slice Ao46 x8_3.length co46) : Value).ownBlock ∧ some k_ ≠ ((.slice Ao58 t147.length co58) : Value).ownBlock ∧ some k_ ≠ (v156 : Value).ownBlock) (.slice Ao44 x7_1.length co44) x7_1) ∧ Aside0 (Kd.R k40 40 w' w.heap.size (fun k_ => some k_ ≠ ((.slice Ao44 x7_1.length co44) : Value).ownBlock ∧ some k_ ≠ ((.slice Ao58 t147.length co58) : Value).ownBlock ∧ some k_ ≠ (v156 : Value).ownBlock) (.slice Ao46 x8_3.length co46) x8_3) ∧ Aside0 (Kd.R k40 40 w' w.heap.size (fun k_ => some k_ ≠ ((.slice Ao44 x7_1.length co44) : Value).ownBlock ∧ some k_ ≠ ((.slice Ao46 x8_3.length co46) : Value).ownBlock ∧ some k_ ≠ (v156 : Value).ownBlock) (.slice Ao58 t147.length co58) t147) ∧ Aside0 (Kd.R k40 40 w' w.heap.size (fun k_ => some k_ ≠ ((.slice Ao44 x7_1.length co44) : Value).ownBlock ∧ some k_ ≠ ((.slice Ao46 x8_3.length co46) : Value).ownBlock ∧ some k_ ≠ ((.slice Ao58 t147.length co58) : Value).ownBlock) v156 t154) ∧ Aside0 (Below w.heap.size w w'))
                                              case atStart => exact ⟨(0), (by first | rfl | (simp; done) | (simp [*]; done)), H', ⟨Nat.le_refl _⟩, ⟨by (with_reducible repeat (first | apply Kd.R_alloc | apply Kd.R_drewN | apply Kd.R_drew)); exact HO_7.out⟩, ⟨by (with_reducible repeat (first | apply Kd.R_alloc | apply Kd.R_drewN | apply Kd.R_drew)); exact HO_8.out⟩, ⟨by (with_reducible repeat (first | apply Kd.R_alloc | apply Kd.R_drewN | apply Kd.R_drew)); exact HO_17.out⟩, ⟨by (with_reducible repeat (first | apply Kd.R_alloc | apply Kd.R_drewN | apply Kd.R_drew)); exact HO_20.out⟩, ⟨by repeat (first | (with_reducible first | exact HB.out | apply below_alloc | apply pw_below_drewN | apply below_drew1) | exact HB.out)⟩⟩
                                              case round =>
                                                as_aux_lemma =>
                                                clear H'
                                                try clear c1
                                                try clear p1
                                                try clear q1
                                                try clear hx1
                                                try clear c2
                                                try clear p2
                                                try clear c3
                                                try clear c4
                                                try clear c5
                                                try clear c6
                                                try clear p6
                                                try clear c8
                                                try clear c8b0
                                                try clear c9
                                                try clear c10
                                                try clear c10b0
                                                try clear c11
                                                try clear c11b0
                                                try clear c13
                                                try clear p13
                                                try clear q13
                                                try clear hx13
                                                try clear c14
                                                try clear q15
                                                try clear c24
                                                try clear c24b0
                                                try clear c25
                                                try clear c26
                                                try clear c26b0
                                                try clear c27
                                                try clear c27b0
                                                try clear c29
                                                try clear c30
                                                try clear c41
                                                try clear c41b0
                                                try clear c41b1
                                                try clear c41b2
                                                try clear c50
                                                try clear c51
                                                try clear c51b0
                                                try clear c51b1
                                                try clear c52
                                                try clear c52b0
                                                try clear c52b1
                                                try clear c52b2
                                                try clear c54
                                                try clear c54b0
                                                try clear c54b1
                                                try clear c55
                                                try clear c55b0
                                                try clear c55b1
                                                try clear c61
                                                try clear hcz16_0
                                                try clear hcz16_1
                                                try clear hcz16_2
                                                try clear hcz16_3
                                                try clear hcz18_0
                                                try clear hcz18_1
                                                try clear hcz18_2
                                                try clear hcz18_3
                                                try clear hcz21_0
                                                try clear hcz21_1
                                                try clear hcz21_2
                                                try clear hcz21_3
                                                try clear hcz32_0
                                                try clear hcz32_1
                                                try clear hcz32_2
                                                try clear hcz32_3
                                                try clear hcz34_0
                                                try clear hcz34_1
                                                try clear hcz34_2
                                                try clear hcz34_3
                                                try clear hcz37_0
                                                try clear hcz37_1
                                                try clear hcz37_2
                                                try clear hcz37_3
                                                try clear hfz16_0
                                                try clear hfz16_1
                                                try clear hfz16_2
                                                try clear hfz16_3
                                                try clear hfz18_0
                                                try clear hfz18_1
                                                try clear hfz18_2
                                                try clear hfz18_3
                                                try clear hfz21_0
                                                try clear hfz21_1
                                                try clear hfz21_2
                                                try clear hfz21_3
                                                try clear hfz32_0
                                                try clear hfz32_1
                                                try clear hfz32_2
                                                try clear hfz32_3
                                                try clear hfz34_0
                                                try clear hfz34_1
                                                try clear hfz34_2
                                                try clear hfz34_3
                                                try clear hfz37_0
                                                try clear hfz37_1
                                                try clear hfz37_2
                                                try clear hfz37_3
                                                try clear hx131_0
                                                try clear hx131_1
                                                try clear hx131_2
                                                try clear hx131_3
                                                try clear hx137_0
                                                try clear hx137_1
                                                try clear hx137_2
                                                try clear hx137_3
                                                try clear p1
                                                try clear p13
                                                try clear p131
                                                try clear p137
                                                try clear p2
                                                try clear p6
                                                try clear q1
                                                try clear q13
                                                try clear q131
                                                try clear q137
                                                try clear q15
                                                try clear q151
                                                try clear q152
                                                try clear q153
                                                try clear q158
                                                obtain ⟨x22_7, rfl, HA, HK7, HO_7, HO_8, HO_17, HO_20, HB⟩ := hrel
                                                cases gk with
                                                | zero => exact absurd HA.out (by simp [posthorselaw17_CodeJoins.l2])
                                                | succ k7 =>
                                                  have H := HA.out
                                                  clear HA
                                                  simp only [posthorselaw17_CodeJoins.l2] at H
                                                  by_cases c62 : x22_7 < (t147.length : Int)
                                                  · rw [if_pos c62] at H
                                                    have c62b0 : decide (x22_7 < (t147.length : Int)) = true := decide_eq_true c62
                                                    clear c62
                                                    by_cases c63 : x22_7 < (x7_1.length : Int)
                                                    · rw [if_pos c63] at H
                                                      have c63b0 : decide (x22_7 < (x7_1.length : Int)) = true := decide_eq_true c63
                                                      clear c63
                                                      by_cases c64 : 0 ≤ x22_7
                                                      · rw [if_pos c64] at H
                                                        have c64b0 : decide (0 ≤ x22_7) = true := decide_eq_true c64
                                                        clear c64
                                                        by_cases c65 : (!(((rd_T40 t147 x22_7).f0) == ((rd_T40 x7_1 x22_7).f0)) || (!(((rd_T40 t147 x22_7).f1) == ((rd_T40 x7_1 x22_7).f1)) || (!(((rd_T40 t147 x22_7).f2) == ((rd_T40 x7_1 x22_7).f2)) || (!(((rd_T40 t147 x22_7).f3) == ((rd_T40 x7_1 x22_7).f3)))))) = true
                                                        · rw [if_pos c65] at H
                                                          have c65b0 : (!(((rd_T40 t147 x22_7).f0) == ((rd_T40 x7_1 x22_7).f0)) || (!(((rd_T40 t147 x22_7).f1) == ((rd_T40 x7_1 x22_7).f1)) || (!(((rd_T40 t147 x22_7).f2) == ((rd_T40 x7_1 x22_7).f2)) || (!(((rd_T40 t147 x22_7).f3) == ((rd_T40 x7_1 x22_7).f3)))))) = true := c65
                                                          clear c65
                                                          as_aux_lemma =>
                                                            obtain rfl := Option.some.inj H
                                                            have p159 : 0 ≤ (x22_7 : Int) := of_decide_eq_true (by first | (with_reducible assumption) | assumption)
                                                            have q159 : x22_7 < (t147.length : Int) := of_decide_eq_true (by first | (with_reducible assumption) | assumption)
                                                            obtain ⟨ad159, e159, hx159_0, hx159_1, hx159_2, hx159_3⟩ := at_T40 (Kd.R_reads' HO_17.out).2.2 x22_7 p159 q159
                                                            cases e159
                                                            replace p159 := eq_true p159
                                                            replace q159 := eq_true q159
                                                            have p160 : 0 ≤ (x22_7 : Int) := of_decide_eq_true (by first | (with_reducible assumption) | assumption)
                                                            have q160 : x22_7 < (x7_1.length : Int) := of_decide_eq_true (by first | (with_reducible assumption) | assumption)
                                                            obtain ⟨ad160, e160, hx160_0, hx160_1, hx160_2, hx160_3⟩ := at_T40 (Kd.R_reads' HO_7.out).2.2 x22_7 p160 q160
                                                            cases e160
                                                            replace p160 := eq_true p160
                                                            replace q160 := eq_true q160
                                                            go_wp2
                                                            repeat (go_quiet (fail); try go_wp2)
                                                            go_ret
                                                            exact ⟨by first | rfl | (simp [errW_none, errW_some] <;> rfl) | (simp only [← hji53]; first | rfl | (simp [errW_none, errW_some] <;> rfl)) | (simp [*, errW_none, errW_some] <;> rfl), by repeat (first | (with_reducible first | exact HB.out | apply below_alloc | apply pw_below_drewN | apply below_drew1) | exact HB.out)⟩
                                                        · rw [if_neg c65] at H
                                                          have c65b0 : (!(((rd_T40 t147 x22_7).f0) == ((rd_T40 x7_1 x22_7).f0)) || (!(((rd_T40 t147 x22_7).f1) == ((rd_T40 x7_1 x22_7).f1)) || (!(((rd_T40 t147 x22_7).f2) == ((rd_T40 x7_1 x22_7).f2)) || (!(((rd_T40 t147 x22_7).f3) == ((rd_T40 x7_1 x22_7).f3)))))) = false := by simpa using c65
                                                          clear c65
                                                          by_cases c66 : x22_7 ≥ (x7_1.length : Int)
                                                          · rw [if_pos c66] at H
                                                            have c66b0 : decide ((x7_1.length : Int) ≤ x22_7) = true := decide_eq_true c66
                                                            clear c66
                                                            obtain ⟨ji67, hji67⟩ : ∃ j_ : Int, (wrap64 (x22_7 - (x7_1.length : Int))) = j_ := ⟨_, rfl⟩
                                                            replace H : (if 0 ≤ (ji67) then (if (ji67) < (x8_3.length : Int) then (if (!(((rd_T40 t147 x22_7).f0) == ((rd_T40 x8_3 (ji67)).f0)) || (!(((rd_T40 t147 x22_7).f1) == ((rd_T40 x8_3 (ji67)).f1)) || (!(((rd_T40 t147 x22_7).f2) == ((rd_T40 x8_3 (ji67)).f2)) || (!(((rd_T40 t147 x22_7).f3) == ((rd_T40 x8_3 (ji67)).f3)))))) = true then (some false) else (if x22_7 < (Int.tmod (wrap64 ((wrap64 ((Int.tmod a2 (wrap64 ((t147.length : Int) + 1))) + (t147.length : Int))) + 1)) (wrap64 ((t147.length : Int) + 1))) then (if x22_7 < (t154.length : Int) then (if (!(((rd_T40 t154 x22_7).f0) == ((rd_T40 t147 x22_7).f0)) || (!(((rd_T40 t154 x22_7).f1) == ((rd_T40 t147 x22_7).f1)) || (!(((rd_T40 t154 x22_7).f2) == ((rd_T40 t147 x22_7).f2)) || (!(((rd_T40 t154 x22_7).f3) == ((rd_T40 t147 x22_7).f3)))))) = true then (some false) else (posthorselaw17_CodeJoins.l2 k7 x7_1 x8_3 t147 (Int.tmod (wrap64 ((wrap64 ((Int.tmod a2 (wrap64 ((t147.length : Int) + 1))) + (t147.length : Int))) + 1)) (wrap64 ((t147.length : Int) + 1))) t154 (wrap64 (x22_7 + 1)))) else (none)) else (posthorselaw17_CodeJoins.l2 k7 x7_1 x8_3 t147 (Int.tmod (wrap64 ((wrap64 ((Int.tmod a2 (wrap64 ((t147.length : Int) + 1))) + (t147.length : Int))) + 1)) (wrap64 ((t147.length : Int) + 1))) t154 (wrap64 (x22_7 + 1))))) else (none)) else (none)) = some r := by first | (rw [hji67] at H; exact H) | (simp only [hji67] at H ⊢; exact H)
                                                            have hji67w : (IntKind.i64.wrap (x22_7 - (x7_1.length : Int))) = ji67 := (i64_w _).trans hji67
                                                            by_cases c68 : 0 ≤ (ji67)
                                                            · rw [if_pos c68] at H
                                                              have c68b0 : decide (0 ≤ (ji67)) = true := decide_eq_true c68
                                                              clear c68
                                                              by_cases c69 : (ji67) < (x8_3.length : Int)
                                                              · rw [if_pos c69] at H
                                                                have c69b0 : decide ((ji67) < (x8_3.length : Int)) = true := decide_eq_true c69
                                                                clear c69
                                                                by_cases c70 : (!(((rd_T40 t147 x22_7).f0) == ((rd_T40 x8_3 (ji67)).f0)) || (!(((rd_T40 t147 x22_7).f1) == ((rd_T40 x8_3 (ji67)).f1)) || (!(((rd_T40 t147 x22_7).f2) == ((rd_T40 x8_3 (ji67)).f2)) || (!(((rd_T40 t147 x22_7).f3) == ((rd_T40 x8_3 (ji67)).f3)))))) = true
                                                                · rw [if_pos c70] at H
                                                                  have c70b0 : (!(((rd_T40 t147 x22_7).f0) == ((rd_T40 x8_3 (ji67)).f0)) || (!(((rd_T40 t147 x22_7).f1) == ((rd_T40 x8_3 (ji67)).f1)) || (!(((rd_T40 t147 x22_7).f2) == ((rd_T40 x8_3 (ji67)).f2)) || (!(((rd_T40 t147 x22_7).f3) == ((rd_T40 x8_3 (ji67)).f3)))))) = true := c70
                                                                  clear c70
                                                                  as_aux_lemma =>
                                                                    obtain rfl := Option.some.inj H
                                                                    have p159 : 0 ≤ (x22_7 : Int) := of_decide_eq_true (by first | (with_reducible assumption) | assumption)
                                                                    have q159 : x22_7 < (t147.length : Int) := of_decide_eq_true (by first | (with_reducible assumption) | assumption)
                                                                    obtain ⟨ad159, e159, hx159_0, hx159_1, hx159_2, hx159_3⟩ := at_T40 (Kd.R_reads' HO_17.out).2.2 x22_7 p159 q159
                                                                    cases e159
                                                                    replace p159 := eq_true p159
                                                                    replace q159 := eq_true q159
                                                                    have p160 : 0 ≤ (x22_7 : Int) := of_decide_eq_true (by first | (with_reducible assumption) | assumption)
                                                                    have q160 : x22_7 < (x7_1.length : Int) := of_decide_eq_true (by first | (with_reducible assumption) | assumption)
                                                                    obtain ⟨ad160, e160, hx160_0, hx160_1, hx160_2, hx160_3⟩ := at_T40 (Kd.R_reads' HO_7.out).2.2 x22_7 p160 q160
                                                                    cases e160
                                                                    replace p160 := eq_true p160
                                                                    replace q160 := eq_true q160
                                                                    have p161 : 0 ≤ (x22_7 : Int) := of_decide_eq_true (by first | (with_reducible assumption) | assumption)
                                                                    have q161 : x22_7 < (t147.length : Int) := of_decide_eq_true (by first | (with_reducible assumption) | assumption)
                                                                    obtain ⟨ad161, e161, hx161_0, hx161_1, hx161_2, hx161_3⟩ := at_T40 (Kd.R_reads' HO_17.out).2.2 x22_7 p161 q161
                                                                    obtain rfl : ad159 = ad161 := (by injection e161)
                                                                    replace p161 := eq_true p161
                                                                    replace q161 := eq_true q161
                                                                    have p162 : 0 ≤ ((ji67) : Int) := of_decide_eq_true (by first | (with_reducible assumption) | assumption)
                                                                    have q162 : (ji67) < (x8_3.length : Int) := of_decide_eq_true (by first | (with_reducible assumption) | assumption)
                                                                    obtain ⟨ad162, e162, hx162_0, hx162_1, hx162_2, hx162_3⟩ := at_T40 (Kd.R_reads' HO_8.out).2.2 (ji67) p162 q162
                                                                    cases e162
                                                                    replace p162 := eq_true p162
                                                                    replace q162 := eq_true q162
                                                                    go_wp2
                                                                    repeat (go_quiet (fail); try go_wp2)
                                                                    go_ret
                                                                    exact ⟨by first | rfl | (simp [errW_none, errW_some] <;> rfl) | (simp only [← hji53, ← hji67]; first | rfl | (simp [errW_none, errW_some] <;> rfl)) | (simp [*, errW_none, errW_some] <;> rfl), by repeat (first | (with_reducible first | exact HB.out | apply below_alloc | apply pw_below_drewN | apply below_drew1) | exact HB.out)⟩
                                                                · rw [if_neg c70] at H
                                                                  have c70b0 : (!(((rd_T40 t147 x22_7).f0) == ((rd_T40 x8_3 (ji67)).f0)) || (!(((rd_T40 t147 x22_7).f1) == ((rd_T40 x8_3 (ji67)).f1)) || (!(((rd_T40 t147 x22_7).f2) == ((rd_T40 x8_3 (ji67)).f2)) || (!(((rd_T40 t147 x22_7).f3) == ((rd_T40 x8_3 (ji67)).f3)))))) = false := by simpa using c70
                                                                  clear c70
                                                                  by_cases c71 : x22_7 < (Int.tmod (wrap64 ((wrap64 ((Int.tmod a2 (wrap64 ((t147.length : Int) + 1))) + (t147.length : Int))) + 1)) (wrap64 ((t147.length : Int) + 1)))
                                                                  · rw [if_pos c71] at H
                                                                    have c71b0 : decide (x22_7 < (Int.tmod (wrap64 ((wrap64 ((Int.tmod a2 (wrap64 ((t147.length : Int) + 1))) + (t147.length : Int))) + 1)) (wrap64 ((t147.length : Int) + 1)))) = true := decide_eq_true c71
                                                                    clear c71
                                                                    by_cases c72 : x22_7 < (t154.length : Int)
                                                                    · rw [if_pos c72] at H
                                                                      have c72b0 : decide (x22_7 < (t154.length : Int)) = true := decide_eq_true c72
                                                                      clear c72
                                                                      by_cases c73 : (!(((rd_T40 t154 x22_7).f0) == ((rd_T40 t147 x22_7).f0)) || (!(((rd_T40 t154 x22_7).f1) == ((rd_T40 t147 x22_7).f1)) || (!(((rd_T40 t154 x22_7).f2) == ((rd_T40 t147 x22_7).f2)) || (!(((rd_T40 t154 x22_7).f3) == ((rd_T40 t147 x22_7).f3)))))) = true
                                                                      · rw [if_pos c73] at H
                                                                        have c73b0 : (!(((rd_T40 t154 x22_7).f0) == ((rd_T40 t147 x22_7).f0)) || (!(((rd_T40 t154 x22_7).f1) == ((rd_T40 t147 x22_7).f1)) || (!(((rd_T40 t154 x22_7).f2) == ((rd_T40 t147 x22_7).f2)) || (!(((rd_T40 t154 x22_7).f3) == ((rd_T40 t147 x22_7).f3)))))) = true := c73
                                                                        clear c73
                                                                        as_aux_lemma =>
                                                                          obtain rfl := Option.some.inj H
                                                                          have p159 : 0 ≤ (x22_7 : Int) := of_decide_eq_true (by first | (with_reducible assumption) | assumption)
                                                                          have q159 : x22_7 < (t147.length : Int) := of_decide_eq_true (by first | (with_reducible assumption) | assumption)
                                                                          obtain ⟨ad159, e159, hx159_0, hx159_1, hx159_2, hx159_3⟩ := at_T40 (Kd.R_reads' HO_17.out).2.2 x22_7 p159 q159
                                                                          cases e159
                                                                          replace p159 := eq_true p159
                                                                          replace q159 := eq_true q159
                                                                          have p160 : 0 ≤ (x22_7 : Int) := of_decide_eq_true (by first | (with_reducible assumption) | assumption)
                                                                          have q160 : x22_7 < (x7_1.length : Int) := of_decide_eq_true (by first | (with_reducible assumption) | assumption)
                                                                          obtain ⟨ad160, e160, hx160_0, hx160_1, hx160_2, hx160_3⟩ := at_T40 (Kd.R_reads' HO_7.out).2.2 x22_7 p160 q160
                                                                          cases e160
                                                                          replace p160 := eq_true p160
                                                                          replace q160 := eq_true q160
                                                                          have p161 : 0 ≤ (x22_7 : Int) := of_decide_eq_true (by first | (with_reducible assumption) | assumption)
                                                                          have q161 : x22_7 < (t147.length : Int) := of_decide_eq_true (by first | (with_reducible assumption) | assumption)
                                                                          obtain ⟨ad161, e161, hx161_0, hx161_1, hx161_2, hx161_3⟩ := at_T40 (Kd.R_reads' HO_17.out).2.2 x22_7 p161 q161
                                                                          obtain rfl : ad159 = ad161 := (by injection e161)
                                                                          replace p161 := eq_true p161
                                                                          replace q161 := eq_true q161
                                                                          have p162 : 0 ≤ ((ji67) : Int) := of_decide_eq_true (by first | (with_reducible assumption) | assumption)
                                                                          have q162 : (ji67) < (x8_3.length : Int) := of_decide_eq_true (by first | (with_reducible assumption) | assumption)
                                                                          obtain ⟨ad162, e162, hx162_0, hx162_1, hx162_2, hx162_3⟩ := at_T40 (Kd.R_reads' HO_8.out).2.2 (ji67) p162 q162
                                                                          cases e162
                                                                          replace p162 := eq_true p162
                                                                          replace q162 := eq_true q162
                                                                          obtain ⟨Ao74, co74, eo74⟩ := Kd.R_slice HO_20.out
                                                                          subst eo74
                                                                          have p163 : 0 ≤ (x22_7 : Int) := of_decide_eq_true (by first | (with_reducible assumption) | assumption)
                                                                          have q163 : x22_7 < (t154.length : Int) := of_decide_eq_true (by first | (with_reducible assumption) | assumption)
                                                                          obtain ⟨ad163, e163, hx163_0, hx163_1, hx163_2, hx163_3⟩ := at_T40 (Kd.R_reads' HO_20.out).2.2 x22_7 p163 q163
                                                                          cases e163
                                                                          replace p163 := eq_true p163
                                                                          replace q163 := eq_true q163
                                                                          have p164 : 0 ≤ (x22_7 : Int) := of_decide_eq_true (by first | (with_reducible assumption) | assumption)
                                                                          have q164 : x22_7 < (t147.length : Int) := of_decide_eq_true (by first | (with_reducible assumption) | assumption)
                                                                          obtain ⟨ad164, e164, hx164_0, hx164_1, hx164_2, hx164_3⟩ := at_T40 (Kd.R_reads' HO_17.out).2.2 x22_7 p164 q164
                                                                          obtain rfl : ad159 = ad164 := (by injection e164)
                                                                          replace p164 := eq_true p164
                                                                          replace q164 := eq_true q164
                                                                          go_wp2
                                                                          repeat (go_quiet (fail); try go_wp2)
                                                                          go_ret
                                                                          exact ⟨by first | rfl | (simp [errW_none, errW_some] <;> rfl) | (simp only [← hji53, ← hji67]; first | rfl | (simp [errW_none, errW_some] <;> rfl)) | (simp [*, errW_none, errW_some] <;> rfl), by repeat (first | (with_reducible first | exact HB.out | apply below_alloc | apply pw_below_drewN | apply below_drew1) | exact HB.out)⟩
                                                                      · rw [if_neg c73] at H
                                                                        have c73b0 : (!(((rd_T40 t154 x22_7).f0) == ((rd_T40 t147 x22_7).f0)) || (!(((rd_T40 t154 x22_7).f1) == ((rd_T40 t147 x22_7).f1)) || (!(((rd_T40 t154 x22_7).f2) == ((rd_T40 t147 x22_7).f2)) || (!(((rd_T40 t154 x22_7).f3) == ((rd_T40 t147 x22_7).f3)))))) = false := by simpa using c73
                                                                        clear c73
                                                                        as_aux_lemma =>
                                                                          have H' := Aside0.mk H
                                                                          clear H
                                                                          have p159 : 0 ≤ (x22_7 : Int) := of_decide_eq_true (by first | (with_reducible assumption) | assumption)
                                                                          have q159 : x22_7 < (t147.length : Int) := of_decide_eq_true (by first | (with_reducible assumption) | assumption)
                                                                          obtain ⟨ad159, e159, hx159_0, hx159_1, hx159_2, hx159_3⟩ := at_T40 (Kd.R_reads' HO_17.out).2.2 x22_7 p159 q159
                                                                          cases e159
                                                                          replace p159 := eq_true p159
                                                                          replace q159 := eq_true q159
                                                                          have p160 : 0 ≤ (x22_7 : Int) := of_decide_eq_true (by first | (with_reducible assumption) | assumption)
                                                                          have q160 : x22_7 < (x7_1.length : Int) := of_decide_eq_true (by first | (with_reducible assumption) | assumption)
                                                                          obtain ⟨ad160, e160, hx160_0, hx160_1, hx160_2, hx160_3⟩ := at_T40 (Kd.R_reads' HO_7.out).2.2 x22_7 p160 q160
                                                                          cases e160
                                                                          replace p160 := eq_true p160
                                                                          replace q160 := eq_true q160
                                                                          have p161 : 0 ≤ (x22_7 : Int) := of_decide_eq_true (by first | (with_reducible assumption) | assumption)
                                                                          have q161 : x22_7 < (t147.length : Int) := of_decide_eq_true (by first | (with_reducible assumption) | assumption)
                                                                          obtain ⟨ad161, e161, hx161_0, hx161_1, hx161_2, hx161_3⟩ := at_T40 (Kd.R_reads' HO_17.out).2.2 x22_7 p161 q161
                                                                          obtain rfl : ad159 = ad161 := (by injection e161)
                                                                          replace p161 := eq_true p161
                                                                          replace q161 := eq_true q161
                                                                          have p162 : 0 ≤ ((ji67) : Int) := of_decide_eq_true (by first | (with_reducible assumption) | assumption)
                                                                          have q162 : (ji67) < (x8_3.length : Int) := of_decide_eq_true (by first | (with_reducible assumption) | assumption)
                                                                          obtain ⟨ad162, e162, hx162_0, hx162_1, hx162_2, hx162_3⟩ := at_T40 (Kd.R_reads' HO_8.out).2.2 (ji67) p162 q162
                                                                          cases e162
                                                                          replace p162 := eq_true p162
                                                                          replace q162 := eq_true q162
                                                                          obtain ⟨Ao75, co75, eo75⟩ := Kd.R_slice HO_20.out
                                                                          subst eo75
                                                                          have p163 : 0 ≤ (x22_7 : Int) := of_decide_eq_true (by first | (with_reducible assumption) | assumption)
                                                                          have q163 : x22_7 < (t154.length : Int) := of_decide_eq_true (by first | (with_reducible assumption) | assumption)
                                                                          obtain ⟨ad163, e163, hx163_0, hx163_1, hx163_2, hx163_3⟩ := at_T40 (Kd.R_reads' HO_20.out).2.2 x22_7 p163 q163
                                                                          cases e163
                                                                          replace p163 := eq_true p163
                                                                          replace q163 := eq_true q163
                                                                          have p164 : 0 ≤ (x22_7 : Int) := of_decide_eq_true (by first | (with_reducible assumption) | assumption)
                                                                          have q164 : x22_7 < (t147.length : Int) := of_decide_eq_true (by first | (with_reducible assumption) | assumption)
                                                                          obtain ⟨ad164, e164, hx164_0, hx164_1, hx164_2, hx164_3⟩ := at_T40 (Kd.R_reads' HO_17.out).2.2 x22_7 p164 q164
                                                                          obtain rfl : ad159 = ad164 := (by injection e164)
                                                                          replace p164 := eq_true p164
                                                                          replace q164 := eq_true q164
                                                                          go_wp2
                                                                          repeat (go_quiet (fail); try go_wp2)
                                                                          go_roundg k7
                                                                          case measure => have := HK1.out; have := HJ6.out; have := HK3.out; have := HJ22.out; have := HJ42.out; have := HJ56.out; have := HK7.out; omega
                                                                          case rel => exact ⟨(wrap64 (x22_7 + 1)), (by first | rfl | (simp; done) | (simp [*]; done)), H', ⟨by have := HK1.out; have := HJ6.out; have := HK3.out; have := HJ22.out; have := HJ42.out; have := HJ56.out; have := HK7.out; omega⟩, ⟨by (with_reducible repeat (first | apply Kd.R_alloc | apply Kd.R_drewN | apply Kd.R_drew)); exact HO_7.out⟩, ⟨by (with_reducible repeat (first | apply Kd.R_alloc | apply Kd.R_drewN | apply Kd.R_drew)); exact HO_8.out⟩, ⟨by (with_reducible repeat (first | apply Kd.R_alloc | apply Kd.R_drewN | apply Kd.R_drew)); exact HO_17.out⟩, ⟨by (with_reducible repeat (first | apply Kd.R_alloc | apply Kd.R_drewN | apply Kd.R_drew)); exact HO_20.out⟩, ⟨by repeat (first | (with_reducible first | exact HB.out | apply below_alloc | apply pw_below_drewN | apply below_drew1) | exact HB.out)⟩⟩
                                                                    · rw [if_neg c72] at H
                                                                      exact absurd H (by simp)
                                                                  · rw [if_neg c71] at H
                                                                    have c71b0 : decide (x22_7 < (Int.tmod (wrap64 ((wrap64 ((Int.tmod a2 (wrap64 ((t147.length : Int) + 1))) + (t147.length : Int))) + 1)) (wrap64 ((t147.length : Int) + 1)))) = false := decide_eq_false c71
                                                                    clear c71
                                                                    as_aux_lemma =>
                                                                      have H' := Aside0.mk H
                                                                      clear H
                                                                      have p159 : 0 ≤ (x22_7 : Int) := of_decide_eq_true (by first | (with_reducible assumption) | assumption)
                                                                      have q159 : x22_7 < (t147.length : Int) := of_decide_eq_true (by first | (with_reducible assumption) | assumption)
                                                                      obtain ⟨ad159, e159, hx159_0, hx159_1, hx159_2, hx159_3⟩ := at_T40 (Kd.R_reads' HO_17.out).2.2 x22_7 p159 q159
                                                                      cases e159
                                                                      replace p159 := eq_true p159
                                                                      replace q159 := eq_true q159
                                                                      have p160 : 0 ≤ (x22_7 : Int) := of_decide_eq_true (by first | (with_reducible assumption) | assumption)
                                                                      have q160 : x22_7 < (x7_1.length : Int) := of_decide_eq_true (by first | (with_reducible assumption) | assumption)
                                                                      obtain ⟨ad160, e160, hx160_0, hx160_1, hx160_2, hx160_3⟩ := at_T40 (Kd.R_reads' HO_7.out).2.2 x22_7 p160 q160
                                                                      cases e160
                                                                      replace p160 := eq_true p160
                                                                      replace q160 := eq_true q160
                                                                      have p161 : 0 ≤ (x22_7 : Int) := of_decide_eq_true (by first | (with_reducible assumption) | assumption)
                                                                      have q161 : x22_7 < (t147.length : Int) := of_decide_eq_true (by first | (with_reducible assumption) | assumption)
                                                                      obtain ⟨ad161, e161, hx161_0, hx161_1, hx161_2, hx161_3⟩ := at_T40 (Kd.R_reads' HO_17.out).2.2 x22_7 p161 q161
                                                                      obtain rfl : ad159 = ad161 := (by injection e161)
                                                                      replace p161 := eq_true p161
                                                                      replace q161 := eq_true q161
                                                                      have p162 : 0 ≤ ((ji67) : Int) := of_decide_eq_true (by first | (with_reducible assumption) | assumption)
                                                                      have q162 : (ji67) < (x8_3.length : Int) := of_decide_eq_true (by first | (with_reducible assumption) | assumption)
                                                                      obtain ⟨ad162, e162, hx162_0, hx162_1, hx162_2, hx162_3⟩ := at_T40 (Kd.R_reads' HO_8.out).2.2 (ji67) p162 q162
                                                                      cases e162
                                                                      replace p162 := eq_true p162
                                                                      replace q162 := eq_true q162
                                                                      go_wp2
                                                                      repeat (go_quiet (fail); try go_wp2)
                                                                      go_roundg k7
                                                                      case measure => have := HK1.out; have := HJ6.out; have := HK3.out; have := HJ22.out; have := HJ42.out; have := HJ56.out; have := HK7.out; omega
                                                                      case rel => exact ⟨(wrap64 (x22_7 + 1)), (by first | rfl | (simp; done) | (simp [*]; done)), H', ⟨by have := HK1.out; have := HJ6.out; have := HK3.out; have := HJ22.out; have := HJ42.out; have := HJ56.out; have := HK7.out; omega⟩, ⟨by (with_reducible repeat (first | apply Kd.R_alloc | apply Kd.R_drewN | apply Kd.R_drew)); exact HO_7.out⟩, ⟨by (with_reducible repeat (first | apply Kd.R_alloc | apply Kd.R_drewN | apply Kd.R_drew)); exact HO_8.out⟩, ⟨by (with_reducible repeat (first | apply Kd.R_alloc | apply Kd.R_drewN | apply Kd.R_drew)); exact HO_17.out⟩, ⟨by (with_reducible repeat (first | apply Kd.R_alloc | apply Kd.R_drewN | apply Kd.R_drew)); exact HO_20.out⟩, ⟨by repeat (first | (with_reducible first | exact HB.out | apply below_alloc | apply pw_below_drewN | apply below_drew1) | exact HB.out)⟩⟩
                                                              · rw [if_neg c69] at H
                                                                exact absurd H (by simp)
                                                            · rw [if_neg c68] at H
                                                              exact absurd H (by simp)
                                                          · rw [if_neg c66] at H
                                                            have c66b0 : decide ((x7_1.length : Int) ≤ x22_7) = false := decide_eq_false c66
                                                            clear c66
                                                            by_cases c76 : x22_7 < (Int.tmod (wrap64 ((wrap64 ((Int.tmod a2 (wrap64 ((t147.length : Int) + 1))) + (t147.length : Int))) + 1)) (wrap64 ((t147.length : Int) + 1)))
                                                            · rw [if_pos c76] at H
                                                              have c76b0 : decide (x22_7 < (Int.tmod (wrap64 ((wrap64 ((Int.tmod a2 (wrap64 ((t147.length : Int) + 1))) + (t147.length : Int))) + 1)) (wrap64 ((t147.length : Int) + 1)))) = true := decide_eq_true c76
                                                              clear c76
                                                              by_cases c77 : x22_7 < (t154.length : Int)
                                                              · rw [if_pos c77] at H
                                                                have c77b0 : decide (x22_7 < (t154.length : Int)) = true := decide_eq_true c77
                                                                clear c77
                                                                by_cases c78 : (!(((rd_T40 t154 x22_7).f0) == ((rd_T40 t147 x22_7).f0)) || (!(((rd_T40 t154 x22_7).f1) == ((rd_T40 t147 x22_7).f1)) || (!(((rd_T40 t154 x22_7).f2) == ((rd_T40 t147 x22_7).f2)) || (!(((rd_T40 t154 x22_7).f3) == ((rd_T40 t147 x22_7).f3)))))) = true
                                                                · rw [if_pos c78] at H
                                                                  have c78b0 : (!(((rd_T40 t154 x22_7).f0) == ((rd_T40 t147 x22_7).f0)) || (!(((rd_T40 t154 x22_7).f1) == ((rd_T40 t147 x22_7).f1)) || (!(((rd_T40 t154 x22_7).f2) == ((rd_T40 t147 x22_7).f2)) || (!(((rd_T40 t154 x22_7).f3) == ((rd_T40 t147 x22_7).f3)))))) = true := c78
                                                                  clear c78
                                                                  as_aux_lemma =>
                                                                    obtain rfl := Option.some.inj H
                                                                    have p159 : 0 ≤ (x22_7 : Int) := of_decide_eq_true (by first | (with_reducible assumption) | assumption)
                                                                    have q159 : x22_7 < (t147.length : Int) := of_decide_eq_true (by first | (with_reducible assumption) | assumption)
                                                                    obtain ⟨ad159, e159, hx159_0, hx159_1, hx159_2, hx159_3⟩ := at_T40 (Kd.R_reads' HO_17.out).2.2 x22_7 p159 q159
                                                                    cases e159
                                                                    replace p159 := eq_true p159
                                                                    replace q159 := eq_true q159
                                                                    have p160 : 0 ≤ (x22_7 : Int) := of_decide_eq_true (by first | (with_reducible assumption) | assumption)
                                                                    have q160 : x22_7 < (x7_1.length : Int) := of_decide_eq_true (by first | (with_reducible assumption) | assumption)
                                                                    obtain ⟨ad160, e160, hx160_0, hx160_1, hx160_2, hx160_3⟩ := at_T40 (Kd.R_reads' HO_7.out).2.2 x22_7 p160 q160
                                                                    cases e160
                                                                    replace p160 := eq_true p160
                                                                    replace q160 := eq_true q160
                                                                    obtain ⟨Ao79, co79, eo79⟩ := Kd.R_slice HO_20.out
                                                                    subst eo79
                                                                    have p165 : 0 ≤ (x22_7 : Int) := of_decide_eq_true (by first | (with_reducible assumption) | assumption)
                                                                    have q165 : x22_7 < (t154.length : Int) := of_decide_eq_true (by first | (with_reducible assumption) | assumption)
                                                                    obtain ⟨ad165, e165, hx165_0, hx165_1, hx165_2, hx165_3⟩ := at_T40 (Kd.R_reads' HO_20.out).2.2 x22_7 p165 q165
                                                                    cases e165
                                                                    replace p165 := eq_true p165
                                                                    replace q165 := eq_true q165
                                                                    have p166 : 0 ≤ (x22_7 : Int) := of_decide_eq_true (by first | (with_reducible assumption) | assumption)
                                                                    have q166 : x22_7 < (t147.length : Int) := of_decide_eq_true (by first | (with_reducible assumption) | assumption)
                                                                    obtain ⟨ad166, e166, hx166_0, hx166_1, hx166_2, hx166_3⟩ := at_T40 (Kd.R_reads' HO_17.out).2.2 x22_7 p166 q166
                                                                    obtain rfl : ad159 = ad166 := (by injection e166)
                                                                    replace p166 := eq_true p166
                                                                    replace q166 := eq_true q166
                                                                    go_wp2
                                                                    repeat (go_quiet (fail); try go_wp2)
                                                                    go_ret
                                                                    exact ⟨by first | rfl | (simp [errW_none, errW_some] <;> rfl) | (simp only [← hji53]; first | rfl | (simp [errW_none, errW_some] <;> rfl)) | (simp [*, errW_none, errW_some] <;> rfl), by repeat (first | (with_reducible first | exact HB.out | apply below_alloc | apply pw_below_drewN | apply below_drew1) | exact HB.out)⟩
                                                                · rw [if_neg c78] at H
                                                                  have c78b0 : (!(((rd_T40 t154 x22_7).f0) == ((rd_T40 t147 x22_7).f0)) || (!(((rd_T40 t154 x22_7).f1) == ((rd_T40 t147 x22_7).f1)) || (!(((rd_T40 t154 x22_7).f2) == ((rd_T40 t147 x22_7).f2)) || (!(((rd_T40 t154 x22_7).f3) == ((rd_T40 t147 x22_7).f3)))))) = false := by simpa using c78
                                                                  clear c78
                                                                  as_aux_lemma =>
                                                                    have H' := Aside0.mk H
                                                                    clear H
                                                                    have p159 : 0 ≤ (x22_7 : Int) := of_decide_eq_true (by first | (with_reducible assumption) | assumption)
                                                                    have q159 : x22_7 < (t147.length : Int) := of_decide_eq_true (by first | (with_reducible assumption) | assumption)
                                                                    obtain ⟨ad159, e159, hx159_0, hx159_1, hx159_2, hx159_3⟩ := at_T40 (Kd.R_reads' HO_17.out).2.2 x22_7 p159 q159
                                                                    cases e159
                                                                    replace p159 := eq_true p159
                                                                    replace q159 := eq_true q159
                                                                    have p160 : 0 ≤ (x22_7 : Int) := of_decide_eq_true (by first | (with_reducible assumption) | assumption)
                                                                    have q160 : x22_7 < (x7_1.length : Int) := of_decide_eq_true (by first | (with_reducible assumption) | assumption)
                                                                    obtain ⟨ad160, e160, hx160_0, hx160_1, hx160_2, hx160_3⟩ := at_T40 (Kd.R_reads' HO_7.out).2.2 x22_7 p160 q160
                                                                    cases e160
                                                                    replace p160 := eq_true p160
                                                                    replace q160 := eq_true q160
                                                                    obtain ⟨Ao80, co80, eo80⟩ := Kd.R_slice HO_20.out
                                                                    subst eo80
                                                                    have p165 : 0 ≤ (x22_7 : Int) := of_decide_eq_true (by first | (with_reducible assumption) | assumption)
                                                                    have q165 : x22_7 < (t154.length : Int) := of_decide_eq_true (by first | (with_reducible assumption) | assumption)
                                                                    obtain ⟨ad165, e165, hx165_0, hx165_1, hx165_2, hx165_3⟩ := at_T40 (Kd.R_reads' HO_20.out).2.2 x22_7 p165 q165
                                                                    cases e165
                                                                    replace p165 := eq_true p165
                                                                    replace q165 := eq_true q165
                                                                    have p166 : 0 ≤ (x22_7 : Int) := of_decide_eq_true (by first | (with_reducible assumption) | assumption)
                                                                    have q166 : x22_7 < (t147.length : Int) := of_decide_eq_true (by first | (with_reducible assumption) | assumption)
                                                                    obtain ⟨ad166, e166, hx166_0, hx166_1, hx166_2, hx166_3⟩ := at_T40 (Kd.R_reads' HO_17.out).2.2 x22_7 p166 q166
                                                                    obtain rfl : ad159 = ad166 := (by injection e166)
                                                                    replace p166 := eq_true p166
                                                                    replace q166 := eq_true q166
                                                                    go_wp2
                                                                    repeat (go_quiet (fail); try go_wp2)
                                                                    go_roundg k7
                                                                    case measure => have := HK1.out; have := HJ6.out; have := HK3.out; have := HJ22.out; have := HJ42.out; have := HJ56.out; have := HK7.out; omega
                                                                    case rel => exact ⟨(wrap64 (x22_7 + 1)), (by first | rfl | (simp; done) | (simp [*]; done)), H', ⟨by have := HK1.out; have := HJ6.out; have := HK3.out; have := HJ22.out; have := HJ42.out; have := HJ56.out; have := HK7.out; omega⟩, ⟨by (with_reducible repeat (first | apply Kd.R_alloc | apply Kd.R_drewN | apply Kd.R_drew)); exact HO_7.out⟩, ⟨by (with_reducible repeat (first | apply Kd.R_alloc | apply Kd.R_drewN | apply Kd.R_drew)); exact HO_8.out⟩, ⟨by (with_reducible repeat (first | apply Kd.R_alloc | apply Kd.R_drewN | apply Kd.R_drew)); exact HO_17.out⟩, ⟨by (with_reducible repeat (first | apply Kd.R_alloc | apply Kd.R_drewN | apply Kd.R_drew)); exact HO_20.out⟩, ⟨by repeat (first | (with_reducible first | exact HB.out | apply below_alloc | apply pw_below_drewN | apply below_drew1) | exact HB.out)⟩⟩
                                                              · rw [if_neg c77] at H
                                                                exact absurd H (by simp)
                                                            · rw [if_neg c76] at H
                                                              have c76b0 : decide (x22_7 < (Int.tmod (wrap64 ((wrap64 ((Int.tmod a2 (wrap64 ((t147.length : Int) + 1))) + (t147.length : Int))) + 1)) (wrap64 ((t147.length : Int) + 1)))) = false := decide_eq_false c76
                                                              clear c76
                                                              as_aux_lemma =>
                                                                have H' := Aside0.mk H
                                                                clear H
                                                                have p159 : 0 ≤ (x22_7 : Int) := of_decide_eq_true (by first | (with_reducible assumption) | assumption)
                                                                have q159 : x22_7 < (t147.length : Int) := of_decide_eq_true (by first | (with_reducible assumption) | assumption)
                                                                obtain ⟨ad159, e159, hx159_0, hx159_1, hx159_2, hx159_3⟩ := at_T40 (Kd.R_reads' HO_17.out).2.2 x22_7 p159 q159
                                                                cases e159
                                                                replace p159 := eq_true p159
                                                                replace q159 := eq_true q159
                                                                have p160 : 0 ≤ (x22_7 : Int) := of_decide_eq_true (by first | (with_reducible assumption) | assumption)
                                                                have q160 : x22_7 < (x7_1.length : Int) := of_decide_eq_true (by first | (with_reducible assumption) | assumption)
                                                                obtain ⟨ad160, e160, hx160_0, hx160_1, hx160_2, hx160_3⟩ := at_T40 (Kd.R_reads' HO_7.out).2.2 x22_7 p160 q160
                                                                cases e160
                                                                replace p160 := eq_true p160
                                                                replace q160 := eq_true q160
                                                                go_wp2
                                                                repeat (go_quiet (fail); try go_wp2)
                                                                go_roundg k7
                                                                case measure => have := HK1.out; have := HJ6.out; have := HK3.out; have := HJ22.out; have := HJ42.out; have := HJ56.out; have := HK7.out; omega
                                                                case rel => exact ⟨(wrap64 (x22_7 + 1)), (by first | rfl | (simp; done) | (simp [*]; done)), H', ⟨by have := HK1.out; have := HJ6.out; have := HK3.out; have := HJ22.out; have := HJ42.out; have := HJ56.out; have := HK7.out; omega⟩, ⟨by (with_reducible repeat (first | apply Kd.R_alloc | apply Kd.R_drewN | apply Kd.R_drew)); exact HO_7.out⟩, ⟨by (with_reducible repeat (first | apply Kd.R_alloc | apply Kd.R_drewN | apply Kd.R_drew)); exact HO_8.out⟩, ⟨by (with_reducible repeat (first | apply Kd.R_alloc | apply Kd.R_drewN | apply Kd.R_drew)); exact HO_17.out⟩, ⟨by (with_reducible repeat (first | apply Kd.R_alloc | apply Kd.R_drewN | apply Kd.R_drew)); exact HO_20.out⟩, ⟨by repeat (first | (with_reducible first | exact HB.out | apply below_alloc | apply pw_below_drewN | apply below_drew1) | exact HB.out)⟩⟩
                                                      · rw [if_neg c64] at H
                                                        exact absurd H (by simp)
                                                    · rw [if_neg c63] at H
                                                      have c63b0 : decide (x22_7 < (x7_1.length : Int)) = false := decide_eq_false c63
                                                      clear c63
                                                      by_cases c81 : x22_7 ≥ (x7_1.length : Int)
                                                      · rw [if_pos c81] at H
                                                        have c81b0 : decide ((x7_1.length : Int) ≤ x22_7) = true := decide_eq_true c81
                                                        clear c81
                                                        by_cases c82 : 0 ≤ x22_7
                                                        · rw [if_pos c82] at H
                                                          have c82b0 : decide (0 ≤ x22_7) = true := decide_eq_true c82
                                                          clear c82
                                                          obtain ⟨ji83, hji83⟩ : ∃ j_ : Int, (wrap64 (x22_7 - (x7_1.length : Int))) = j_ := ⟨_, rfl⟩
                                                          replace H : (if 0 ≤ (ji83) then (if (ji83) < (x8_3.length : Int) then (if (!(((rd_T40 t147 x22_7).f0) == ((rd_T40 x8_3 (ji83)).f0)) || (!(((rd_T40 t147 x22_7).f1) == ((rd_T40 x8_3 (ji83)).f1)) || (!(((rd_T40 t147 x22_7).f2) == ((rd_T40 x8_3 (ji83)).f2)) || (!(((rd_T40 t147 x22_7).f3) == ((rd_T40 x8_3 (ji83)).f3)))))) = true then (some false) else (if x22_7 < (Int.tmod (wrap64 ((wrap64 ((Int.tmod a2 (wrap64 ((t147.length : Int) + 1))) + (t147.length : Int))) + 1)) (wrap64 ((t147.length : Int) + 1))) then (if x22_7 < (t154.length : Int) then (if (!(((rd_T40 t154 x22_7).f0) == ((rd_T40 t147 x22_7).f0)) || (!(((rd_T40 t154 x22_7).f1) == ((rd_T40 t147 x22_7).f1)) || (!(((rd_T40 t154 x22_7).f2) == ((rd_T40 t147 x22_7).f2)) || (!(((rd_T40 t154 x22_7).f3) == ((rd_T40 t147 x22_7).f3)))))) = true then (some false) else (posthorselaw17_CodeJoins.l2 k7 x7_1 x8_3 t147 (Int.tmod (wrap64 ((wrap64 ((Int.tmod a2 (wrap64 ((t147.length : Int) + 1))) + (t147.length : Int))) + 1)) (wrap64 ((t147.length : Int) + 1))) t154 (wrap64 (x22_7 + 1)))) else (none)) else (posthorselaw17_CodeJoins.l2 k7 x7_1 x8_3 t147 (Int.tmod (wrap64 ((wrap64 ((Int.tmod a2 (wrap64 ((t147.length : Int) + 1))) + (t147.length : Int))) + 1)) (wrap64 ((t147.length : Int) + 1))) t154 (wrap64 (x22_7 + 1))))) else (none)) else (none)) = some r := by first | (rw [hji83] at H; exact H) | (simp only [hji83] at H ⊢; exact H)
                                                          have hji83w : (IntKind.i64.wrap (x22_7 - (x7_1.length : Int))) = ji83 := (i64_w _).trans hji83
                                                          by_cases c84 : 0 ≤ (ji83)
                                                          · rw [if_pos c84] at H
                                                            have c84b0 : decide (0 ≤ (ji83)) = true := decide_eq_true c84
                                                            clear c84
                                                            by_cases c85 : (ji83) < (x8_3.length : Int)
                                                            · rw [if_pos c85] at H
                                                              have c85b0 : decide ((ji83) < (x8_3.length : Int)) = true := decide_eq_true c85
                                                              clear c85
                                                              by_cases c86 : (!(((rd_T40 t147 x22_7).f0) == ((rd_T40 x8_3 (ji83)).f0)) || (!(((rd_T40 t147 x22_7).f1) == ((rd_T40 x8_3 (ji83)).f1)) || (!(((rd_T40 t147 x22_7).f2) == ((rd_T40 x8_3 (ji83)).f2)) || (!(((rd_T40 t147 x22_7).f3) == ((rd_T40 x8_3 (ji83)).f3)))))) = true
                                                              · rw [if_pos c86] at H
                                                                have c86b0 : (!(((rd_T40 t147 x22_7).f0) == ((rd_T40 x8_3 (ji83)).f0)) || (!(((rd_T40 t147 x22_7).f1) == ((rd_T40 x8_3 (ji83)).f1)) || (!(((rd_T40 t147 x22_7).f2) == ((rd_T40 x8_3 (ji83)).f2)) || (!(((rd_T40 t147 x22_7).f3) == ((rd_T40 x8_3 (ji83)).f3)))))) = true := c86
                                                                clear c86
                                                                as_aux_lemma =>
                                                                  obtain rfl := Option.some.inj H
                                                                  have p167 : 0 ≤ (x22_7 : Int) := of_decide_eq_true (by first | (with_reducible assumption) | assumption)
                                                                  have q167 : x22_7 < (t147.length : Int) := of_decide_eq_true (by first | (with_reducible assumption) | assumption)
                                                                  obtain ⟨ad167, e167, hx167_0, hx167_1, hx167_2, hx167_3⟩ := at_T40 (Kd.R_reads' HO_17.out).2.2 x22_7 p167 q167
                                                                  cases e167
                                                                  replace p167 := eq_true p167
                                                                  replace q167 := eq_true q167
                                                                  have p168 : 0 ≤ ((ji83) : Int) := of_decide_eq_true (by first | (with_reducible assumption) | assumption)
                                                                  have q168 : (ji83) < (x8_3.length : Int) := of_decide_eq_true (by first | (with_reducible assumption) | assumption)
                                                                  obtain ⟨ad168, e168, hx168_0, hx168_1, hx168_2, hx168_3⟩ := at_T40 (Kd.R_reads' HO_8.out).2.2 (ji83) p168 q168
                                                                  cases e168
                                                                  replace p168 := eq_true p168
                                                                  replace q168 := eq_true q168
                                                                  go_wp2
                                                                  repeat (go_quiet (fail); try go_wp2)
                                                                  go_ret
                                                                  exact ⟨by first | rfl | (simp [errW_none, errW_some] <;> rfl) | (simp only [← hji53, ← hji83]; first | rfl | (simp [errW_none, errW_some] <;> rfl)) | (simp [*, errW_none, errW_some] <;> rfl), by repeat (first | (with_reducible first | exact HB.out | apply below_alloc | apply pw_below_drewN | apply below_drew1) | exact HB.out)⟩
                                                              · rw [if_neg c86] at H
                                                                have c86b0 : (!(((rd_T40 t147 x22_7).f0) == ((rd_T40 x8_3 (ji83)).f0)) || (!(((rd_T40 t147 x22_7).f1) == ((rd_T40 x8_3 (ji83)).f1)) || (!(((rd_T40 t147 x22_7).f2) == ((rd_T40 x8_3 (ji83)).f2)) || (!(((rd_T40 t147 x22_7).f3) == ((rd_T40 x8_3 (ji83)).f3)))))) = false := by simpa using c86
                                                                clear c86
                                                                by_cases c87 : x22_7 < (Int.tmod (wrap64 ((wrap64 ((Int.tmod a2 (wrap64 ((t147.length : Int) + 1))) + (t147.length : Int))) + 1)) (wrap64 ((t147.length : Int) + 1)))
                                                                · rw [if_pos c87] at H
                                                                  have c87b0 : decide (x22_7 < (Int.tmod (wrap64 ((wrap64 ((Int.tmod a2 (wrap64 ((t147.length : Int) + 1))) + (t147.length : Int))) + 1)) (wrap64 ((t147.length : Int) + 1)))) = true := decide_eq_true c87
                                                                  clear c87
                                                                  by_cases c88 : x22_7 < (t154.length : Int)
                                                                  · rw [if_pos c88] at H
                                                                    have c88b0 : decide (x22_7 < (t154.length : Int)) = true := decide_eq_true c88
                                                                    clear c88
                                                                    by_cases c89 : (!(((rd_T40 t154 x22_7).f0) == ((rd_T40 t147 x22_7).f0)) || (!(((rd_T40 t154 x22_7).f1) == ((rd_T40 t147 x22_7).f1)) || (!(((rd_T40 t154 x22_7).f2) == ((rd_T40 t147 x22_7).f2)) || (!(((rd_T40 t154 x22_7).f3) == ((rd_T40 t147 x22_7).f3)))))) = true
                                                                    · rw [if_pos c89] at H
                                                                      have c89b0 : (!(((rd_T40 t154 x22_7).f0) == ((rd_T40 t147 x22_7).f0)) || (!(((rd_T40 t154 x22_7).f1) == ((rd_T40 t147 x22_7).f1)) || (!(((rd_T40 t154 x22_7).f2) == ((rd_T40 t147 x22_7).f2)) || (!(((rd_T40 t154 x22_7).f3) == ((rd_T40 t147 x22_7).f3)))))) = true := c89
                                                                      clear c89
                                                                      as_aux_lemma =>
                                                                        obtain rfl := Option.some.inj H
                                                                        have p167 : 0 ≤ (x22_7 : Int) := of_decide_eq_true (by first | (with_reducible assumption) | assumption)
                                                                        have q167 : x22_7 < (t147.length : Int) := of_decide_eq_true (by first | (with_reducible assumption) | assumption)
                                                                        obtain ⟨ad167, e167, hx167_0, hx167_1, hx167_2, hx167_3⟩ := at_T40 (Kd.R_reads' HO_17.out).2.2 x22_7 p167 q167
                                                                        cases e167
                                                                        replace p167 := eq_true p167
                                                                        replace q167 := eq_true q167
                                                                        have p168 : 0 ≤ ((ji83) : Int) := of_decide_eq_true (by first | (with_reducible assumption) | assumption)
                                                                        have q168 : (ji83) < (x8_3.length : Int) := of_decide_eq_true (by first | (with_reducible assumption) | assumption)
                                                                        obtain ⟨ad168, e168, hx168_0, hx168_1, hx168_2, hx168_3⟩ := at_T40 (Kd.R_reads' HO_8.out).2.2 (ji83) p168 q168
                                                                        cases e168
                                                                        replace p168 := eq_true p168
                                                                        replace q168 := eq_true q168
                                                                        obtain ⟨Ao90, co90, eo90⟩ := Kd.R_slice HO_20.out
                                                                        subst eo90
                                                                        have p169 : 0 ≤ (x22_7 : Int) := of_decide_eq_true (by first | (with_reducible assumption) | assumption)
                                                                        have q169 : x22_7 < (t154.length : Int) := of_decide_eq_true (by first | (with_reducible assumption) | assumption)
                                                                        obtain ⟨ad169, e169, hx169_0, hx169_1, hx169_2, hx169_3⟩ := at_T40 (Kd.R_reads' HO_20.out).2.2 x22_7 p169 q169
                                                                        cases e169
                                                                        replace p169 := eq_true p169
                                                                        replace q169 := eq_true q169
                                                                        have p170 : 0 ≤ (x22_7 : Int) := of_decide_eq_true (by first | (with_reducible assumption) | assumption)
                                                                        have q170 : x22_7 < (t147.length : Int) := of_decide_eq_true (by first | (with_reducible assumption) | assumption)
                                                                        obtain ⟨ad170, e170, hx170_0, hx170_1, hx170_2, hx170_3⟩ := at_T40 (Kd.R_reads' HO_17.out).2.2 x22_7 p170 q170
                                                                        obtain rfl : ad167 = ad170 := (by injection e170)
                                                                        replace p170 := eq_true p170
                                                                        replace q170 := eq_true q170
                                                                        go_wp2
                                                                        repeat (go_quiet (fail); try go_wp2)
                                                                        go_ret
                                                                        exact ⟨by first | rfl | (simp [errW_none, errW_some] <;> rfl) | (simp only [← hji53, ← hji83]; first | rfl | (simp [errW_none, errW_some] <;> rfl)) | (simp [*, errW_none, errW_some] <;> rfl), by repeat (first | (with_reducible first | exact HB.out | apply below_alloc | apply pw_below_drewN | apply below_drew1) | exact HB.out)⟩
                                                                    · rw [if_neg c89] at H
                                                                      have c89b0 : (!(((rd_T40 t154 x22_7).f0) == ((rd_T40 t147 x22_7).f0)) || (!(((rd_T40 t154 x22_7).f1) == ((rd_T40 t147 x22_7).f1)) || (!(((rd_T40 t154 x22_7).f2) == ((rd_T40 t147 x22_7).f2)) || (!(((rd_T40 t154 x22_7).f3) == ((rd_T40 t147 x22_7).f3)))))) = false := by simpa using c89
                                                                      clear c89
                                                                      as_aux_lemma =>
                                                                        have H' := Aside0.mk H
                                                                        clear H
                                                                        have p167 : 0 ≤ (x22_7 : Int) := of_decide_eq_true (by first | (with_reducible assumption) | assumption)
                                                                        have q167 : x22_7 < (t147.length : Int) := of_decide_eq_true (by first | (with_reducible assumption) | assumption)
                                                                        obtain ⟨ad167, e167, hx167_0, hx167_1, hx167_2, hx167_3⟩ := at_T40 (Kd.R_reads' HO_17.out).2.2 x22_7 p167 q167
                                                                        cases e167
                                                                        replace p167 := eq_true p167
                                                                        replace q167 := eq_true q167
                                                                        have p168 : 0 ≤ ((ji83) : Int) := of_decide_eq_true (by first | (with_reducible assumption) | assumption)
                                                                        have q168 : (ji83) < (x8_3.length : Int) := of_decide_eq_true (by first | (with_reducible assumption) | assumption)
                                                                        obtain ⟨ad168, e168, hx168_0, hx168_1, hx168_2, hx168_3⟩ := at_T40 (Kd.R_reads' HO_8.out).2.2 (ji83) p168 q168
                                                                        cases e168
                                                                        replace p168 := eq_true p168
                                                                        replace q168 := eq_true q168
                                                                        obtain ⟨Ao91, co91, eo91⟩ := Kd.R_slice HO_20.out
                                                                        subst eo91
                                                                        have p169 : 0 ≤ (x22_7 : Int) := of_decide_eq_true (by first | (with_reducible assumption) | assumption)
                                                                        have q169 : x22_7 < (t154.length : Int) := of_decide_eq_true (by first | (with_reducible assumption) | assumption)
                                                                        obtain ⟨ad169, e169, hx169_0, hx169_1, hx169_2, hx169_3⟩ := at_T40 (Kd.R_reads' HO_20.out).2.2 x22_7 p169 q169
                                                                        cases e169
                                                                        replace p169 := eq_true p169
                                                                        replace q169 := eq_true q169
                                                                        have p170 : 0 ≤ (x22_7 : Int) := of_decide_eq_true (by first | (with_reducible assumption) | assumption)
                                                                        have q170 : x22_7 < (t147.length : Int) := of_decide_eq_true (by first | (with_reducible assumption) | assumption)
                                                                        obtain ⟨ad170, e170, hx170_0, hx170_1, hx170_2, hx170_3⟩ := at_T40 (Kd.R_reads' HO_17.out).2.2 x22_7 p170 q170
                                                                        obtain rfl : ad167 = ad170 := (by injection e170)
                                                                        replace p170 := eq_true p170
                                                                        replace q170 := eq_true q170
                                                                        go_wp2
                                                                        repeat (go_quiet (fail); try go_wp2)
                                                                        go_roundg k7
                                                                        case measure => have := HK1.out; have := HJ6.out; have := HK3.out; have := HJ22.out; have := HJ42.out; have := HJ56.out; have := HK7.out; omega
                                                                        case rel => exact ⟨(wrap64 (x22_7 + 1)), (by first | rfl | (simp; done) | (simp [*]; done)), H', ⟨by have := HK1.out; have := HJ6.out; have := HK3.out; have := HJ22.out; have := HJ42.out; have := HJ56.out; have := HK7.out; omega⟩, ⟨by (with_reducible repeat (first | apply Kd.R_alloc | apply Kd.R_drewN | apply Kd.R_drew)); exact HO_7.out⟩, ⟨by (with_reducible repeat (first | apply Kd.R_alloc | apply Kd.R_drewN | apply Kd.R_drew)); exact HO_8.out⟩, ⟨by (with_reducible repeat (first | apply Kd.R_alloc | apply Kd.R_drewN | apply Kd.R_drew)); exact HO_17.out⟩, ⟨by (with_reducible repeat (first | apply Kd.R_alloc | apply Kd.R_drewN | apply Kd.R_drew)); exact HO_20.out⟩, ⟨by repeat (first | (with_reducible first | exact HB.out | apply below_alloc | apply pw_below_drewN | apply below_drew1) | exact HB.out)⟩⟩
                                                                  · rw [if_neg c88] at H
                                                                    exact absurd H (by simp)
                                                                · rw [if_neg c87] at H
                                                                  have c87b0 : decide (x22_7 < (Int.tmod (wrap64 ((wrap64 ((Int.tmod a2 (wrap64 ((t147.length : Int) + 1))) + (t147.length : Int))) + 1)) (wrap64 ((t147.length : Int) + 1)))) = false := decide_eq_false c87
                                                                  clear c87
                                                                  as_aux_lemma =>
                                                                    have H' := Aside0.mk H
                                                                    clear H
                                                                    have p167 : 0 ≤ (x22_7 : Int) := of_decide_eq_true (by first | (with_reducible assumption) | assumption)
                                                                    have q167 : x22_7 < (t147.length : Int) := of_decide_eq_true (by first | (with_reducible assumption) | assumption)
                                                                    obtain ⟨ad167, e167, hx167_0, hx167_1, hx167_2, hx167_3⟩ := at_T40 (Kd.R_reads' HO_17.out).2.2 x22_7 p167 q167
                                                                    cases e167
                                                                    replace p167 := eq_true p167
                                                                    replace q167 := eq_true q167
                                                                    have p168 : 0 ≤ ((ji83) : Int) := of_decide_eq_true (by first | (with_reducible assumption) | assumption)
                                                                    have q168 : (ji83) < (x8_3.length : Int) := of_decide_eq_true (by first | (with_reducible assumption) | assumption)
                                                                    obtain ⟨ad168, e168, hx168_0, hx168_1, hx168_2, hx168_3⟩ := at_T40 (Kd.R_reads' HO_8.out).2.2 (ji83) p168 q168
                                                                    cases e168
                                                                    replace p168 := eq_true p168
                                                                    replace q168 := eq_true q168
                                                                    go_wp2
                                                                    repeat (go_quiet (fail); try go_wp2)
                                                                    go_roundg k7
                                                                    case measure => have := HK1.out; have := HJ6.out; have := HK3.out; have := HJ22.out; have := HJ42.out; have := HJ56.out; have := HK7.out; omega
                                                                    case rel => exact ⟨(wrap64 (x22_7 + 1)), (by first | rfl | (simp; done) | (simp [*]; done)), H', ⟨by have := HK1.out; have := HJ6.out; have := HK3.out; have := HJ22.out; have := HJ42.out; have := HJ56.out; have := HK7.out; omega⟩, ⟨by (with_reducible repeat (first | apply Kd.R_alloc | apply Kd.R_drewN | apply Kd.R_drew)); exact HO_7.out⟩, ⟨by (with_reducible repeat (first | apply Kd.R_alloc | apply Kd.R_drewN | apply Kd.R_drew)); exact HO_8.out⟩, ⟨by (with_reducible repeat (first | apply Kd.R_alloc | apply Kd.R_drewN | apply Kd.R_drew)); exact HO_17.out⟩, ⟨by (with_reducible repeat (first | apply Kd.R_alloc | apply Kd.R_drewN | apply Kd.R_drew)); exact HO_20.out⟩, ⟨by repeat (first | (with_reducible first | exact HB.out | apply below_alloc | apply pw_below_drewN | apply below_drew1) | exact HB.out)⟩⟩
                                                            · rw [if_neg c85] at H
                                                              exact absurd H (by simp)
                                                          · rw [if_neg c84] at H
                                                            exact absurd H (by simp)
                                                        · rw [if_neg c82] at H
                                                          exact absurd H (by simp)
                                                      · rw [if_neg c81] at H
                                                        have c81b0 : decide ((x7_1.length : Int) ≤ x22_7) = false := decide_eq_false c81
                                                        clear c81
                                                        by_cases c92 : x22_7 < (Int.tmod (wrap64 ((wrap64 ((Int.tmod a2 (wrap64 ((t147.length : Int) + 1))) + (t147.length : Int))) + 1)) (wrap64 ((t147.length : Int) + 1)))
                                                        · rw [if_pos c92] at H
                                                          have c92b0 : decide (x22_7 < (Int.tmod (wrap64 ((wrap64 ((Int.tmod a2 (wrap64 ((t147.length : Int) + 1))) + (t147.length : Int))) + 1)) (wrap64 ((t147.length : Int) + 1)))) = true := decide_eq_true c92
                                                          clear c92
                                                          by_cases c93 : 0 ≤ x22_7
                                                          · rw [if_pos c93] at H
                                                            have c93b0 : decide (0 ≤ x22_7) = true := decide_eq_true c93
                                                            clear c93
                                                            by_cases c94 : x22_7 < (t154.length : Int)
                                                            · rw [if_pos c94] at H
                                                              have c94b0 : decide (x22_7 < (t154.length : Int)) = true := decide_eq_true c94
                                                              clear c94
                                                              by_cases c95 : (!(((rd_T40 t154 x22_7).f0) == ((rd_T40 t147 x22_7).f0)) || (!(((rd_T40 t154 x22_7).f1) == ((rd_T40 t147 x22_7).f1)) || (!(((rd_T40 t154 x22_7).f2) == ((rd_T40 t147 x22_7).f2)) || (!(((rd_T40 t154 x22_7).f3) == ((rd_T40 t147 x22_7).f3)))))) = true
                                                              · rw [if_pos c95] at H
                                                                have c95b0 : (!(((rd_T40 t154 x22_7).f0) == ((rd_T40 t147 x22_7).f0)) || (!(((rd_T40 t154 x22_7).f1) == ((rd_T40 t147 x22_7).f1)) || (!(((rd_T40 t154 x22_7).f2) == ((rd_T40 t147 x22_7).f2)) || (!(((rd_T40 t154 x22_7).f3) == ((rd_T40 t147 x22_7).f3)))))) = true := c95
                                                                clear c95
                                                                as_aux_lemma =>
                                                                  obtain rfl := Option.some.inj H
                                                                  obtain ⟨Ao96, co96, eo96⟩ := Kd.R_slice HO_20.out
                                                                  subst eo96
                                                                  have p171 : 0 ≤ (x22_7 : Int) := of_decide_eq_true (by first | (with_reducible assumption) | assumption)
                                                                  have q171 : x22_7 < (t154.length : Int) := of_decide_eq_true (by first | (with_reducible assumption) | assumption)
                                                                  obtain ⟨ad171, e171, hx171_0, hx171_1, hx171_2, hx171_3⟩ := at_T40 (Kd.R_reads' HO_20.out).2.2 x22_7 p171 q171
                                                                  cases e171
                                                                  replace p171 := eq_true p171
                                                                  replace q171 := eq_true q171
                                                                  have p172 : 0 ≤ (x22_7 : Int) := of_decide_eq_true (by first | (with_reducible assumption) | assumption)
                                                                  have q172 : x22_7 < (t147.length : Int) := of_decide_eq_true (by first | (with_reducible assumption) | assumption)
                                                                  obtain ⟨ad172, e172, hx172_0, hx172_1, hx172_2, hx172_3⟩ := at_T40 (Kd.R_reads' HO_17.out).2.2 x22_7 p172 q172
                                                                  cases e172
                                                                  replace p172 := eq_true p172
                                                                  replace q172 := eq_true q172
                                                                  go_wp2
                                                                  repeat (go_quiet (fail); try go_wp2)
                                                                  go_ret
                                                                  exact ⟨by first | rfl | (simp [errW_none, errW_some] <;> rfl) | (simp only [← hji53]; first | rfl | (simp [errW_none, errW_some] <;> rfl)) | (simp [*, errW_none, errW_some] <;> rfl), by repeat (first | (with_reducible first | exact HB.out | apply below_alloc | apply pw_below_drewN | apply below_drew1) | exact HB.out)⟩
                                                              · rw [if_neg c95] at H
                                                                have c95b0 : (!(((rd_T40 t154 x22_7).f0) == ((rd_T40 t147 x22_7).f0)) || (!(((rd_T40 t154 x22_7).f1) == ((rd_T40 t147 x22_7).f1)) || (!(((rd_T40 t154 x22_7).f2) == ((rd_T40 t147 x22_7).f2)) || (!(((rd_T40 t154 x22_7).f3) == ((rd_T40 t147 x22_7).f3)))))) = false := by simpa using c95
                                                                clear c95
                                                                as_aux_lemma =>
                                                                  have H' := Aside0.mk H
                                                                  clear H
                                                                  obtain ⟨Ao97, co97, eo97⟩ := Kd.R_slice HO_20.out
                                                                  subst eo97
                                                                  have p171 : 0 ≤ (x22_7 : Int) := of_decide_eq_true (by first | (with_reducible assumption) | assumption)
                                                                  have q171 : x22_7 < (t154.length : Int) := of_decide_eq_true (by first | (with_reducible assumption) | assumption)
                                                                  obtain ⟨ad171, e171, hx171_0, hx171_1, hx171_2, hx171_3⟩ := at_T40 (Kd.R_reads' HO_20.out).2.2 x22_7 p171 q171
                                                                  cases e171
                                                                  replace p171 := eq_true p171
                                                                  replace q171 := eq_true q171
                                                                  have p172 : 0 ≤ (x22_7 : Int) := of_decide_eq_true (by first | (with_reducible assumption) | assumption)
                                                                  have q172 : x22_7 < (t147.length : Int) := of_decide_eq_true (by first | (with_reducible assumption) | assumption)
                                                                  obtain ⟨ad172, e172, hx172_0, hx172_1, hx172_2, hx172_3⟩ := at_T40 (Kd.R_reads' HO_17.out).2.2 x22_7 p172 q172
                                                                  cases e172
                                                                  replace p172 := eq_true p172
                                                                  replace q172 := eq_true q172
                                                                  go_wp2
                                                                  repeat (go_quiet (fail); try go_wp2)
                                                                  go_roundg k7
                                                                  case measure => have := HK1.out; have := HJ6.out; have := HK3.out; have := HJ22.out; have := HJ42.out; have := HJ56.out; have := HK7.out; omega
                                                                  case rel => exact ⟨(wrap64 (x22_7 + 1)), (by first | rfl | (simp; done) | (simp [*]; done)), H', ⟨by have := HK1.out; have := HJ6.out; have := HK3.out; have := HJ22.out; have := HJ42.out; have := HJ56.out; have := HK7.out; omega⟩, ⟨by (with_reducible repeat (first | apply Kd.R_alloc | apply Kd.R_drewN | apply Kd.R_drew)); exact HO_7.out⟩, ⟨by (with_reducible repeat (first | apply Kd.R_alloc | apply Kd.R_drewN | apply Kd.R_drew)); exact HO_8.out⟩, ⟨by (with_reducible repeat (first | apply Kd.R_alloc | apply Kd.R_drewN | apply Kd.R_drew)); exact HO_17.out⟩, ⟨by (with_reducible repeat (first | apply Kd.R_alloc | apply Kd.R_drewN | apply Kd.R_drew)); exact HO_20.out⟩, ⟨by repeat (first | (with_reducible first | exact HB.out | apply below_alloc | apply pw_below_drewN | apply below_drew1) | exact HB.out)⟩⟩
                                                            · rw [if_neg c94] at H
                                                              exact absurd H (by simp)
                                                          · rw [if_neg c93] at H
                                                            exact absurd H (by simp)
                                                        · rw [if_neg c92] at H
                                                          have c92b0 : decide (x22_7 < (Int.tmod (wrap64 ((wrap64 ((Int.tmod a2 (wrap64 ((t147.length : Int) + 1))) + (t147.length : Int))) + 1)) (wrap64 ((t147.length : Int) + 1)))) = false := decide_eq_false c92
                                                          clear c92
                                                          as_aux_lemma =>
                                                            have H' := Aside0.mk H
                                                            clear H
                                                            go_wp2
                                                            repeat (go_quiet (fail); try go_wp2)
                                                            go_roundg k7
                                                            case measure => have := HK1.out; have := HJ6.out; have := HK3.out; have := HJ22.out; have := HJ42.out; have := HJ56.out; have := HK7.out; omega
                                                            case rel => exact ⟨(wrap64 (x22_7 + 1)), (by first | rfl | (simp; done) | (simp [*]; done)), H', ⟨by have := HK1.out; have := HJ6.out; have := HK3.out; have := HJ22.out; have := HJ42.out; have := HJ56.out; have := HK7.out; omega⟩, ⟨by (with_reducible repeat (first | apply Kd.R_alloc | apply Kd.R_drewN | apply Kd.R_drew)); exact HO_7.out⟩, ⟨by (with_reducible repeat (first | apply Kd.R_alloc | apply Kd.R_drewN | apply Kd.R_drew)); exact HO_8.out⟩, ⟨by (with_reducible repeat (first | apply Kd.R_alloc | apply Kd.R_drewN | apply Kd.R_drew)); exact HO_17.out⟩, ⟨by (with_reducible repeat (first | apply Kd.R_alloc | apply Kd.R_drewN | apply Kd.R_drew)); exact HO_20.out⟩, ⟨by repeat (first | (with_reducible first | exact HB.out | apply below_alloc | apply pw_below_drewN | apply below_drew1) | exact HB.out)⟩⟩
                                                  · rw [if_neg c62] at H
                                                    have c62b0 : decide (x22_7 < (t147.length : Int)) = false := decide_eq_false c62
                                                    clear c62
                                                    as_aux_lemma =>
                                                      obtain rfl := Option.some.inj H
                                                      go_wp2
                                                      repeat (go_quiet (fail); try go_wp2)
                                                      go_ret
                                                      exact ⟨by first | rfl | (simp [errW_none, errW_some] <;> rfl) | (simp only [← hji53]; first | rfl | (simp [errW_none, errW_some] <;> rfl)) | (simp [*, errW_none, errW_some] <;> rfl), by repeat (first | (with_reducible first | exact HB.out | apply below_alloc | apply pw_below_drewN | apply below_drew1) | exact HB.out)⟩
                                      · rw [if_neg c55] at H
                                        exact absurd H (by simp)
                                    · rw [if_neg c54] at H
                                      exact absurd H (by simp)
                                  · rw [if_neg c52] at H
                                    exact absurd H (by simp)
                        · rw [if_neg c41] at H
                          exact absurd H (by simp)
  · replace c5 := Bool.eq_false_iff.mpr c5
    subst c5
    have H1 : (some false) = some r := by rw [if_neg (show ¬ (false = true) by decide)] at H; exact H
    clear H
    have H := H1
    clear H1
    as_aux_lemma =>
      obtain rfl := Option.some.inj H
      go_enter Try.func6, Try.ntmps6
      go_wp2_with (first | (go_at_call 15; (with_reducible refine (posthorselaw17_speaks.calls k  false _ A4.out).mono ?_); rintro e w98 ⟨rfl, hb⟩; have n0_ := Aside0.mk (below_step (by repeat (first | (with_reducible first | exact HB.out | apply below_alloc | apply pw_below_drewN | apply below_drew1) | exact HB.out)) hb); clear HB; have HB := n0_; clear n0_; (try clear hb); (try clear hb2); (try clear hk); (try clear hi)))
      repeat (go_quiet (first | (go_at_call 15; (with_reducible refine (posthorselaw17_speaks.calls k  false _ A4.out).mono ?_); rintro e w98 ⟨rfl, hb⟩; have n0_ := Aside0.mk (below_step (by repeat (first | (with_reducible first | exact HB.out | apply below_alloc | apply pw_below_drewN | apply below_drew1) | exact HB.out)) hb); clear HB; have HB := n0_; clear n0_; (try clear hb); (try clear hb2); (try clear hk); (try clear hi))); try go_wp2_with (first | (go_at_call 15; (with_reducible refine (posthorselaw17_speaks.calls k  false _ A4.out).mono ?_); rintro e w98 ⟨rfl, hb⟩; have n0_ := Aside0.mk (below_step (by repeat (first | (with_reducible first | exact HB.out | apply below_alloc | apply pw_below_drewN | apply below_drew1) | exact HB.out)) hb); clear HB; have HB := n0_; clear n0_; (try clear hb); (try clear hb2); (try clear hk); (try clear hi))))
      go_ret
      exact ⟨by first | rfl | (simp [errW_none, errW_some] <;> rfl) | (simp [*, errW_none, errW_some] <;> rfl), by repeat (first | (with_reducible first | exact HB.out | apply below_alloc | apply pw_below_drewN | apply below_drew1) | exact HB.out)⟩

end Go.Proofs.Ytekjkbocblonmaa.VCodeJoins
