/- Contracts of functions of this seat: each call comes to what its Lean function computes; no condition beyond what each theorem states. Printed by a program of this session's own laid over the kit's printer. -/
import Derived.Test.YtmncfcebjohloaaDoorVInodePlaysx0
import Derived.Test.YtmncfcebjohloaaDoorVInodePlaysx1
import Derived.Test.YtmncfcebjohloaaDoorVInodePlaysx2
import Derived.Test.YtmncfcebjohloaaDoorVInodePlaysx6
import Derived.Test.YtmncfcebjohloaaDoorVInodePlaysx7
import Derived.Test.YtmncfcebjohloaaDoorVInodePlaysx8
import Derived.Test.YtmncfcebjohloaaDoorVInodePlaysx9
import Derived.Test.YtmncfcebjohloaaDoorVInodePlaysx10
import Derived.Test.YtmncfcebjohloaaDoorVInodePlaysx11
import Derived.Test.YtmncfcebjohloaaDoorVInodePlaysx12
import Derived.Test.YtmncfcebjohloaaDoorVInodePlaysx13
import Derived.Test.YtmncfcebjohloaaDoorVInodePlaysx16
import Derived.Test.YtmncfcebjohloaaDoorVInodePlaysx17
namespace Go.Proofs.YtmncfcebjohloaaDoor.VInodePlays
open Go.RowKit Go.Proofs.YtmncfcebjohloaaDoorW.PrintWords Go.Proofs.YtmncfcebjohloaaDoorW.PrintLast Go.Proofs.YtmncfcebjohloaaDoorW.PrintMore
attribute [local go_sem] max2_int min2_int max_two min_two max_three min_three max_four min_four   -- for this text's walks alone
open Go.Proofs.YtmncfcebjohloaaDoorW.PrintWords.Kd renaming R_alloc → rA
open Go.Proofs.YtmncfcebjohloaaDoorW.PrintWords.Kd renaming R_drewN → rN
open Go.Proofs.YtmncfcebjohloaaDoorW.PrintWords.Kd renaming R_drew → rD
open List renaming setIfInBounds_toArray → lS, set_cons_zero → lZ, set_cons_succ → lC
open Bool renaming true → T, false → F
open Go.Proofs.YtmncfcebjohloaaDoorW.PrintLast renaming goesL_ → gL_
open Go.Proofs.YtmncfcebjohloaaDoorW.PrintWords renaming blk_drewN → bN, blk_drew → bD, blk_alloc → bA, below_set → bS, pw_below_drewN → pN, below_drew1 → pD, below_alloc → pA, below_step → pS, below_size → pZ, blk_frozen → bF, blk_cell → bC, blk_below → bB, blk_far → bR, blk_put → bP, blk_lt → bL, gate_dst → gD, gate_guard → gG, gate_callee → gC, gate_builtin → gB, cell_far → cF, box_event → bE
open Go.Proofs.YtmncfcebjohloaaDoorW.PrintWords.Aside0 renaming mk → A0k
set_option linter.unusedVariables false
set_option linter.unusedSimpArgs false

attribute [local go_sem high] eqA39 eqA40
/-! ### posthorselaw08_InodePlays: function 3 -/
mutual
def posthorselaw08_InodePlays.l0 : Nat → List (S31) → Int → Int → List (S40) → Int → List (S39) → Option (Bool)
 | 0, _, _, _, _, _, _ => none
 | k + 1, x0, x5, x259000, x259001, x260000, x260001 => if x5 < (x0.length : Int) then (posthorselaw08_InodePlays.j1 k x0 x5 (decide (x5 < 60)) x259000 x259001 x260000 x260001) else (posthorselaw08_InodePlays.j1 k x0 x5 false x259000 x259001 x260000 x260001)
def posthorselaw08_InodePlays.j1 : Nat → List (S31) → Int → Bool → Int → List (S40) → Int → List (S39) → Option (Bool)
 | 0, _, _, _, _, _, _, _ => none
 | k + 1, x0, x5, x35, x259000, x259001, x260000, x260001 => if x35 = true then (if 0 ≤ x5 then (if x5 < (x0.length : Int) then ((some (([] : List (S40)) : List (S40))).bind fun y262 => (if y262.length + x259001.length < 8796093022208 then ((some (y262 ++ x259001 : List (S40))).bind fun y265 => (if (Int.tmod (wrap64 ((Int.tmod ((rd_T31 x0 x5).f0) 4) + 4)) 4) = 2 then ((inode_Cut.f k x259000 x259001 ((rd_T31 x0 x5).f1)).bind fun bt270 => ((posthorseref08_Cut.f k x260000 x260001 ((rd_T31 x0 x5).f1)).bind fun bt279 => (if (bt270.2.2.1.length : Int) = (bt279.2.2.1.length : Int) then (posthorselaw08_InodePlays.l1 k x0 x5 y265 bt270.2.2.1 bt270.2.2.2 bt279.2.2.1 bt279.2.2.2 0 x259000 x259001 x260000 x260001 bt270.1 bt270.2.1 bt279.1 bt279.2.1) else (none)))) else (if (Int.tmod (wrap64 ((Int.tmod ((rd_T31 x0 x5).f0) 4) + 4)) 4) = 3 then ((inode_Move.f k x259000 x259001 ((rd_T31 x0 x5).f1) ((rd_T31 x0 x5).f2)).bind fun bt290 => ((posthorseref08_Move.f k x260000 x260001 ((rd_T31 x0 x5).f1) ((rd_T31 x0 x5).f2)).bind fun bt299 => (if (!(bt290.2.2.1 == bt299.2.2.1) || (!(bt290.2.2.2.1 == bt299.2.2.2.1))) = true then (none) else (posthorselaw08_InodePlays.j3 k x0 x5 y265 bt299.2.2.2.2 bt290.2.2.2.2 x259000 x259001 x260000 x260001 bt290.1 bt290.2.1 bt299.1 bt299.2.1)))) else ((inode_Grow.f k x259000 x259001 ((rd_T31 x0 x5).f1) ((rd_T31 x0 x5).f2)).bind fun bt308 => ((posthorseref08_Grow.f k x260000 x260001 ((rd_T31 x0 x5).f1) ((rd_T31 x0 x5).f2)).bind fun bt313 => (posthorselaw08_InodePlays.j3 k x0 x5 y265 bt313.2.2 bt308.2.2 x259000 x259001 x260000 x260001 bt308.1 bt308.2.1 bt313.1 bt313.2.1)))))) else (none))) else (none)) else (none)) else (some true)
def posthorselaw08_InodePlays.j3 : Nat → List (S31) → Int → List (S40) → Int → Option Int → Int → List (S40) → Int → List (S39) → Int → List (S40) → Int → List (S39) → Option (Bool)
 | 0, _, _, _, _, _, _, _, _, _, _, _, _, _ => none
 | k + 1, x0, x5, x7, x10, x11, x259000, x259001, x260000, x260001, x269000, x269001, x270000, x270001 => (posthorselaw08_code.f x11).bind fun t318 => (if t318 = x10 then ((posthorselaw08_same.f k x269000 x269001 x270000 x270001).bind fun t319 => (if t319 = true then (posthorselaw08_InodePlays.j4 k x0 x5 x7 x10 ((x259001.length : Int) != (x7.length : Int)) x259000 x259001 x260000 x260001 x269000 x269001 x270000 x270001) else (posthorselaw08_InodePlays.j4 k x0 x5 x7 x10 true x259000 x259001 x260000 x260001 x269000 x269001 x270000 x270001))) else (posthorselaw08_InodePlays.j4 k x0 x5 x7 x10 true x259000 x259001 x260000 x260001 x269000 x269001 x270000 x270001))
def posthorselaw08_InodePlays.j4 : Nat → List (S31) → Int → List (S40) → Int → Bool → Int → List (S40) → Int → List (S39) → Int → List (S40) → Int → List (S39) → Option (Bool)
 | 0, _, _, _, _, _, _, _, _, _, _, _, _, _ => none
 | k + 1, x0, x5, x7, x10, x159, x259000, x259001, x260000, x260001, x269000, x269001, x270000, x270001 => if x159 = true then (none) else (posthorselaw08_InodePlays.l2 k x0 x5 x7 x10 0 x259000 x259001 x260000 x260001 x269000 x269001 x270000 x270001)
def posthorselaw08_InodePlays.l2 : Nat → List (S31) → Int → List (S40) → Int → Int → Int → List (S40) → Int → List (S39) → Int → List (S40) → Int → List (S39) → Option (Bool)
 | 0, _, _, _, _, _, _, _, _, _, _, _, _, _ => none
 | k + 1, x0, x5, x7, x10, x25, x259000, x259001, x260000, x260001, x269000, x269001, x270000, x270001 => if x25 < (x7.length : Int) then (if 0 ≤ x25 then (if x25 < (x259001.length : Int) then (if (!(((rd_T40 x259001 x25).f0) == ((rd_T40 x7 x25).f0)) || (!(((rd_T40 x259001 x25).f1) == ((rd_T40 x7 x25).f1)))) = true then (none) else (posthorselaw08_InodePlays.l2 k x0 x5 x7 x10 (wrap64 (x25 + 1)) x259000 x259001 x260000 x260001 x269000 x269001 x270000 x270001)) else (none)) else (none)) else (if x10 = 0 then ((inode_Right.f x269000 x269001 2048).bind fun t322 => (if t322 = true then (posthorselaw08_InodePlays.l0 k x0 (wrap64 (x5 + 1)) x269000 x269001 x270000 x270001) else (none))) else ((inode_Right.f x259000 x259001 2048).bind fun t323 => (if t323 = true then (posthorselaw08_InodePlays.l0 k x0 (wrap64 (x5 + 1)) x259000 x259001 x260000 x260001) else (none))))
def posthorselaw08_InodePlays.l1 : Nat → List (S31) → Int → List (S40) → List (S40) → Option Int → List (S39) → Int → Int → Int → List (S40) → Int → List (S39) → Int → List (S40) → Int → List (S39) → Option (Bool)
 | 0, _, _, _, _, _, _, _, _, _, _, _, _, _, _, _, _ => none
 | k + 1, x0, x5, x7, x13, x14, x16, x17, x18, x259000, x259001, x260000, x260001, x279000, x279001, x288000, x288001 => if x18 < (x16.length : Int) then (if 0 ≤ x18 then (if x18 < (x13.length : Int) then (if (!(((rd_T40 x13 x18).f0) == ((rd_T39 x16 x18).f0)) || (!(((rd_T40 x13 x18).f1) == ((rd_T39 x16 x18).f1)))) = true then (none) else (posthorselaw08_InodePlays.l1 k x0 x5 x7 x13 x14 x16 x17 (wrap64 (x18 + 1)) x259000 x259001 x260000 x260001 x279000 x279001 x288000 x288001)) else (none)) else (none)) else (posthorselaw08_InodePlays.j3 k x0 x5 x7 x17 x14 x259000 x259001 x260000 x260001 x279000 x279001 x288000 x288001)
end
def posthorselaw08_InodePlays.f (k : Nat) (l0 : List (S31)) : Option (Bool) := (posthorselaw08_speaks.f k).bind fun t257 => (if t257 = true then (posthorselaw08_InodePlays.l0 k l0 0 0 ([] : List (S40)) 0 ([] : List (S39))) else (none))
set_option maxRecDepth 100000 in
theorem posthorselaw08_InodePlays.mono_l : ∀ k, (∀ y0 y1 y2 y3 y4 y5, LeO (posthorselaw08_InodePlays.l0 k y0 y1 y2 y3 y4 y5) (posthorselaw08_InodePlays.l0 (k + 1) y0 y1 y2 y3 y4 y5)) ∧ (∀ y0 y1 y2 y3 y4 y5 y6, LeO (posthorselaw08_InodePlays.j1 k y0 y1 y2 y3 y4 y5 y6) (posthorselaw08_InodePlays.j1 (k + 1) y0 y1 y2 y3 y4 y5 y6)) ∧ (∀ y0 y1 y2 y3 y4 y5 y6 y7 y8 y9 y10 y11 y12, LeO (posthorselaw08_InodePlays.j3 k y0 y1 y2 y3 y4 y5 y6 y7 y8 y9 y10 y11 y12) (posthorselaw08_InodePlays.j3 (k + 1) y0 y1 y2 y3 y4 y5 y6 y7 y8 y9 y10 y11 y12)) ∧ (∀ y0 y1 y2 y3 y4 y5 y6 y7 y8 y9 y10 y11 y12, LeO (posthorselaw08_InodePlays.j4 k y0 y1 y2 y3 y4 y5 y6 y7 y8 y9 y10 y11 y12) (posthorselaw08_InodePlays.j4 (k + 1) y0 y1 y2 y3 y4 y5 y6 y7 y8 y9 y10 y11 y12)) ∧ (∀ y0 y1 y2 y3 y4 y5 y6 y7 y8 y9 y10 y11 y12, LeO (posthorselaw08_InodePlays.l2 k y0 y1 y2 y3 y4 y5 y6 y7 y8 y9 y10 y11 y12) (posthorselaw08_InodePlays.l2 (k + 1) y0 y1 y2 y3 y4 y5 y6 y7 y8 y9 y10 y11 y12)) ∧ (∀ y0 y1 y2 y3 y4 y5 y6 y7 y8 y9 y10 y11 y12 y13 y14 y15, LeO (posthorselaw08_InodePlays.l1 k y0 y1 y2 y3 y4 y5 y6 y7 y8 y9 y10 y11 y12 y13 y14 y15) (posthorselaw08_InodePlays.l1 (k + 1) y0 y1 y2 y3 y4 y5 y6 y7 y8 y9 y10 y11 y12 y13 y14 y15))
 | 0 => ⟨fun _ _ _ _ _ _ r h => by first | (rw [posthorselaw08_InodePlays.l0] at h; cases h) | simp [posthorselaw08_InodePlays.l0] at h, fun _ _ _ _ _ _ _ r h => by first | (rw [posthorselaw08_InodePlays.j1] at h; cases h) | simp [posthorselaw08_InodePlays.j1] at h, fun _ _ _ _ _ _ _ _ _ _ _ _ _ r h => by first | (rw [posthorselaw08_InodePlays.j3] at h; cases h) | simp [posthorselaw08_InodePlays.j3] at h, fun _ _ _ _ _ _ _ _ _ _ _ _ _ r h => by first | (rw [posthorselaw08_InodePlays.j4] at h; cases h) | simp [posthorselaw08_InodePlays.j4] at h, fun _ _ _ _ _ _ _ _ _ _ _ _ _ r h => by first | (rw [posthorselaw08_InodePlays.l2] at h; cases h) | simp [posthorselaw08_InodePlays.l2] at h, fun _ _ _ _ _ _ _ _ _ _ _ _ _ _ _ _ r h => by first | (rw [posthorselaw08_InodePlays.l1] at h; cases h) | simp [posthorselaw08_InodePlays.l1] at h⟩
 | k + 1 => by
  obtain ⟨ih0, ih1, ih2, ih3, ih4, ih5⟩ := posthorselaw08_InodePlays.mono_l k
  refine ⟨?_, ?_, ?_, ?_, ?_, ?_⟩
  ·intro y0 y1 y2 y3 y4 y5
   unfold posthorselaw08_InodePlays.l0
   repeat' first
   | (with_reducible exact ih0 _ _ _ _ _ _)
   | (with_reducible exact ih1 _ _ _ _ _ _ _)
   | (with_reducible exact ih2 _ _ _ _ _ _ _ _ _ _ _ _ _)
   | (with_reducible exact ih3 _ _ _ _ _ _ _ _ _ _ _ _ _)
   | (with_reducible exact ih4 _ _ _ _ _ _ _ _ _ _ _ _ _)
   | (with_reducible exact ih5 _ _ _ _ _ _ _ _ _ _ _ _ _ _ _ _)
   | (with_reducible exact inode_Cut.mono _ _ _ _)
   | (with_reducible exact inode_Grow.mono _ _ _ _ _)
   | (with_reducible exact inode_Move.mono _ _ _ _ _)
   | (with_reducible exact posthorselaw08_same.mono _ _ _ _ _)
   | (with_reducible exact posthorselaw08_speaks.mono _)
   | (with_reducible exact posthorseref08_Cut.mono _ _ _ _)
   | (with_reducible exact posthorseref08_Grow.mono _ _ _ _ _)
   | (with_reducible exact posthorseref08_Move.mono _ _ _ _ _)
   | (with_reducible exact LeO.refl _)
   | (with_reducible exact LeO.none _)
   | (with_reducible refine LeO.ite ?_ ?_)
   | (with_reducible refine LeO.bind ?_ (fun _ => ?_))
   | exact ih0 _ _ _ _ _ _
   | exact ih1 _ _ _ _ _ _ _
   | exact ih2 _ _ _ _ _ _ _ _ _ _ _ _ _
   | exact ih3 _ _ _ _ _ _ _ _ _ _ _ _ _
   | exact ih4 _ _ _ _ _ _ _ _ _ _ _ _ _
   | exact ih5 _ _ _ _ _ _ _ _ _ _ _ _ _ _ _ _
   | exact inode_Cut.mono _ _ _ _
   | exact inode_Grow.mono _ _ _ _ _
   | exact inode_Move.mono _ _ _ _ _
   | exact posthorselaw08_same.mono _ _ _ _ _
   | exact posthorselaw08_speaks.mono _
   | exact posthorseref08_Cut.mono _ _ _ _
   | exact posthorseref08_Grow.mono _ _ _ _ _
   | exact posthorseref08_Move.mono _ _ _ _ _
   | exact LeO.none _
   | refine LeO.ite ?_ ?_
   | refine LeO.bind ?_ (fun _ => ?_)
  ·intro y0 y1 y2 y3 y4 y5 y6
   unfold posthorselaw08_InodePlays.j1
   repeat' first
   | (with_reducible exact ih0 _ _ _ _ _ _)
   | (with_reducible exact ih1 _ _ _ _ _ _ _)
   | (with_reducible exact ih2 _ _ _ _ _ _ _ _ _ _ _ _ _)
   | (with_reducible exact ih3 _ _ _ _ _ _ _ _ _ _ _ _ _)
   | (with_reducible exact ih4 _ _ _ _ _ _ _ _ _ _ _ _ _)
   | (with_reducible exact ih5 _ _ _ _ _ _ _ _ _ _ _ _ _ _ _ _)
   | (with_reducible exact inode_Cut.mono _ _ _ _)
   | (with_reducible exact inode_Grow.mono _ _ _ _ _)
   | (with_reducible exact inode_Move.mono _ _ _ _ _)
   | (with_reducible exact posthorselaw08_same.mono _ _ _ _ _)
   | (with_reducible exact posthorselaw08_speaks.mono _)
   | (with_reducible exact posthorseref08_Cut.mono _ _ _ _)
   | (with_reducible exact posthorseref08_Grow.mono _ _ _ _ _)
   | (with_reducible exact posthorseref08_Move.mono _ _ _ _ _)
   | (with_reducible exact LeO.refl _)
   | (with_reducible exact LeO.none _)
   | (with_reducible refine LeO.ite ?_ ?_)
   | (with_reducible refine LeO.bind ?_ (fun _ => ?_))
   | exact ih0 _ _ _ _ _ _
   | exact ih1 _ _ _ _ _ _ _
   | exact ih2 _ _ _ _ _ _ _ _ _ _ _ _ _
   | exact ih3 _ _ _ _ _ _ _ _ _ _ _ _ _
   | exact ih4 _ _ _ _ _ _ _ _ _ _ _ _ _
   | exact ih5 _ _ _ _ _ _ _ _ _ _ _ _ _ _ _ _
   | exact inode_Cut.mono _ _ _ _
   | exact inode_Grow.mono _ _ _ _ _
   | exact inode_Move.mono _ _ _ _ _
   | exact posthorselaw08_same.mono _ _ _ _ _
   | exact posthorselaw08_speaks.mono _
   | exact posthorseref08_Cut.mono _ _ _ _
   | exact posthorseref08_Grow.mono _ _ _ _ _
   | exact posthorseref08_Move.mono _ _ _ _ _
   | exact LeO.none _
   | refine LeO.ite ?_ ?_
   | refine LeO.bind ?_ (fun _ => ?_)
  ·intro y0 y1 y2 y3 y4 y5 y6 y7 y8 y9 y10 y11 y12
   unfold posthorselaw08_InodePlays.j3
   repeat' first
   | (with_reducible exact ih0 _ _ _ _ _ _)
   | (with_reducible exact ih1 _ _ _ _ _ _ _)
   | (with_reducible exact ih2 _ _ _ _ _ _ _ _ _ _ _ _ _)
   | (with_reducible exact ih3 _ _ _ _ _ _ _ _ _ _ _ _ _)
   | (with_reducible exact ih4 _ _ _ _ _ _ _ _ _ _ _ _ _)
   | (with_reducible exact ih5 _ _ _ _ _ _ _ _ _ _ _ _ _ _ _ _)
   | (with_reducible exact inode_Cut.mono _ _ _ _)
   | (with_reducible exact inode_Grow.mono _ _ _ _ _)
   | (with_reducible exact inode_Move.mono _ _ _ _ _)
   | (with_reducible exact posthorselaw08_same.mono _ _ _ _ _)
   | (with_reducible exact posthorselaw08_speaks.mono _)
   | (with_reducible exact posthorseref08_Cut.mono _ _ _ _)
   | (with_reducible exact posthorseref08_Grow.mono _ _ _ _ _)
   | (with_reducible exact posthorseref08_Move.mono _ _ _ _ _)
   | (with_reducible exact LeO.refl _)
   | (with_reducible exact LeO.none _)
   | (with_reducible refine LeO.ite ?_ ?_)
   | (with_reducible refine LeO.bind ?_ (fun _ => ?_))
   | exact ih0 _ _ _ _ _ _
   | exact ih1 _ _ _ _ _ _ _
   | exact ih2 _ _ _ _ _ _ _ _ _ _ _ _ _
   | exact ih3 _ _ _ _ _ _ _ _ _ _ _ _ _
   | exact ih4 _ _ _ _ _ _ _ _ _ _ _ _ _
   | exact ih5 _ _ _ _ _ _ _ _ _ _ _ _ _ _ _ _
   | exact inode_Cut.mono _ _ _ _
   | exact inode_Grow.mono _ _ _ _ _
   | exact inode_Move.mono _ _ _ _ _
   | exact posthorselaw08_same.mono _ _ _ _ _
   | exact posthorselaw08_speaks.mono _
   | exact posthorseref08_Cut.mono _ _ _ _
   | exact posthorseref08_Grow.mono _ _ _ _ _
   | exact posthorseref08_Move.mono _ _ _ _ _
   | exact LeO.none _
   | refine LeO.ite ?_ ?_
   | refine LeO.bind ?_ (fun _ => ?_)
  ·intro y0 y1 y2 y3 y4 y5 y6 y7 y8 y9 y10 y11 y12
   unfold posthorselaw08_InodePlays.j4
   repeat' first
   | (with_reducible exact ih0 _ _ _ _ _ _)
   | (with_reducible exact ih1 _ _ _ _ _ _ _)
   | (with_reducible exact ih2 _ _ _ _ _ _ _ _ _ _ _ _ _)
   | (with_reducible exact ih3 _ _ _ _ _ _ _ _ _ _ _ _ _)
   | (with_reducible exact ih4 _ _ _ _ _ _ _ _ _ _ _ _ _)
   | (with_reducible exact ih5 _ _ _ _ _ _ _ _ _ _ _ _ _ _ _ _)
   | (with_reducible exact inode_Cut.mono _ _ _ _)
   | (with_reducible exact inode_Grow.mono _ _ _ _ _)
   | (with_reducible exact inode_Move.mono _ _ _ _ _)
   | (with_reducible exact posthorselaw08_same.mono _ _ _ _ _)
   | (with_reducible exact posthorselaw08_speaks.mono _)
   | (with_reducible exact posthorseref08_Cut.mono _ _ _ _)
   | (with_reducible exact posthorseref08_Grow.mono _ _ _ _ _)
   | (with_reducible exact posthorseref08_Move.mono _ _ _ _ _)
   | (with_reducible exact LeO.refl _)
   | (with_reducible exact LeO.none _)
   | (with_reducible refine LeO.ite ?_ ?_)
   | (with_reducible refine LeO.bind ?_ (fun _ => ?_))
   | exact ih0 _ _ _ _ _ _
   | exact ih1 _ _ _ _ _ _ _
   | exact ih2 _ _ _ _ _ _ _ _ _ _ _ _ _
   | exact ih3 _ _ _ _ _ _ _ _ _ _ _ _ _
   | exact ih4 _ _ _ _ _ _ _ _ _ _ _ _ _
   | exact ih5 _ _ _ _ _ _ _ _ _ _ _ _ _ _ _ _
   | exact inode_Cut.mono _ _ _ _
   | exact inode_Grow.mono _ _ _ _ _
   | exact inode_Move.mono _ _ _ _ _
   | exact posthorselaw08_same.mono _ _ _ _ _
   | exact posthorselaw08_speaks.mono _
   | exact posthorseref08_Cut.mono _ _ _ _
   | exact posthorseref08_Grow.mono _ _ _ _ _
   | exact posthorseref08_Move.mono _ _ _ _ _
   | exact LeO.none _
   | refine LeO.ite ?_ ?_
   | refine LeO.bind ?_ (fun _ => ?_)
  ·intro y0 y1 y2 y3 y4 y5 y6 y7 y8 y9 y10 y11 y12
   unfold posthorselaw08_InodePlays.l2
   repeat' first
   | (with_reducible exact ih0 _ _ _ _ _ _)
   | (with_reducible exact ih1 _ _ _ _ _ _ _)
   | (with_reducible exact ih2 _ _ _ _ _ _ _ _ _ _ _ _ _)
   | (with_reducible exact ih3 _ _ _ _ _ _ _ _ _ _ _ _ _)
   | (with_reducible exact ih4 _ _ _ _ _ _ _ _ _ _ _ _ _)
   | (with_reducible exact ih5 _ _ _ _ _ _ _ _ _ _ _ _ _ _ _ _)
   | (with_reducible exact inode_Cut.mono _ _ _ _)
   | (with_reducible exact inode_Grow.mono _ _ _ _ _)
   | (with_reducible exact inode_Move.mono _ _ _ _ _)
   | (with_reducible exact posthorselaw08_same.mono _ _ _ _ _)
   | (with_reducible exact posthorselaw08_speaks.mono _)
   | (with_reducible exact posthorseref08_Cut.mono _ _ _ _)
   | (with_reducible exact posthorseref08_Grow.mono _ _ _ _ _)
   | (with_reducible exact posthorseref08_Move.mono _ _ _ _ _)
   | (with_reducible exact LeO.refl _)
   | (with_reducible exact LeO.none _)
   | (with_reducible refine LeO.ite ?_ ?_)
   | (with_reducible refine LeO.bind ?_ (fun _ => ?_))
   | exact ih0 _ _ _ _ _ _
   | exact ih1 _ _ _ _ _ _ _
   | exact ih2 _ _ _ _ _ _ _ _ _ _ _ _ _
   | exact ih3 _ _ _ _ _ _ _ _ _ _ _ _ _
   | exact ih4 _ _ _ _ _ _ _ _ _ _ _ _ _
   | exact ih5 _ _ _ _ _ _ _ _ _ _ _ _ _ _ _ _
   | exact inode_Cut.mono _ _ _ _
   | exact inode_Grow.mono _ _ _ _ _
   | exact inode_Move.mono _ _ _ _ _
   | exact posthorselaw08_same.mono _ _ _ _ _
   | exact posthorselaw08_speaks.mono _
   | exact posthorseref08_Cut.mono _ _ _ _
   | exact posthorseref08_Grow.mono _ _ _ _ _
   | exact posthorseref08_Move.mono _ _ _ _ _
   | exact LeO.none _
   | refine LeO.ite ?_ ?_
   | refine LeO.bind ?_ (fun _ => ?_)
  ·intro y0 y1 y2 y3 y4 y5 y6 y7 y8 y9 y10 y11 y12 y13 y14 y15
   unfold posthorselaw08_InodePlays.l1
   repeat' first
   | (with_reducible exact ih0 _ _ _ _ _ _)
   | (with_reducible exact ih1 _ _ _ _ _ _ _)
   | (with_reducible exact ih2 _ _ _ _ _ _ _ _ _ _ _ _ _)
   | (with_reducible exact ih3 _ _ _ _ _ _ _ _ _ _ _ _ _)
   | (with_reducible exact ih4 _ _ _ _ _ _ _ _ _ _ _ _ _)
   | (with_reducible exact ih5 _ _ _ _ _ _ _ _ _ _ _ _ _ _ _ _)
   | (with_reducible exact inode_Cut.mono _ _ _ _)
   | (with_reducible exact inode_Grow.mono _ _ _ _ _)
   | (with_reducible exact inode_Move.mono _ _ _ _ _)
   | (with_reducible exact posthorselaw08_same.mono _ _ _ _ _)
   | (with_reducible exact posthorselaw08_speaks.mono _)
   | (with_reducible exact posthorseref08_Cut.mono _ _ _ _)
   | (with_reducible exact posthorseref08_Grow.mono _ _ _ _ _)
   | (with_reducible exact posthorseref08_Move.mono _ _ _ _ _)
   | (with_reducible exact LeO.refl _)
   | (with_reducible exact LeO.none _)
   | (with_reducible refine LeO.ite ?_ ?_)
   | (with_reducible refine LeO.bind ?_ (fun _ => ?_))
   | exact ih0 _ _ _ _ _ _
   | exact ih1 _ _ _ _ _ _ _
   | exact ih2 _ _ _ _ _ _ _ _ _ _ _ _ _
   | exact ih3 _ _ _ _ _ _ _ _ _ _ _ _ _
   | exact ih4 _ _ _ _ _ _ _ _ _ _ _ _ _
   | exact ih5 _ _ _ _ _ _ _ _ _ _ _ _ _ _ _ _
   | exact inode_Cut.mono _ _ _ _
   | exact inode_Grow.mono _ _ _ _ _
   | exact inode_Move.mono _ _ _ _ _
   | exact posthorselaw08_same.mono _ _ _ _ _
   | exact posthorselaw08_speaks.mono _
   | exact posthorseref08_Cut.mono _ _ _ _
   | exact posthorseref08_Grow.mono _ _ _ _ _
   | exact posthorseref08_Move.mono _ _ _ _ _
   | exact LeO.none _
   | refine LeO.ite ?_ ?_
   | refine LeO.bind ?_ (fun _ => ?_)
theorem posthorselaw08_InodePlays.mono : ∀ a0 k, LeO (posthorselaw08_InodePlays.f k a0) (posthorselaw08_InodePlays.f (k + 1) a0) := by
 intro a0 k
 obtain ⟨ih0, ih1, ih2, ih3, ih4, ih5⟩ := posthorselaw08_InodePlays.mono_l k
 unfold posthorselaw08_InodePlays.f
 repeat' first
   | (with_reducible exact ih0 _ _ _ _ _ _)
   | (with_reducible exact ih1 _ _ _ _ _ _ _)
   | (with_reducible exact ih2 _ _ _ _ _ _ _ _ _ _ _ _ _)
   | (with_reducible exact ih3 _ _ _ _ _ _ _ _ _ _ _ _ _)
   | (with_reducible exact ih4 _ _ _ _ _ _ _ _ _ _ _ _ _)
   | (with_reducible exact ih5 _ _ _ _ _ _ _ _ _ _ _ _ _ _ _ _)
   | (with_reducible exact inode_Cut.mono _ _ _ _)
   | (with_reducible exact inode_Grow.mono _ _ _ _ _)
   | (with_reducible exact inode_Move.mono _ _ _ _ _)
   | (with_reducible exact posthorselaw08_same.mono _ _ _ _ _)
   | (with_reducible exact posthorselaw08_speaks.mono _)
   | (with_reducible exact posthorseref08_Cut.mono _ _ _ _)
   | (with_reducible exact posthorseref08_Grow.mono _ _ _ _ _)
   | (with_reducible exact posthorseref08_Move.mono _ _ _ _ _)
   | (with_reducible exact LeO.refl _)
   | (with_reducible exact LeO.none _)
   | (with_reducible refine LeO.ite ?_ ?_)
   | (with_reducible refine LeO.bind ?_ (fun _ => ?_))
   | exact ih0 _ _ _ _ _ _
   | exact ih1 _ _ _ _ _ _ _
   | exact ih2 _ _ _ _ _ _ _ _ _ _ _ _ _
   | exact ih3 _ _ _ _ _ _ _ _ _ _ _ _ _
   | exact ih4 _ _ _ _ _ _ _ _ _ _ _ _ _
   | exact ih5 _ _ _ _ _ _ _ _ _ _ _ _ _ _ _ _
   | exact inode_Cut.mono _ _ _ _
   | exact inode_Grow.mono _ _ _ _ _
   | exact inode_Move.mono _ _ _ _ _
   | exact posthorselaw08_same.mono _ _ _ _ _
   | exact posthorselaw08_speaks.mono _
   | exact posthorseref08_Cut.mono _ _ _ _
   | exact posthorseref08_Grow.mono _ _ _ _ _
   | exact posthorseref08_Move.mono _ _ _ _ _
   | exact LeO.none _
   | refine LeO.ite ?_ ?_
   | refine LeO.bind ?_ (fun _ => ?_)
def posthorselaw08_InodePlays.T25 : Bool × List (List Nat × List Nat) := (true, [([], []), ([], []), ([0, 1], [0, 1]), ([2], [2]), ([], []), ([], []), ([4, 5], [4, 5]), ([6], [6]), ([3, 7], [3, 7])])
def posthorselaw08_InodePlays.B25 : List Nat := [0, 0, 3, 7, 0, 0, 48, 112, 255]
theorem posthorselaw08_InodePlays.tab25 : rtab .any (opsOf Tryd.f3 25) = posthorselaw08_InodePlays.T25 := by kernel_rfl
theorem posthorselaw08_InodePlays.bits25 : waitsOk posthorselaw08_InodePlays.T25.2 posthorselaw08_InodePlays.B25 = true := by kernel_rfl
def posthorselaw08_InodePlays.T27 : Bool × List (List Nat × List Nat) := (true, [([], []), ([], []), ([], []), ([], []), ([0, 0], [0]), ([1, 4, 0, 1, 4], [1]), ([2, 5, 0, 1, 2, 4, 5], [2]), ([3, 6, 0, 1, 2, 3, 4, 5, 6], [3])])
def posthorselaw08_InodePlays.B27 : List Nat := [0, 0, 0, 0, 1, 19, 55, 127]
theorem posthorselaw08_InodePlays.tab27 : rtab .any (opsOf Tryd.f3 27) = posthorselaw08_InodePlays.T27 := by kernel_rfl
theorem posthorselaw08_InodePlays.bits27 : waitsOk posthorselaw08_InodePlays.T27.2 posthorselaw08_InodePlays.B27 = true := by kernel_rfl
def posthorselaw08_InodePlays.T33 : Bool × List (List Nat × List Nat) := (true, [([], []), ([], []), ([], []), ([], []), ([0, 0], [0]), ([1, 4, 0, 1, 4], [1]), ([2, 5, 0, 1, 2, 4, 5], [2]), ([3, 6, 0, 1, 2, 3, 4, 5, 6], [3])])
def posthorselaw08_InodePlays.B33 : List Nat := [0, 0, 0, 0, 1, 19, 55, 127]
theorem posthorselaw08_InodePlays.tab33 : rtab .any (opsOf Tryd.f3 33) = posthorselaw08_InodePlays.T33 := by kernel_rfl
theorem posthorselaw08_InodePlays.bits33 : waitsOk posthorselaw08_InodePlays.T33.2 posthorselaw08_InodePlays.B33 = true := by kernel_rfl
def posthorselaw08_InodePlays.T39 : Bool × List (List Nat × List Nat) := (true, [([], []), ([0], [0]), ([], []), ([1, 2], [1, 2]), ([3], [3]), ([], []), ([], []), ([5, 6], [5, 6]), ([7], [7]), ([4, 8], [4, 8])])
def posthorselaw08_InodePlays.B39 : List Nat := [0, 1, 0, 7, 15, 0, 0, 96, 224, 511]
theorem posthorselaw08_InodePlays.tab39 : rtab .any (opsOf Tryd.f3 39) = posthorselaw08_InodePlays.T39 := by kernel_rfl
theorem posthorselaw08_InodePlays.bits39 : waitsOk posthorselaw08_InodePlays.T39.2 posthorselaw08_InodePlays.B39 = true := by kernel_rfl
end Go.Proofs.YtmncfcebjohloaaDoor.VInodePlays
