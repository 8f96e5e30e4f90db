/- Contracts of functions of this seat: each call comes to what its Lean function computes; no condition beyond what each theorem states. Printed by a program of this session's own laid over the kit's printer. -/
import Derived.RangeFuncNested
import Derived.RangeFuncBound
import Derived.RangeFuncCalls
import Derived.RangeFuncLeaves
import Derived.Shelf.Abstract
import Derived.WalkKit
import Derived.OwnWalkIn
import Derived.TacticsInMore
import Derived.LoopNIn
import Derived.LoopIn
import Derived.Test.YtofiedgnnpednaaDoorVNvmeRefusesx0
import Derived.Test.YtofiedgnnpednaaDoorVNvmeRefusesx1
import Derived.Test.YtofiedgnnpednaaDoorVNvmeRefusesx2
import Derived.Test.YtofiedgnnpednaaDoorVNvmeRefusesx15
namespace Go.Proofs.YtofiedgnnpednaaDoor.VNvmeRefuses
open Go.RowKit Go.Proofs.YtofiedgnnpednaaDoorW.PrintWords Go.Proofs.YtofiedgnnpednaaDoorW.PrintLast Go.Proofs.YtofiedgnnpednaaDoorW.PrintMore
attribute [local go_sem] max2_int min2_int max_two min_two max_three min_three max_four min_four   -- for this text's walks alone
set_option linter.unusedVariables false
set_option linter.unusedSimpArgs false

-- @GIVEN lib_nvfound
/-- What has come of a list from its end on, when k rounds are over. -/
def bwN (l : List NC) (k : Nat) : List (Nat × NC) := (List.range k).map fun j => (l.length - 1 - j, l.getD (l.length - 1 - j) zeroN)
theorem bwN_succ (l : List NC) (k : Nat) : bwN l (k + 1) = bwN l k ++ [(l.length - 1 - k, l.getD (l.length - 1 - k) zeroN)] := by simp [bwN, List.range_succ]
theorem bwN_length (l : List NC) (k : Nat) : (bwN l k).length = k := by simp [bwN]
theorem bwN_mem {l : List NC} {k j : Nat} (h : j < k) : (l.length - 1 - j, l.getD (l.length - 1 - j) zeroN) ∈ bwN l k := by
  simp only [bwN, List.mem_map, List.mem_range]
  exact ⟨j, h, rfl⟩
theorem lookC_none (s : Int) : ∀ l : List NC, (∀ j, j < l.length → (l.getD (l.length - 1 - j) zeroN).sector ≠ s) → lookC s l = none
  | [], _ => rfl
  | c :: l, h => by
    have h1 := lookC_none s l fun j hj => by
      have := h j (by simp; omega)
      rwa [show (c :: l).length - 1 - j = (l.length - 1 - j) + 1 by simp; omega, List.getD_cons_succ] at this
    have h2 := h l.length (by simp)
    rw [show (c :: l).length - 1 - l.length = 0 by simp, List.getD_cons_zero] at h2
    rw [lookC, h1]
    exact if_neg h2
theorem lookC_some (s : Int) : ∀ (l : List NC) (k : Nat), k < l.length → (l.getD (l.length - 1 - k) zeroN).sector = s → (∀ j, j < k → (l.getD (l.length - 1 - j) zeroN).sector ≠ s) → lookC s l = some (l.getD (l.length - 1 - k) zeroN)
  | [], k, hk, _, _ => by simp at hk
  | c :: l, k, hk, h1, h2 => by
    have e : ∀ j, j < l.length → (c :: l).getD ((c :: l).length - 1 - j) zeroN = l.getD (l.length - 1 - j) zeroN := fun j hj => by
      rw [show (c :: l).length - 1 - j = (l.length - 1 - j) + 1 by simp; omega, List.getD_cons_succ]
    by_cases hkl : k < l.length
    · rw [e k hkl] at h1 ⊢
      rw [lookC, lookC_some s l k hkl h1 (fun j hj => by rw [← e j (by omega)]; exact h2 j hj)]
    · obtain rfl : k = l.length := by simp at hk; omega
      rw [show (c :: l).length - 1 - l.length = 0 by simp, List.getD_cons_zero] at h1 ⊢
      rw [lookC, lookC_none s l (fun j hj => by rw [← e j hj]; exact h2 j hj)]
      exact if_pos h1
theorem set4c {W : World} {g : Nat} {a b c d x y z u : Value} {T : TypeId} (h : W.heap[g]? = some (.cells #[a, b, c, d] T (0, 0))) : ((((W.setCell ⟨g, 0, none⟩ x).setCell ⟨g, 1, none⟩ y).setCell ⟨g, 2, none⟩ z).setCell ⟨g, 3, none⟩ u).heap[g]? = some (.cells #[x, y, z, u] T (0, 0)) := by
  simp [World.setCell, Array.getElem?_modify, h]
theorem set4b {B : Nat} {w W : World} (h : Below B w W) {g : Nat} (hg : B ≤ g) (x y z u : Value) : Below B w ((((W.setCell ⟨g, 0, none⟩ x).setCell ⟨g, 1, none⟩ y).setCell ⟨g, 2, none⟩ z).setCell ⟨g, 3, none⟩ u) :=
  (((h.setCell (p := ⟨g, 0, none⟩) hg x).setCell (p := ⟨g, 1, none⟩) hg y).setCell (p := ⟨g, 2, none⟩) hg z).setCell (p := ⟨g, 3, none⟩) hg u
theorem set4o {W : World} {g k : Nat} {o : Obj} (h : W.heap[k]? = some o) (hk : k ≠ g) (x y z u : Value) : ((((W.setCell ⟨g, 0, none⟩ x).setCell ⟨g, 1, none⟩ y).setCell ⟨g, 2, none⟩ z).setCell ⟨g, 3, none⟩ u).heap[k]? = some o := by
  rw [Below.heap_setCell _ _ _ _ hk, Below.heap_setCell _ _ _ _ hk, Below.heap_setCell _ _ _ _ hk, Below.heap_setCell _ _ _ _ hk]
  exact h
theorem noughts_eq : zerosB 512 = noughts := rfl
theorem obj_ne {w : World} {g g' : Nat} {o o' : Obj} (h : w.heap[g]? = some o) (h' : w.heap[g']? = some o') (hne : o ≠ o') : g ≠ g' := fun e => by subst e; rw [h] at h'; exact hne (Option.some.inj h')
/-- A code that can only go on: what else is said of its ends is of no weight. -/
def onlyN (Q : Exit → Act → World → Prop) : Exit → Act → World → Prop
  | .normal => Q .normal
  | _ => fun _ _ => False
theorem wp_onlyN {P : Program} {c : Code} {Q : Exit → Act → World → Prop} {a : Act} {w : World} (h : c.wp P (onlyN Q) a w) : c.wp P Q a w :=
  wp_mono h fun e a w hq => by cases e <;> first | exact hq | exact hq.elim


end Go.Proofs.YtofiedgnnpednaaDoor.VNvmeRefuses
