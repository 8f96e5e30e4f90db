/- SuperOrder of layer 9: in any layout that is right (600 to 1623 sectors, a journal of 8 to 263) the parts lie one behind the other and no sector is left out; for every input, no condition. -/
import Derived.Test.YtekjkbocblonmaaPSuperOrderx1
namespace Go.Proofs.Ytekjkbocblonmaa.Pure
open Go.RowKit Go.Proofs.Ytekjkbocblonmaa.PSuperOrder Go.Proofs.YtekjkbocblonmaaW.PrintWords Go.Proofs.YtekjkbocblonmaaW.PrintLast

theorem i64_and1023 (n : Int) : Go.bits .and .i64 n 1023 = n % 1024 := by
  have h127 : (BitVec.ofInt 64 1023).toNat = 2 ^ 10 - 1 := by decide
  have key : (BitVec.ofInt 64 n &&& BitVec.ofInt 64 1023).toNat = (n % ((2 ^ 64 : Nat) : Int)).toNat % 2 ^ 10 := by
    rw [BitVec.toNat_and, BitVec.toNat_ofInt, h127, Nat.and_two_pow_sub_one_eq_mod]
  show IntKind.i64.wrap ((BitVec.ofInt 64 n &&& BitVec.ofInt 64 1023).toNat : Nat) = n % 1024
  rw [key, IntKind.wrap_i64]
  omega
theorem i64_and255 (n : Int) : Go.bits .and .i64 n 255 = n % 256 := by
  have h127 : (BitVec.ofInt 64 255).toNat = 2 ^ 8 - 1 := by decide
  have key : (BitVec.ofInt 64 n &&& BitVec.ofInt 64 255).toNat = (n % ((2 ^ 64 : Nat) : Int)).toNat % 2 ^ 8 := by
    rw [BitVec.toNat_and, BitVec.toNat_ofInt, h127, Nat.and_two_pow_sub_one_eq_mod]
  show IntKind.i64.wrap ((BitVec.ofInt 64 n &&& BitVec.ofInt 64 255).toNat : Nat) = n % 256
  rw [key, IntKind.wrap_i64]
  omega

theorem order_core (s j : Int) (hs : 600 ≤ s) (hs2 : s ≤ 1623) (hj : 8 ≤ j) (hj2 : j ≤ 263) :
    super_Right.f s j = some true ∧ super_Layout_Bits.f s j = some (1 + j) ∧ super_Layout_Data.f s j = some (j + 6, s - (j + 6)) ∧ super_Layout_Ring.f s j = some (1, j) ∧ (∀ i, 0 ≤ i → i < 4 → super_Layout_Inode.f s j i = some (j + 2 + i, true)) := by
  have hr : super_Right.f s j = some true := by
    unfold super_Right.f
    rw [if_pos (by omega), if_pos (by omega), if_pos (by omega)]
    simp only [Option.some.injEq, decide_eq_true_eq]
    unfold wrap64; omega
  have hb : super_Layout_Bits.f s j = some (1 + j) := by
    unfold super_Layout_Bits.f
    rw [hr]; simp only [Option.bind_some, if_true, Option.some.injEq]
    unfold wrap64; omega
  refine ⟨hr, hb, ?_, ?_, ?_⟩
  · unfold super_Layout_Data.f
    rw [hr, hb]; simp only [Option.bind_some, if_true, Option.some.injEq, Prod.mk.injEq]
    unfold wrap64; omega
  · unfold super_Layout_Ring.f
    rw [hr]; simp only [Option.bind_some, if_true]
  · intro i h0 h1
    unfold super_Layout_Inode.f
    rw [hr]; simp only [Option.bind_some, if_true]
    rw [if_neg (by omega), if_neg (by omega), hb]
    simp only [Option.bind_some, Option.some.injEq, Prod.mk.injEq, and_true]
    unfold wrap64; omega

theorem speaks_yes : posthorselaw09_speaks.f = some true := by decide +kernel

theorem order_loop (s j : Int) (hs : 600 ≤ s) (hs2 : s ≤ 1623) (hj : 8 ≤ j) (hj2 : j ≤ 263) (i : Int) (h0 : 0 ≤ i) (h4 : i < 4) (k : Nat) (r : Option Bool)
    (h : posthorselaw09_SuperOrder.l0 k (j + 2 + i) (i + 1) s j = r) : posthorselaw09_SuperOrder.l0 (k + 1) (j + 1 + i) i s j = r := by
  obtain ⟨_, _, _, _, hi⟩ := order_core s j hs hs2 hj hj2
  simp only [posthorselaw09_SuperOrder.l0]
  rw [if_pos h4, hi i h0 h4]; simp only [Option.bind_some, if_true]
  have e1 : wrap64 (j + 1 + i + 1) = j + 2 + i := by unfold wrap64; omega
  have e2 : wrap64 (i + 1) = i + 1 := by unfold wrap64; omega
  rw [e1, e2, if_pos rfl]
  exact h

theorem SuperOrder : posthorselaw09_SuperOrder.Pure := by
  intro a b _ _
  refine ⟨6, ?_⟩
  unfold posthorselaw09_SuperOrder.f
  rw [speaks_yes, i64_and1023, i64_and255]
  have e1 : wrap64 (600 + a % 1024) = 600 + a % 1024 := by unfold wrap64; omega
  have e2 : wrap64 (8 + b % 256) = 8 + b % 256 := by unfold wrap64; omega
  rw [e1, e2]
  have g1 : 600 ≤ 600 + a % 1024 := by omega
  have g2 : 600 + a % 1024 ≤ 1623 := by omega
  have g3 : 8 ≤ 8 + b % 256 := by omega
  have g4 : 8 + b % 256 ≤ 263 := by omega
  generalize 600 + a % 1024 = s at *
  generalize 8 + b % 256 = j at *
  obtain ⟨_, hb, hd, hri, hi⟩ := order_core s j g1 g2 g3 g4
  have e3 : wrap64 (1 + j) = 1 + j := by unfold wrap64; omega
  rw [hri, hb]; simp only [Option.bind_some, if_true, e3, bne_self_eq_false]
  simp only [posthorselaw09_SuperOrder.j0]
  rw [if_neg (by decide), show (1 + j : Int) = j + 1 + 0 by omega]
  refine order_loop s j g1 g2 g3 g4 0 (by omega) (by omega) _ _ ?_
  rw [show (j + 2 + 0 : Int) = j + 1 + (0 + 1) by omega]
  refine order_loop s j g1 g2 g3 g4 _ (by omega) (by omega) _ _ ?_
  rw [show (j + 2 + (0 + 1) : Int) = j + 1 + (0 + 1 + 1) by omega]
  refine order_loop s j g1 g2 g3 g4 _ (by omega) (by omega) _ _ ?_
  rw [show (j + 2 + (0 + 1 + 1) : Int) = j + 1 + (0 + 1 + 1 + 1) by omega]
  refine order_loop s j g1 g2 g3 g4 _ (by omega) (by omega) _ _ ?_
  simp only [posthorselaw09_SuperOrder.l0]
  rw [if_neg (by omega), hd]; simp only [Option.bind_some]
  have e4 : wrap64 (j + 2 + (0 + 1 + 1 + 1) + 1) = j + 6 := by unfold wrap64; omega
  have e5 : wrap64 (j + 6 + (s - (j + 6))) = s := by unfold wrap64; omega
  rw [e4, e5, if_pos rfl]; simp

end Go.Proofs.Ytekjkbocblonmaa.Pure
