/- Contracts of functions of this seat: each call comes to what its Lean function computes; no condition beyond what each theorem states. Printed by a program of this session's own laid over the kit's printer. -/
import Derived.Deep.RegionHeld3
import Derived.Laws.Bits
import Derived.Test.YtmncfcebjohloaaGreatDoorVInodeGetsx0
import Derived.Test.YtmncfcebjohloaaGreatDoorVInodeGetsx15
namespace Go.Proofs.YtmncfcebjohloaaGreatDoor.VInodeGets
open Go.RowKit Go.Proofs.YtmncfcebjohloaaGreatDoorW.PrintWords Go.Proofs.YtmncfcebjohloaaGreatDoorW.PrintLast Go.Proofs.YtmncfcebjohloaaGreatDoorW.PrintMore
attribute [local go_sem] max2_int min2_int max_two min_two max_three min_three max_four min_four   -- for this text's walks alone
set_option linter.unusedVariables false
set_option linter.unusedSimpArgs false

-- @GIVEN mark_Sum
/-! ### mark_Sum: by hand -/
/-- What four bits of a register come to. -/
def nibs : List Nat := [0, 274646895, 549293790, 820201905, 1098587580, 1361435347, 1640403810, 1905808397, 2197175160, 2460548119, 2722870694, 2987750089, 3280807620, 3553878443, 3811616794, 4084100981]
/-- Half a byte. -/
def nibStep (r : Nat) : Nat := (r / 16) ^^^ nibs.getD (r % 16) 0
/-- A byte. -/
def sumStep (r b : Nat) : Nat := nibStep (nibStep (r ^^^ b))
/-- The register behind some bytes. -/
def sumReg (l : List UInt8) : Nat := l.foldl (fun r b => sumStep r b.toNat) 4294967295
/-- The sum of a text. -/
def sumOfL (l : List UInt8) : Nat := 4294967295 - sumReg l
def mark_Sum.f (s : ByteArray) : Option Int := if s.size ≤ 140737488355328 then some (sumOfL s.data.toList : Int) else none
theorem nibs_lt (i : Nat) : nibs.getD i 0 < 4294967296 := by
  by_cases h : i < 16
  · have : ∀ j : Fin 16, nibs.getD j.val 0 < 4294967296 := by decide
    exact this ⟨i, h⟩
  · rw [List.getD_eq_getElem?_getD, List.getElem?_eq_none (by show 16 ≤ i; omega)]; decide
theorem nibStep_lt {r : Nat} (h : r < 4294967296) : nibStep r < 4294967296 := Nat.xor_lt_two_pow (n := 32) (by omega) (nibs_lt _)
theorem xor_lt32 {a b : Nat} (ha : a < 4294967296) (hb : b < 4294967296) : a ^^^ b < 4294967296 := Nat.xor_lt_two_pow (n := 32) ha hb
theorem sumStep_lt {r b : Nat} (h : r < 4294967296) (hb : b < 256) : sumStep r b < 4294967296 := nibStep_lt (nibStep_lt (xor_lt32 h (by omega)))
theorem sumReg_lt (l : List UInt8) : sumReg l < 4294967296 := by
  have : ∀ (l : List UInt8) (r : Nat), r < 4294967296 → l.foldl (fun r b => sumStep r b.toNat) r < 4294967296 := by
    intro l
    induction l with
    | nil => intro r h; exact h
    | cons b l ih => intro r h; exact ih _ (sumStep_lt h b.toNat_lt)
  exact this l _ (by decide)
theorem u32n (a : Nat) (ha : a < 4294967296) : (BitVec.ofInt 32 (a : Int)).toNat = a := by
  rw [BitVec.ofInt_natCast, BitVec.toNat_ofNat]; exact Nat.mod_eq_of_lt (by omega)
theorem xor_u32 (a b : Nat) (ha : a < 4294967296) (hb : b < 4294967296) : Go.bits .xor .u32 (a : Int) (b : Int) = ((a ^^^ b : Nat) : Int) := by
  have hx := xor_lt32 ha hb
  show IntKind.u32.wrap ((BitVec.ofInt 32 (a : Int) ^^^ BitVec.ofInt 32 (b : Int)).toNat : Int) = _
  rw [BitVec.toNat_xor, u32n a ha, u32n b hb]
  simp only [IntKind.wrap, IntKind.bits, IntKind.signed]
  simp; omega
theorem and15_u32 (a : Nat) (ha : a < 4294967296) : Go.bits .and .u32 (a : Int) 15 = ((a % 16 : Nat) : Int) := by
  show IntKind.u32.wrap ((BitVec.ofInt 32 (a : Int) &&& BitVec.ofInt 32 ((15 : Nat) : Int)).toNat : Int) = _
  rw [BitVec.toNat_and, u32n a ha, u32n 15 (by decide), show a &&& 15 = a % 16 from Nat.and_two_pow_sub_one_eq_mod a 4]
  simp only [IntKind.wrap, IntKind.bits, IntKind.signed]
  simp; omega
theorem not_u32 (a : Nat) (ha : a < 4294967296) : Go.bits .xor .u32 IntKind.u32.max (a : Int) = ((4294967295 - a : Nat) : Int) := by
  show IntKind.u32.wrap ((BitVec.ofInt 32 IntKind.u32.max ^^^ BitVec.ofInt 32 (a : Int)).toNat : Int) = _
  rw [show BitVec.ofInt 32 IntKind.u32.max = BitVec.allOnes 32 from rfl, BitVec.allOnes_xor, BitVec.toNat_not, u32n a ha]
  simp only [IntKind.wrap, IntKind.bits, IntKind.signed]
  simp; omega
set_option maxHeartbeats 4000000 in
set_option maxRecDepth 100000 in
theorem mark_Sum.calls (s : ByteArray) (r : Int) (w : World) (hL_ : Laid w) (h : mark_Sum.f s = some r) :
    Calls Tryz.prog 56 #[.string s] w fun e w' => e = .returned (.int .u32 r) ∧ Below w.heap.size w w' := by
  have HL_ := Aside0.mk hL_
  clear hL_
  unfold mark_Sum.f at h
  by_cases hs : s.size ≤ 140737488355328
  case neg => rw [if_neg hs] at h; cases h
  rw [if_pos hs] at h
  obtain rfl : (sumOfL s.data.toList : Int) = r := Option.some.inj h
  have HS_ := Aside0.mk hs
  clear h hs
  have HN := Aside0.mk (show ∀ i : Nat, i < 16 → w.cell? ⟨1, i, none⟩ = some (.int .u32 (nibs.getD i 0 : Nat)) from fun i hi => Laid.nibbles HL_.out i hi)

  refine Calls.mono (R := fun e w' => e = .returned (.int .u32 (sumOfL s.data.toList : Int)) ∧ w' = w) ?_ (fun e w' h => ⟨h.1, by rw [h.2]; exact Below.refl _ _⟩)
  go_enter Tryz.func56, Tryz.ntmps56
  go_wp2
  go_loopg [3, 7] (s.size + 1) (fun kq v3 v7 w' => ∃ i : Nat, v7 = .int .i64 (i : Int) ∧ v3 = .int .u32 (sumReg (s.data.toList.take i) : Nat) ∧ Aside0 (i ≤ s.size ∧ kq = s.size - i + 1) ∧ w' = w)
  case atStart => exact ⟨0, rfl, rfl, ⟨by omega, by omega⟩, rfl⟩
  case round =>
    obtain ⟨i, rfl, rfl, HI, rfl⟩ := hrel
    by_cases c : i < s.size
    · have cb : decide ((i : Int) < (s.size : Int)) = true := decide_eq_true (by omega)
      have cb1 := eq_true (show (i : Int) < (s.size : Int) by omega)
      have cb2 := eq_true c
      have hlt : i < s.data.toList.length := by rw [Array.length_toList]; exact c
      have hsl : s.data.toList[i] = s[i]'c := by rw [Array.getElem_toList]; rfl
      have hb := (s[i]'c).toNat_lt
      have hnext : sumReg (s.data.toList.take (i + 1)) = nibStep (nibStep (sumReg (s.data.toList.take i) ^^^ (s[i]'c).toNat)) := by
        unfold sumReg
        rw [List.take_succ_eq_append_getElem hlt, List.foldl_append, hsl]; rfl
      have hrg := sumReg_lt (s.data.toList.take i)
      have E1 : Go.bits .xor .u32 ((sumReg (s.data.toList.take i) : Nat) : Int) ((((s[i]'c).toNat : Nat) : Int) % 4294967296) = ((sumReg (s.data.toList.take i) ^^^ (s[i]'c).toNat : Nat) : Int) := by
        rw [show (((s[i]'c).toNat : Nat) : Int) % 4294967296 = (((s[i]'c).toNat : Nat) : Int) by omega, xor_u32 _ _ hrg (by omega)]
      have hr1 := xor_lt32 hrg (show (s[i]'c).toNat < 4294967296 by omega)
      generalize sumReg (s.data.toList.take i) ^^^ (s[i]'c).toNat = r1 at *
      have E2 := and15_u32 r1 hr1
      have hi1 : r1 % 16 < 16 := Nat.mod_lt _ (by decide)
      have N1 := HN.out (r1 % 16) hi1
      have E3 : Go.bits .xor .u32 ((r1 : Int) / 16) ((nibs.getD (r1 % 16) 0 : Nat) : Int) = ((nibStep r1 : Nat) : Int) := by
        rw [show (r1 : Int) / 16 = ((r1 / 16 : Nat) : Int) by omega, xor_u32 _ _ (by omega) (nibs_lt _)]; rfl
      have hr2 := nibStep_lt hr1
      generalize nibStep r1 = r2 at *
      have E4 := and15_u32 r2 hr2
      have hi2 : r2 % 16 < 16 := Nat.mod_lt _ (by decide)
      have N2 := HN.out (r2 % 16) hi2
      have E5 : Go.bits .xor .u32 ((r2 : Int) / 16) ((nibs.getD (r2 % 16) 0 : Nat) : Int) = ((nibStep r2 : Nat) : Int) := by
        rw [show (r2 : Int) / 16 = ((r2 / 16 : Nat) : Int) by omega, xor_u32 _ _ (by omega) (nibs_lt _)]; rfl
      generalize nibs.getD (r1 % 16) 0 = n1 at *
      generalize nibs.getD (r2 % 16) 0 = n2 at *
      generalize r1 % 16 = i1 at *
      generalize r2 % 16 = i2 at *
      have d1 : decide ((i1 : Int) < 16) = true := decide_eq_true (by omega)
      have d2 : decide ((i2 : Int) < 16) = true := decide_eq_true (by omega)
      have d1' := eq_true (show (i1 : Int) < 16 by omega)
      have d2' := eq_true (show (i2 : Int) < 16 by omega)
      clear hrg hr1 hr2 hsl hlt hb
      go_wp2
      go_roundg (s.size - i)
      case measure => have := HI.out; omega
      case rel => exact ⟨i + 1, (by rw [show wrap64 ((i : Int) + 1) = ((i + 1 : Nat) : Int) by have := HS_.out; unfold wrap64; omega]), (by rw [hnext]), ⟨by have := HI.out; omega, by have := HI.out; omega⟩, rfl⟩
    · have cb : decide ((i : Int) < (s.size : Int)) = false := decide_eq_false (by omega)
      obtain rfl : i = s.size := by have := HI.out; omega
      have hrg := sumReg_lt s.data.toList
      have ht : s.data.toList.take s.size = s.data.toList := List.take_of_length_le (by rw [Array.length_toList]; exact Nat.le_refl _)
      have hnot := not_u32 _ hrg
      go_wp2
      go_ret
      exact ⟨rfl, rfl⟩


end Go.Proofs.YtmncfcebjohloaaGreatDoor.VInodeGets
