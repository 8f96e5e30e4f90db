/- Contracts of functions of this seat: each call comes to what its Lean function computes; no condition beyond what each theorem states. Printed by a program of this session's own laid over the kit's printer. -/
import Derived.Laws.Cover1
import Derived.Test.YtegcaniikdibdaaGreatDoorVPagePutsx0
namespace Go.Proofs.YtegcaniikdibdaaGreatDoor.VPagePuts
open Go.RowKit Go.Proofs.YtegcaniikdibdaaGreatDoorW.PrintWords Go.Proofs.YtegcaniikdibdaaGreatDoorW.PrintLast Go.Proofs.YtegcaniikdibdaaGreatDoorW.PrintMore
attribute [local go_sem] max2_int min2_int max_two min_two max_three min_three max_four min_four   -- for this text's walks alone
set_option linter.unusedSimpArgs false
set_option linter.unusedVariables false
-- @GIVEN posthorseref11_Right
/-! ### posthorseref11_Right: by hand -/
def posthorseref11_Right.f (k : Nat) (lv : Int) (keys : List ByteArray) (vals : List ByteArray) (kids : List Int) : Option Bool := if keys.length ≤ 1000 ∧ vals.length ≤ 1000 ∧ kids.length ≤ 1000 then some (rightP lv keys vals kids) else none
set_option maxHeartbeats 16000000 in
set_option maxRecDepth 100000 in
theorem posthorseref11_Right.calls (k : Nat) (a0_0 : Int) (A0_1 : Option Addr) (c0_1 : Nat) (l0_1 : List ByteArray) (A0_2 : Option Addr) (c0_2 : Nat) (l0_2 : List ByteArray) (A0_3 : Option Addr) (c0_3 : Nat) (l0_3 : List Int) (r : Bool) (w : World) (hr0_1 : Kd.C Kd.string w A0_1 l0_1.length l0_1) (hc0_1 : l0_1.length ≤ c0_1) (hr0_2 : Kd.C Kd.string w A0_2 l0_2.length l0_2) (hc0_2 : l0_2.length ≤ c0_2) (hr0_3 : Kd.C (Kd.int .i64) w A0_3 l0_3.length l0_3) (hc0_3 : l0_3.length ≤ c0_3) (h : posthorseref11_Right.f k a0_0 l0_1 l0_2 l0_3 = some r) :
  Calls Tryz.prog 19 #[.agg #[.int .i64 a0_0, .slice A0_1 l0_1.length c0_1, .slice A0_2 l0_2.length c0_2, .slice A0_3 l0_3.length c0_3]] w fun e w' => e = .returned (.bool r) ∧ Below w.heap.size w w' := by
 unfold posthorseref11_Right.f at h
 by_cases hlen : l0_1.length ≤ 1000 ∧ l0_2.length ≤ 1000 ∧ l0_3.length ≤ 1000
 case neg => rw [if_neg hlen] at h; cases h
 rw [if_pos hlen] at h; have hrr := Option.some.inj h; clear h; have HR1 := Aside0.mk hr0_1; have HR2 := Aside0.mk hr0_2; have HR3 := Aside0.mk hr0_3; have HLE := Aside0.mk hlen; have hu29 := Tryz.underlying29; clear hr0_1 hc0_1 hr0_2 hc0_2 hr0_3 hc0_3 hlen; have HP := Aside0.mk (heap_alloc_new w (.cells #[.int .i64 a0_0, .slice A0_1 l0_1.length c0_1, .slice A0_2 l0_2.length c0_2, .slice A0_3 l0_3.length c0_3] 29)); have HB := Aside0.mk (below_alloc (Below.refl w.heap.size w) (.cells #[.int .i64 a0_0, .slice A0_1 l0_1.length c0_1, .slice A0_2 l0_2.length c0_2, .slice A0_3 l0_3.length c0_3] 29)); obtain ⟨gp, hgp⟩ : ∃ gp, w.heap.size = gp := ⟨_, rfl⟩
 have hx0 := (blk_cell HP.out 0).trans rfl; have hx1 := (blk_cell HP.out 1).trans rfl; have hx2 := (blk_cell HP.out 2).trans rfl; have hx3 := (blk_cell HP.out 3).trans rfl; clear hgp gp; go_enter Tryz.func19, Tryz.ntmps19
 by_cases c1 : a0_0 < 0
 case pos =>
  have hr_ : r = false := by rw [← hrr]; exact rightP_bad (by omega)
  have d1 : decide (a0_0 < 0) = true := decide_eq_true (by omega); go_wp2
  go_ret
  exact ⟨z29, HB.out⟩
 have d1 : decide (a0_0 < 0) = false := decide_eq_false (by omega)
 by_cases c2 : 5 < a0_0
 case pos =>
  have hr_ : r = false := by rw [← hrr]; exact rightP_bad (by omega)
  have d2 : decide (5 < a0_0) = true := decide_eq_true (by omega); go_wp2
  go_ret
  exact ⟨z29, HB.out⟩
 have d2 : decide (5 < a0_0) = false := decide_eq_false (by omega)
 by_cases h0_ : a0_0 = 0
 case pos =>
  subst h0_
  by_cases c3 : 11 < l0_1.length
  case pos =>
   have hr_ : r = false := by rw [← hrr]; exact rightP_bad (by omega)
   have d5 : decide (11 < (l0_1.length : Int)) = true := decide_eq_true (by omega); have d5m : decide (11 < l0_1.length) = true := decide_eq_true (by omega); go_wp2
   go_ret
   exact ⟨z29, HB.out⟩
  have d5 : decide (11 < (l0_1.length : Int)) = false := decide_eq_false (by omega); have d5m : decide (11 < l0_1.length) = false := decide_eq_false (by omega)
  by_cases c4 : l0_2.length = l0_1.length
  case neg =>
   have hr_ : r = false := by rw [← hrr]; exact rightP_bad (by omega)
   have d6 : ((l0_2.length : Int) == (l0_1.length : Int)) = false := beq_eq_false_iff_ne.mpr (by omega); have d6n : ((l0_2.length : Int) != (l0_1.length : Int)) = true := bne_iff_ne.mpr (by omega); have d6m : (l0_2.length == l0_1.length) = false := beq_eq_false_iff_ne.mpr (by omega); have d6mn : (l0_2.length != l0_1.length) = true := bne_iff_ne.mpr (by omega); go_wp2
   go_ret
   exact ⟨z29, HB.out⟩
  have d6 : ((l0_2.length : Int) == (l0_1.length : Int)) = true := beq_iff_eq.mpr (by omega); have d6n : ((l0_2.length : Int) != (l0_1.length : Int)) = false := bne_eq_false_iff_eq.mpr (by omega); have d6m : (l0_2.length == l0_1.length) = true := beq_iff_eq.mpr (by omega); have d6mn : (l0_2.length != l0_1.length) = false := bne_eq_false_iff_eq.mpr (by omega); have C4 := Aside0.mk c4; clear c4
  by_cases c5 : l0_3.length = 0
  case neg =>
   have hr_ : r = false := by rw [← hrr]; exact rightP_bad (by have h4_ := C4.out; omega)
   have d7 : ((l0_3.length : Int) == 0) = false := beq_eq_false_iff_ne.mpr (by omega); have d7n : ((l0_3.length : Int) != 0) = true := bne_iff_ne.mpr (by omega); have d7m : (l0_3.length == 0) = false := beq_eq_false_iff_ne.mpr (by omega); have d7mn : (l0_3.length != 0) = true := bne_iff_ne.mpr (by omega); go_wp2
   go_ret
   exact ⟨z29, HB.out⟩
  have d7 : ((l0_3.length : Int) == 0) = true := beq_iff_eq.mpr (by omega); have d7n : ((l0_3.length : Int) != 0) = false := bne_eq_false_iff_eq.mpr (by omega); have d7m : (l0_3.length == 0) = true := beq_iff_eq.mpr (by omega); have d7mn : (l0_3.length != 0) = false := bne_eq_false_iff_eq.mpr (by omega); have C5 := Aside0.mk c5; clear c5; go_wp2
  clear hx0 hx1 hx2 hx3; go_loopg [4] 2000 (fun kq v4 w' => ∃ i : Nat, v4 = .int .i64 (i : Int) ∧ Aside0 (i ≤ l0_1.length ∧ kq = 2000 - i) ∧ Aside0 ((List.range' i (l0_1.length - i)).all (rowOk 0 l0_1 l0_2 l0_3) = r) ∧ Aside0 (w'.heap[w.heap.size]? = some (.cells #[.int .i64 0, .slice A0_1 l0_1.length c0_1, .slice A0_2 l0_2.length c0_2, .slice A0_3 l0_3.length c0_3] 29 (0, 0))) ∧ Aside0 (Below w.heap.size w w'))
  case atStart => exact ⟨0, rfl, ⟨by omega, rfl⟩, ⟨by rw [← hrr, Nat.sub_zero]; exact (rightP_ok (by have h4_ := C4.out; have h5_ := C5.out; omega)).symm⟩, HP, HB⟩
  case round =>
   clear HP HB; obtain ⟨i, rfl, HI, HK, HP, HB⟩ := hrel; have hi0 := HI.out; have hle0 := HLE.out; have hc4 := Nat.le_of_eq C4.out.symm; have hx0 := (blk_cell HP.out 0).trans rfl; have hx1 := (blk_cell HP.out 1).trans rfl; have hx2 := (blk_cell HP.out 2).trans rfl; have hx3 := (blk_cell HP.out 3).trans rfl
   by_cases hi : i < l0_1.length
   case neg =>
    have hr_ : r = true := by rw [← HK.out, show l0_1.length - i = 0 by omega]; rfl
    have d1 : decide ((i : Int) < (l0_1.length : Int)) = false := decide_eq_false (by omega); have d1m : decide (i < l0_1.length) = false := decide_eq_false (by omega); go_wp2
    go_ret
    exact ⟨z29, HB.out⟩
   have d1 : decide ((i : Int) < (l0_1.length : Int)) = true := decide_eq_true (by omega); have d1m : decide (i < l0_1.length) = true := decide_eq_true (by omega); have d2 : decide ((0 : Int) ≤ (i : Int)) = true := decide_eq_true (by omega); have p1 := eq_true (show (0 : Int) ≤ (i : Int) by omega); have p2 := eq_true (show (i : Int) < (l0_1.length : Int) by omega); have p3 := eq_true hi; have HKs := HK.out; rw [show l0_1.length - i = (l0_1.length - (i + 1)) + 1 by omega, show List.range' i ((l0_1.length - (i + 1)) + 1) = i :: List.range' (i + 1) (l0_1.length - (i + 1)) from rfl, List.all_cons] at HKs; obtain ⟨ad, rfl, he0⟩ := Kd.at_string HR1.out (i : Int) (by omega) (by omega); rw [show ((i : Int)).toNat = i from rfl] at he0; have HE := (HB.out.cell (World.block_lt_of_cell? w _ he0)).trans he0; obtain ⟨ad2, rfl, hf0⟩ := Kd.at_string HR2.out (i : Int) (by omega) (by omega); rw [show ((i : Int)).toNat = i from rfl] at hf0; have HF := (HB.out.cell (World.block_lt_of_cell? w _ hf0)).trans hf0; have q2 := eq_true (show (i : Int) < (l0_2.length : Int) by omega); have q3 := eq_true (show i < l0_2.length by omega)
   by_cases hz : i = 0
   case pos =>
    have z1 : decide (0 < (i : Int)) = false := decide_eq_false (by omega); have z1m : decide (0 < i) = false := decide_eq_false (by omega); have HZ := Aside0.mk hz; clear hz
    by_cases hE : (rdOf ByteArray.empty l0_1 (i : Int)).toList = []
    case pos =>
     have e1 : ((rdOf ByteArray.empty l0_1 (i : Int)).toList == ([] : List UInt8)) = true := beq_iff_eq.mpr hE; have e1n : ((rdOf ByteArray.empty l0_1 (i : Int)).toList != ([] : List UInt8)) = false := bne_eq_false_iff_eq.mpr hE; have hr_ : r = false := by rw [← HKs, rowOk_key (keyOk_emptyT (by omega) hE), Bool.false_and]
     clear hE; go_wp2
     go_ret
     exact ⟨z29, HB.out⟩
    have e1 : ((rdOf ByteArray.empty l0_1 (i : Int)).toList == ([] : List UInt8)) = false := beq_eq_false_iff_ne.mpr hE; have e1n : ((rdOf ByteArray.empty l0_1 (i : Int)).toList != ([] : List UInt8)) = true := bne_iff_ne.mpr hE
    by_cases hS : (rdOf ByteArray.empty l0_1 (i : Int)).size ≤ 16
    case neg =>
     have s0 : decide (16 < ((rdOf ByteArray.empty l0_1 (i : Int)).size : Int)) = true := decide_eq_true (by omega); have s0m : decide (16 < (rdOf ByteArray.empty l0_1 (i : Int)).size) = true := decide_eq_true (by omega); have hr_ : r = false := by rw [← HKs, rowOk_key (keyOk_long hS), Bool.false_and]
     go_wp2
     go_ret
     exact ⟨z29, HB.out⟩
    have s0 : decide (16 < ((rdOf ByteArray.empty l0_1 (i : Int)).size : Int)) = false := decide_eq_false (by omega); have s0m : decide (16 < (rdOf ByteArray.empty l0_1 (i : Int)).size) = false := decide_eq_false (by omega)
    by_cases hs : (rdOf ByteArray.empty l0_2 (i : Int)).size ≤ 24
    case pos =>
     have s1 : decide (24 < ((rdOf ByteArray.empty l0_2 (i : Int)).size : Int)) = false := decide_eq_false (by omega); have s1m : decide (24 < (rdOf ByteArray.empty l0_2 (i : Int)).size) = false := decide_eq_false (by omega); have HN := Aside0.mk (show (List.range' (i + 1) (l0_1.length - (i + 1))).all (rowOk 0 l0_1 l0_2 l0_3) = r by rw [← HKs, rowOk_of (keyOk_firstL (by omega) HZ.out hE hS) (sideOk_leaf rfl hs), Bool.true_and]); have HI1 := Aside0.mk (show wrap64 ((i : Int) + 1) = ((i + 1 : Nat) : Int) by unfold wrap64; omega); go_wp2
     go_roundg (1999 - i)
     case measure => omega
     case rel => exact ⟨i + 1, z55, ⟨by omega, by omega⟩, HN, HP, HB⟩
    case neg =>
     have s1 : decide (24 < ((rdOf ByteArray.empty l0_2 (i : Int)).size : Int)) = true := decide_eq_true (by omega); have s1m : decide (24 < (rdOf ByteArray.empty l0_2 (i : Int)).size) = true := decide_eq_true (by omega); have hr_ : r = false := by rw [← HKs, rowOk_side (sideOk_leafF rfl hs), Bool.false_and]
     go_wp2
     go_ret
     exact ⟨z29, HB.out⟩
   case neg =>
    have z1 : decide (0 < (i : Int)) = true := decide_eq_true (by omega); have z1m : decide (0 < i) = true := decide_eq_true (by omega); have eb : wrap64 ((i : Int) - 1) = ((i - 1 : Nat) : Int) := by unfold wrap64; omega
    obtain ⟨adp, hadp, hp0⟩ := Kd.at_string HR1.out ((i - 1 : Nat) : Int) (by omega) (by omega); rw [show (((i - 1 : Nat) : Int)).toNat = i - 1 from rfl] at hp0; injection hadp with hadp
    subst hadp; have HQ := (HB.out.cell (World.block_lt_of_cell? w _ hp0)).trans hp0; have p4 := eq_true (show (0 : Int) ≤ ((i - 1 : Nat) : Int) by omega); have p5 := eq_true (show ((i - 1 : Nat) : Int) < (l0_1.length : Int) by omega); have p6 := eq_true (show i - 1 < l0_1.length by omega)
    by_cases hE : (rdOf ByteArray.empty l0_1 (i : Int)).toList = []
    case pos =>
     have e1 : ((rdOf ByteArray.empty l0_1 (i : Int)).toList == ([] : List UInt8)) = true := beq_iff_eq.mpr hE; have e1n : ((rdOf ByteArray.empty l0_1 (i : Int)).toList != ([] : List UInt8)) = false := bne_eq_false_iff_eq.mpr hE; have hr_ : r = false := by rw [← HKs, rowOk_key (keyOk_emptyT (by omega) hE), Bool.false_and]
     clear hE; go_wp2
     go_ret
     exact ⟨z29, HB.out⟩
    have e1 : ((rdOf ByteArray.empty l0_1 (i : Int)).toList == ([] : List UInt8)) = false := beq_eq_false_iff_ne.mpr hE; have e1n : ((rdOf ByteArray.empty l0_1 (i : Int)).toList != ([] : List UInt8)) = true := bne_iff_ne.mpr hE
    by_cases hS : (rdOf ByteArray.empty l0_1 (i : Int)).size ≤ 16
    case neg =>
     have s0 : decide (16 < ((rdOf ByteArray.empty l0_1 (i : Int)).size : Int)) = true := decide_eq_true (by omega); have s0m : decide (16 < (rdOf ByteArray.empty l0_1 (i : Int)).size) = true := decide_eq_true (by omega); have hr_ : r = false := by rw [← HKs, rowOk_key (keyOk_long hS), Bool.false_and]
     go_wp2
     go_ret
     exact ⟨z29, HB.out⟩
    have s0 : decide (16 < ((rdOf ByteArray.empty l0_1 (i : Int)).size : Int)) = false := decide_eq_false (by omega); have s0m : decide (16 < (rdOf ByteArray.empty l0_1 (i : Int)).size) = false := decide_eq_false (by omega); cases hL : Op.bytesLess (rdOf ByteArray.empty l0_1 ((i - 1 : Nat) : Int)).toList (rdOf ByteArray.empty l0_1 (i : Int)).toList with
    | false =>
     have hr_ : r = false := by rw [← HKs, rowOk_key (keyOk_order hz hL), Bool.false_and]
     go_wp2
     go_ret
     exact ⟨z29, HB.out⟩
    | true =>
     by_cases hs : (rdOf ByteArray.empty l0_2 (i : Int)).size ≤ 24
     case pos =>
      have s1 : decide (24 < ((rdOf ByteArray.empty l0_2 (i : Int)).size : Int)) = false := decide_eq_false (by omega); have s1m : decide (24 < (rdOf ByteArray.empty l0_2 (i : Int)).size) = false := decide_eq_false (by omega); have HN := Aside0.mk (show (List.range' (i + 1) (l0_1.length - (i + 1))).all (rowOk 0 l0_1 l0_2 l0_3) = r by rw [← HKs, rowOk_of (keyOk_later hz hE hS hL) (sideOk_leaf rfl hs), Bool.true_and]); have HI1 := Aside0.mk (show wrap64 ((i : Int) + 1) = ((i + 1 : Nat) : Int) by unfold wrap64; omega); go_wp2
      go_roundg (1999 - i)
      case measure => omega
      case rel => exact ⟨i + 1, z55, ⟨by omega, by omega⟩, HN, HP, HB⟩
     case neg =>
      have s1 : decide (24 < ((rdOf ByteArray.empty l0_2 (i : Int)).size : Int)) = true := decide_eq_true (by omega); have s1m : decide (24 < (rdOf ByteArray.empty l0_2 (i : Int)).size) = true := decide_eq_true (by omega); have hr_ : r = false := by rw [← HKs, rowOk_side (sideOk_leafF rfl hs), Bool.false_and]
      go_wp2
      go_ret
      exact ⟨z29, HB.out⟩
 case neg =>
  have d3 : (a0_0 == 0) = false := beq_eq_false_iff_ne.mpr (by omega); have d3n : (a0_0 != 0) = true := bne_iff_ne.mpr (by omega); have d4 : decide (0 < a0_0) = true := decide_eq_true (by omega)
  by_cases c3 : l0_1.length < 2
  case pos =>
   have hr_ : r = false := by rw [← hrr]; exact rightP_bad (by omega)
   have d5 : decide ((l0_1.length : Int) < 2) = true := decide_eq_true (by omega); have d5m : decide (l0_1.length < 2) = true := decide_eq_true (by omega); go_wp2
   go_ret
   exact ⟨z29, HB.out⟩
  have d5 : decide ((l0_1.length : Int) < 2) = false := decide_eq_false (by omega); have d5m : decide (l0_1.length < 2) = false := decide_eq_false (by omega)
  by_cases c6 : 25 < l0_1.length
  case pos =>
   have hr_ : r = false := by rw [← hrr]; exact rightP_bad (by omega)
   have d8 : decide (25 < (l0_1.length : Int)) = true := decide_eq_true (by omega); have d8m : decide (25 < l0_1.length) = true := decide_eq_true (by omega); go_wp2
   go_ret
   exact ⟨z29, HB.out⟩
  have d8 : decide (25 < (l0_1.length : Int)) = false := decide_eq_false (by omega); have d8m : decide (25 < l0_1.length) = false := decide_eq_false (by omega)
  by_cases c4 : l0_3.length = l0_1.length
  case neg =>
   have hr_ : r = false := by rw [← hrr]; exact rightP_bad (by omega)
   have d6 : ((l0_3.length : Int) == (l0_1.length : Int)) = false := beq_eq_false_iff_ne.mpr (by omega); have d6n : ((l0_3.length : Int) != (l0_1.length : Int)) = true := bne_iff_ne.mpr (by omega); have d6m : (l0_3.length == l0_1.length) = false := beq_eq_false_iff_ne.mpr (by omega); have d6mn : (l0_3.length != l0_1.length) = true := bne_iff_ne.mpr (by omega); go_wp2
   go_ret
   exact ⟨z29, HB.out⟩
  have d6 : ((l0_3.length : Int) == (l0_1.length : Int)) = true := beq_iff_eq.mpr (by omega); have d6n : ((l0_3.length : Int) != (l0_1.length : Int)) = false := bne_eq_false_iff_eq.mpr (by omega); have d6m : (l0_3.length == l0_1.length) = true := beq_iff_eq.mpr (by omega); have d6mn : (l0_3.length != l0_1.length) = false := bne_eq_false_iff_eq.mpr (by omega); have C4 := Aside0.mk c4; clear c4
  by_cases c5 : l0_2.length = 0
  case neg =>
   have hr_ : r = false := by rw [← hrr]; exact rightP_bad (by have h4_ := C4.out; omega)
   have d7 : ((l0_2.length : Int) == 0) = false := beq_eq_false_iff_ne.mpr (by omega); have d7n : ((l0_2.length : Int) != 0) = true := bne_iff_ne.mpr (by omega); have d7m : (l0_2.length == 0) = false := beq_eq_false_iff_ne.mpr (by omega); have d7mn : (l0_2.length != 0) = true := bne_iff_ne.mpr (by omega); go_wp2
   go_ret
   exact ⟨z29, HB.out⟩
  have d7 : ((l0_2.length : Int) == 0) = true := beq_iff_eq.mpr (by omega); have d7n : ((l0_2.length : Int) != 0) = false := bne_eq_false_iff_eq.mpr (by omega); have d7m : (l0_2.length == 0) = true := beq_iff_eq.mpr (by omega); have d7mn : (l0_2.length != 0) = false := bne_eq_false_iff_eq.mpr (by omega); have C5 := Aside0.mk c5; clear c5; go_wp2
  clear hx0 hx1 hx2 hx3; go_loopg [4] 2000 (fun kq v4 w' => ∃ i : Nat, v4 = .int .i64 (i : Int) ∧ Aside0 (i ≤ l0_1.length ∧ kq = 2000 - i) ∧ Aside0 ((List.range' i (l0_1.length - i)).all (rowOk a0_0 l0_1 l0_2 l0_3) = r) ∧ Aside0 (w'.heap[w.heap.size]? = some (.cells #[.int .i64 a0_0, .slice A0_1 l0_1.length c0_1, .slice A0_2 l0_2.length c0_2, .slice A0_3 l0_3.length c0_3] 29 (0, 0))) ∧ Aside0 (Below w.heap.size w w'))
  case atStart => exact ⟨0, rfl, ⟨by omega, rfl⟩, ⟨by rw [← hrr, Nat.sub_zero]; exact (rightP_ok (by have h4_ := C4.out; have h5_ := C5.out; omega)).symm⟩, HP, HB⟩
  case round =>
   clear HP HB; obtain ⟨i, rfl, HI, HK, HP, HB⟩ := hrel; have hi0 := HI.out; have hle0 := HLE.out; have hc4 := Nat.le_of_eq C4.out.symm; have hx0 := (blk_cell HP.out 0).trans rfl; have hx1 := (blk_cell HP.out 1).trans rfl; have hx2 := (blk_cell HP.out 2).trans rfl; have hx3 := (blk_cell HP.out 3).trans rfl
   by_cases hi : i < l0_1.length
   case neg =>
    have hr_ : r = true := by rw [← HK.out, show l0_1.length - i = 0 by omega]; rfl
    have d1 : decide ((i : Int) < (l0_1.length : Int)) = false := decide_eq_false (by omega); have d1m : decide (i < l0_1.length) = false := decide_eq_false (by omega); go_wp2
    go_ret
    exact ⟨z29, HB.out⟩
   have d1 : decide ((i : Int) < (l0_1.length : Int)) = true := decide_eq_true (by omega); have d1m : decide (i < l0_1.length) = true := decide_eq_true (by omega); have d2 : decide ((0 : Int) ≤ (i : Int)) = true := decide_eq_true (by omega); have p1 := eq_true (show (0 : Int) ≤ (i : Int) by omega); have p2 := eq_true (show (i : Int) < (l0_1.length : Int) by omega); have p3 := eq_true hi; have HKs := HK.out; rw [show l0_1.length - i = (l0_1.length - (i + 1)) + 1 by omega, show List.range' i ((l0_1.length - (i + 1)) + 1) = i :: List.range' (i + 1) (l0_1.length - (i + 1)) from rfl, List.all_cons] at HKs; obtain ⟨ad, rfl, he0⟩ := Kd.at_string HR1.out (i : Int) (by omega) (by omega); rw [show ((i : Int)).toNat = i from rfl] at he0; have HE := (HB.out.cell (World.block_lt_of_cell? w _ he0)).trans he0; obtain ⟨ad2, rfl, hf0⟩ := Kd.at_int HR3.out (i : Int) (by omega) (by omega); rw [show ((i : Int)).toNat = i from rfl] at hf0; have HF := (HB.out.cell (World.block_lt_of_cell? w _ hf0)).trans hf0; have q2 := eq_true (show (i : Int) < (l0_3.length : Int) by omega); have q3 := eq_true (show i < l0_3.length by omega)
   by_cases hz : i = 0
   case pos =>
    have z1 : decide (0 < (i : Int)) = false := decide_eq_false (by omega); have z1m : decide (0 < i) = false := decide_eq_false (by omega); have z2 : ((i : Int) == 0) = true := beq_iff_eq.mpr (by omega); have z2n : ((i : Int) != 0) = false := bne_eq_false_iff_eq.mpr (by omega); have z2m : (i == 0) = true := beq_iff_eq.mpr (by omega); have z2mn : (i != 0) = false := bne_eq_false_iff_eq.mpr (by omega); have HZ := Aside0.mk hz; clear hz
    by_cases hE : (rdOf ByteArray.empty l0_1 (i : Int)).toList = []
    case neg =>
     have e1 : ((rdOf ByteArray.empty l0_1 (i : Int)).toList == ([] : List UInt8)) = false := beq_eq_false_iff_ne.mpr hE; have e1n : ((rdOf ByteArray.empty l0_1 (i : Int)).toList != ([] : List UInt8)) = true := bne_iff_ne.mpr hE; have hr_ : r = false := by rw [← HKs, rowOk_key (keyOk_emptyF (by omega) HZ.out hE), Bool.false_and]
     go_wp2
     go_ret
     exact ⟨z29, HB.out⟩
    have e1 : ((rdOf ByteArray.empty l0_1 (i : Int)).toList == ([] : List UInt8)) = true := beq_iff_eq.mpr hE; have e1n : ((rdOf ByteArray.empty l0_1 (i : Int)).toList != ([] : List UInt8)) = false := bne_eq_false_iff_eq.mpr hE; have HEQ := Aside0.mk hE; clear hE
    by_cases hS : (rdOf ByteArray.empty l0_1 (i : Int)).size ≤ 16
    case neg =>
     have s0 : decide (16 < ((rdOf ByteArray.empty l0_1 (i : Int)).size : Int)) = true := decide_eq_true (by omega); have s0m : decide (16 < (rdOf ByteArray.empty l0_1 (i : Int)).size) = true := decide_eq_true (by omega); have hr_ : r = false := by rw [← HKs, rowOk_key (keyOk_long hS), Bool.false_and]
     go_wp2
     go_ret
     exact ⟨z29, HB.out⟩
    have s0 : decide (16 < ((rdOf ByteArray.empty l0_1 (i : Int)).size : Int)) = false := decide_eq_false (by omega); have s0m : decide (16 < (rdOf ByteArray.empty l0_1 (i : Int)).size) = false := decide_eq_false (by omega)
    by_cases hs : (rd l0_3 (i : Int)) < 1
    case pos =>
     have s1 : decide ((rd l0_3 (i : Int)) < 1) = true := decide_eq_true (by omega); have hr_ : r = false := by rw [← HKs, rowOk_side (sideOk_upF h0_ (by omega)), Bool.false_and]
     go_wp2
     go_ret
     exact ⟨z29, HB.out⟩
    have s1 : decide ((rd l0_3 (i : Int)) < 1) = false := decide_eq_false (by omega)
    by_cases hs2 : 1023 < (rd l0_3 (i : Int))
    case pos =>
     have s2 : decide (1023 < (rd l0_3 (i : Int))) = true := decide_eq_true (by omega); have hr_ : r = false := by rw [← HKs, rowOk_side (sideOk_upF h0_ (by omega)), Bool.false_and]
     go_wp2
     go_ret
     exact ⟨z29, HB.out⟩
    have s2 : decide (1023 < (rd l0_3 (i : Int))) = false := decide_eq_false (by omega); have HN := Aside0.mk (show (List.range' (i + 1) (l0_1.length - (i + 1))).all (rowOk a0_0 l0_1 l0_2 l0_3) = r by rw [← HKs, rowOk_of (keyOk_firstU (by omega) HZ.out HEQ.out hS) (sideOk_up h0_ (by omega)), Bool.true_and]); have HI1 := Aside0.mk (show wrap64 ((i : Int) + 1) = ((i + 1 : Nat) : Int) by unfold wrap64; omega); go_wp2
    go_roundg (1999 - i)
    case measure => omega
    case rel => exact ⟨i + 1, z55, ⟨by omega, by omega⟩, HN, HP, HB⟩
   case neg =>
    have z1 : decide (0 < (i : Int)) = true := decide_eq_true (by omega); have z1m : decide (0 < i) = true := decide_eq_true (by omega); have z2 : ((i : Int) == 0) = false := beq_eq_false_iff_ne.mpr (by omega); have z2n : ((i : Int) != 0) = true := bne_iff_ne.mpr (by omega); have z2m : (i == 0) = false := beq_eq_false_iff_ne.mpr (by omega); have z2mn : (i != 0) = true := bne_iff_ne.mpr (by omega); have eb : wrap64 ((i : Int) - 1) = ((i - 1 : Nat) : Int) := by unfold wrap64; omega
    obtain ⟨adp, hadp, hp0⟩ := Kd.at_string HR1.out ((i - 1 : Nat) : Int) (by omega) (by omega); rw [show (((i - 1 : Nat) : Int)).toNat = i - 1 from rfl] at hp0; injection hadp with hadp
    subst hadp; have HQ := (HB.out.cell (World.block_lt_of_cell? w _ hp0)).trans hp0; have p4 := eq_true (show (0 : Int) ≤ ((i - 1 : Nat) : Int) by omega); have p5 := eq_true (show ((i - 1 : Nat) : Int) < (l0_1.length : Int) by omega); have p6 := eq_true (show i - 1 < l0_1.length by omega)
    by_cases hE : (rdOf ByteArray.empty l0_1 (i : Int)).toList = []
    case pos =>
     have e1 : ((rdOf ByteArray.empty l0_1 (i : Int)).toList == ([] : List UInt8)) = true := beq_iff_eq.mpr hE; have e1n : ((rdOf ByteArray.empty l0_1 (i : Int)).toList != ([] : List UInt8)) = false := bne_eq_false_iff_eq.mpr hE; have hr_ : r = false := by rw [← HKs, rowOk_key (keyOk_emptyT (by omega) hE), Bool.false_and]
     clear hE; go_wp2
     go_ret
     exact ⟨z29, HB.out⟩
    have e1 : ((rdOf ByteArray.empty l0_1 (i : Int)).toList == ([] : List UInt8)) = false := beq_eq_false_iff_ne.mpr hE; have e1n : ((rdOf ByteArray.empty l0_1 (i : Int)).toList != ([] : List UInt8)) = true := bne_iff_ne.mpr hE
    by_cases hS : (rdOf ByteArray.empty l0_1 (i : Int)).size ≤ 16
    case neg =>
     have s0 : decide (16 < ((rdOf ByteArray.empty l0_1 (i : Int)).size : Int)) = true := decide_eq_true (by omega); have s0m : decide (16 < (rdOf ByteArray.empty l0_1 (i : Int)).size) = true := decide_eq_true (by omega); have hr_ : r = false := by rw [← HKs, rowOk_key (keyOk_long hS), Bool.false_and]
     go_wp2
     go_ret
     exact ⟨z29, HB.out⟩
    have s0 : decide (16 < ((rdOf ByteArray.empty l0_1 (i : Int)).size : Int)) = false := decide_eq_false (by omega); have s0m : decide (16 < (rdOf ByteArray.empty l0_1 (i : Int)).size) = false := decide_eq_false (by omega); cases hL : Op.bytesLess (rdOf ByteArray.empty l0_1 ((i - 1 : Nat) : Int)).toList (rdOf ByteArray.empty l0_1 (i : Int)).toList with
    | false =>
     have hr_ : r = false := by rw [← HKs, rowOk_key (keyOk_order hz hL), Bool.false_and]
     go_wp2
     go_ret
     exact ⟨z29, HB.out⟩
    | true =>
     by_cases hs : (rd l0_3 (i : Int)) < 1
     case pos =>
      have s1 : decide ((rd l0_3 (i : Int)) < 1) = true := decide_eq_true (by omega); have hr_ : r = false := by rw [← HKs, rowOk_side (sideOk_upF h0_ (by omega)), Bool.false_and]
      go_wp2
      go_ret
      exact ⟨z29, HB.out⟩
     have s1 : decide ((rd l0_3 (i : Int)) < 1) = false := decide_eq_false (by omega)
     by_cases hs2 : 1023 < (rd l0_3 (i : Int))
     case pos =>
      have s2 : decide (1023 < (rd l0_3 (i : Int))) = true := decide_eq_true (by omega); have hr_ : r = false := by rw [← HKs, rowOk_side (sideOk_upF h0_ (by omega)), Bool.false_and]
      go_wp2
      go_ret
      exact ⟨z29, HB.out⟩
     have s2 : decide (1023 < (rd l0_3 (i : Int))) = false := decide_eq_false (by omega); have HN := Aside0.mk (show (List.range' (i + 1) (l0_1.length - (i + 1))).all (rowOk a0_0 l0_1 l0_2 l0_3) = r by rw [← HKs, rowOk_of (keyOk_later hz hE hS hL) (sideOk_up h0_ (by omega)), Bool.true_and]); have HI1 := Aside0.mk (show wrap64 ((i : Int) + 1) = ((i + 1 : Nat) : Int) by unfold wrap64; omega); go_wp2
     go_roundg (1999 - i)
     case measure => omega
     case rel => exact ⟨i + 1, z55, ⟨by omega, by omega⟩, HN, HP, HB⟩
/-! ### posthorseref11_pad: function 20 -/
def posthorseref11_pad.l0 : Nat → ByteArray → Int → Option (ByteArray)
 | 0, _, _ => none
 | k + 1, x0, x1 => if (x0.size : Int) < x1 then (if x0.size + (⟨#[0]⟩ : ByteArray).size ≤ 9223372036854775807 then (posthorseref11_pad.l0 k (x0 ++ (⟨#[0]⟩ : ByteArray)) x1) else (none)) else (some x0)
def posthorseref11_pad.f (k : Nat) (a0 : ByteArray) (a1 : Int) : Option (ByteArray) := posthorseref11_pad.l0 k a0 a1
set_option maxHeartbeats 8000000 in
set_option maxRecDepth 100000 in
theorem posthorseref11_pad.calls (k : Nat) (a0 : ByteArray) (a1 : Int) (r : ByteArray) (w : World) (h : posthorseref11_pad.f k a0 a1 = some r) :
  Calls Tryz.prog 20 #[.string a0, .int .i64 a1] w fun e w' => e = .returned (.string r) ∧ Drawn0 w w' := by
 have H : (posthorseref11_pad.l0 k a0 a1) = some r := h; clear h; have H' := Aside0.mk H; clear H; go_enter Tryz.func20, Tryz.ntmps20
 go_wp2
 go_loopg [0] k (fun kq v0 w' => ∃ (x0_1 : ByteArray), v0 = .string x0_1 ∧ Aside0 (posthorseref11_pad.l0 kq x0_1 a1 = some r) ∧ Aside0 (kq ≤ k) ∧ Drawn0 w w')
 case atStart => exact ⟨(a0), z13, H', ⟨Nat.le_refl _⟩, z28⟩
 case round =>
  clear H'; obtain ⟨x0_1, rfl, HA, HK1, ⟨m1, rfl⟩⟩ := hrel; cases gk with
  | zero => exact absurd HA.out (by simp [posthorseref11_pad.l0])
  | succ k1 =>
   have H := HA.out; clear HA; simp only [posthorseref11_pad.l0] at H
   by_cases c3 : (x0_1.size : Int) < a1
   ·rw [if_pos c3] at H; have c3b0 : decide ((x0_1.size : Int) < a1) = true := decide_eq_true c3; clear c3
    by_cases c4 : x0_1.size + (⟨#[0]⟩ : ByteArray).size ≤ 9223372036854775807
    ·rw [if_pos c4] at H; have c4b0 := eq_true c4
     try (have c4sa0 := c4b0; simp only [ByteArray.size_append, Int.natCast_add] at c4sa0)
     have c4b1 : decide (x0_1.size + (⟨#[0]⟩ : ByteArray).size ≤ 9223372036854775807) = true := decide_eq_true c4
     try have c4b2 : (9223372036854775807 < x0_1.size + (⟨#[0]⟩ : ByteArray).size) = False := eq_false (Nat.not_lt.2 c4)
     try have c4sd0 := eq_true (show x0_1.size + 1 ≤ 9223372036854775807 from by have h_ := c4; simp only [ByteArray.size_append] at h_; have e0_ : (⟨#[0]⟩ : ByteArray).size = 1 := rfl; omega)
     try have c4sd1 : decide (x0_1.size + 1 ≤ 9223372036854775807) = true := decide_eq_true (by have h_ := c4; simp only [ByteArray.size_append] at h_; have e0_ : (⟨#[0]⟩ : ByteArray).size = 1 := rfl; omega)
     try have c4sd2 : (9223372036854775807 < x0_1.size + 1) = False := eq_false (by have h_ := c4; simp only [ByteArray.size_append] at h_; have e0_ : (⟨#[0]⟩ : ByteArray).size = 1 := rfl; omega)
     have H' := Aside0.mk H; clear H; go_wp2
     go_roundg k1
     case measure => have := HK1.out; omega
     case rel => exact ⟨(x0_1 ++ (⟨#[0]⟩ : ByteArray)), z13, H', ⟨by have := HK1.out; omega⟩, z28⟩
    ·rw [if_neg c4] at H; exact absurd H (by simp)
   ·rw [if_neg c3] at H; have c3b0 : decide ((x0_1.size : Int) < a1) = false := decide_eq_false c3; clear c3; obtain rfl := Option.some.inj H; go_wp2
    go_ret
    exact ⟨z13, z28⟩

/-! ### posthorseref01_Put: function 21 -/
mutual
def posthorseref01_Put.j0 : Nat → Int → Int → Bool → Option (ByteArray)
 | 0, _, _, _ => none
 | k + 1, x0, x1, x16 => if x16 = true then (some (⟨#[]⟩ : ByteArray)) else (posthorseref01_Put.l0 k x0 x1 (⟨#[]⟩ : ByteArray) 0)
def posthorseref01_Put.l0 : Nat → Int → Int → ByteArray → Int → Option (ByteArray)
 | 0, _, _, _, _ => none
 | k + 1, x0, x1, x5, x6 => if x6 < x1 then ((some (([(Int.tmod x0 256) % 256] : List Int) : List Int)).bind fun y325 => (if x5.size + (strOfNums y325).size ≤ 9223372036854775807 then (posthorseref01_Put.l0 k (wrap64 (Int.tdiv x0 256)) x1 (x5 ++ (strOfNums y325)) (wrap64 (x6 + 1))) else (none))) else (if x0 > 0 then (some (⟨#[]⟩ : ByteArray)) else (some x5))
end
def posthorseref01_Put.f (k : Nat) (a0 : Int) (a1 : Int) : Option (ByteArray) := if a1 < 1 then (posthorseref01_Put.j0 k a0 a1 true) else (if a1 > 7 then (posthorseref01_Put.j0 k a0 a1 true) else (posthorseref01_Put.j0 k a0 a1 (decide (a0 < 0))))
set_option maxHeartbeats 8000000 in
set_option maxRecDepth 100000 in
theorem posthorseref01_Put.calls (k : Nat) (a0 : Int) (a1 : Int) (r : ByteArray) (w : World) (h : posthorseref01_Put.f k a0 a1 = some r) :
  Calls Tryz.prog 21 #[.int .i64 a0, .int .i64 a1] w fun e w' => e = .returned (.string r) ∧ Below w.heap.size w w' := by
 have HB := Aside0.mk (Below.refl w.heap.size w); have H : (if a1 < 1 then (posthorseref01_Put.j0 k a0 a1 true) else (if a1 > 7 then (posthorseref01_Put.j0 k a0 a1 true) else (posthorseref01_Put.j0 k a0 a1 (decide (a0 < 0))))) = some r := h; clear h; have HC3 := Aside0.mk H; clear H; go_enter Tryz.func21, Tryz.ntmps21
 go_upto_region 1 with (fail)
 go_cut [16] (fun v16 wc => ∃ (kq : Nat) (x16_2 : Bool), v16 = .bool x16_2 ∧ Aside0 (posthorseref01_Put.j0 kq a0 a1 x16_2 = some r) ∧ Aside0 (kq ≤ k) ∧ Aside0 (Below w.heap.size w wc))
 case first =>
  have H := HC3.out; clear HC3
  by_cases c4 : a1 < 1
  ·rw [if_pos c4] at H; have c4b0 : decide (a1 < 1) = true := decide_eq_true c4; clear c4
   (first | rw [c4b0] | (simp only [i64_w, i32_w]; rw [c4b0]) | skip)
   have H' := Aside0.mk H; clear H; go_wp2
   go_meet
   case rel => exact ⟨_, (true), z13, H', ⟨z31⟩, ⟨z8⟩⟩
  ·rw [if_neg c4] at H; have c4b0 : decide (a1 < 1) = false := decide_eq_false c4; clear c4
   (first | rw [c4b0] | (simp only [i64_w, i32_w]; rw [c4b0]) | skip)
   by_cases c5 : a1 > 7
   ·rw [if_pos c5] at H; have c5b0 : decide (7 < a1) = true := decide_eq_true c5; clear c5; have H' := Aside0.mk H; clear H; go_wp2
    go_meet
    case rel => exact ⟨_, (true), z13, H', ⟨z31⟩, ⟨z8⟩⟩
   ·rw [if_neg c5] at H; have c5b0 : decide (7 < a1) = false := decide_eq_false c5; clear c5; have H' := Aside0.mk H; clear H; go_wp2
    go_meet
    case rel => exact ⟨_, (decide (a0 < 0)), z13, H', ⟨z31⟩, ⟨z8⟩⟩
 case rest =>
  clear HC3; obtain ⟨kq, x16_2, rfl, HA, HJ2, HB⟩ := hcut; cases kq with
  | zero => exact absurd HA.out (by simp [posthorseref01_Put.j0])
  | succ kj2 =>
   have H := HA.out; clear HA; simp only [posthorseref01_Put.j0] at H
   by_cases c6 : x16_2 = true
   ·subst c6; have H1 : (some (⟨#[]⟩ : ByteArray)) = some r := by rw [if_pos rfl] at H; exact H
    clear H; have H := H1; clear H1; obtain rfl := Option.some.inj H; go_wp2
    go_ret
    exact ⟨z12, z8⟩
   ·replace c6 := Bool.eq_false_iff.mpr c6; subst c6; have H1 : (posthorseref01_Put.l0 kj2 a0 a1 (⟨#[]⟩ : ByteArray) 0) = some r := by rw [if_neg (show ¬ (false = true) by decide)] at H; exact H
    clear H; have H := H1; clear H1; have H' := Aside0.mk H; clear H; go_wp2
    go_loopg [0, 5, 6] kj2 (fun kq v0 v5 v6 w' => ∃ (x0_2 : Int) (x5_2 : ByteArray) (x6_2 : Int), v0 = .int .i64 x0_2 ∧ v5 = .string x5_2 ∧ v6 = .int .i64 x6_2 ∧ Aside0 (posthorseref01_Put.l0 kq x0_2 a1 x5_2 x6_2 = some r) ∧ Aside0 (kq ≤ kj2) ∧ Aside0 (Below w.heap.size w w'))
    case atStart => exact ⟨(a0), ((⟨#[]⟩ : ByteArray)), (0), z13, z13, z13, H', ⟨Nat.le_refl _⟩, ⟨z8⟩⟩
    case round =>
     clear H'
     (try clear c6)
     obtain ⟨x0_2, x5_2, x6_2, rfl, rfl, rfl, HA, HK2, HB⟩ := hrel; cases gk with
     | zero => exact absurd HA.out (by simp [posthorseref01_Put.l0])
     | succ k2 =>
      have H := HA.out; clear HA; simp only [posthorseref01_Put.l0] at H
      by_cases c7 : x6_2 < a1
      ·rw [if_pos c7] at H; have c7b0 : decide (x6_2 < a1) = true := decide_eq_true c7; clear c7; obtain ⟨y325, hy325⟩ : ∃ y_ : List Int, y_ = (([(Int.tmod x0_2 256) % 256] : List Int)) := ⟨_, rfl⟩
       replace H : (if x5_2.size + (strOfNums y325).size ≤ 9223372036854775807 then (posthorseref01_Put.l0 k2 (wrap64 (Int.tdiv x0_2 256)) a1 (x5_2 ++ (strOfNums y325)) (wrap64 (x6_2 + 1))) else (none)) = some r := by first | (rw [hy325]; with_reducible exact H) | (have H2_ := (Option.bind_some _ _).symm.trans H; rw [hy325]; with_reducible exact H2_) | (have H2_ := (Option.bind_some _ _).symm.trans H; with_reducible exact H2_) | with_reducible exact H | (rw [hy325]; exact H) | exact H
       have Ny325 := Aside0.mk hy325; clear hy325
       by_cases c8 : x5_2.size + (strOfNums y325).size ≤ 9223372036854775807
       ·rw [if_pos c8] at H; have c8b0 := eq_true c8
        try (have c8sa0 := c8b0; simp only [ByteArray.size_append, Int.natCast_add] at c8sa0)
        have c8b1 : decide (x5_2.size + (strOfNums y325).size ≤ 9223372036854775807) = true := decide_eq_true c8
        try have c8b2 : (9223372036854775807 < x5_2.size + (strOfNums y325).size) = False := eq_false (Nat.not_lt.2 c8)
        have H' := Aside0.mk H; clear H; go_wp2_with (first | ((with_reducible refine gate_dst (N := 26) rfl ?_); refine Kd.R_lit (Kd.int .u8) _ 5 ?hg (N := 26) ?hd (xs := ([(Int.tmod x0_2 256) % 256] : List Int)) (inner := [.int .u8 ((Int.tmod x0_2 256) % 256)]) (ok := fun _ => True) (okp := fun _ => True) ?hr ?hp (fun _ hk => hk) trivial (Below.refl _ _) (Nat.le_refl _) (by simp) ?_; (case hd => rfl); (case hg => rfl); (case hr => exact z68); (case hp => exact (Reps.one (show Kd.M (Kd.int .u8) _ _ _ ((Int.tmod x0_2 256) % 256) [.int .u8 ((Int.tmod x0_2 256) % 256)] from rfl) (Reps.none _ _))); intro v326 w9 ho10 hb hg_ hnew_; clear hg_ hnew_; (first | rw [← Ny325.out] at ho10 | (simp only [Int.reduceToNat] at ho10; rw [← Ny325.out] at ho10)); have n0_ := Aside0.mk (Kd.R_lower ho10 (below_size z8)); have n1_ := Aside0.mk (below_step z8 hb); clear HB; have HO327 := n0_; have HB := n1_; clear n0_ n1_; clear hb ho10; have hcv11 := own_string (P := Tryz.prog) Tryz.underlying50 Tryz.underlying5 Tryz.underlying9 (Kd.own_of_R HO327.out)))
        go_roundg k2
        case measure => have := HJ2.out; have := HK2.out; omega
        case rel => exact ⟨(wrap64 (Int.tdiv x0_2 256)), (x5_2 ++ (strOfNums y325)), (wrap64 (x6_2 + 1)), z13, z13, z13, H', ⟨by have := HJ2.out; have := HK2.out; omega⟩, ⟨z8⟩⟩
       ·rw [if_neg c8] at H; exact absurd H (by simp)
      ·rw [if_neg c7] at H; have c7b0 : decide (x6_2 < a1) = false := decide_eq_false c7; clear c7
       by_cases c12 : x0_2 > 0
       ·rw [if_pos c12] at H; have c12b0 : decide (0 < x0_2) = true := decide_eq_true c12; clear c12; obtain rfl := Option.some.inj H; go_wp2
        go_ret
        exact ⟨z12, z8⟩
       ·rw [if_neg c12] at H; have c12b0 : decide (0 < x0_2) = false := decide_eq_false c12; clear c12; obtain rfl := Option.some.inj H; go_wp2
        go_ret
        exact ⟨z12, z8⟩

/-! ### posthorseref03_Sum: function 45 -/
mutual
def posthorseref03_Sum.l0 : Nat → ByteArray → Int → Int → Option (Int)
 | 0, _, _, _ => none
 | k + 1, x0, x3, x4 => if x4 < (x0.size : Int) then (posthorseref03_Sum.l1 k x0 x3 x4 0) else (some ((4294967295 - x3) % 4294967296))
def posthorseref03_Sum.l1 : Nat → ByteArray → Int → Int → Int → Option (Int)
 | 0, _, _, _, _ => none
 | k + 1, x0, x3, x4, x5 => if x5 < 8 then (if 0 ≤ x4 then (if x4 < (x0.size : Int) then (if 0 ≤ (IntKind.u64.wrap (x5)) then (if (Int.tmod (Go.bits .xor .u32 x3 (shr .u32 ((bt x0 x4) % 4294967296) (IntKind.u64.wrap (x5)))) 2) = 1 then (posthorseref03_Sum.l1 k x0 (Go.bits .xor .u32 ((Int.tdiv x3 2) % 4294967296) 2197175160) x4 (wrap64 (x5 + 1))) else (posthorseref03_Sum.l1 k x0 ((Int.tdiv x3 2) % 4294967296) x4 (wrap64 (x5 + 1)))) else (none)) else (none)) else (none)) else (posthorseref03_Sum.l0 k x0 x3 (wrap64 (x4 + 1)))
end
def posthorseref03_Sum.f (k : Nat) (a0 : ByteArray) : Option (Int) := posthorseref03_Sum.l0 k a0 4294967295 0
set_option maxHeartbeats 8000000 in
set_option maxRecDepth 100000 in
theorem posthorseref03_Sum.calls (k : Nat) (a0 : ByteArray) (r : Int) (w : World) (h : posthorseref03_Sum.f k a0 = some r) :
  Calls Tryz.prog 45 #[.string a0] w fun e w' => e = .returned (.int .u32 r) ∧ Drawn0 w w' := by
 have H : (posthorseref03_Sum.l0 k a0 4294967295 0) = some r := h; clear h; have H' := Aside0.mk H; clear H; go_enter Tryz.func45, Tryz.ntmps45
 go_wp2
 go_loopg [3, 4] k (fun kq v3 v4 w' => ∃ (x3_1 : Int) (x4_1 : Int), v3 = .int .u32 x3_1 ∧ v4 = .int .i64 x4_1 ∧ Aside0 (posthorseref03_Sum.l0 kq a0 x3_1 x4_1 = some r) ∧ Aside0 (kq ≤ k) ∧ Drawn0 w w')
 case atStart => exact ⟨(4294967295), (0), z13, z13, H', ⟨Nat.le_refl _⟩, z28⟩
 case round =>
  clear H'; obtain ⟨x3_1, x4_1, rfl, rfl, HA, HK1, ⟨m1, rfl⟩⟩ := hrel; cases gk with
  | zero => exact absurd HA.out (by simp [posthorseref03_Sum.l0])
  | succ k1 =>
   have H := HA.out; clear HA; simp only [posthorseref03_Sum.l0] at H
   by_cases c2 : x4_1 < (a0.size : Int)
   ·rw [if_pos c2] at H; have c2b0 : decide (x4_1 < (a0.size : Int)) = true := decide_eq_true c2; clear c2; have H' := Aside0.mk H; clear H; go_wp2
    go_loopg [3, 5] k1 (fun kq v3 v5 w' => ∃ (x3_2 : Int) (x5_2 : Int), v3 = .int .u32 x3_2 ∧ v5 = .int .i64 x5_2 ∧ Aside0 (posthorseref03_Sum.l1 kq a0 x3_2 x4_1 x5_2 = some r) ∧ Aside0 (kq ≤ k1) ∧ Drawn0 w w')
    case atStart => exact ⟨(x3_1), (0), z13, z13, H', ⟨Nat.le_refl _⟩, z28⟩
    case round =>
     clear H'
     (try clear c2)
     (try clear c2b0)
     obtain ⟨x3_2, x5_2, rfl, rfl, HA, HK2, ⟨m2, rfl⟩⟩ := hrel; cases gk with
     | zero => exact absurd HA.out (by simp [posthorseref03_Sum.l1])
     | succ k2 =>
      have H := HA.out; clear HA; simp only [posthorseref03_Sum.l1] at H
      by_cases c3 : x5_2 < 8
      ·rw [if_pos c3] at H; have c3b0 : decide (x5_2 < 8) = true := decide_eq_true c3; clear c3
       by_cases c4 : 0 ≤ x4_1
       ·rw [if_pos c4] at H; have c4b0 : decide (0 ≤ x4_1) = true := decide_eq_true c4; clear c4
        by_cases c5 : x4_1 < (a0.size : Int)
        ·rw [if_pos c5] at H; have c5b0 : decide (x4_1 < (a0.size : Int)) = true := decide_eq_true c5; clear c5; obtain ⟨ji7, hji7⟩ : ∃ j_ : Int, (IntKind.u64.wrap (x5_2)) = j_ := ⟨_, rfl⟩
         replace H : (if 0 ≤ (ji7) then (if (Int.tmod (Go.bits .xor .u32 x3_2 (shr .u32 ((bt a0 x4_1) % 4294967296) (ji7))) 2) = 1 then (posthorseref03_Sum.l1 k2 a0 (Go.bits .xor .u32 ((Int.tdiv x3_2 2) % 4294967296) 2197175160) x4_1 (wrap64 (x5_2 + 1))) else (posthorseref03_Sum.l1 k2 a0 ((Int.tdiv x3_2 2) % 4294967296) x4_1 (wrap64 (x5_2 + 1)))) else (none)) = some r := by first | (rw [hji7] at H; exact H) | (simp only [hji7] at H ⊢; exact H)
         by_cases c8 : 0 ≤ (ji7)
         ·rw [if_pos c8] at H; have c8b0 := eq_true c8
          try (have c8sa0 := c8b0; simp only [ByteArray.size_append, Int.natCast_add] at c8sa0)
          have c8b1 : decide (0 ≤ (ji7)) = true := decide_eq_true c8; clear c8; obtain ⟨ji9, hji9⟩ : ∃ j_ : Int, (shr .u32 ((bt a0 x4_1) % 4294967296) (ji7)) = j_ := ⟨_, rfl⟩
          replace H : (if (Int.tmod (Go.bits .xor .u32 x3_2 (ji9)) 2) = 1 then (posthorseref03_Sum.l1 k2 a0 (Go.bits .xor .u32 ((Int.tdiv x3_2 2) % 4294967296) 2197175160) x4_1 (wrap64 (x5_2 + 1))) else (posthorseref03_Sum.l1 k2 a0 ((Int.tdiv x3_2 2) % 4294967296) x4_1 (wrap64 (x5_2 + 1)))) = some r := by first | (rw [hji9] at H; exact H) | (simp only [hji9] at H ⊢; exact H)
          have hji9_ : (((bt a0 x4_1) % 4294967296) / 2 ^ min (ji7).toNat 32) = ji9 := hji9; have hji9z : (ji7) ≤ 32 → (((bt a0 x4_1) % 4294967296) / 2 ^ (ji7).toNat) = ji9 := shr_small hji9
          by_cases c10 : (Int.tmod (Go.bits .xor .u32 x3_2 (ji9)) 2) = 1
          ·rw [if_pos c10] at H; have c10b0 : ((Int.tmod (Go.bits .xor .u32 x3_2 (ji9)) 2) == 1) = true := beq_iff_eq.mpr c10; have c10b1 : ((Int.tmod (Go.bits .xor .u32 x3_2 (ji9)) 2) != 1) = false := bne_eq_false_iff_eq.mpr c10; clear c10; have H' := Aside0.mk H; clear H; have p6 : 0 ≤ (x4_1 : Int) := of_decide_eq_true z11; have q6 : x4_1 < (a0.size : Int) := of_decide_eq_true z11; have hx6 := bt_at a0 x4_1; replace p6 := eq_true p6; replace q6 := eq_true q6; go_wp2
           go_roundg k2
           case measure => have := HK1.out; have := HK2.out; omega
           case rel => exact ⟨(Go.bits .xor .u32 ((Int.tdiv x3_2 2) % 4294967296) 2197175160), (wrap64 (x5_2 + 1)), z13, z13, H', ⟨by have := HK1.out; have := HK2.out; omega⟩, z28⟩
          ·rw [if_neg c10] at H; have c10b0 : ((Int.tmod (Go.bits .xor .u32 x3_2 (ji9)) 2) == 1) = false := beq_eq_false_iff_ne.mpr c10; have c10b1 : ((Int.tmod (Go.bits .xor .u32 x3_2 (ji9)) 2) != 1) = true := bne_iff_ne.mpr c10; have H' := Aside0.mk H; clear H; have p6 : 0 ≤ (x4_1 : Int) := of_decide_eq_true z11; have q6 : x4_1 < (a0.size : Int) := of_decide_eq_true z11; have hx6 := bt_at a0 x4_1; replace p6 := eq_true p6; replace q6 := eq_true q6; go_wp2
           go_roundg k2
           case measure => have := HK1.out; have := HK2.out; omega
           case rel => exact ⟨((Int.tdiv x3_2 2) % 4294967296), (wrap64 (x5_2 + 1)), z13, z13, H', ⟨by have := HK1.out; have := HK2.out; omega⟩, z28⟩
         ·rw [if_neg c8] at H; exact absurd H (by simp)
        ·rw [if_neg c5] at H; exact absurd H (by simp)
       ·rw [if_neg c4] at H; exact absurd H (by simp)
      ·rw [if_neg c3] at H; have c3b0 : decide (x5_2 < 8) = false := decide_eq_false c3; clear c3; have H' := Aside0.mk H; clear H; go_wp2
       go_roundg k2
       case measure => have := HK1.out; have := HK2.out; omega
       case rel => exact ⟨(x3_2), (wrap64 (x4_1 + 1)), z13, z13, H', ⟨by have := HK1.out; have := HK2.out; omega⟩, z28⟩
   ·rw [if_neg c2] at H; have c2b0 : decide (x4_1 < (a0.size : Int)) = false := decide_eq_false c2; clear c2; obtain rfl := Option.some.inj H; go_wp2
    go_ret
    exact ⟨z13, z28⟩

/-! ### posthorseref03_Seal: function 22 -/
mutual
def posthorseref03_Seal.j0 : Nat → Int → ByteArray → Bool → Option (ByteArray × Int)
 | 0, _, _, _ => none
 | k + 1, x0, x1, x12 => if x12 = true then (some ((⟨#[]⟩ : ByteArray), 1)) else (if (x1.size : Int) > 504 then (some ((⟨#[]⟩ : ByteArray), 10)) else ((some (([(x0) % 256, 0] : List Int) : List Int)).bind fun y328 => (if 2 + (strOfNums y328).size ≤ 9223372036854775807 then (if ((⟨#[80, 72]⟩ : ByteArray) ++ (strOfNums y328)).size + x1.size ≤ 9223372036854775807 then (posthorseref03_Seal.l0 k (((⟨#[80, 72]⟩ : ByteArray) ++ (strOfNums y328)) ++ x1)) else (none)) else (none))))
def posthorseref03_Seal.l0 : Nat → ByteArray → Option (ByteArray × Int)
 | 0, _ => none
 | k + 1, x6 => if (x6.size : Int) < 508 then (if x6.size + (⟨#[0]⟩ : ByteArray).size ≤ 9223372036854775807 then (posthorseref03_Seal.l0 k (x6 ++ (⟨#[0]⟩ : ByteArray))) else (none)) else ((posthorseref03_Sum.f k x6).bind fun t331 => ((posthorseref01_Put.f k (wrap64 (t331)) 4).bind fun t332 => (if x6.size + t332.size ≤ 9223372036854775807 then (some (x6 ++ t332, 0)) else (none))))
end
theorem posthorseref03_Seal.l0_z (x6 : ByteArray) : posthorseref03_Seal.l0 0 x6 = none := rfl
theorem posthorseref03_Seal.l0_s (k : Nat) (x6 : ByteArray) : posthorseref03_Seal.l0 (k + 1) x6 = (if (x6.size : Int) < 508 then (if x6.size + (⟨#[0]⟩ : ByteArray).size ≤ 9223372036854775807 then (posthorseref03_Seal.l0 k (x6 ++ (⟨#[0]⟩ : ByteArray))) else (none)) else ((posthorseref03_Sum.f k x6).bind fun t331 => ((posthorseref01_Put.f k (wrap64 (t331)) 4).bind fun t332 => (if x6.size + t332.size ≤ 9223372036854775807 then (some (x6 ++ t332, 0)) else (none))))) := rfl
def posthorseref03_Seal.f (k : Nat) (a0 : Int) (a1 : ByteArray) : Option (ByteArray × Int) := if a0 < 1 then (posthorseref03_Seal.j0 k a0 a1 true) else (posthorseref03_Seal.j0 k a0 a1 (decide (a0 > 255)))
set_option maxHeartbeats 8000000 in
set_option maxRecDepth 100000 in
theorem posthorseref03_Seal.calls (k : Nat) (a0 : Int) (a1 : ByteArray) (r1 : ByteArray) (r2 : Int) (w : World) (h : posthorseref03_Seal.f k a0 a1 = some (r1, r2)) :
  Calls Tryz.prog 22 #[.int .i64 a0, .string a1] w fun e w' => e = .returned (.tuple #[.string r1, .int .i64 r2]) ∧ Below w.heap.size w w' := by
 have HB := Aside0.mk (Below.refl w.heap.size w); have H : (if a0 < 1 then (posthorseref03_Seal.j0 k a0 a1 true) else (posthorseref03_Seal.j0 k a0 a1 (decide (a0 > 255)))) = some (r1, r2) := h; clear h; have HC3 := Aside0.mk H; clear H; go_enter Tryz.func22, Tryz.ntmps22
 go_upto_region 1 with (fail)
 go_cut [12] (fun v12 wc => ∃ (kq : Nat) (x12_2 : Bool), v12 = .bool x12_2 ∧ Aside0 (posthorseref03_Seal.j0 kq a0 a1 x12_2 = some (r1, r2)) ∧ Aside0 (kq ≤ k) ∧ Aside0 (Below w.heap.size w wc))
 case first =>
  have H := HC3.out; clear HC3
  by_cases c4 : a0 < 1
  ·rw [if_pos c4] at H; have c4b0 : decide (a0 < 1) = true := decide_eq_true c4; clear c4
   (first | rw [c4b0] | (simp only [i64_w, i32_w]; rw [c4b0]) | skip)
   have H' := Aside0.mk H; clear H; go_wp2
   go_meet
   case rel => exact ⟨_, (true), z13, H', ⟨z31⟩, ⟨z8⟩⟩
  ·rw [if_neg c4] at H; have c4b0 : decide (a0 < 1) = false := decide_eq_false c4; clear c4
   (first | rw [c4b0] | (simp only [i64_w, i32_w]; rw [c4b0]) | skip)
   have H' := Aside0.mk H; clear H; go_wp2
   go_meet
   case rel => exact ⟨_, (decide (a0 > 255)), z13, H', ⟨z31⟩, ⟨z8⟩⟩
 case rest =>
  clear HC3; obtain ⟨kq, x12_2, rfl, HA, HJ2, HB⟩ := hcut; cases kq with
  | zero => exact absurd HA.out (by simp [posthorseref03_Seal.j0])
  | succ kj2 =>
   have H := HA.out; clear HA; simp only [posthorseref03_Seal.j0] at H
   by_cases c5 : x12_2 = true
   ·subst c5; have H1 : (some ((⟨#[]⟩ : ByteArray), 1)) = some (r1, r2) := by rw [if_pos rfl] at H; exact H
    clear H; have H := H1; clear H1; simp only [Option.some.injEq, Prod.mk.injEq] at H; obtain ⟨rfl, rfl⟩ := H; go_wp2
    go_ret2
    exact ⟨z12, z8⟩
   ·replace c5 := Bool.eq_false_iff.mpr c5; subst c5; have H1 : (if (a1.size : Int) > 504 then (some ((⟨#[]⟩ : ByteArray), 10)) else ((some (([(a0) % 256, 0] : List Int) : List Int)).bind fun y328 => (if 2 + (strOfNums y328).size ≤ 9223372036854775807 then (if ((⟨#[80, 72]⟩ : ByteArray) ++ (strOfNums y328)).size + a1.size ≤ 9223372036854775807 then (posthorseref03_Seal.l0 kj2 (((⟨#[80, 72]⟩ : ByteArray) ++ (strOfNums y328)) ++ a1)) else (none)) else (none)))) = some (r1, r2) := by rw [if_neg (show ¬ (false = true) by decide)] at H; exact H
    clear H; have H := H1; clear H1
    by_cases c6 : (a1.size : Int) > 504
    ·rw [if_pos c6] at H; have c6b0 : decide (504 < (a1.size : Int)) = true := decide_eq_true c6; have c6b1 : decide (504 < a1.size) = true := decide_eq_true (by omega); clear c6; simp only [Option.some.injEq, Prod.mk.injEq] at H; obtain ⟨rfl, rfl⟩ := H; go_wp2
     go_ret2
     exact ⟨z12, z8⟩
    ·rw [if_neg c6] at H; have c6b0 : decide (504 < (a1.size : Int)) = false := decide_eq_false c6; have c6b1 : decide (504 < a1.size) = false := decide_eq_false (by omega); clear c6; obtain ⟨y328, hy328⟩ : ∃ y_ : List Int, y_ = (([(a0) % 256, 0] : List Int)) := ⟨_, rfl⟩
     replace H : (if 2 + (strOfNums y328).size ≤ 9223372036854775807 then (if ((⟨#[80, 72]⟩ : ByteArray) ++ (strOfNums y328)).size + a1.size ≤ 9223372036854775807 then (posthorseref03_Seal.l0 kj2 (((⟨#[80, 72]⟩ : ByteArray) ++ (strOfNums y328)) ++ a1)) else (none)) else (none)) = some (r1, r2) := by first | (rw [hy328]; with_reducible exact H) | (have H2_ := (Option.bind_some _ _).symm.trans H; rw [hy328]; with_reducible exact H2_) | (have H2_ := (Option.bind_some _ _).symm.trans H; with_reducible exact H2_) | with_reducible exact H | (rw [hy328]; exact H) | exact H
     have Ny328 := Aside0.mk hy328; clear hy328
     by_cases c7 : 2 + (strOfNums y328).size ≤ 9223372036854775807
     ·rw [if_pos c7] at H; have c7b0 := eq_true c7
      try (have c7sa0 := c7b0; simp only [ByteArray.size_append, Int.natCast_add] at c7sa0)
      have c7b1 : decide (2 + (strOfNums y328).size ≤ 9223372036854775807) = true := decide_eq_true c7
      try have c7b2 : (9223372036854775807 < 2 + (strOfNums y328).size) = False := eq_false (Nat.not_lt.2 c7)
      by_cases c8 : ((⟨#[80, 72]⟩ : ByteArray) ++ (strOfNums y328)).size + a1.size ≤ 9223372036854775807
      ·rw [if_pos c8] at H; have c8b0 := eq_true c8
       try (have c8sa0 := c8b0; simp only [ByteArray.size_append, Int.natCast_add] at c8sa0)
       have c8b1 : decide (((⟨#[80, 72]⟩ : ByteArray) ++ (strOfNums y328)).size + a1.size ≤ 9223372036854775807) = true := decide_eq_true c8
       try (have c8sa1 := c8b1; simp only [ByteArray.size_append, Int.natCast_add] at c8sa1)
       try have c8b2 : (9223372036854775807 < ((⟨#[80, 72]⟩ : ByteArray) ++ (strOfNums y328)).size + a1.size) = False := eq_false (Nat.not_lt.2 c8)
       try have c8sd0 := eq_true (show 2 + (strOfNums y328).size + a1.size ≤ 9223372036854775807 from by have h_ := c8; simp only [ByteArray.size_append] at h_; have e0_ : (⟨#[80, 72]⟩ : ByteArray).size = 2 := rfl; omega)
       try have c8sd1 : decide (2 + (strOfNums y328).size + a1.size ≤ 9223372036854775807) = true := decide_eq_true (by have h_ := c8; simp only [ByteArray.size_append] at h_; have e0_ : (⟨#[80, 72]⟩ : ByteArray).size = 2 := rfl; omega)
       try have c8sd2 : (9223372036854775807 < 2 + (strOfNums y328).size + a1.size) = False := eq_false (by have h_ := c8; simp only [ByteArray.size_append] at h_; have e0_ : (⟨#[80, 72]⟩ : ByteArray).size = 2 := rfl; omega)
       have H' := Aside0.mk H; clear H; go_wp2_with (first | ((with_reducible refine gate_dst (N := 18) rfl ?_); refine Kd.R_lit (Kd.int .u8) _ 5 ?hg (N := 18) ?hd (xs := ([(a0) % 256, 0] : List Int)) (inner := [.int .u8 ((a0) % 256), .int .u8 0]) (ok := fun _ => True) (okp := fun _ => True) ?hr ?hp (fun _ hk => hk) trivial (Below.refl _ _) (Nat.le_refl _) (by simp) ?_; (case hd => rfl); (case hg => rfl); (case hr => exact z68); (case hp => exact (Reps.one (show Kd.M (Kd.int .u8) _ _ _ ((a0) % 256) [.int .u8 ((a0) % 256)] from rfl) (Reps.one (show Kd.M (Kd.int .u8) _ _ _ 0 [.int .u8 0] from rfl) (Reps.none _ _)))); intro v329 w9 ho10 hb hg_ hnew_; clear hg_ hnew_; (first | rw [← Ny328.out] at ho10 | (simp only [Int.reduceToNat] at ho10; rw [← Ny328.out] at ho10)); have n0_ := Aside0.mk (Kd.R_lower ho10 (below_size z8)); have n1_ := Aside0.mk (below_step z8 hb); clear HB; have HO330 := n0_; have HB := n1_; clear n0_ n1_; clear hb ho10; have hcv11 := own_string (P := Tryz.prog) Tryz.underlying50 Tryz.underlying5 Tryz.underlying9 (Kd.own_of_R HO330.out)))
       go_loopg [6] kj2 (fun kq v6 w' => ∃ (x6_2 : ByteArray), v6 = .string x6_2 ∧ Aside0 (posthorseref03_Seal.l0 kq x6_2 = some (r1, r2)) ∧ Aside0 (kq ≤ kj2) ∧ Aside0 (Below w.heap.size w w'))
       case atStart => exact ⟨(((⟨#[80, 72]⟩ : ByteArray) ++ (strOfNums y328)) ++ a1), z13, H', ⟨Nat.le_refl _⟩, ⟨z8⟩⟩
       case round =>
        clear H'
        (try clear c5)
        (try clear c6)
        (try clear c6b0)
        (try clear c6b1)
        (try clear c7)
        (try clear c7b0)
        (try clear c7b1)
        (try clear c7b2)
        (try clear c8)
        (try clear c8b0)
        (try clear c8b1)
        (try clear c8b2)
        (try clear hcv11)
        obtain ⟨x6_2, rfl, HA, HK2, HB⟩ := hrel; cases gk with
        | zero => exact absurd HA.out (by simp [posthorseref03_Seal.l0_z])
        | succ k2 =>
         have H := HA.out; clear HA; simp only [posthorseref03_Seal.l0_s] at H
         by_cases c12 : (x6_2.size : Int) < 508
         ·rw [if_pos c12] at H; have c12b0 : decide ((x6_2.size : Int) < 508) = true := decide_eq_true c12; have c12b1 : decide (x6_2.size < 508) = true := decide_eq_true (by omega); clear c12
          by_cases c13 : x6_2.size + (⟨#[0]⟩ : ByteArray).size ≤ 9223372036854775807
          ·rw [if_pos c13] at H; have c13b0 := eq_true c13
           try (have c13sa0 := c13b0; simp only [ByteArray.size_append, Int.natCast_add] at c13sa0)
           have c13b1 : decide (x6_2.size + (⟨#[0]⟩ : ByteArray).size ≤ 9223372036854775807) = true := decide_eq_true c13
           try have c13b2 : (9223372036854775807 < x6_2.size + (⟨#[0]⟩ : ByteArray).size) = False := eq_false (Nat.not_lt.2 c13)
           try have c13sd0 := eq_true (show x6_2.size + 1 ≤ 9223372036854775807 from by have h_ := c13; simp only [ByteArray.size_append] at h_; have e0_ : (⟨#[0]⟩ : ByteArray).size = 1 := rfl; omega)
           try have c13sd1 : decide (x6_2.size + 1 ≤ 9223372036854775807) = true := decide_eq_true (by have h_ := c13; simp only [ByteArray.size_append] at h_; have e0_ : (⟨#[0]⟩ : ByteArray).size = 1 := rfl; omega)
           try have c13sd2 : (9223372036854775807 < x6_2.size + 1) = False := eq_false (by have h_ := c13; simp only [ByteArray.size_append] at h_; have e0_ : (⟨#[0]⟩ : ByteArray).size = 1 := rfl; omega)
           have H' := Aside0.mk H; clear H; go_wp2
           go_roundg k2
           case measure => have := HJ2.out; have := HK2.out; omega
           case rel => exact ⟨(x6_2 ++ (⟨#[0]⟩ : ByteArray)), z13, H', ⟨by have := HJ2.out; have := HK2.out; omega⟩, ⟨z8⟩⟩
          ·rw [if_neg c13] at H; exact absurd H (by simp)
         ·rw [if_neg c12] at H; have c12b0 : decide ((x6_2.size : Int) < 508) = false := decide_eq_false c12; have c12b1 : decide (x6_2.size < 508) = false := decide_eq_false (by omega); clear c12; replace H := Option.bind_eq_some_iff.mp H; obtain ⟨t331, A140, H⟩ := H; replace H : ((posthorseref01_Put.f k2 (wrap64 (t331)) 4).bind fun t332 => (if x6_2.size + t332.size ≤ 9223372036854775807 then (some (x6_2 ++ t332, 0)) else (none))) = some (r1, r2) := H; have A14 := Aside0.mk A140; clear A140; replace H := Option.bind_eq_some_iff.mp H; obtain ⟨t332, A150, H⟩ := H; replace H : (if x6_2.size + t332.size ≤ 9223372036854775807 then (some (x6_2 ++ t332, 0)) else (none)) = some (r1, r2) := H; have A15 := Aside0.mk A150; clear A150
          by_cases c16 : x6_2.size + t332.size ≤ 9223372036854775807
          ·rw [if_pos c16] at H; have c16b0 := eq_true c16
           try (have c16sa0 := c16b0; simp only [ByteArray.size_append, Int.natCast_add] at c16sa0)
           have c16b1 : decide (x6_2.size + t332.size ≤ 9223372036854775807) = true := decide_eq_true c16
           try have c16b2 : (9223372036854775807 < x6_2.size + t332.size) = False := eq_false (Nat.not_lt.2 c16)
           simp only [Option.some.injEq, Prod.mk.injEq] at H; obtain ⟨rfl, rfl⟩ := H; go_wp2_with (first | ((with_reducible refine gate_callee (f := 45) rfl ?_); refine goesL_ (some 30) rfl rfl Tryz.func45 (by kernel_rfl) rfl #[.string x6_2] rfl z6 ?_; (with_reducible refine (posthorseref03_Sum.calls k2 x6_2 t331 _ A14.out).mono ?_); rintro e w' ⟨rfl, ⟨nd, rfl⟩⟩; refine ⟨_, rfl, ?_⟩) | ((with_reducible refine gate_callee (f := 21) rfl ?_); refine goesL_ (some 32) rfl rfl Tryz.func21 (by kernel_rfl) rfl #[.int .i64 (wrap64 (t331)), .int .i64 4] rfl z6 ?_; (with_reducible refine (posthorseref01_Put.calls k2 (wrap64 (t331)) 4 t332 _ A15.out).mono ?_); rintro e w17 ⟨rfl, hb⟩; refine ⟨_, rfl, ?_⟩; have n0_ := Aside0.mk (below_step z8 hb); clear HB; have HB := n0_; clear n0_; (try clear hb); (try clear hb2); (try clear hk); (try clear hi)))
           go_ret2
           exact ⟨z12, z8⟩
          ·rw [if_neg c16] at H; exact absurd H (by simp)
      ·rw [if_neg c8] at H; exact absurd H (by simp)
     ·rw [if_neg c7] at H; exact absurd H (by simp)
end Go.Proofs.YtegcaniikdibdaaGreatDoor.VPagePuts
