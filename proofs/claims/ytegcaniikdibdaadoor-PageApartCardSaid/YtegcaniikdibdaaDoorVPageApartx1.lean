/- Contracts of functions of this seat: each call comes to what its Lean function computes; no condition beyond what each theorem states. Printed by a program of this session's own laid over the kit's printer. -/
import Derived.Test.YtegcaniikdibdaaDoorVPageApartx0
import Derived.Lib.Strings
import Derived.Lib.Slices
import Derived.Lib.Walk
import Derived.Lib.Builder
import Derived.Lib.AppendStr
import Derived.Lib.UnsafeStr
import Derived.Laws.Externs
import Derived.RegionTactic
import Derived.Lib.Hide
import Derived.Shelf.Strings.Repeat
import Derived.Deep.RegionHeld3
import Derived.Laws.Bits
namespace Go.Proofs.YtegcaniikdibdaaDoor.VPageApart
open Go.RowKit Go.Proofs.YtegcaniikdibdaaDoorW.PrintWords Go.Proofs.YtegcaniikdibdaaDoorW.PrintLast Go.Proofs.YtegcaniikdibdaaDoorW.PrintMore
attribute [local go_sem] max2_int min2_int max_two min_two max_three min_three max_four min_four   -- for this text's walks alone
set_option linter.unusedSimpArgs false
set_option linter.unusedVariables false
-- @GIVEN page_Right
/-! ### page_Right: by hand -/
/-- Is a value too long? Is a page's number none? -/
def anyLong : List ByteArray → Bool
 | [] => false
 | v :: l => decide (24 < (v.size : Int)) || anyLong l
def anyBad : List Int → Bool
 | [] => false
 | v :: l => (decide (v < 1) || decide (1024 ≤ v)) || anyBad l
def page_Right.f (k : Nat) (lv : Int) (keys : List ByteArray) (vals : List ByteArray) (kids : List Int) : Option Bool :=
 if lv = 0 then (if keys.length ≤ 11 ∧ vals.length = keys.length ∧ kids.length = 0 ∧ anyLong vals = false then page_Page_keyed.f k lv keys vals kids 0 else some false)
 else (if 0 < lv ∧ lv < 6 ∧ 2 ≤ keys.length ∧ keys.length ≤ 25 ∧ kids.length = keys.length ∧ vals.length = 0 ∧ anyBad kids = false then page_Page_keyed.f k lv keys vals kids 1 else some false)
theorem rdOf_drop {α : Type} (d : α) (l : List α) (i : Nat) (h : i < l.length) : l.drop i = rdOf d l (i : Int) :: l.drop (i + 1) := by
 unfold rdOf; rw [List.drop_eq_getElem_cons h, Int.toNat_natCast, List.getD_eq_getElem?_getD, List.getElem?_eq_getElem h]; rfl
theorem rd_drop (l : List Int) (i : Nat) (h : i < l.length) : l.drop i = rd l (i : Int) :: l.drop (i + 1) := by
 unfold rd; rw [List.drop_eq_getElem_cons h, Int.toNat_natCast, List.getD_eq_getElem?_getD, List.getElem?_eq_getElem h]; rfl
theorem cLong (v : ByteArray) (w : World) : Calls Tryd.prog 76 #[.string v] w fun e w' => e = .returned (.bool (decide (24 < (v.size : Int)))) ∧ w' = w := by
 go_enter Tryd.func76, Tryd.ntmps76
 go_wp2
 go_ret
 exact ⟨rfl, rfl⟩
theorem cBad (v : Int) (w : World) : Calls Tryd.prog 79 #[.int .i64 v] w fun e w' => e = .returned (.bool (decide (v < 1) || decide (1024 ≤ v))) ∧ w' = w := by
 by_cases h : v < 1
 ·have h1 : decide (v < 1) = true := decide_eq_true h; rw [h1, Bool.true_or]; go_enter Tryd.func79, Tryd.ntmps79
  go_wp2
  go_ret
  exact ⟨z92, rfl⟩
 ·have h1 : decide (v < 1) = false := decide_eq_false h; rw [h1, Bool.false_or]; go_enter Tryd.func79, Tryd.ntmps79
  go_wp2
  go_ret
  exact ⟨z92, rfl⟩
set_option maxHeartbeats 4000000 in
set_option maxRecDepth 100000 in
theorem ixLong (A : Option Addr) (c : Nat) (l : List ByteArray) (r : Bool) (w : World) (hr : Kd.C Kd.string w A l.length l) (h : anyLong l = r) :
  Calls Tryd.prog 99 #[.slice A l.length c, .func (.func 76) #[] #[]] w fun e w' => (∃ i : Int, e = .returned (.int .i64 i) ∧ decide (0 ≤ i) = r) ∧ Below w.heap.size w w' := by
 have HR := Aside0.mk hr; have HH := Aside0.mk h; have HLM := Aside0.mk hr.2.1; have HB := Aside0.mk (Below.refl w.heap.size w); clear hr h; go_enter Tryd.func99, Tryd.ntmps99
 go_wp2_with fail
 go_loopg [5, 8] (l.length + 1) (fun kq v5 v8 w' => ∃ i : Nat, v8 = .int .i64 (i : Int) ∧ Aside0 (i ≤ l.length ∧ kq = l.length - i + 1) ∧ Aside0 (anyLong (l.drop i) = r) ∧ Aside0 (Below w.heap.size w w'))
 case atStart => exact ⟨0, rfl, ⟨by omega, by omega⟩, by rw [List.drop_zero]; exact HH, HB⟩
 case round =>
  clear HH HB; obtain ⟨i, rfl, HI, HH, HB⟩ := hrel
  by_cases c1 : i < l.length
  ·have e1 : decide ((i : Int) < (l.length : Int)) = true := decide_eq_true (by omega); have p1 := eq_true (show (0 : Int) ≤ (i : Int) by omega); have p2 := eq_true (show (i : Int) < (l.length : Int) by omega); have p3 := eq_true c1; have hi1 : wrap64 ((i : Int) + 1) = ((i + 1 : Nat) : Int) := by have := HLM.out; unfold maxLen at this; unfold wrap64; omega
   have HI1 := Aside0.mk hi1; clear hi1; obtain ⟨ad, rfl, hx0⟩ := Kd.at_string (Kd.C_below HR.out HB.out) (i : Int) (by omega) (by omega); rw [show ((i : Int)).toNat = i from rfl] at hx0; have H := HH.out; rw [rdOf_drop ByteArray.empty l i c1, anyLong] at H; clear HH; generalize rdOf ByteArray.empty l (i : Int) = x at *
   by_cases ht : (decide (24 < (x.size : Int))) = true
   ·rw [ht, Bool.true_or] at H; subst H; go_wp2_with (go_at_call 76; (with_reducible refine (cLong x _).mono ?_); rintro e w5 ⟨rfl, rfl⟩; rw [ht])
    go_ret
    exact ⟨⟨(i : Int), rfl, by simp⟩, HB.out⟩
   ·rw [Bool.not_eq_true] at ht; rw [ht, Bool.false_or] at H; have H' := Aside0.mk H; clear H; go_wp2_with (go_at_call 76; (with_reducible refine (cLong x _).mono ?_); rintro e w5 ⟨rfl, rfl⟩; rw [ht])
    go_roundg (l.length - i)
    case measure => have := HI.out; omega
    case rel => exact ⟨i + 1, (by first | rfl | rw [HI1.out]), ⟨by omega, by omega⟩, H', HB⟩
  ·have e1 : decide ((i : Int) < (l.length : Int)) = false := decide_eq_false (by omega); have H := HH.out; rw [List.drop_eq_nil_of_le (by omega)] at H; obtain rfl : false = r := H; go_wp2_with fail
   go_ret
   exact ⟨⟨-1, rfl, by decide⟩, HB.out⟩
set_option maxHeartbeats 4000000 in
theorem cfLong (A : Option Addr) (c : Nat) (l : List ByteArray) (r : Bool) (w : World) (hr : Kd.C Kd.string w A l.length l) (h : anyLong l = r) :
  Calls Tryd.prog 75 #[.slice A l.length c, .func (.func 76) #[] #[]] w fun e w' => e = .returned (.bool r) ∧ Below w.heap.size w w' := by
 have HR := Aside0.mk hr; have HH := Aside0.mk h; clear hr h; go_enter Tryd.func75, Tryd.ntmps75
 go_wp2_with (go_at_call 99; (with_reducible refine (ixLong A c l r _ HR.out HH.out).mono ?_); rintro e w5 ⟨⟨i, rfl, hi⟩, hb5⟩; have HI := Aside0.mk hi; have HB5 := Aside0.mk hb5; clear hb5)
 go_ret
 exact ⟨by first | rfl | (rw [← HI.out]; rfl), HB5.out⟩
set_option maxHeartbeats 4000000 in
set_option maxRecDepth 100000 in
theorem ixBad (A : Option Addr) (c : Nat) (l : List Int) (r : Bool) (w : World) (hr : Kd.C (Kd.int .i64) w A l.length l) (h : anyBad l = r) :
  Calls Tryd.prog 100 #[.slice A l.length c, .func (.func 79) #[] #[]] w fun e w' => (∃ i : Int, e = .returned (.int .i64 i) ∧ decide (0 ≤ i) = r) ∧ Below w.heap.size w w' := by
 have HR := Aside0.mk hr; have HH := Aside0.mk h; have HLM := Aside0.mk hr.2.1; have HB := Aside0.mk (Below.refl w.heap.size w); clear hr h; go_enter Tryd.func100, Tryd.ntmps100
 go_wp2_with fail
 go_loopg [5, 8] (l.length + 1) (fun kq v5 v8 w' => ∃ i : Nat, v8 = .int .i64 (i : Int) ∧ Aside0 (i ≤ l.length ∧ kq = l.length - i + 1) ∧ Aside0 (anyBad (l.drop i) = r) ∧ Aside0 (Below w.heap.size w w'))
 case atStart => exact ⟨0, rfl, ⟨by omega, by omega⟩, by rw [List.drop_zero]; exact HH, HB⟩
 case round =>
  clear HH HB; obtain ⟨i, rfl, HI, HH, HB⟩ := hrel
  by_cases c1 : i < l.length
  ·have e1 : decide ((i : Int) < (l.length : Int)) = true := decide_eq_true (by omega); have p1 := eq_true (show (0 : Int) ≤ (i : Int) by omega); have p2 := eq_true (show (i : Int) < (l.length : Int) by omega); have p3 := eq_true c1; have hi1 : wrap64 ((i : Int) + 1) = ((i + 1 : Nat) : Int) := by have := HLM.out; unfold maxLen at this; unfold wrap64; omega
   have HI1 := Aside0.mk hi1; clear hi1; obtain ⟨ad, rfl, hx0⟩ := Kd.at_int (Kd.C_below HR.out HB.out) (i : Int) (by omega) (by omega); rw [show ((i : Int)).toNat = i from rfl] at hx0; have H := HH.out; rw [rd_drop l i c1, anyBad] at H; clear HH; generalize rd l (i : Int) = x at *
   by_cases ht : (decide (x < 1) || decide (1024 ≤ x)) = true
   ·rw [ht, Bool.true_or] at H; subst H; go_wp2_with (go_at_call 79; (with_reducible refine (cBad x _).mono ?_); rintro e w5 ⟨rfl, rfl⟩; rw [ht])
    go_ret
    exact ⟨⟨(i : Int), rfl, by simp⟩, HB.out⟩
   ·rw [Bool.not_eq_true] at ht; rw [ht, Bool.false_or] at H; have H' := Aside0.mk H; clear H; go_wp2_with (go_at_call 79; (with_reducible refine (cBad x _).mono ?_); rintro e w5 ⟨rfl, rfl⟩; rw [ht])
    go_roundg (l.length - i)
    case measure => have := HI.out; omega
    case rel => exact ⟨i + 1, (by first | rfl | rw [HI1.out]), ⟨by omega, by omega⟩, H', HB⟩
  ·have e1 : decide ((i : Int) < (l.length : Int)) = false := decide_eq_false (by omega); have H := HH.out; rw [List.drop_eq_nil_of_le (by omega)] at H; obtain rfl : false = r := H; go_wp2_with fail
   go_ret
   exact ⟨⟨-1, rfl, by decide⟩, HB.out⟩
set_option maxHeartbeats 4000000 in
theorem cfBad (A : Option Addr) (c : Nat) (l : List Int) (r : Bool) (w : World) (hr : Kd.C (Kd.int .i64) w A l.length l) (h : anyBad l = r) :
  Calls Tryd.prog 78 #[.slice A l.length c, .func (.func 79) #[] #[]] w fun e w' => e = .returned (.bool r) ∧ Below w.heap.size w w' := by
 have HR := Aside0.mk hr; have HH := Aside0.mk h; clear hr h; go_enter Tryd.func78, Tryd.ntmps78
 go_wp2_with (go_at_call 100; (with_reducible refine (ixBad A c l r _ HR.out HH.out).mono ?_); rintro e w5 ⟨⟨i, rfl, hi⟩, hb5⟩; have HI := Aside0.mk hi; have HB5 := Aside0.mk hb5; clear hb5)
 go_ret
 exact ⟨by first | rfl | (rw [← HI.out]; rfl), HB5.out⟩
set_option maxHeartbeats 8000000 in
set_option maxRecDepth 100000 in
theorem page_Right.calls (k : Nat) (a0_0 : Int) (A0_1 : Option Addr) (c0_1 : Nat) (l0_1 : List ByteArray) (A0_2 : Option Addr) (c0_2 : Nat) (l0_2 : List ByteArray) (A0_3 : Option Addr) (c0_3 : Nat) (l0_3 : List Int) (r : Bool) (w : World) (hr0_1 : Kd.C Kd.string w A0_1 l0_1.length l0_1) (hc0_1 : l0_1.length ≤ c0_1) (hr0_2 : Kd.C Kd.string w A0_2 l0_2.length l0_2) (hc0_2 : l0_2.length ≤ c0_2) (hr0_3 : Kd.C (Kd.int .i64) w A0_3 l0_3.length l0_3) (hc0_3 : l0_3.length ≤ c0_3) (h : page_Right.f k a0_0 l0_1 l0_2 l0_3 = some r) :
  Calls Tryd.prog 53 #[.agg #[.int .i64 a0_0, .slice A0_1 l0_1.length c0_1, .slice A0_2 l0_2.length c0_2, .slice A0_3 l0_3.length c0_3]] w fun e w' => e = .returned (.bool r) ∧ Below w.heap.size w w' := by
 have HR1 := Aside0.mk (fun (W : World) (hb : Below w.heap.size w W) => Kd.C_below hr0_1 hb); have HR2 := Aside0.mk (fun (W : World) (hb : Below w.heap.size w W) => Kd.C_below hr0_2 hb); have HR3 := Aside0.mk (fun (W : World) (hb : Below w.heap.size w W) => Kd.C_below hr0_3 hb); have HC1 := Aside0.mk hc0_1; have HC2 := Aside0.mk hc0_2; have HC3 := Aside0.mk hc0_3; have HB0 := Aside0.mk (below_alloc (Below.refl w.heap.size w) (.cells #[.int .i64 a0_0, .slice A0_1 l0_1.length c0_1, .slice A0_2 l0_2.length c0_2, .slice A0_3 l0_3.length c0_3] 69)); have HX0 := Aside0.mk (heap_alloc_new w (.cells #[.int .i64 a0_0, .slice A0_1 l0_1.length c0_1, .slice A0_2 l0_2.length c0_2, .slice A0_3 l0_3.length c0_3] 69)); have hu := Tryd.underlying69; clear hr0_1 hc0_1 hr0_2 hc0_2 hr0_3 hc0_3; unfold page_Right.f at h
 by_cases hl : a0_0 = 0
 ·subst hl; rw [if_pos rfl] at h
  by_cases hc : l0_1.length ≤ 11 ∧ l0_2.length = l0_1.length ∧ l0_3.length = 0 ∧ anyLong l0_2 = false
  ·rw [if_pos hc] at h; have HK := Aside0.mk h; obtain ⟨h1, h2, h3, h4⟩ := hc; clear h; have d1 : decide ((l0_1.length : Int) ≤ 11) = true := decide_eq_true (by omega); have d2a : ((l0_2.length : Int) == (l0_1.length : Int)) = true := beq_iff_eq.2 (by omega); have d2b : (l0_2.length == l0_1.length) = true := beq_iff_eq.2 (by omega); have d2c : decide (l0_2.length = l0_1.length) = true := decide_eq_true (by omega); have d2d := eq_true (show (l0_2.length = l0_1.length) by omega); have d3a : ((l0_3.length : Int) == (0 : Int)) = true := beq_iff_eq.2 (by omega); have d3b : (l0_3.length == 0) = true := beq_iff_eq.2 (by omega); have d3c : decide (l0_3.length = 0) = true := decide_eq_true (by omega); have d3d := eq_true (show (l0_3.length = 0) by omega); clear h1 h2 h3; go_enter Tryd.func53, Tryd.ntmps53
   go_wp2_with (first
    | (go_at_call 75; (with_reducible refine (cfLong A0_2 c0_2 l0_2 _ _ (HR2.out _ HB0.out) rfl).mono ?_); rintro e w1 ⟨rfl, hb1⟩; have HB1 := Aside0.mk (below_step HB0.out hb1); have HX1 := Aside0.mk (blk_below HX0.out hb1); have hx0 := (blk_cell HX1.out 0).trans rfl; have hx1 := (blk_cell HX1.out 1).trans rfl; have hx2 := (blk_cell HX1.out 2).trans rfl; have hx3 := (blk_cell HX1.out 3).trans rfl; clear hb1; rw [h4])
    | (go_at_call 77; (with_reducible refine (page_Page_keyed.calls k 0 A0_1 c0_1 l0_1 A0_2 c0_2 l0_2 A0_3 c0_3 l0_3 0 r _ (HR1.out _ HB1.out) HC1.out (HR2.out _ HB1.out) HC2.out (HR3.out _ HB1.out) HC3.out HK.out).mono ?_); rintro e w2 ⟨rfl, hb2⟩; have HB2 := Aside0.mk (below_step HB1.out hb2); clear hb2))
   go_ret
   exact ⟨z92, HB2.out⟩
  ·rw [if_neg hc] at h; obtain rfl := Option.some.inj h; clear h; have hc' : ¬ l0_1.length ≤ 11 ∨ (l0_1.length ≤ 11 ∧ ¬ l0_2.length = l0_1.length) ∨ (l0_1.length ≤ 11 ∧ l0_2.length = l0_1.length ∧ ¬ l0_3.length = 0) ∨ (l0_1.length ≤ 11 ∧ l0_2.length = l0_1.length ∧ l0_3.length = 0 ∧ anyLong l0_2 = true) := by
    by_cases x1 : l0_1.length ≤ 11
    ·by_cases x2 : l0_2.length = l0_1.length
     ·by_cases x3 : l0_3.length = 0
      ·exact .inr (.inr (.inr ⟨x1, x2, x3, by cases x4 : anyLong l0_2; exact absurd ⟨x1, x2, x3, x4⟩ hc; rfl⟩))
      ·exact .inr (.inr (.inl ⟨x1, x2, x3⟩))
     ·exact .inr (.inl ⟨x1, x2⟩)
    ·exact .inl x1
   clear hc; rcases hc' with h1 | ⟨h1, h2⟩ | ⟨h1, h2, h3⟩ | ⟨h1, h2, h3, h4⟩
   ·skip; have d1 : decide ((l0_1.length : Int) ≤ 11) = false := decide_eq_false (by omega); clear h1; go_enter Tryd.func53, Tryd.ntmps53
    go_wp2_with (go_at_call 75; (with_reducible refine (cfLong A0_2 c0_2 l0_2 _ _ (HR2.out _ HB0.out) rfl).mono ?_); rintro e w1 ⟨rfl, hb1⟩; have HB1 := Aside0.mk (below_step HB0.out hb1); have HX1 := Aside0.mk (blk_below HX0.out hb1); have hx0 := (blk_cell HX1.out 0).trans rfl; have hx1 := (blk_cell HX1.out 1).trans rfl; have hx2 := (blk_cell HX1.out 2).trans rfl; have hx3 := (blk_cell HX1.out 3).trans rfl; clear hb1)
    go_ret
    exact ⟨z92, HB1.out⟩
   ·skip; have d1 : decide ((l0_1.length : Int) ≤ 11) = true := decide_eq_true (by omega); have d2a : ((l0_2.length : Int) == (l0_1.length : Int)) = false := beq_eq_false_iff_ne.2 (by omega); have d2b : (l0_2.length == l0_1.length) = false := beq_eq_false_iff_ne.2 (by omega); have d2c : decide (l0_2.length = l0_1.length) = false := decide_eq_false (by omega); have d2d := eq_false (show ¬ (l0_2.length = l0_1.length) by omega); clear h1 h2; go_enter Tryd.func53, Tryd.ntmps53
    go_wp2_with (go_at_call 75; (with_reducible refine (cfLong A0_2 c0_2 l0_2 _ _ (HR2.out _ HB0.out) rfl).mono ?_); rintro e w1 ⟨rfl, hb1⟩; have HB1 := Aside0.mk (below_step HB0.out hb1); have HX1 := Aside0.mk (blk_below HX0.out hb1); have hx0 := (blk_cell HX1.out 0).trans rfl; have hx1 := (blk_cell HX1.out 1).trans rfl; have hx2 := (blk_cell HX1.out 2).trans rfl; have hx3 := (blk_cell HX1.out 3).trans rfl; clear hb1)
    go_ret
    exact ⟨z92, HB1.out⟩
   ·skip; have d1 : decide ((l0_1.length : Int) ≤ 11) = true := decide_eq_true (by omega); have d2a : ((l0_2.length : Int) == (l0_1.length : Int)) = true := beq_iff_eq.2 (by omega); have d2b : (l0_2.length == l0_1.length) = true := beq_iff_eq.2 (by omega); have d2c : decide (l0_2.length = l0_1.length) = true := decide_eq_true (by omega); have d2d := eq_true (show (l0_2.length = l0_1.length) by omega); have d3a : ((l0_3.length : Int) == (0 : Int)) = false := beq_eq_false_iff_ne.2 (by omega); have d3b : (l0_3.length == 0) = false := beq_eq_false_iff_ne.2 (by omega); have d3c : decide (l0_3.length = 0) = false := decide_eq_false (by omega); have d3d := eq_false (show ¬ (l0_3.length = 0) by omega); clear h1 h2 h3; go_enter Tryd.func53, Tryd.ntmps53
    go_wp2_with (go_at_call 75; (with_reducible refine (cfLong A0_2 c0_2 l0_2 _ _ (HR2.out _ HB0.out) rfl).mono ?_); rintro e w1 ⟨rfl, hb1⟩; have HB1 := Aside0.mk (below_step HB0.out hb1); have HX1 := Aside0.mk (blk_below HX0.out hb1); have hx0 := (blk_cell HX1.out 0).trans rfl; have hx1 := (blk_cell HX1.out 1).trans rfl; have hx2 := (blk_cell HX1.out 2).trans rfl; have hx3 := (blk_cell HX1.out 3).trans rfl; clear hb1)
    go_ret
    exact ⟨z92, HB1.out⟩
   ·skip; have d1 : decide ((l0_1.length : Int) ≤ 11) = true := decide_eq_true (by omega); have d2a : ((l0_2.length : Int) == (l0_1.length : Int)) = true := beq_iff_eq.2 (by omega); have d2b : (l0_2.length == l0_1.length) = true := beq_iff_eq.2 (by omega); have d2c : decide (l0_2.length = l0_1.length) = true := decide_eq_true (by omega); have d2d := eq_true (show (l0_2.length = l0_1.length) by omega); have d3a : ((l0_3.length : Int) == (0 : Int)) = true := beq_iff_eq.2 (by omega); have d3b : (l0_3.length == 0) = true := beq_iff_eq.2 (by omega); have d3c : decide (l0_3.length = 0) = true := decide_eq_true (by omega); have d3d := eq_true (show (l0_3.length = 0) by omega); clear h1 h2 h3; go_enter Tryd.func53, Tryd.ntmps53
    go_wp2_with (go_at_call 75; (with_reducible refine (cfLong A0_2 c0_2 l0_2 _ _ (HR2.out _ HB0.out) rfl).mono ?_); rintro e w1 ⟨rfl, hb1⟩; have HB1 := Aside0.mk (below_step HB0.out hb1); have HX1 := Aside0.mk (blk_below HX0.out hb1); have hx0 := (blk_cell HX1.out 0).trans rfl; have hx1 := (blk_cell HX1.out 1).trans rfl; have hx2 := (blk_cell HX1.out 2).trans rfl; have hx3 := (blk_cell HX1.out 3).trans rfl; clear hb1; rw [h4])
    go_ret
    exact ⟨z92, HB1.out⟩
 ·rw [if_neg hl] at h; have n0 : (a0_0 == 0) = false := beq_eq_false_iff_ne.2 hl
  by_cases hc : 0 < a0_0 ∧ a0_0 < 6 ∧ 2 ≤ l0_1.length ∧ l0_1.length ≤ 25 ∧ l0_3.length = l0_1.length ∧ l0_2.length = 0 ∧ anyBad l0_3 = false
  ·rw [if_pos hc] at h; have HK := Aside0.mk h; obtain ⟨h1, h2, h3, h4, h5, h6, h7⟩ := hc; clear h; have d1 : decide (0 < a0_0) = true := decide_eq_true (by omega); have d2 : decide (a0_0 < 6) = true := decide_eq_true (by omega); have d3 : decide (2 ≤ (l0_1.length : Int)) = true := decide_eq_true (by omega); have d4 : decide ((l0_1.length : Int) ≤ 25) = true := decide_eq_true (by omega); have d5a : ((l0_3.length : Int) == (l0_1.length : Int)) = true := beq_iff_eq.2 (by omega); have d5b : (l0_3.length == l0_1.length) = true := beq_iff_eq.2 (by omega); have d5c : decide (l0_3.length = l0_1.length) = true := decide_eq_true (by omega); have d5d := eq_true (show (l0_3.length = l0_1.length) by omega); have d6a : ((l0_2.length : Int) == (0 : Int)) = true := beq_iff_eq.2 (by omega); have d6b : (l0_2.length == 0) = true := beq_iff_eq.2 (by omega); have d6c : decide (l0_2.length = 0) = true := decide_eq_true (by omega); have d6d := eq_true (show (l0_2.length = 0) by omega); clear hl h1 h2 h3 h4 h5 h6; go_enter Tryd.func53, Tryd.ntmps53
   go_wp2_with (first
    | (go_at_call 78; (with_reducible refine (cfBad A0_3 c0_3 l0_3 _ _ (HR3.out _ HB0.out) rfl).mono ?_); rintro e w1 ⟨rfl, hb1⟩; have HB1 := Aside0.mk (below_step HB0.out hb1); have HX1 := Aside0.mk (blk_below HX0.out hb1); have hx0 := (blk_cell HX1.out 0).trans rfl; have hx1 := (blk_cell HX1.out 1).trans rfl; have hx2 := (blk_cell HX1.out 2).trans rfl; have hx3 := (blk_cell HX1.out 3).trans rfl; clear hb1; rw [h7])
    | (go_at_call 77; (with_reducible refine (page_Page_keyed.calls k a0_0 A0_1 c0_1 l0_1 A0_2 c0_2 l0_2 A0_3 c0_3 l0_3 1 r _ (HR1.out _ HB1.out) HC1.out (HR2.out _ HB1.out) HC2.out (HR3.out _ HB1.out) HC3.out HK.out).mono ?_); rintro e w2 ⟨rfl, hb2⟩; have HB2 := Aside0.mk (below_step HB1.out hb2); clear hb2))
   go_ret
   exact ⟨z92, HB2.out⟩
  ·rw [if_neg hc] at h; obtain rfl := Option.some.inj h; clear h; have hc' : (¬ 0 < a0_0) ∨ (0 < a0_0 ∧ ¬ a0_0 < 6) ∨ (0 < a0_0 ∧ a0_0 < 6 ∧ ¬ 2 ≤ l0_1.length) ∨ (0 < a0_0 ∧ a0_0 < 6 ∧ 2 ≤ l0_1.length ∧ ¬ l0_1.length ≤ 25) ∨ (0 < a0_0 ∧ a0_0 < 6 ∧ 2 ≤ l0_1.length ∧ l0_1.length ≤ 25 ∧ ¬ l0_3.length = l0_1.length) ∨ (0 < a0_0 ∧ a0_0 < 6 ∧ 2 ≤ l0_1.length ∧ l0_1.length ≤ 25 ∧ l0_3.length = l0_1.length ∧ ¬ l0_2.length = 0) ∨ (0 < a0_0 ∧ a0_0 < 6 ∧ 2 ≤ l0_1.length ∧ l0_1.length ≤ 25 ∧ l0_3.length = l0_1.length ∧ l0_2.length = 0 ∧ anyBad l0_3 = true) := by
    by_cases x7 : anyBad l0_3 = false
    ·have : ¬ (0 < a0_0 ∧ a0_0 < 6 ∧ 2 ≤ l0_1.length ∧ l0_1.length ≤ 25 ∧ l0_3.length = l0_1.length ∧ l0_2.length = 0) := fun x => hc ⟨x.1, x.2.1, x.2.2.1, x.2.2.2.1, x.2.2.2.2.1, x.2.2.2.2.2, x7⟩
     omega
    ·rw [Bool.not_eq_false] at x7; simp only [x7, and_true]; omega
   clear hc; rcases hc' with h1 | ⟨h1, h2⟩ | ⟨h1, h2, h3⟩ | ⟨h1, h2, h3, h4⟩ | ⟨h1, h2, h3, h4, h5⟩ | ⟨h1, h2, h3, h4, h5, h6⟩ | ⟨h1, h2, h3, h4, h5, h6, h7⟩
   ·skip; have d1 : decide (0 < a0_0) = false := decide_eq_false (by omega); clear hl h1; go_enter Tryd.func53, Tryd.ntmps53
    go_wp2_with (go_at_call 78; (with_reducible refine (cfBad A0_3 c0_3 l0_3 _ _ (HR3.out _ HB0.out) rfl).mono ?_); rintro e w1 ⟨rfl, hb1⟩; have HB1 := Aside0.mk (below_step HB0.out hb1); have HX1 := Aside0.mk (blk_below HX0.out hb1); have hx0 := (blk_cell HX1.out 0).trans rfl; have hx1 := (blk_cell HX1.out 1).trans rfl; have hx2 := (blk_cell HX1.out 2).trans rfl; have hx3 := (blk_cell HX1.out 3).trans rfl; clear hb1)
    go_ret
    exact ⟨z92, HB1.out⟩
   ·skip; have d1 : decide (0 < a0_0) = true := decide_eq_true (by omega); have d2 : decide (a0_0 < 6) = false := decide_eq_false (by omega); clear hl h1 h2; go_enter Tryd.func53, Tryd.ntmps53
    go_wp2_with (go_at_call 78; (with_reducible refine (cfBad A0_3 c0_3 l0_3 _ _ (HR3.out _ HB0.out) rfl).mono ?_); rintro e w1 ⟨rfl, hb1⟩; have HB1 := Aside0.mk (below_step HB0.out hb1); have HX1 := Aside0.mk (blk_below HX0.out hb1); have hx0 := (blk_cell HX1.out 0).trans rfl; have hx1 := (blk_cell HX1.out 1).trans rfl; have hx2 := (blk_cell HX1.out 2).trans rfl; have hx3 := (blk_cell HX1.out 3).trans rfl; clear hb1)
    go_ret
    exact ⟨z92, HB1.out⟩
   ·skip; have d1 : decide (0 < a0_0) = true := decide_eq_true (by omega); have d2 : decide (a0_0 < 6) = true := decide_eq_true (by omega); have d3 : decide (2 ≤ (l0_1.length : Int)) = false := decide_eq_false (by omega); clear hl h1 h2 h3; go_enter Tryd.func53, Tryd.ntmps53
    go_wp2_with (go_at_call 78; (with_reducible refine (cfBad A0_3 c0_3 l0_3 _ _ (HR3.out _ HB0.out) rfl).mono ?_); rintro e w1 ⟨rfl, hb1⟩; have HB1 := Aside0.mk (below_step HB0.out hb1); have HX1 := Aside0.mk (blk_below HX0.out hb1); have hx0 := (blk_cell HX1.out 0).trans rfl; have hx1 := (blk_cell HX1.out 1).trans rfl; have hx2 := (blk_cell HX1.out 2).trans rfl; have hx3 := (blk_cell HX1.out 3).trans rfl; clear hb1)
    go_ret
    exact ⟨z92, HB1.out⟩
   ·skip; have d1 : decide (0 < a0_0) = true := decide_eq_true (by omega); have d2 : decide (a0_0 < 6) = true := decide_eq_true (by omega); have d3 : decide (2 ≤ (l0_1.length : Int)) = true := decide_eq_true (by omega); have d4 : decide ((l0_1.length : Int) ≤ 25) = false := decide_eq_false (by omega); clear hl h1 h2 h3 h4; go_enter Tryd.func53, Tryd.ntmps53
    go_wp2_with (go_at_call 78; (with_reducible refine (cfBad A0_3 c0_3 l0_3 _ _ (HR3.out _ HB0.out) rfl).mono ?_); rintro e w1 ⟨rfl, hb1⟩; have HB1 := Aside0.mk (below_step HB0.out hb1); have HX1 := Aside0.mk (blk_below HX0.out hb1); have hx0 := (blk_cell HX1.out 0).trans rfl; have hx1 := (blk_cell HX1.out 1).trans rfl; have hx2 := (blk_cell HX1.out 2).trans rfl; have hx3 := (blk_cell HX1.out 3).trans rfl; clear hb1)
    go_ret
    exact ⟨z92, HB1.out⟩
   ·skip; have d1 : decide (0 < a0_0) = true := decide_eq_true (by omega); have d2 : decide (a0_0 < 6) = true := decide_eq_true (by omega); have d3 : decide (2 ≤ (l0_1.length : Int)) = true := decide_eq_true (by omega); have d4 : decide ((l0_1.length : Int) ≤ 25) = true := decide_eq_true (by omega); have d5a : ((l0_3.length : Int) == (l0_1.length : Int)) = false := beq_eq_false_iff_ne.2 (by omega); have d5b : (l0_3.length == l0_1.length) = false := beq_eq_false_iff_ne.2 (by omega); have d5c : decide (l0_3.length = l0_1.length) = false := decide_eq_false (by omega); have d5d := eq_false (show ¬ (l0_3.length = l0_1.length) by omega); clear hl h1 h2 h3 h4 h5; go_enter Tryd.func53, Tryd.ntmps53
    go_wp2_with (go_at_call 78; (with_reducible refine (cfBad A0_3 c0_3 l0_3 _ _ (HR3.out _ HB0.out) rfl).mono ?_); rintro e w1 ⟨rfl, hb1⟩; have HB1 := Aside0.mk (below_step HB0.out hb1); have HX1 := Aside0.mk (blk_below HX0.out hb1); have hx0 := (blk_cell HX1.out 0).trans rfl; have hx1 := (blk_cell HX1.out 1).trans rfl; have hx2 := (blk_cell HX1.out 2).trans rfl; have hx3 := (blk_cell HX1.out 3).trans rfl; clear hb1)
    go_ret
    exact ⟨z92, HB1.out⟩
   ·skip; have d1 : decide (0 < a0_0) = true := decide_eq_true (by omega); have d2 : decide (a0_0 < 6) = true := decide_eq_true (by omega); have d3 : decide (2 ≤ (l0_1.length : Int)) = true := decide_eq_true (by omega); have d4 : decide ((l0_1.length : Int) ≤ 25) = true := decide_eq_true (by omega); have d5a : ((l0_3.length : Int) == (l0_1.length : Int)) = true := beq_iff_eq.2 (by omega); have d5b : (l0_3.length == l0_1.length) = true := beq_iff_eq.2 (by omega); have d5c : decide (l0_3.length = l0_1.length) = true := decide_eq_true (by omega); have d5d := eq_true (show (l0_3.length = l0_1.length) by omega); have d6a : ((l0_2.length : Int) == (0 : Int)) = false := beq_eq_false_iff_ne.2 (by omega); have d6b : (l0_2.length == 0) = false := beq_eq_false_iff_ne.2 (by omega); have d6c : decide (l0_2.length = 0) = false := decide_eq_false (by omega); have d6d := eq_false (show ¬ (l0_2.length = 0) by omega); clear hl h1 h2 h3 h4 h5 h6; go_enter Tryd.func53, Tryd.ntmps53
    go_wp2_with (go_at_call 78; (with_reducible refine (cfBad A0_3 c0_3 l0_3 _ _ (HR3.out _ HB0.out) rfl).mono ?_); rintro e w1 ⟨rfl, hb1⟩; have HB1 := Aside0.mk (below_step HB0.out hb1); have HX1 := Aside0.mk (blk_below HX0.out hb1); have hx0 := (blk_cell HX1.out 0).trans rfl; have hx1 := (blk_cell HX1.out 1).trans rfl; have hx2 := (blk_cell HX1.out 2).trans rfl; have hx3 := (blk_cell HX1.out 3).trans rfl; clear hb1)
    go_ret
    exact ⟨z92, HB1.out⟩
   ·skip; have d1 : decide (0 < a0_0) = true := decide_eq_true (by omega); have d2 : decide (a0_0 < 6) = true := decide_eq_true (by omega); have d3 : decide (2 ≤ (l0_1.length : Int)) = true := decide_eq_true (by omega); have d4 : decide ((l0_1.length : Int) ≤ 25) = true := decide_eq_true (by omega); have d5a : ((l0_3.length : Int) == (l0_1.length : Int)) = true := beq_iff_eq.2 (by omega); have d5b : (l0_3.length == l0_1.length) = true := beq_iff_eq.2 (by omega); have d5c : decide (l0_3.length = l0_1.length) = true := decide_eq_true (by omega); have d5d := eq_true (show (l0_3.length = l0_1.length) by omega); have d6a : ((l0_2.length : Int) == (0 : Int)) = true := beq_iff_eq.2 (by omega); have d6b : (l0_2.length == 0) = true := beq_iff_eq.2 (by omega); have d6c : decide (l0_2.length = 0) = true := decide_eq_true (by omega); have d6d := eq_true (show (l0_2.length = 0) by omega); clear hl h1 h2 h3 h4 h5 h6; go_enter Tryd.func53, Tryd.ntmps53
    go_wp2_with (go_at_call 78; (with_reducible refine (cfBad A0_3 c0_3 l0_3 _ _ (HR3.out _ HB0.out) rfl).mono ?_); rintro e w1 ⟨rfl, hb1⟩; have HB1 := Aside0.mk (below_step HB0.out hb1); have HX1 := Aside0.mk (blk_below HX0.out hb1); have hx0 := (blk_cell HX1.out 0).trans rfl; have hx1 := (blk_cell HX1.out 1).trans rfl; have hx2 := (blk_cell HX1.out 2).trans rfl; have hx3 := (blk_cell HX1.out 3).trans rfl; clear hb1; rw [h7])
    go_ret
    exact ⟨z92, HB1.out⟩
/-! ### le_Put: function 80 -/
mutual
def le_Put.j0 : Nat → Int → Int → Bool → Option (ByteArray)
 | 0, _, _, _ => none
 | k + 1, x0, x1, x23 => if x23 = true then (some (⟨#[]⟩ : ByteArray)) else (if 0 ≤ x1 then (if (x1 : Int).toNat ≤ 281474976710656 then ((some (List.replicate (x1 : Int).toNat 0 : List Int)).bind fun y106 => (le_Put.l0 k x0 y106 (y106.length : Int) 0)) else (none)) else (none))
def le_Put.l0 : Nat → Int → List Int → Int → Int → Option (ByteArray)
 | 0, _, _, _, _ => none
 | k + 1, x0, x5, x27, x28 => if x28 < x27 then (if 0 ≤ (wrap64 (8 * x28)) then (if 0 ≤ x28 then (if x28 < (x5.length : Int) then (le_Put.l0 k x0 (x5.set (x28 : Int).toNat ((shr .i64 x0 (wrap64 (8 * x28))) % 256)) x27 (wrap64 (x28 + 1))) else (none)) else (none)) else (none)) else (some (strOfNums x5))
end
def le_Put.f (k : Nat) (a0 : Int) (a1 : Int) : Option (ByteArray) := if a1 < 1 then (le_Put.j0 k a0 a1 true) else (if a1 > 7 then (le_Put.j0 k a0 a1 true) else (if a0 < 0 then (le_Put.j0 k a0 a1 true) else (if 0 ≤ (wrap64 (8 * a1)) then (le_Put.j0 k a0 a1 ((shr .i64 a0 (wrap64 (8 * a1))) != 0)) else (none))))
set_option maxHeartbeats 8000000 in
set_option maxRecDepth 100000 in
theorem le_Put.calls (k : Nat) (a0 : Int) (a1 : Int) (r : ByteArray) (w : World) (h : le_Put.f k a0 a1 = some r) :
  Calls Tryd.prog 80 #[.int .i64 a0, .int .i64 a1] w fun e w' => e = .returned (.string r) ∧ Below w.heap.size w w' := by
 have HB := Aside0.mk (Below.refl w.heap.size w); have H : (if a1 < 1 then (le_Put.j0 k a0 a1 true) else (if a1 > 7 then (le_Put.j0 k a0 a1 true) else (if a0 < 0 then (le_Put.j0 k a0 a1 true) else (if 0 ≤ (wrap64 (8 * a1)) then (le_Put.j0 k a0 a1 ((shr .i64 a0 (wrap64 (8 * a1))) != 0)) else (none))))) = some r := h; clear h; have HC3 := Aside0.mk H; clear H; go_enter Tryd.func80, Tryd.ntmps80
 go_upto_region 1 with (fail)
 go_cut [23] (fun v23 wc => ∃ (kq : Nat) (x23_2 : Bool), v23 = .bool x23_2 ∧ Aside0 (le_Put.j0 kq a0 a1 x23_2 = some r) ∧ Aside0 (kq ≤ k) ∧ Aside0 (Below w.heap.size w wc))
 case first =>
  have H := HC3.out; clear HC3
  by_cases c4 : a1 < 1
  ·rw [if_pos c4] at H; have c4b0 : decide (a1 < 1) = true := decide_eq_true c4; clear c4
   (first | rw [c4b0] | (simp only [i64_w, i32_w]; rw [c4b0]) | skip)
   have H' := Aside0.mk H; clear H; go_wp2
   go_meet
   case rel => exact ⟨_, (true), z41, H', ⟨z68⟩, ⟨z19⟩⟩
  ·rw [if_neg c4] at H; have c4b0 : decide (a1 < 1) = false := decide_eq_false c4; clear c4
   (first | rw [c4b0] | (simp only [i64_w, i32_w]; rw [c4b0]) | skip)
   by_cases c5 : a1 > 7
   ·rw [if_pos c5] at H; have c5b0 : decide (7 < a1) = true := decide_eq_true c5; clear c5; have H' := Aside0.mk H; clear H; go_wp2
    go_meet
    case rel => exact ⟨_, (true), z41, H', ⟨z68⟩, ⟨z19⟩⟩
   ·rw [if_neg c5] at H; have c5b0 : decide (7 < a1) = false := decide_eq_false c5; clear c5
    by_cases c6 : a0 < 0
    ·rw [if_pos c6] at H; have c6b0 : decide (a0 < 0) = true := decide_eq_true c6; clear c6; have H' := Aside0.mk H; clear H; go_wp2
     go_meet
     case rel => exact ⟨_, (true), z41, H', ⟨z68⟩, ⟨z19⟩⟩
    ·rw [if_neg c6] at H; have c6b0 : decide (a0 < 0) = false := decide_eq_false c6; clear c6; obtain ⟨ji7, hji7⟩ : ∃ j_ : Int, (wrap64 (8 * a1)) = j_ := ⟨_, rfl⟩
     replace H : (if 0 ≤ (ji7) then (le_Put.j0 k a0 a1 ((shr .i64 a0 (ji7)) != 0)) else (none)) = some r := by first | (rw [hji7] at H; exact H) | (simp only [hji7] at H ⊢; exact H)
     have hji7w : (IntKind.i64.wrap (8 * a1)) = ji7 := (i64_w _).trans hji7
     by_cases c8 : 0 ≤ (ji7)
     ·rw [if_pos c8] at H; have c8b0 := eq_true c8
      try (have c8sa0 := c8b0; simp only [ByteArray.size_append, Int.natCast_add] at c8sa0)
      have c8b1 : decide (0 ≤ (ji7)) = true := decide_eq_true c8; clear c8; obtain ⟨ji9, hji9⟩ : ∃ j_ : Int, (shr .i64 a0 (ji7)) = j_ := ⟨_, rfl⟩
      replace H : (le_Put.j0 k a0 a1 ((ji9) != 0)) = some r := by first | (rw [hji9] at H; exact H) | (simp only [hji9] at H ⊢; exact H)
      have hji9_ : (a0 / 2 ^ min (ji7).toNat 64) = ji9 := hji9; have hji9z : (ji7) ≤ 64 → (a0 / 2 ^ (ji7).toNat) = ji9 := shr_small hji9; have H' := Aside0.mk H; clear H; go_wp2
      go_meet
      case rel => exact ⟨_, (((ji9) != 0)), (by first | rfl | (simp; done) | (simp only [← hji9] <;> (first | rfl | simp)) | (simp [*]; done)), H', ⟨z68⟩, ⟨z19⟩⟩
     ·rw [if_neg c8] at H; exact absurd H (by simp)
 case rest =>
  clear HC3; obtain ⟨kq, x23_2, rfl, HA, HJ2, HB⟩ := hcut; cases kq with
  | zero => exact absurd HA.out (by simp [le_Put.j0])
  | succ kj2 =>
   have H := HA.out; clear HA; simp only [le_Put.j0] at H
   by_cases c10 : x23_2 = true
   ·subst c10; have H1 : (some (⟨#[]⟩ : ByteArray)) = some r := by rw [if_pos rfl] at H; exact H
    clear H; have H := H1; clear H1; obtain rfl := Option.some.inj H; go_wp2
    go_ret
    exact ⟨z21, z19⟩
   ·replace c10 := Bool.eq_false_iff.mpr c10; subst c10; have H1 : (if 0 ≤ a1 then (if (a1 : Int).toNat ≤ 281474976710656 then ((some (List.replicate (a1 : Int).toNat 0 : List Int)).bind fun y106 => (le_Put.l0 kj2 a0 y106 (y106.length : Int) 0)) else (none)) else (none)) = some r := by rw [if_neg (show ¬ (false = true) by decide)] at H; exact H
    clear H; have H := H1; clear H1
    by_cases c11 : 0 ≤ a1
    ·rw [if_pos c11] at H; have c11b0 := eq_true c11
     try (have c11sa0 := c11b0; simp only [ByteArray.size_append, Int.natCast_add] at c11sa0)
     have c11b1 : decide (0 ≤ a1) = true := decide_eq_true c11; clear c11
     by_cases c12 : (a1 : Int).toNat ≤ 281474976710656
     ·rw [if_pos c12] at H; have c12b0 := eq_true c12
      try (have c12sa0 := c12b0; simp only [ByteArray.size_append, Int.natCast_add] at c12sa0)
      have c12b1 : decide ((a1 : Int).toNat ≤ 281474976710656) = true := decide_eq_true c12; clear c12; obtain ⟨y106, hy106⟩ : ∃ y_ : List Int, y_ = (List.replicate (a1 : Int).toNat 0) := ⟨_, rfl⟩
      replace H : (le_Put.l0 kj2 a0 y106 (y106.length : Int) 0) = some r := by first | (rw [hy106]; with_reducible exact H) | (have H2_ := (Option.bind_some _ _).symm.trans H; rw [hy106]; with_reducible exact H2_) | (have H2_ := (Option.bind_some _ _).symm.trans H; with_reducible exact H2_) | with_reducible exact H | (rw [hy106]; exact H) | exact H
      have Ny106 := Aside0.mk hy106; clear hy106; have H' := Aside0.mk H; clear H; go_wp2_with (first | ((with_reducible refine gate_dst (N := 25) rfl ?_); refine Kd.R_make (Kd.int .u8) _ 5 rfl (N := 25) rfl 102 _ _ rfl a1 rfl rfl Tryd.underlying102 (.int .u8 0) 1 info5 rfl (by decide) (by omega) 0 (ok := fun _ => True) (okp := fun _ => True) rfl (fun _ hk => hk) trivial (of_decide_eq_true z18) (Nat.le_trans (Nat.mul_le_mul_right _ (of_decide_eq_true z18 : a1.toNat ≤ 281474976710656)) (by omega)) (Below.refl _ _) (Nat.le_refl _) ?_; intro v107 w13 ho14 hb hg_ hnew_; clear hg_ hnew_; (first | rw [← Ny106.out] at ho14 | (simp only [Int.reduceToNat] at ho14; rw [← Ny106.out] at ho14)); have n0_ := Aside0.mk (Kd.R_lower ho14 (below_size z19)); have n1_ := Aside0.mk (below_step z19 hb); clear HB; have HO108 := n0_; have HB := n1_; clear n0_ n1_; clear hb ho14; obtain ⟨Ao15, co15, eo15⟩ := Kd.R_slice HO108.out; subst eo15))
      go_loopg [28] kj2 (fun kq v28 w' => ∃ (x5_2 : List Int) (x28_2 : Int), v28 = .int .i64 x28_2 ∧ Aside0 (le_Put.l0 kq a0 x5_2 (y106.length : Int) x28_2 = some r) ∧ Aside0 (kq ≤ kj2) ∧ Aside0 (Kd.R (Kd.int .u8) 5 w' w.heap.size (fun _ => True) (.slice Ao15 y106.length co15) x5_2) ∧ Aside0 (Below w.heap.size w w'))
      case atStart => exact ⟨(y106), (0), z41, H', ⟨Nat.le_refl _⟩, ⟨(z2 HO108.out)⟩, ⟨z19⟩⟩
      case round =>
       clear H'
       (try clear c10)
       (try clear c11)
       (try clear c11b0)
       (try clear c11b1)
       (try clear c12)
       (try clear c12b0)
       (try clear c12b1)
       obtain ⟨x5_2, x28_2, rfl, HA, HK2, HO_5, HB⟩ := hrel; have hl5_2 := (Kd.R_reads' HO_5.out).1; rw [hl5_2] at HO_5
       (try simp only [hl5_2])
       cases gk with
       | zero => exact absurd HA.out (by simp [le_Put.l0])
       | succ k2 =>
        have H := HA.out; clear HA; simp only [le_Put.l0] at H
        by_cases c16 : x28_2 < (y106.length : Int)
        ·rw [if_pos c16] at H; have c16b0 : decide (x28_2 < (y106.length : Int)) = true := decide_eq_true c16
         try (have c16bl0 := c16b0; rw [hl5_2] at c16bl0)
         try (have c16bm0 := c16b0; rw [← hl5_2] at c16bm0)
         clear c16; obtain ⟨ji17, hji17⟩ : ∃ j_ : Int, (wrap64 (8 * x28_2)) = j_ := ⟨_, rfl⟩
         replace H : (if 0 ≤ (ji17) then (if 0 ≤ x28_2 then (if x28_2 < (x5_2.length : Int) then (le_Put.l0 k2 a0 (x5_2.set (x28_2 : Int).toNat ((shr .i64 a0 (ji17)) % 256)) (y106.length : Int) (wrap64 (x28_2 + 1))) else (none)) else (none)) else (none)) = some r := by first | (rw [hji17] at H; exact H) | (simp only [hji17] at H ⊢; exact H)
         have hji17w : (IntKind.i64.wrap (8 * x28_2)) = ji17 := (i64_w _).trans hji17
         by_cases c18 : 0 ≤ (ji17)
         ·rw [if_pos c18] at H; have c18b0 := eq_true c18
          try (have c18sa0 := c18b0; simp only [ByteArray.size_append, Int.natCast_add] at c18sa0)
          have c18b1 : decide (0 ≤ (ji17)) = true := decide_eq_true c18; clear c18; obtain ⟨ji19, hji19⟩ : ∃ j_ : Int, (shr .i64 a0 (ji17)) = j_ := ⟨_, rfl⟩
          replace H : (if 0 ≤ x28_2 then (if x28_2 < (x5_2.length : Int) then (le_Put.l0 k2 a0 (x5_2.set (x28_2 : Int).toNat ((ji19) % 256)) (y106.length : Int) (wrap64 (x28_2 + 1))) else (none)) else (none)) = some r := by first | (rw [hji19] at H; exact H) | (simp only [hji19] at H ⊢; exact H)
          have hji19_ : (a0 / 2 ^ min (ji17).toNat 64) = ji19 := hji19; have hji19z : (ji17) ≤ 64 → (a0 / 2 ^ (ji17).toNat) = ji19 := shr_small hji19
          by_cases c20 : 0 ≤ x28_2
          ·rw [if_pos c20] at H; have c20b0 : decide (0 ≤ x28_2) = true := decide_eq_true c20; clear c20
           by_cases c21 : x28_2 < (x5_2.length : Int)
           ·rw [if_pos c21] at H; have c21b0 : decide (x28_2 < (x5_2.length : Int)) = true := decide_eq_true c21
            try (have c21bl0 := c21b0; rw [hl5_2] at c21bl0)
            try (have c21bm0 := c21b0; rw [← hl5_2] at c21bm0)
            clear c21; obtain ⟨y109, hy109⟩ : ∃ y_ : List Int, y_ = (x5_2.set (x28_2 : Int).toNat ((ji19) % 256)) := ⟨_, rfl⟩
            replace H : (le_Put.l0 k2 a0 y109 (y106.length : Int) (wrap64 (x28_2 + 1))) = some r := by first | (rw [hy109]; with_reducible exact H) | (have H2_ := (Option.bind_some _ _).symm.trans H; rw [hy109]; with_reducible exact H2_) | (have H2_ := (Option.bind_some _ _).symm.trans H; with_reducible exact H2_) | with_reducible exact H | (rw [hy109]; exact H) | exact H
            have Ny109 := Aside0.mk hy109; clear hy109; have H' := Aside0.mk H; clear H; have p22 : 0 ≤ (x28_2 : Int) := of_decide_eq_true z18; have q22 : (x28_2 : Int) < ((x5_2.length : Int) : Int) := of_decide_eq_true z18; obtain ⟨go22, co22, eo22, gb22, gl22, cl22, HG22⟩ := Kd.R_form HO_5.out (by omega)
            (first | cases eo22 | (injection eo22 with ea_ en_ ec_; (first | subst ea_ | (injection ea_ with ea_; subst ea_)); subst ec_; clear en_))
            have GB22 := Aside0.mk gb22; have GG22 := Aside0.mk HG22; clear gb22 gl22 HG22; obtain ⟨hx22_0, hf22_0⟩ := Kd.R_celln 0 HO_5.out (x28_2 : Int) p22 q22; replace p22 := eq_true p22; replace q22 := eq_true q22; have HP23 := Kd.R_putg HO_5.out (x28_2 : Int) ((ji19) % 256); go_wp2_with (first | ((with_reducible refine gate_store (t := 5) (p := 38) rfl ?_); refine store_event (t := 5) (p := 38) (v := ?vo_w24) (w1 := (wr.setCell ⟨go22, (x28_2 : Int).toNat, none⟩ (.int .u8 ((ji19) % 256)))) ?hg ?ho ?hn ?hr ?_; (case ho => rfl); (case hg => rfl); (case hn => rfl); (case hr => exact z100); intro w24 hw; have hg : wr.grownBy w24 (some go22) := (by rw [hw]; exact HP23.2); have hp_ : Kd.R (Kd.int .u8) 5 w24 w.heap.size (fun _ => True) (.slice (some ⟨go22, 0, none⟩) x5_2.length co15) y109 := (by rw [hw, Ny109.out]; exact HP23.1); clear HP23; have n0_ := Aside0.mk (hp_); have n1_ := Aside0.mk ((by rw [hw]; exact below_set (HB.out) GB22.out : Below w.heap.size w w24)); clear HO_5; clear HB; have HO_5 := n0_; have HB := n1_; clear n0_ n1_; clear hg hw hp_))
            (try simp only [← hl5_2])
            go_roundg k2
            case measure => have := HJ2.out; have := HK2.out; omega
            case rel => exact ⟨(y109), (wrap64 (x28_2 + 1)), z41, H', ⟨by have := HJ2.out; have := HK2.out; omega⟩, ⟨by (try simp only [hl5_2]); (with_reducible repeat (first | apply Kd.R_alloc | apply Kd.R_drewN | apply Kd.R_drew)); exact HO_5.out⟩, ⟨z19⟩⟩
           ·rw [if_neg c21] at H; exact absurd H (by simp)
          ·rw [if_neg c20] at H; exact absurd H (by simp)
         ·rw [if_neg c18] at H; exact absurd H (by simp)
        ·rw [if_neg c16] at H; have c16b0 : decide (x28_2 < (y106.length : Int)) = false := decide_eq_false c16
         try (have c16bl0 := c16b0; rw [hl5_2] at c16bl0)
         try (have c16bm0 := c16b0; rw [← hl5_2] at c16bm0)
         clear c16; obtain rfl := Option.some.inj H; have hcv25 := own_string (P := Tryd.prog) Tryd.underlying102 Tryd.underlying5 Tryd.underlying9 (Kd.own_of_R HO_5.out); go_wp2
         go_ret
         exact ⟨z21, z19⟩
     ·rw [if_neg c12] at H; exact absurd H (by simp)
    ·rw [if_neg c11] at H; exact absurd H (by simp)
-- @GIVEN lib_builder
/-- A strings.Builder at the head of block g (a block of type T: the builder alone, or a struct that begins with it), all in blocks from B on, holding the bytes bs; p: its own address, or nil while it is fresh. -/
def BIn (T : TypeId) (rest : List Value) (B g : Nat) (p : Value) (bs : List Value) (w : World) : Prop :=
  B ≤ g ∧ ∃ v, w.heap[g]? = some (.cells (p :: v :: rest).toArray T (0, 0)) ∧ w.ownsRow B 5 1 v bs.length bs ∧ v.ownBlock ≠ some g ∧ (bs = [] → v = .slice none 0 0)
/-- .. fresh or used. -/
def BOut (T : TypeId) (rest : List Value) (B g : Nat) (bs : List Value) (w : World) : Prop :=
  BIn T rest B g (.pointer none) bs w ∨ BIn T rest B g (.pointer (some ⟨g, 0, none⟩)) bs w

theorem bsize : (Tryd.prog.info? 111).map (·.size) = some 2 := by kernel_rfl
theorem binfo : (Tryd.prog.info? 5).map (fun i => (i.zero, i.size, i.bytes)) = some (some (.int .u8 0), 1, 1) := by kernel_rfl
theorem bcells : Tryd.prog.cellsOf 5 = 1 := by kernel_rfl

theorem bcells_append (a b : ByteArray) : Lib.strCells (a ++ b) = Lib.strCells a ++ Lib.strCells b := by
  simp [Lib.strCells_eq, Lib.byteCells]

/-- The block's type lets a builder be seen at its head. -/
def BLies (T : TypeId) (rest : List Value) : Prop := liesAt Tryd.prog Tryd.prog.depth T ((rest.length + 2) / Tryd.prog.cellsOf T) 0 111 1 = true

section
variable {T : TypeId} {rest : List Value} {B g : Nat} {p : Value} {bs : List Value} {w : World}
theorem BIn.cell0 (h : BIn T rest B g p bs w) : w.cell? ⟨g, 0, none⟩ = some p := by
  obtain ⟨_, v, hb, _⟩ := h; rw [Lib.cell_of_heap hb]; rfl
theorem BIn.shape (h : BIn T rest B g p bs w) : w.shape? g = some (T, rest.length + 2) := by
  obtain ⟨_, v, hb, _⟩ := h; simp [World.shape?, hb]
theorem BIn.lt (h : BIn T rest B g p bs w) : g < w.heap.size := by
  obtain ⟨_, v, hb, _⟩ := h; exact blk_lt hb
theorem BIn.frozen0 (h : BIn T rest B g p bs w) : w.frozen? ⟨g, 0, none⟩ = false := by
  obtain ⟨_, v, hb, _⟩ := h; simp [World.frozen?, hb]
theorem BIn.ge (h : BIn T rest B g p bs w) : B ≤ g := h.1
theorem BIn.used (h : BIn T rest B g p bs w) (q : Value) : BIn T rest B g q bs (w.setCell ⟨g, 0, none⟩ q) := by
  obtain ⟨hB, v, hb, hown, hne, hn⟩ := h; refine ⟨hB, v, ?_, ?_, hne, hn⟩
  · simp [World.setCell, Array.getElem?_modify, hb]
  · refine hown.kept (row := some g) ⟨rfl, rfl, rfl, by simp [World.setCell], fun k _ hk => Below.heap_setCell _ _ _ _ (fun e => hk (by simp [e]))⟩ ?_; exact Or.inr hne
theorem bown_ne {v : Value} {n : Nat} {xs : List Value} {cs : Array Value} {fr : Nat × Nat} (hown : w.ownsRow B 5 1 v n xs) (hb : w.heap[g]? = some (.cells cs T fr)) (hT : T ≠ 5) : v.ownBlock ≠ some g := Lib.ownBlock_ne hown hb hT
theorem BIn.put {v v' : Value} {bs' : List Value} (hB : B ≤ g) (hb : w.heap[g]? = some (.cells (p :: v :: rest).toArray T (0, 0))) (hown : w.ownsRow B 5 1 v' bs'.length bs') (hT : T ≠ 5) (hn : bs' = [] → v' = .slice none 0 0) :
    BIn T rest B g p bs' (w.setCell ⟨g, 1, none⟩ v') := by
  have hne := bown_ne hown hb hT; refine ⟨hB, v', ?_, ?_, hne, hn⟩
  · simp [World.setCell, Array.getElem?_modify, hb]
  · exact hown.kept (row := some g) ⟨rfl, rfl, rfl, by simp [World.setCell], fun k _ hk => Below.heap_setCell _ _ _ _ (fun e => hk (by simp [e]))⟩ (Or.inr hne)
/-- A cell behind the builder is written. -/
theorem BIn.rest_set {u z : Value} (h : BIn T [u] B g p bs w) : BIn T [z] B g p bs (w.setCell ⟨g, 2, none⟩ z) := by
  obtain ⟨hB, v, hb, hown, hne, hn⟩ := h; refine ⟨hB, v, ?_, ?_, hne, hn⟩
  · simp [World.setCell, Array.getElem?_modify, hb]
  · exact hown.kept (row := some g) ⟨rfl, rfl, rfl, by simp [World.setCell], fun k _ hk => Below.heap_setCell _ _ _ _ (fun e => hk (by simp [e]))⟩ (Or.inr hne)
theorem BIn.below {w' : World} (h : BIn T rest B g p bs w) (hb : Below w.heap.size w w') : BIn T rest B g p bs w' := by
  obtain ⟨hB, v, hk, hown, hne, hn⟩ := h; refine ⟨hB, v, blk_below hk hb, ?_, hne, hn⟩; rcases hown with ⟨h0, ⟨hv, hz⟩ | ⟨k, cap, cur, hv, hBk, hkk, r⟩⟩
  · exact ⟨h0, .inl ⟨hv, hz⟩⟩
  · exact ⟨h0, .inr ⟨k, cap, cur, hv, hBk, blk_below hkk hb, r⟩⟩
theorem BOut.below {w' : World} (h : BOut T rest B g bs w) (hb : Below w.heap.size w w') : BOut T rest B g bs w' := by
  rcases h with h | h
  · exact .inl (h.below hb)
  · exact .inr (h.below hb)
theorem BIn.alloc (h : BIn T rest B g p bs w) (o : Obj) : BIn T rest B g p bs (w.alloc o) := h.below (below_alloc (Below.refl _ _) o)
theorem BIn.drew (h : BIn T rest B g p bs w) : BIn T rest B g p bs w.drew := h
theorem BIn.drewN (h : BIn T rest B g p bs w) (n : Nat) : BIn T rest B g p bs (w.drewN n) := h
/-- A store into a block that is neither the builder's nor a row of bytes. -/
theorem BIn.far (h : BIn T rest B g p bs w) {k : Nat} {cs : Array Value} {t : TypeId} (hk : w.heap[k]? = some (.cells cs t (0, 0))) (ht : t ≠ 5) (hg : k ≠ g) (j : Nat) (u : Value) : BIn T rest B g p bs (w.setCell ⟨k, j, none⟩ u) := by
  obtain ⟨hB, v, hb, hown, hne, hn⟩ := h; refine ⟨hB, v, (Below.heap_setCell _ _ _ _ (fun e => hg e.symm)).trans hb, ?_, hne, hn⟩; rcases hown with ⟨h0, ⟨hv, hz⟩ | ⟨m, cap, cur, hv, hBk, hkk, r⟩⟩
  · exact ⟨h0, .inl ⟨hv, hz⟩⟩
  · refine ⟨h0, .inr ⟨m, cap, cur, hv, hBk, (Below.heap_setCell _ _ _ _ (fun e => ?_)).trans hkk, r⟩⟩; simp only at e; subst e; rw [hkk] at hk; injection hk with hk
    injection hk with _ hk
    exact ht hk.symm
theorem BOut.alloc (h : BOut T rest B g bs w) (o : Obj) : BOut T rest B g bs (w.alloc o) := by
  rcases h with h | h
  · exact .inl (h.alloc o)
  · exact .inr (h.alloc o)
theorem BOut.drew (h : BOut T rest B g bs w) : BOut T rest B g bs w.drew := h
theorem BOut.drewN (h : BOut T rest B g bs w) (n : Nat) : BOut T rest B g bs (w.drewN n) := h
theorem BOut.far (h : BOut T rest B g bs w) {k : Nat} {cs : Array Value} {t : TypeId} (hk : w.heap[k]? = some (.cells cs t (0, 0))) (ht : t ≠ 5) (hg : k ≠ g) (j : Nat) (u : Value) : BOut T rest B g bs (w.setCell ⟨k, j, none⟩ u) := by
  rcases h with h | h
  · exact .inl (h.far hk ht hg j u)
  · exact .inr (h.far hk ht hg j u)
theorem BOut.lt (h : BOut T rest B g bs w) : g < w.heap.size := by rcases h with h | h <;> exact h.lt
theorem BOut.ge (h : BOut T rest B g bs w) : B ≤ g := by rcases h with h | h <;> exact h.1
theorem BOut.rest_set {u z : Value} (h : BOut T [u] B g bs w) : BOut T [z] B g bs (w.setCell ⟨g, 2, none⟩ z) := by
  rcases h with h | h
  · exact .inl h.rest_set
  · exact .inr h.rest_set
end

/-- All blocks but the builder's own and the rows of bytes stand as they stood. -/
def BKeep (g : Nat) (w w' : World) : Prop := ∀ (k : Nat) (cs : Array Value) (t : TypeId), k ≠ g → t ≠ 5 → w.heap[k]? = some (.cells cs t (0, 0)) → w'.heap[k]? = some (.cells cs t (0, 0))
theorem BKeep.refl (g : Nat) (w : World) : BKeep g w w := fun _ _ _ _ _ h => h
theorem BKeep.trans {g : Nat} {w w1 w2 : World} (h : BKeep g w w1) (k : BKeep g w1 w2) : BKeep g w w2 := fun a cs t h1 h2 h3 => k a cs t h1 h2 (h a cs t h1 h2 h3)
theorem BKeep.set {g : Nat} {w w1 : World} (h : BKeep g w w1) (j : Nat) (u : Value) : BKeep g w (w1.setCell ⟨g, j, none⟩ u) := fun a cs t h1 h2 h3 => (Below.heap_setCell _ _ _ _ (fun e => h1 e)).trans (h a cs t h1 h2 h3)
theorem BKeep.grown {g B : Nat} {w w1 w2 : World} {v : Value} {n : Nat} {xs : List Value} (h : BKeep g w w1) (hown : w1.ownsRow B 5 1 v n xs) (hg : w1.grownBy w2 v.ownBlock) : BKeep g w w2 := fun a cs t h1 h2 h3 => by
  have h4 := h a cs t h1 h2 h3; exact (hg.block a (blk_lt h4) (fun e => bown_ne hown h4 h2 e.symm)).trans h4
set_option maxHeartbeats 1000000 in
set_option maxRecDepth 100000 in
theorem bCheck_used (g : Nat) (w : World) (h0 : w.cell? ⟨g, 0, none⟩ = some (.pointer (some ⟨g, 0, none⟩))) :
    Calls Tryd.prog 101 #[.pointer (some ⟨g, 0, none⟩)] w fun e w' => e = .returned (.tuple #[]) ∧ w' = w := by
  obtain ⟨j, hj, _⟩ := Option.map_eq_some_iff.1 bsize; go_enter Tryd.func101, Tryd.ntmps101
  go_wp2
  rw [Lib.run_neq_ptr_same w _ Tryd.underlying109 hj]; go_wp2
  go_end0
  exact ⟨rfl, rfl⟩

set_option maxHeartbeats 1000000 in
set_option maxRecDepth 100000 in
theorem bCheck_fresh (T : TypeId) (rest : List Value) (hl : BLies T rest) (g : Nat) (w : World) (h0 : w.cell? ⟨g, 0, none⟩ = some (.pointer none)) (hsh : w.shape? g = some (T, rest.length + 2)) (hfz : w.frozen? ⟨g, 0, none⟩ = false) :
    Calls Tryd.prog 101 #[.pointer (some ⟨g, 0, none⟩)] w fun e w' => e = .returned (.tuple #[]) ∧ w' = w.setCell ⟨g, 0, none⟩ (.pointer (some ⟨g, 0, none⟩)) := by
  obtain ⟨j, hj, hjs⟩ := Option.map_eq_some_iff.1 bsize; have HL := Lib.hid hl; clear hl; go_enter Tryd.func101, Tryd.ntmps101
  go_wp2
  rw [Lib.run_to_unsafe w ⟨g, 0, none⟩ Tryd.underlying109 Tryd.underlying92 hj (by rw [hjs]; decide) hsh (by simp)]; simp only [Result.andThen]; rw [Oper.upon_value]; go_wp2
  rw [run_callFunc_extern Tryd.func120 (by kernel_rfl) (by kernel_rfl) (by kernel_rfl) (e := Extern.AbiNoEscape.same) (by kernel_rfl)]; rw [Lib.run_noEscape]; simp only [Result.andThen]; rw [Oper.upon_value]; go_wp2
  rw [Lib.run_from_unsafe w ⟨g, 0, none⟩ Tryd.underlying92 Tryd.underlying109 hj hsh HL.out]; simp only [Result.andThen]; rw [Oper.upon_value]; go_wp2
  go_end0
  exact ⟨rfl, rfl⟩

theorem bCheck (T : TypeId) (rest : List Value) (hl : BLies T rest) (B g : Nat) (bs : List Value) (w : World) (h : BOut T rest B g bs w) :
    Calls Tryd.prog 101 #[.pointer (some ⟨g, 0, none⟩)] w fun e w' => e = .returned (.tuple #[]) ∧ BIn T rest B g (.pointer (some ⟨g, 0, none⟩)) bs w' ∧ Below B w w' ∧ BKeep g w w' := by
  rcases h with h | h
  · refine (bCheck_fresh T rest hl g w h.cell0 h.shape h.frozen0).mono ?_; rintro e w' ⟨rfl, rfl⟩; exact ⟨rfl, h.used _, (Below.refl B w).setCell (p := ⟨g, 0, none⟩) h.1 _, (BKeep.refl g w).set 0 _⟩
  · refine (bCheck_used g w h.cell0).mono ?_; rintro e w' ⟨rfl, rfl⟩; exact ⟨rfl, h, Below.refl B _, BKeep.refl g _⟩

set_option maxHeartbeats 2000000 in
set_option maxRecDepth 100000 in
/-- WriteString: the bytes go behind those that are there. -/
theorem bWrite (T : TypeId) (rest : List Value) (hl : BLies T rest) (hT : T ≠ 5) (B g : Nat) (bs : List Value) (s : ByteArray) (w : World) (h : BOut T rest B g bs w) (hlen : bs.length + s.size ≤ 140737488355328) (hBw : B ≤ w.heap.size) :
    Calls Tryd.prog 81 #[.pointer (some ⟨g, 0, none⟩), .string s] w fun e w' => e = .returned (.tuple #[.int .i64 s.size, .nilIface]) ∧ BOut T rest B g (bs ++ Lib.strCells s) w' ∧ Below B w w' ∧ BKeep g w w' := by
  obtain ⟨i0, hi, hz0, hz1, hz2⟩ := info_parts binfo; have HT := Lib.hid hT; clear hT; go_enter Tryd.func81, Tryd.ntmps81
  go_wp2_with (go_at_call 101; refine (bCheck T rest hl B g bs _ h).mono ?_)
  rintro e w1 ⟨rfl, h1, hb1, hk1⟩; have HK := Lib.hid hk1; clear hk1; obtain ⟨hB, v, hbk, hown, hne, hnil⟩ := h1; have HN := Lib.hid hnil; clear hnil; have c0 : w1.cell? ⟨g, 0, none⟩ = some (.pointer (some ⟨g, 0, none⟩)) := by rw [Lib.cell_of_heap hbk]; rfl
  have c1 : w1.cell? ⟨g, 1, none⟩ = some v := by rw [Lib.cell_of_heap hbk]; rfl
  go_wp2_with (at_builtin; refine Lib.wpList_append_own_string _ rfl _ _ 102 9 rfl B 5 i0 Tryd.underlying102 Tryd.underlying9 hi hz0 hz1 hz2 _ _ _ rfl hown s rfl ?c3 ?c4 ?c5 ?_)
  case c3 => unfold maxLen; omega
  case c4 => omega
  case c5 => have := hb1.size; omega
  intro v' w2 hown' hgrow hnl; have HN2 := Lib.hid hnl; clear hnl; have hlt : g < w1.heap.size := blk_lt hbk; have hb2 : w2.heap[g]? = some (.cells (.pointer (some ⟨g, 0, none⟩) :: v :: rest).toArray T (0, 0)) := by
    rw [hgrow.block g hlt (fun e => hne e.symm)]; exact hbk
  have d0 : w2.cell? ⟨g, 0, none⟩ = some (.pointer (some ⟨g, 0, none⟩)) := by rw [Lib.cell_of_heap hb2]; rfl
  have d1 : w2.cell? ⟨g, 1, none⟩ = some v := by rw [Lib.cell_of_heap hb2]; rfl
  have f1 : w2.frozen? ⟨g, 1, none⟩ = false := Lib.frozen_of_heap hb2 1; obtain ⟨ao, n', cap, rfl⟩ : ∃ ao n' cap, v' = .slice ao n' cap := by
    rcases hown'.2 with ⟨hv, _⟩ | ⟨g, cap, cur, hv, _⟩
    · exact ⟨_, _, _, hv⟩
    · exact ⟨_, _, _, hv⟩
  have HX := Lib.hid hown'; clear hown'; have HK2 := Lib.hid ((HK.out).grown hown hgrow); go_wp2
  go_ret2
  refine ⟨rfl, .inr ?_, ?_, HK2.out.set 1 _⟩
  · refine BIn.put hB hb2 (bs' := bs ++ Lib.strCells s) (by simpa [Lib.strCells_length] using HX.out) HT.out ?_; intro hz; have hz2 : bs = [] ∧ Lib.strCells s = [] := List.append_eq_nil_iff.1 hz; refine (HN2.out).2 ⟨HN.out hz2.1, ?_⟩; have hl := Lib.strCells_length s; rw [hz2.2] at hl; cases s with
    | mk d => cases d with
      | mk l => cases l with
        | nil => rfl
        | cons x r => simp [ByteArray.size] at hl
  · exact (hb1.grown hgrow (by have := hb1.size; omega) (fun k hk => (hown.lt k hk).1)).setCell (p := ⟨g, 1, none⟩) hB _

set_option maxHeartbeats 1000000 in
set_option maxRecDepth 100000 in
theorem bString_some (T : TypeId) (rest : List Value) (B g : Nat) (l : List UInt8) (w : World) (h : BOut T rest B g (Lib.byteCells l) w) (h0 : l ≠ []) :
    Calls Tryd.prog 83 #[.pointer (some ⟨g, 0, none⟩)] w fun e w' => e = .returned (.string ⟨l.toArray⟩) ∧ Below B w w' := by
  obtain ⟨p, hB, v, hbk, hown, hne, hnl⟩ : ∃ p, BIn T rest B g p (Lib.byteCells l) w := by
    rcases h with h | h
    · exact ⟨_, h⟩
    · exact ⟨_, h⟩
  clear h hnl; have hl0 : l.length ≠ 0 := by simpa using h0
  rw [Lib.byteCells_length] at hown; obtain ⟨k, cap, cur, rfl, hbg, hg, hnc, hcm, hcs, htake⟩ : ∃ k cap cur, v = .slice (some ⟨k, 0, none⟩) l.length cap ∧ B ≤ k ∧ w.heap[k]? = some (.cells cur 5 (0, 0)) ∧ l.length ≤ cap ∧ cap ≤ maxLen ∧ cur.size = cap * 1 ∧ cur.toList.take (l.length * 1) = Lib.byteCells l := by
    rcases hown.2 with ⟨_, hz⟩ | ⟨k, cap, cur, hv, r⟩
    · exact absurd hz hl0
    · exact ⟨k, cap, cur, hv, r⟩
  have c1 : w.drew.cell? ⟨g, 1, none⟩ = some (.slice (some ⟨k, 0, none⟩) l.length cap) := by
    have : w.drew.heap[g]? = some (.cells (p :: .slice (some ⟨k, 0, none⟩) l.length cap :: rest).toArray T (0, 0)) := hbk; rw [Lib.cell_of_heap this]; rfl
  have hSD : (Builtin.unsafeSliceData_ #[102] 174 #[.slice (some ⟨k, 0, none⟩) l.length cap]).run Tryd.prog w.drew = .ok (.pointer (some ⟨k, 0, none⟩)) w.drew :=
    Lib.run_unsafeSliceData_row _ _ _ _ _ _ (by omega)
  have hUS : (Builtin.unsafeString_ #[174, 3] 9 #[.pointer (some ⟨k, 0, none⟩), .int .i64 l.length]).run Tryd.prog w.drew = .ok (.string ⟨l.toArray⟩) (w.drew.freeze ⟨k, 0, none⟩ l.length) := by
    refine Lib.run_unsafeString_row w.drew 174 3 9 5 Tryd.underlying174 bcells k cur.size (by have hg' : w.drew.heap[k]? = some (.cells cur 5 (0, 0)) := hg; simp [World.shape?, hg']) l h0 (by omega) (by unfold maxLen at hcm; omega) ?_; intro j x hx; have := hown.cells (g := k) rfl j (.int .u8 x.toNat) (by simp [Lib.byteCells, hx]); exact this
  clear hown hnc hcm hcs htake hbk hne hl0 h0 hg; go_enter Tryd.func83, Tryd.ntmps83
  go_wp2
  go_region
  all_goals (go_wp2; go_ret; exact ⟨rfl, Lib.below_freeze (Below.drew (Below.refl B w)) (p := ⟨k, 0, none⟩) hbg _⟩)

set_option maxHeartbeats 2000000 in
set_option maxRecDepth 100000 in
theorem bString_none (T : TypeId) (rest : List Value) (B g : Nat) (w : World) (h : BOut T rest B g [] w) :
    Calls Tryd.prog 83 #[.pointer (some ⟨g, 0, none⟩)] w fun e w' => e = .returned (.string ⟨#[]⟩) ∧ Below B w w' := by
  obtain ⟨p, hB, v, hbk, hown, hne, hnl⟩ : ∃ p, BIn T rest B g p [] w := by
    rcases h with h | h
    · exact ⟨_, h⟩
    · exact ⟨_, h⟩
  obtain rfl := hnl rfl; clear h hnl hne hown; have hUS : ∀ (W : World) (q : Option Addr), (Builtin.unsafeString_ #[174, 3] 9 #[.pointer q, .int .i64 0]).run Tryd.prog W = .ok (.string .empty) W := fun W q => Lib.run_unsafeString_none W _ _ _ q
  have c1 : w.drew.cell? ⟨g, 1, none⟩ = some (.slice none 0 0) := by
    have : w.drew.heap[g]? = some (.cells (p :: .slice none 0 0 :: rest).toArray T (0, 0)) := hbk; rw [Lib.cell_of_heap this]; rfl
  have hSD : (Builtin.unsafeSliceData_ #[102] 174 #[.slice none 0 0]).run Tryd.prog w.drew = .ok (.pointer none) w.drew := rfl; clear hbk; go_enter Tryd.func83, Tryd.ntmps83
  go_wp2
  go_region
  all_goals (go_wp2; go_ret; exact ⟨rfl, Below.drew (Below.refl B w)⟩)

/-- String: the bytes. -/
theorem bString (T : TypeId) (rest : List Value) (B g : Nat) (s : ByteArray) (w : World) (h : BOut T rest B g (Lib.strCells s) w) :
    Calls Tryd.prog 83 #[.pointer (some ⟨g, 0, none⟩)] w fun e w' => e = .returned (.string s) ∧ Below B w w' := by
  have e0 : Lib.strCells s = Lib.byteCells s.data.toList := rfl
  by_cases hs : s.data.toList = []
  · have e1 : s = ⟨#[]⟩ := by
      cases s with
      | mk d => cases d with
        | mk l => simp at hs; subst hs; rfl
    subst e1; exact bString_none T rest B g w h
  · rw [e0] at h; have := bString_some T rest B g s.data.toList w h hs
    simpa using this
section
-- @GIVEN lib_repeat
section
open Go.Shelf
def Tryd.lays105_ren : Go.Shelf.Ren := ⟨fun | 105 => 82 | 212 => 102 | 99 => 103 | 165 => 104 | 166 => 81 | 170 => 105 | 169 => 83 | 263 => 121 | 264 => 122 | 206 => 123 | 240 => 101 | 241 => 124 | 276 => 120 | 277 => 135 | n => n, fun | 9 => 9 | 3 => 3 | 4 => 4 | 20 => 20 | 0 => 0 | 46 => 167 | 109 => 171 | 5 => 5 | 72 => 111 | 76 => 149 | 51 => 175 | 146 => 191 | 53 => 178 | 148 => 193 | 70 => 109 | 37 => 102 | 75 => 27 | 127 => 174 | 164 => 92 | 80 => 60 | n => n, fun | n => n⟩
theorem Tryd.lays105 : Go.Proofs.Lays.n105 Tryd.prog Tryd.lays105_ren := {
  mixed := by kernel_rfl
  f99 := Tryd.func103.trans (congrArg some (by kernel_rfl))
  f105 := Tryd.func82.trans (congrArg some (by kernel_rfl))
  f165 := Tryd.func104.trans (congrArg some (by kernel_rfl))
  f166 := Tryd.func81.trans (congrArg some (by kernel_rfl))
  f169 := Tryd.func83.trans (congrArg some (by kernel_rfl))
  f170 := Tryd.func105.trans (congrArg some (by kernel_rfl))
  f206 := Tryd.func123.trans (congrArg some (by kernel_rfl))
  f212 := Tryd.func102.trans (congrArg some (by kernel_rfl))
  f240 := Tryd.func101.trans (congrArg some (by kernel_rfl))
  f241 := Tryd.func124.trans (congrArg some (by kernel_rfl))
  f263 := Tryd.func121.trans (congrArg some (by kernel_rfl))
  f264 := Tryd.func122.trans (congrArg some (by kernel_rfl))
  f276 := Tryd.func120.trans (congrArg some (by kernel_rfl))
  f277 := Tryd.func135.trans (congrArg some (by kernel_rfl))
  t0 := Tryd.underlying0
  a0 := Tryd.isAgg0
  z0 := Tryd.sizeOf0
  v0 := Tryd.zeroValue0
  t3 := Tryd.underlying3
  a3 := Tryd.isAgg3
  z3 := Tryd.sizeOf3
  v3 := Tryd.zeroValue3
  t4 := Tryd.underlying4
  a4 := Tryd.isAgg4
  z4 := Tryd.sizeOf4
  v4 := Tryd.zeroValue4
  t5 := Tryd.underlying5
  a5 := Tryd.isAgg5
  z5 := Tryd.sizeOf5
  v5 := Tryd.zeroValue5
  t9 := Tryd.underlying9
  a9 := Tryd.isAgg9
  z9 := Tryd.sizeOf9
  v9 := Tryd.zeroValue9
  t20 := Tryd.underlying20
  a20 := Tryd.isAgg20
  z20 := Tryd.sizeOf20
  v20 := Tryd.zeroValue20
  t37 := Tryd.underlying102
  a37 := Tryd.isAgg102
  z37 := Tryd.sizeOf102
  v37 := Tryd.zeroValue102
  t46 := Tryd.underlying167
  a46 := Tryd.isAgg167
  z46 := Tryd.sizeOf167
  v46 := Tryd.zeroValue167
  t51 := Tryd.underlying175
  a51 := Tryd.isAgg175
  z51 := Tryd.sizeOf175
  v51 := Tryd.zeroValue175
  t53 := Tryd.underlying178
  a53 := Tryd.isAgg178
  z53 := Tryd.sizeOf178
  v53 := Tryd.zeroValue178
  t70 := Tryd.underlying109
  a70 := Tryd.isAgg109
  z70 := Tryd.sizeOf109
  v70 := Tryd.zeroValue109
  t72 := Tryd.underlying111
  a72 := Tryd.isAgg111
  z72 := Tryd.sizeOf111
  v72 := Tryd.zeroValue111
  t75 := Tryd.underlying27
  a75 := Tryd.isAgg27
  z75 := Tryd.sizeOf27
  v75 := Tryd.zeroValue27
  t76 := Tryd.underlying149
  a76 := Tryd.isAgg149
  z76 := Tryd.sizeOf149
  v76 := Tryd.zeroValue149
  t109 := Tryd.underlying171
  a109 := Tryd.isAgg171
  z109 := Tryd.sizeOf171
  v109 := Tryd.zeroValue171
  t127 := Tryd.underlying174
  a127 := Tryd.isAgg174
  z127 := Tryd.sizeOf174
  v127 := Tryd.zeroValue174
  t146 := Tryd.underlying191
  a146 := Tryd.isAgg191
  z146 := Tryd.sizeOf191
  v146 := Tryd.zeroValue191
  t148 := Tryd.underlying193
  a148 := Tryd.isAgg193
  z148 := Tryd.sizeOf193
  v148 := Tryd.zeroValue193
  t164 := Tryd.underlying92
  a164 := Tryd.isAgg92
  z164 := Tryd.sizeOf92
  v164 := Tryd.zeroValue92 }
theorem Tryd.Builder_Extra_105 : Builder.Extra Tryd.prog Tryd.lays105_ren := {
  sizeBuilder := by kernel_rfl
  liesBuilder := by kernel_rfl
  t5 := Tryd.underlying5
  a5 := Tryd.isAgg5
  z5 := Tryd.sizeOf5
  v5 := Tryd.zeroValue5
  infoByte := by kernel_rfl
  cellsByte := by kernel_rfl
  sizeByte := by kernel_rfl
  neB5 := by decide }
/-- **strings.Repeat: count ≥ 0, the result within one allocation: count copies of s.** (LAID: no walk: one application.) -/
theorem Tryd.strings_Repeat (s : ByteArray) (c : Nat) (w : World) (hc : c ≤ 9223372036854775807) (hlen : s.size * c ≤ 140737488355328) :
    Calls Tryd.prog 82 #[.string s, .int .i64 c] w fun e w' => e = .returned (.string ⟨(Lib.repeatL s.data.toList c).toArray⟩) ∧ Below w.heap.size w w' := Any.strings_Repeat Tryd.lays105 Tryd.Builder_Extra_105 s c w hc hlen
end
/-- Copies of one byte 0. -/
def zerosB (c : Nat) : ByteArray := ⟨(List.replicate c (0 : UInt8)).toArray⟩
theorem zerosB_size (c : Nat) : (zerosB c).size = c := by simp [zerosB, ByteArray.size]
theorem repeat0 (c : Nat) : Lib.repeatL [0] c = List.replicate c (0 : UInt8) := by
  induction c with
  | zero => rfl
  | succ c ih => rw [List.replicate_succ, ← ih]; rfl
theorem rep0 (c : Nat) (w : World) (hc : c ≤ 140737488355328) : Calls Tryd.prog 82 #[.string ⟨#[0]⟩, .int .i64 c] w fun e w' => e = .returned (.string (zerosB c)) ∧ Below w.heap.size w w' := by
  refine (Tryd.strings_Repeat ⟨#[0]⟩ c w (by omega) (by show 1 * c ≤ _; omega)).mono ?_; rintro e w' ⟨rfl, hb⟩; refine ⟨?_, hb⟩; rw [show (⟨#[0]⟩ : ByteArray).data.toList = [0] from rfl, repeat0]; rfl
theorem rep0i (n : Int) (c : Nat) (w : World) (hn : n = (c : Int)) (hc : c ≤ 140737488355328) : Calls Tryd.prog 82 #[.string ⟨#[0]⟩, .int .i64 n] w fun e w' => e = .returned (.string (zerosB c)) ∧ Below w.heap.size w w' := by
  subst hn; exact rep0 c w hc
end
-- @GIVEN le_Out
/-! ### le_Out: by hand -/
/-- A le.Out at block g, all in blocks from B on, that holds the bytes acc; long: did something not go into its bytes? -/
def OutIs (B g : Nat) (acc : ByteArray) (long : Bool) (w : World) : Prop := BOut 113 [.bool long] B g (Lib.strCells acc) w
theorem outLies (long : Bool) : BLies 113 [.bool long] := by unfold BLies; kernel_rfl
theorem OutIs.cell2 {B g : Nat} {acc : ByteArray} {long : Bool} {w : World} (h : OutIs B g acc long w) : w.cell? ⟨g, 2, none⟩ = some (.bool long) := by
  rcases h with ⟨_, v, hb, _⟩ | ⟨_, v, hb, _⟩ <;> (rw [Lib.cell_of_heap hb]; rfl)
theorem OutIs.frozen2 {B g : Nat} {acc : ByteArray} {long : Bool} {w : World} (h : OutIs B g acc long w) : w.frozen? ⟨g, 2, none⟩ = false := by
  rcases h with ⟨_, v, hb, _⟩ | ⟨_, v, hb, _⟩ <;> exact Lib.frozen_of_heap hb 2
theorem OutIs.as {B g : Nat} {acc acc' : ByteArray} {long long' : Bool} {w : World} (h : OutIs B g acc long w) (e : acc = acc') (e2 : long = long') : OutIs B g acc' long' w := by subst e; subst e2; exact h
/-- A new one. -/
theorem OutIs.new {B : Nat} {w w' : World} (h : w'.heap[w.heap.size]? = some (.cells #[.pointer none, .slice none 0 0, .bool false] 113 (0, 0))) (hB : B ≤ w.heap.size) : OutIs B w.heap.size ⟨#[]⟩ false w' :=
  .inl ⟨hB, .slice none 0 0, h, World.ownsRow_nil _ _ _ _, by simp [Value.ownBlock], fun _ => rfl⟩
theorem BKeep.below {g : Nat} {w w1 w2 : World} (h : BKeep g w w1) (hb : Below w1.heap.size w1 w2) : BKeep g w w2 := fun a cs t h1 h2 h3 => blk_below (h a cs t h1 h2 h3) hb
theorem out_flag {B g : Nat} {w w1 w2 : World} {u : Value} (hB : B ≤ w.heap.size) (hg : B ≤ g) (h1 : Below w.heap.size w w1) (h2 : Below B (w1.setCell ⟨g, 2, none⟩ u) w2) : Below B w w2 :=
  ((below_then (Below.refl B w) hB h1).setCell (p := ⟨g, 2, none⟩) hg u).trans h2
set_option maxHeartbeats 4000000 in
set_option maxRecDepth 100000 in
/-- Num: a number's bytes go behind. -/
theorem oNum (k : Nat) (B g : Nat) (acc : ByteArray) (long : Bool) (n size : Int) (s : ByteArray) (w : World) (h : OutIs B g acc long w) (hB : B ≤ w.heap.size) (hs : le_Put.f k n size = some s) (hlen : acc.size + s.size ≤ 140737488355328) :
    Calls Tryd.prog 55 #[.pointer (some ⟨g, 0, none⟩), .int .i64 n, .int .i64 size] w fun e w' => e = .returned (.tuple #[]) ∧ OutIs B g (acc ++ s) (long || s.toList.isEmpty) w' ∧ Below B w w' ∧ BKeep g w w' := by
  have HO := Aside0.mk h; have HS := Aside0.mk hs; have HLE := Aside0.mk hlen; have HB := Aside0.mk hB; clear h hs hlen hB; cases long
  all_goals
    go_enter Tryd.func55, Tryd.ntmps55
    go_wp2_with (first
      | (go_at_call 80; (with_reducible refine (le_Put.calls k n size s _ HS.out).mono ?_); rintro e w1 ⟨rfl, hb⟩; have HO1 := Aside0.mk (BOut.below HO.out hb); have HW1 := Aside0.mk hb; have hc2 := OutIs.cell2 HO1.out; have hf2 := OutIs.frozen2 HO1.out; clear hb)
      | (go_at_call 81; refine (bWrite 113 [.bool _] (outLies _) (by decide) B g (Lib.strCells acc) s _ (BOut.rest_set HO1.out) (by have := HLE.out; rw [Lib.strCells_length]; omega) (by simpa [World.setCell] using Nat.le_trans HB.out HW1.out.size)).mono ?_; rintro e w2 ⟨rfl, hbo, hbl, hbk⟩))
    go_end0
    exact ⟨rfl, by unfold OutIs; rw [bcells_append]; exact hbo, out_flag HB.out HO1.out.ge HW1.out hbl, (((BKeep.refl g w).below HW1.out).set 2 _).trans hbk⟩
/-- What Text makes of it. -/
def outText (acc : ByteArray) (long : Bool) (s : ByteArray) (size : Int) : ByteArray × Bool := if (s.size : Int) > size then (acc, true) else (acc ++ (s ++ zerosB (size - s.size).toNat), long)
set_option maxHeartbeats 4000000 in
set_option maxRecDepth 100000 in
/-- Text: a text's bytes go behind, and noughts. -/
theorem oText (B g : Nat) (acc : ByteArray) (long : Bool) (s : ByteArray) (size : Int) (w : World) (h : OutIs B g acc long w) (hB : B ≤ w.heap.size) (hsz : size ≤ 140737488355328) (hlen : (acc.size : Int) + size ≤ 140737488355328) :
    Calls Tryd.prog 56 #[.pointer (some ⟨g, 0, none⟩), .string s, .int .i64 size] w fun e w' => e = .returned (.tuple #[]) ∧ OutIs B g (outText acc long s size).1 (outText acc long s size).2 w' ∧ Below B w w' ∧ BKeep g w w' := by
  have HO := Aside0.mk h; have HLE := Aside0.mk hlen; have HZ := Aside0.mk hsz; have HB := Aside0.mk hB; have hc2 := OutIs.cell2 h; have hf2 := OutIs.frozen2 h; clear h hlen hB hsz
  by_cases c : (s.size : Int) > size
  · have cb : decide (size < (s.size : Int)) = true := decide_eq_true c; have e : outText acc long s size = (acc, true) := by unfold outText; rw [if_pos c]
    rw [e]; clear c e; go_enter Tryd.func56, Tryd.ntmps56
    go_wp2
    go_end0
    exact ⟨rfl, BOut.rest_set HO.out, (Below.refl B w).setCell (p := ⟨g, 2, none⟩) HO.out.ge _, (BKeep.refl g w).set 2 _⟩
  · have cb : decide (size < (s.size : Int)) = false := decide_eq_false c; have CC := Aside0.mk c; have hw : wrap64 (size - (s.size : Int)) = ((size - (s.size : Int)).toNat : Int) := by have := HZ.out; unfold wrap64; omega
    have HWR := Aside0.mk hw; have e : outText acc long s size = (acc ++ (s ++ zerosB (size - s.size).toNat), long) := by unfold outText; rw [if_neg c]
    rw [e]; clear c e hw; go_enter Tryd.func56, Tryd.ntmps56
    go_wp2_with (go_at_call 81; refine (bWrite 113 [.bool long] (outLies _) (by decide) B g (Lib.strCells acc) s _ HO.out (by have := HLE.out; have := HZ.out; have := CC.out; rw [Lib.strCells_length]; omega) HB.out).mono ?_; rintro e w2 ⟨rfl, hbo, hbl, hbk⟩)
    refine start_ (n := 9) (S := fun w' => True) (ds := []) #[false, false, false, false, false, false, false, false, false] (by kernel_rfl) rfl rfl trivial (fun hHeld => ?_); refine zp 0 11 #[true, false, false, false, false, false, false, false, false] ?_
    refine zp 1 12 #[true, true, false, false, false, false, false, false, false] ?_
    refine zp 2 13 #[true, true, true, false, false, false, false, false, false] ?_
    refine zp 3 14 #[true, true, true, true, false, false, false, false, false] ?_
    refine zp 4 15 #[true, true, true, true, true, false, false, false, false] ?_
    refine zp 5 16 #[true, true, true, true, true, true, false, false, false] ?_
    refine zp 6 17 #[true, true, true, true, true, true, true, false, false] ?_
    refine zo 7 18 #[true, true, true, true, true, true, true, true, false] (fun K hK => ?_); refine goes_ Tryd.func82 (by kernel_rfl) rfl #[.string ⟨#[0]⟩, .int .i64 (wrap64 (size - (s.size : Int)))] (by rfl) rfl rfl z70 ?_
    with_reducible refine (rep0i (wrap64 (size - (s.size : Int))) (size - (s.size : Int)).toNat _ HWR.out (by have := HLE.out; have := HZ.out; omega)).mono ?_
    rintro e w3 ⟨rfl, hb3⟩; refine ⟨_, rfl, ?_⟩; refine hK.out _ _ trivial (fun hHeld => ?_); clear hK K; refine zn ?_
    refine zo 8 19 #[true, true, true, true, true, true, true, true, true] (fun K hK => ?_); refine goes_ Tryd.func81 (by kernel_rfl) rfl #[.pointer (some ⟨g, 0, none⟩), .string (zerosB (size - (s.size : Int)).toNat)] (by rfl) rfl rfl z70 ?_
    with_reducible refine (bWrite 113 [.bool long] (outLies _) (by decide) B g (Lib.strCells acc ++ Lib.strCells s) (zerosB _) _ (BOut.below (BOut.drew hbo) hb3) (by have := HLE.out; have := HZ.out; have := CC.out; rw [List.length_append, Lib.strCells_length, Lib.strCells_length, zerosB_size]; omega) (Nat.le_trans HB.out (Nat.le_trans hbl.drew.size hb3.size))).mono ?_
    rintro e w4 ⟨rfl, hbo4, hbl4, hbk4⟩; refine ⟨_, rfl, ?_⟩; refine hK.out _ _ trivial (fun hHeld => ?_); clear hK K; refine zn ?_
    refine done_ (by kernel_rfl) ?_; go_wp2
    go_end0
    have hbd : Below B w w2.drew := hbl.drew; have hkd : BKeep g w w2.drew := hbk; exact ⟨rfl, by unfold OutIs; rw [bcells_append, bcells_append, ← List.append_assoc]; exact hbo4, (below_then hbd (Nat.le_trans HB.out hbd.size) hb3).trans hbl4, (hkd.below hb3).trans hbk4⟩
/-- What String answers. -/
def outString (acc : ByteArray) (long : Bool) : ByteArray × Option Int := if long = true then (⟨#[]⟩, some 10) else (acc, none)
set_option maxHeartbeats 4000000 in
set_option maxRecDepth 100000 in
/-- String: the bytes, or an error. -/
theorem oString (B g : Nat) (acc : ByteArray) (long : Bool) (w : World) (h : OutIs B g acc long w) :
    Calls Tryd.prog 57 #[.pointer (some ⟨g, 0, none⟩)] w fun e w' => e = .returned (.tuple #[.string (outString acc long).1, errW (outString acc long).2]) ∧ Below B w w' := by
  have HO := Aside0.mk h; have hc2 := OutIs.cell2 h; have hf2 := OutIs.frozen2 h; clear h; cases long
  · go_enter Tryd.func57, Tryd.ntmps57
    go_wp2_with (go_at_call 83; refine (bString 113 [.bool false] B g acc _ HO.out).mono ?_; rintro e w1 ⟨rfl, hb⟩)
    go_ret2
    exact ⟨rfl, hb⟩
  · go_enter Tryd.func57, Tryd.ntmps57
    go_wp2
    go_ret2
    exact ⟨rfl, Below.refl B w⟩
-- @GIVEN strings_Repeat
/-! ### strings_Repeat: by hand -/
def strings_Repeat.f (s : ByteArray) (c : Int) : Option ByteArray := if 0 ≤ c ∧ (s.size : Int) * c ≤ 140737488355328 ∧ c ≤ 9223372036854775807 then some ⟨(Lib.repeatL s.data.toList c.toNat).toArray⟩ else none
theorem strings_Repeat.calls (s : ByteArray) (c : Int) (r : ByteArray) (w : World) (h : strings_Repeat.f s c = some r) :
    Calls Tryd.prog 82 #[.string s, .int .i64 c] w fun e w' => e = .returned (.string r) ∧ Below w.heap.size w w' := by
  unfold strings_Repeat.f at h
  split at h
  · rename_i hc
    obtain ⟨n, rfl⟩ := Int.eq_ofNat_of_zero_le hc.1; obtain rfl := Option.some.inj h; rw [Int.toNat_natCast]; exact Tryd.strings_Repeat s n w (by omega) (by have := hc.2.1; have e : ((s.size * n : Nat) : Int) = (s.size : Int) * (n : Int) := Int.natCast_mul _ _; omega)
  · cases h
/-! ### mark_head: function 84 -/
def mark_head.f (k : Nat) (a0 : Int) : Option (ByteArray) := (le_Put.f k a0 1).bind fun t110 => (if 2 + t110.size ≤ 9223372036854775807 then (if ((⟨#[80, 72]⟩ : ByteArray) ++ t110).size + 1 ≤ 9223372036854775807 then (some (((⟨#[80, 72]⟩ : ByteArray) ++ t110) ++ (⟨#[0]⟩ : ByteArray))) else (none)) else (none))
set_option maxHeartbeats 8000000 in
set_option maxRecDepth 100000 in
theorem mark_head.calls (k : Nat) (a0 : Int) (r : ByteArray) (w : World) (h : mark_head.f k a0 = some r) :
    Calls Tryd.prog 84 #[.int .i64 a0] w fun e w' => e = .returned (.string r) ∧ Below w.heap.size w w' := by
  have HB := Aside0.mk (Below.refl w.heap.size w); have H : ((le_Put.f k a0 1).bind fun t110 => (if 2 + t110.size ≤ 9223372036854775807 then (if ((⟨#[80, 72]⟩ : ByteArray) ++ t110).size + 1 ≤ 9223372036854775807 then (some (((⟨#[80, 72]⟩ : ByteArray) ++ t110) ++ (⟨#[0]⟩ : ByteArray))) else (none)) else (none))) = some r := h; clear h; replace H := Option.bind_eq_some_iff.mp H; obtain ⟨t110, A20, H⟩ := H; replace H : (if 2 + t110.size ≤ 9223372036854775807 then (if ((⟨#[80, 72]⟩ : ByteArray) ++ t110).size + 1 ≤ 9223372036854775807 then (some (((⟨#[80, 72]⟩ : ByteArray) ++ t110) ++ (⟨#[0]⟩ : ByteArray))) else (none)) else (none)) = some r := H; have A2 := Aside0.mk A20; clear A20
  by_cases c3 : 2 + t110.size ≤ 9223372036854775807
  · rw [if_pos c3] at H; have c3b0 := eq_true c3
    try (have c3sa0 := c3b0; simp only [ByteArray.size_append, Int.natCast_add] at c3sa0)
    have c3b1 : decide (2 + t110.size ≤ 9223372036854775807) = true := decide_eq_true c3
    try have c3b2 : (9223372036854775807 < 2 + t110.size) = False := eq_false (Nat.not_lt.2 c3)
    by_cases c4 : ((⟨#[80, 72]⟩ : ByteArray) ++ t110).size + 1 ≤ 9223372036854775807
    · rw [if_pos c4] at H; have c4b0 := eq_true c4
      try (have c4sa0 := c4b0; simp only [ByteArray.size_append, Int.natCast_add] at c4sa0)
      have c4b1 : decide (((⟨#[80, 72]⟩ : ByteArray) ++ t110).size + 1 ≤ 9223372036854775807) = true := decide_eq_true c4
      try (have c4sa1 := c4b1; simp only [ByteArray.size_append, Int.natCast_add] at c4sa1)
      try have c4b2 : (9223372036854775807 < ((⟨#[80, 72]⟩ : ByteArray) ++ t110).size + 1) = False := eq_false (Nat.not_lt.2 c4)
      try have c4sd0 := eq_true (show 2 + t110.size + 1 ≤ 9223372036854775807 from by have h_ := c4; simp only [ByteArray.size_append] at h_; have e0_ : (⟨#[80, 72]⟩ : ByteArray).size = 2 := rfl; omega)
      try have c4sd1 : decide (2 + t110.size + 1 ≤ 9223372036854775807) = true := decide_eq_true (by have h_ := c4; simp only [ByteArray.size_append] at h_; have e0_ : (⟨#[80, 72]⟩ : ByteArray).size = 2 := rfl; omega)
      try have c4sd2 : (9223372036854775807 < 2 + t110.size + 1) = False := eq_false (by have h_ := c4; simp only [ByteArray.size_append] at h_; have e0_ : (⟨#[80, 72]⟩ : ByteArray).size = 2 := rfl; omega)
      obtain rfl := Option.some.inj H; go_enter Tryd.func84, Tryd.ntmps84
      go_wp2_with (first | ((with_reducible refine gate_callee (f := 80) rfl ?_); refine goesL_ (some 4) rfl rfl Tryd.func80 (by kernel_rfl) rfl #[.int .i64 a0, .int .i64 1] rfl z15 ?_; (with_reducible refine (le_Put.calls k a0 1 t110 _ A2.out).mono ?_); rintro e w5 ⟨rfl, hb⟩; refine ⟨_, rfl, ?_⟩; have n0_ := Aside0.mk (below_step z19 hb); clear HB; have HB := n0_; clear n0_; (try clear hb); (try clear hb2); (try clear hk); (try clear hi)))
      go_ret
      exact ⟨z21, z19⟩
    · rw [if_neg c4] at H; exact absurd H (by simp)
  · rw [if_neg c3] at H; exact absurd H (by simp)
-- @GIVEN lib_laid
/-- What is known of the package-level variables that the row lists. -/
def Laid (w : World) : Prop := (True) ∧ (∀ i : Nat, i < 16 → w.cell? ⟨2, i, none⟩ = some (.int .u32 ([0, 274646895, 549293790, 820201905, 1098587580, 1361435347, 1640403810, 1905808397, 2197175160, 2460548119, 2722870694, 2987750089, 3280807620, 3553878443, 3811616794, 4084100981].getD i 0 : Nat))) ∧ (True)
theorem Laid.below {w w' : World} (h : Laid w) (hb : Below w.heap.size w w') : Laid w' := ⟨trivial, fun i hi => pw_cell_below hb (h.2.1 i hi), trivial⟩
theorem Laid.nibbles {w : World} (h : Laid w) : ∀ i : Nat, i < 16 → w.cell? ⟨2, i, none⟩ = some (.int .u32 ([0, 274646895, 549293790, 820201905, 1098587580, 1361435347, 1640403810, 1905808397, 2197175160, 2460548119, 2722870694, 2987750089, 3280807620, 3553878443, 3811616794, 4084100981].getD i 0 : Nat)) := h.2.1
-- @GIVEN mark_Sum
/-! ### mark_Sum: by hand -/
/-- What four bits of a register come to. -/
def nibs : List Nat := [0, 274646895, 549293790, 820201905, 1098587580, 1361435347, 1640403810, 1905808397, 2197175160, 2460548119, 2722870694, 2987750089, 3280807620, 3553878443, 3811616794, 4084100981]
/-- Half a byte. -/
def nibStep (r : Nat) : Nat := (r / 16) ^^^ nibs.getD (r % 16) 0
/-- A byte. -/
def sumStep (r b : Nat) : Nat := nibStep (nibStep (r ^^^ b))
/-- The register behind some bytes. -/
def sumReg (l : List UInt8) : Nat := l.foldl (fun r b => sumStep r b.toNat) 4294967295
/-- The sum of a text. -/
def sumOfL (l : List UInt8) : Nat := 4294967295 - sumReg l
def mark_Sum.f (s : ByteArray) : Option Int := if s.size ≤ 140737488355328 then some (sumOfL s.data.toList : Int) else none
theorem nibs_lt (i : Nat) : nibs.getD i 0 < 4294967296 := by
  by_cases h : i < 16
  · have : ∀ j : Fin 16, nibs.getD j.val 0 < 4294967296 := by decide
    exact this ⟨i, h⟩
  · rw [List.getD_eq_getElem?_getD, List.getElem?_eq_none (by show 16 ≤ i; omega)]; decide
theorem nibStep_lt {r : Nat} (h : r < 4294967296) : nibStep r < 4294967296 := Nat.xor_lt_two_pow (n := 32) (by omega) (nibs_lt _)
theorem xor_lt32 {a b : Nat} (ha : a < 4294967296) (hb : b < 4294967296) : a ^^^ b < 4294967296 := Nat.xor_lt_two_pow (n := 32) ha hb
theorem sumStep_lt {r b : Nat} (h : r < 4294967296) (hb : b < 256) : sumStep r b < 4294967296 := nibStep_lt (nibStep_lt (xor_lt32 h (by omega)))
theorem sumReg_lt (l : List UInt8) : sumReg l < 4294967296 := by
  have : ∀ (l : List UInt8) (r : Nat), r < 4294967296 → l.foldl (fun r b => sumStep r b.toNat) r < 4294967296 := by
    intro l
    induction l with
    | nil => intro r h; exact h
    | cons b l ih => intro r h; exact ih _ (sumStep_lt h b.toNat_lt)
  exact this l _ (by decide)
theorem u32n (a : Nat) (ha : a < 4294967296) : (BitVec.ofInt 32 (a : Int)).toNat = a := by
  rw [BitVec.ofInt_natCast, BitVec.toNat_ofNat]; exact Nat.mod_eq_of_lt (by omega)
theorem xor_u32 (a b : Nat) (ha : a < 4294967296) (hb : b < 4294967296) : Go.bits .xor .u32 (a : Int) (b : Int) = ((a ^^^ b : Nat) : Int) := by
  have hx := xor_lt32 ha hb
  show IntKind.u32.wrap ((BitVec.ofInt 32 (a : Int) ^^^ BitVec.ofInt 32 (b : Int)).toNat : Int) = _
  rw [BitVec.toNat_xor, u32n a ha, u32n b hb]; simp only [IntKind.wrap, IntKind.bits, IntKind.signed]; simp; omega
theorem and15_u32 (a : Nat) (ha : a < 4294967296) : Go.bits .and .u32 (a : Int) 15 = ((a % 16 : Nat) : Int) := by
  show IntKind.u32.wrap ((BitVec.ofInt 32 (a : Int) &&& BitVec.ofInt 32 ((15 : Nat) : Int)).toNat : Int) = _
  rw [BitVec.toNat_and, u32n a ha, u32n 15 (by decide), show a &&& 15 = a % 16 from Nat.and_two_pow_sub_one_eq_mod a 4]; simp only [IntKind.wrap, IntKind.bits, IntKind.signed]; simp; omega
theorem not_u32 (a : Nat) (ha : a < 4294967296) : Go.bits .xor .u32 IntKind.u32.max (a : Int) = ((4294967295 - a : Nat) : Int) := by
  show IntKind.u32.wrap ((BitVec.ofInt 32 IntKind.u32.max ^^^ BitVec.ofInt 32 (a : Int)).toNat : Int) = _
  rw [show BitVec.ofInt 32 IntKind.u32.max = BitVec.allOnes 32 from rfl, BitVec.allOnes_xor, BitVec.toNat_not, u32n a ha]; simp only [IntKind.wrap, IntKind.bits, IntKind.signed]; simp; omega
set_option maxHeartbeats 4000000 in
set_option maxRecDepth 100000 in
theorem mark_Sum.calls (s : ByteArray) (r : Int) (w : World) (hL_ : Laid w) (h : mark_Sum.f s = some r) :
    Calls Tryd.prog 106 #[.string s] w fun e w' => e = .returned (.int .u32 r) ∧ Below w.heap.size w w' := by
  have HL_ := Aside0.mk hL_; clear hL_; unfold mark_Sum.f at h
  by_cases hs : s.size ≤ 140737488355328
  case neg => rw [if_neg hs] at h; cases h
  rw [if_pos hs] at h; obtain rfl : (sumOfL s.data.toList : Int) = r := Option.some.inj h; have HS_ := Aside0.mk hs; clear h hs; have HN := Aside0.mk (show ∀ i : Nat, i < 16 → w.cell? ⟨2, i, none⟩ = some (.int .u32 (nibs.getD i 0 : Nat)) from fun i hi => Laid.nibbles HL_.out i hi)

  refine Calls.mono (R := fun e w' => e = .returned (.int .u32 (sumOfL s.data.toList : Int)) ∧ w' = w) ?_ (fun e w' h => ⟨h.1, by rw [h.2]; exact Below.refl _ _⟩); go_enter Tryd.func106, Tryd.ntmps106
  go_wp2
  go_loopg [3, 7] (s.size + 1) (fun kq v3 v7 w' => ∃ i : Nat, v7 = .int .i64 (i : Int) ∧ v3 = .int .u32 (sumReg (s.data.toList.take i) : Nat) ∧ Aside0 (i ≤ s.size ∧ kq = s.size - i + 1) ∧ w' = w)
  case atStart => exact ⟨0, rfl, rfl, ⟨by omega, by omega⟩, rfl⟩
  case round =>
    obtain ⟨i, rfl, rfl, HI, rfl⟩ := hrel
    by_cases c : i < s.size
    · have cb : decide ((i : Int) < (s.size : Int)) = true := decide_eq_true (by omega); have cb1 := eq_true (show (i : Int) < (s.size : Int) by omega); have cb2 := eq_true c; have hlt : i < s.data.toList.length := by rw [Array.length_toList]; exact c
      have hsl : s.data.toList[i] = s[i]'c := by rw [Array.getElem_toList]; rfl
      have hb := (s[i]'c).toNat_lt; have hnext : sumReg (s.data.toList.take (i + 1)) = nibStep (nibStep (sumReg (s.data.toList.take i) ^^^ (s[i]'c).toNat)) := by
        unfold sumReg; rw [List.take_succ_eq_append_getElem hlt, List.foldl_append, hsl]; rfl
      have hrg := sumReg_lt (s.data.toList.take i); have E1 : Go.bits .xor .u32 ((sumReg (s.data.toList.take i) : Nat) : Int) ((((s[i]'c).toNat : Nat) : Int) % 4294967296) = ((sumReg (s.data.toList.take i) ^^^ (s[i]'c).toNat : Nat) : Int) := by
        rw [show (((s[i]'c).toNat : Nat) : Int) % 4294967296 = (((s[i]'c).toNat : Nat) : Int) by omega, xor_u32 _ _ hrg (by omega)]
      have hr1 := xor_lt32 hrg (show (s[i]'c).toNat < 4294967296 by omega); generalize sumReg (s.data.toList.take i) ^^^ (s[i]'c).toNat = r1 at *; have E2 := and15_u32 r1 hr1; have hi1 : r1 % 16 < 16 := Nat.mod_lt _ (by decide); have N1 := HN.out (r1 % 16) hi1; have E3 : Go.bits .xor .u32 ((r1 : Int) / 16) ((nibs.getD (r1 % 16) 0 : Nat) : Int) = ((nibStep r1 : Nat) : Int) := by
        rw [show (r1 : Int) / 16 = ((r1 / 16 : Nat) : Int) by omega, xor_u32 _ _ (by omega) (nibs_lt _)]; rfl
      have hr2 := nibStep_lt hr1; generalize nibStep r1 = r2 at *; have E4 := and15_u32 r2 hr2; have hi2 : r2 % 16 < 16 := Nat.mod_lt _ (by decide); have N2 := HN.out (r2 % 16) hi2; have E5 : Go.bits .xor .u32 ((r2 : Int) / 16) ((nibs.getD (r2 % 16) 0 : Nat) : Int) = ((nibStep r2 : Nat) : Int) := by
        rw [show (r2 : Int) / 16 = ((r2 / 16 : Nat) : Int) by omega, xor_u32 _ _ (by omega) (nibs_lt _)]; rfl
      generalize nibs.getD (r1 % 16) 0 = n1 at *; generalize nibs.getD (r2 % 16) 0 = n2 at *; generalize r1 % 16 = i1 at *; generalize r2 % 16 = i2 at *; have d1 : decide ((i1 : Int) < 16) = true := decide_eq_true (by omega); have d2 : decide ((i2 : Int) < 16) = true := decide_eq_true (by omega); have d1' := eq_true (show (i1 : Int) < 16 by omega); have d2' := eq_true (show (i2 : Int) < 16 by omega); clear hrg hr1 hr2 hsl hlt hb; go_wp2
      go_roundg (s.size - i)
      case measure => have := HI.out; omega
      case rel => exact ⟨i + 1, (by rw [show wrap64 ((i : Int) + 1) = ((i + 1 : Nat) : Int) by have := HS_.out; unfold wrap64; omega]), (by rw [hnext]), ⟨by have := HI.out; omega, by have := HI.out; omega⟩, rfl⟩
    · have cb : decide ((i : Int) < (s.size : Int)) = false := decide_eq_false (by omega); obtain rfl : i = s.size := by have := HI.out; omega
      have hrg := sumReg_lt s.data.toList; have ht : s.data.toList.take s.size = s.data.toList := List.take_of_length_le (by rw [Array.length_toList]; exact Nat.le_refl _); have hnot := not_u32 _ hrg; go_wp2
      go_ret
      exact ⟨rfl, rfl⟩
/-! ### mark_sumOf: function 85 -/
def mark_sumOf.f (k : Nat) (a0 : ByteArray) : Option (ByteArray) := (mark_Sum.f a0).bind fun t111 => ((le_Put.f k (wrap64 (t111)) 4).bind fun t112 => (some t112))
set_option maxHeartbeats 8000000 in
set_option maxRecDepth 100000 in
theorem mark_sumOf.calls (k : Nat) (a0 : ByteArray) (r : ByteArray) (w : World) (hL_ : Laid w) (h : mark_sumOf.f k a0 = some r) :
  Calls Tryd.prog 85 #[.string a0] w fun e w' => e = .returned (.string r) ∧ Below w.heap.size w w' := by
 have HL_ := Aside0.mk hL_; clear hL_; have HB := Aside0.mk (Below.refl w.heap.size w); have H : ((mark_Sum.f a0).bind fun t111 => ((le_Put.f k (wrap64 (t111)) 4).bind fun t112 => (some t112))) = some r := h; clear h; replace H := Option.bind_eq_some_iff.mp H; obtain ⟨t111, A20, H⟩ := H; replace H : ((le_Put.f k (wrap64 (t111)) 4).bind fun t112 => (some t112)) = some r := H; have A2 := Aside0.mk A20; clear A20; replace H := Option.bind_eq_some_iff.mp H; obtain ⟨t112, A30, H⟩ := H; replace H : (some t112) = some r := H; have A3 := Aside0.mk A30; clear A30; obtain rfl := Option.some.inj H; go_enter Tryd.func85, Tryd.ntmps85
 go_wp2_with (first | ((with_reducible refine gate_callee (f := 106) rfl ?_); refine goesL_ (some 4) rfl rfl Tryd.func106 (by kernel_rfl) rfl #[.string a0] rfl z15 ?_; (with_reducible refine (mark_Sum.calls a0 t111 _ (Laid.below HL_.out z19) A2.out).mono ?_); rintro e w4 ⟨rfl, hb⟩; refine ⟨_, rfl, ?_⟩; have n0_ := Aside0.mk (below_step z19 hb); clear HB; have HB := n0_; clear n0_; (try clear hb); (try clear hb2); (try clear hk); (try clear hi)) | ((with_reducible refine gate_callee (f := 80) rfl ?_); refine goesL_ (some 6) rfl rfl Tryd.func80 (by kernel_rfl) rfl #[.int .i64 (wrap64 (t111)), .int .i64 4] rfl z15 ?_; (with_reducible refine (le_Put.calls k (wrap64 (t111)) 4 t112 _ A3.out).mono ?_); rintro e w5 ⟨rfl, hb⟩; refine ⟨_, rfl, ?_⟩; have n0_ := Aside0.mk (below_step z19 hb); clear HB; have HB := n0_; clear n0_; (try clear hb); (try clear hb2); (try clear hk); (try clear hi)))
 go_ret
 exact ⟨z21, z19⟩

/-! ### mark_Seal: function 58 -/
def mark_Seal.j0 : Nat → Int → ByteArray → Bool → Option (ByteArray × Option Int)
 | 0, _, _, _ => none
 | k + 1, x0, x1, x7 => if x7 = true then (some ((⟨#[]⟩ : ByteArray), some 1)) else (if (x1.size : Int) > 504 then (some ((⟨#[]⟩ : ByteArray), some 10)) else ((mark_head.f k x0).bind fun t113 => (if t113.size + x1.size ≤ 9223372036854775807 then ((strings_Repeat.f (⟨#[0]⟩ : ByteArray) (wrap64 (504 - (x1.size : Int)))).bind fun t114 => (if (t113 ++ x1).size + t114.size ≤ 9223372036854775807 then ((mark_sumOf.f k ((t113 ++ x1) ++ t114)).bind fun t115 => (if ((t113 ++ x1) ++ t114).size + t115.size ≤ 9223372036854775807 then (some (((t113 ++ x1) ++ t114) ++ t115, none)) else (none))) else (none))) else (none))))
def mark_Seal.f (k : Nat) (a0 : Int) (a1 : ByteArray) : Option (ByteArray × Option Int) := if a0 < 1 then (mark_Seal.j0 k a0 a1 true) else (mark_Seal.j0 k a0 a1 (decide (a0 > 255)))
set_option maxHeartbeats 8000000 in
set_option maxRecDepth 100000 in
theorem mark_Seal.calls (k : Nat) (a0 : Int) (a1 : ByteArray) (r1 : ByteArray) (r2 : Option Int) (w : World) (hL_ : Laid w) (h : mark_Seal.f k a0 a1 = some (r1, r2)) :
  Calls Tryd.prog 58 #[.int .i64 a0, .string a1] w fun e w' => e = .returned (.tuple #[.string r1, errW r2]) ∧ Below w.heap.size w w' := by
 have HL_ := Aside0.mk hL_; clear hL_; have hu27 := Tryd.underlying27; have hu36 := Tryd.underlying36; have HB := Aside0.mk (Below.refl w.heap.size w); have H : (if a0 < 1 then (mark_Seal.j0 k a0 a1 true) else (mark_Seal.j0 k a0 a1 (decide (a0 > 255)))) = some (r1, r2) := h; clear h; have HC3 := Aside0.mk H; clear H; go_enter Tryd.func58, Tryd.ntmps58
 go_upto_region 1 with (fail)
 go_cut [7] (fun v7 wc => ∃ (kq : Nat) (x7_2 : Bool), v7 = .bool x7_2 ∧ Aside0 (mark_Seal.j0 kq a0 a1 x7_2 = some (r1, r2)) ∧ Aside0 (kq ≤ k) ∧ Aside0 (Below w.heap.size w wc))
 case first =>
  have H := HC3.out; clear HC3
  by_cases c4 : a0 < 1
  ·rw [if_pos c4] at H; have c4b0 : decide (a0 < 1) = true := decide_eq_true c4; clear c4
   (first | rw [c4b0] | (simp only [i64_w, i32_w]; rw [c4b0]) | skip)
   have H' := Aside0.mk H; clear H; go_wp2
   go_meet
   case rel => exact ⟨_, (true), z41, H', ⟨z68⟩, ⟨z19⟩⟩
  ·rw [if_neg c4] at H; have c4b0 : decide (a0 < 1) = false := decide_eq_false c4; clear c4
   (first | rw [c4b0] | (simp only [i64_w, i32_w]; rw [c4b0]) | skip)
   have H' := Aside0.mk H; clear H; go_wp2
   go_meet
   case rel => exact ⟨_, (decide (a0 > 255)), z41, H', ⟨z68⟩, ⟨z19⟩⟩
 case rest =>
  clear HC3; obtain ⟨kq, x7_2, rfl, HA, HJ2, HB⟩ := hcut; cases kq with
  | zero => exact absurd HA.out (by simp [mark_Seal.j0])
  | succ kj2 =>
   have H := HA.out; clear HA; simp only [mark_Seal.j0] at H
   by_cases c5 : x7_2 = true
   ·subst c5; have H1 : (some ((⟨#[]⟩ : ByteArray), some 1)) = some (r1, r2) := by rw [if_pos rfl] at H; exact H
    clear H; have H := H1; clear H1; simp only [Option.some.injEq, Prod.mk.injEq] at H; obtain ⟨rfl, rfl⟩ := H; go_wp2
    go_ret2
    exact ⟨z21, z19⟩
   ·replace c5 := Bool.eq_false_iff.mpr c5; subst c5; have H1 : (if (a1.size : Int) > 504 then (some ((⟨#[]⟩ : ByteArray), some 10)) else ((mark_head.f kj2 a0).bind fun t113 => (if t113.size + a1.size ≤ 9223372036854775807 then ((strings_Repeat.f (⟨#[0]⟩ : ByteArray) (wrap64 (504 - (a1.size : Int)))).bind fun t114 => (if (t113 ++ a1).size + t114.size ≤ 9223372036854775807 then ((mark_sumOf.f kj2 ((t113 ++ a1) ++ t114)).bind fun t115 => (if ((t113 ++ a1) ++ t114).size + t115.size ≤ 9223372036854775807 then (some (((t113 ++ a1) ++ t114) ++ t115, none)) else (none))) else (none))) else (none)))) = some (r1, r2) := by rw [if_neg (show ¬ (false = true) by decide)] at H; exact H
    clear H; have H := H1; clear H1
    by_cases c6 : (a1.size : Int) > 504
    ·rw [if_pos c6] at H; have c6b0 : decide (504 < (a1.size : Int)) = true := decide_eq_true c6; have c6b1 : decide (504 < a1.size) = true := decide_eq_true (by omega); clear c6; simp only [Option.some.injEq, Prod.mk.injEq] at H; obtain ⟨rfl, rfl⟩ := H; go_wp2
     go_ret2
     exact ⟨z21, z19⟩
    ·rw [if_neg c6] at H; have c6b0 : decide (504 < (a1.size : Int)) = false := decide_eq_false c6; have c6b1 : decide (504 < a1.size) = false := decide_eq_false (by omega); clear c6; replace H := Option.bind_eq_some_iff.mp H; obtain ⟨t113, A70, H⟩ := H; replace H : (if t113.size + a1.size ≤ 9223372036854775807 then ((strings_Repeat.f (⟨#[0]⟩ : ByteArray) (wrap64 (504 - (a1.size : Int)))).bind fun t114 => (if (t113 ++ a1).size + t114.size ≤ 9223372036854775807 then ((mark_sumOf.f kj2 ((t113 ++ a1) ++ t114)).bind fun t115 => (if ((t113 ++ a1) ++ t114).size + t115.size ≤ 9223372036854775807 then (some (((t113 ++ a1) ++ t114) ++ t115, none)) else (none))) else (none))) else (none)) = some (r1, r2) := H; have A7 := Aside0.mk A70; clear A70
     by_cases c8 : t113.size + a1.size ≤ 9223372036854775807
     ·rw [if_pos c8] at H; have c8b0 := eq_true c8
      try (have c8sa0 := c8b0; simp only [ByteArray.size_append, Int.natCast_add] at c8sa0)
      have c8b1 : decide (t113.size + a1.size ≤ 9223372036854775807) = true := decide_eq_true c8
      try have c8b2 : (9223372036854775807 < t113.size + a1.size) = False := eq_false (Nat.not_lt.2 c8)
      replace H := Option.bind_eq_some_iff.mp H; obtain ⟨t114, A90, H⟩ := H; replace H : (if (t113 ++ a1).size + t114.size ≤ 9223372036854775807 then ((mark_sumOf.f kj2 ((t113 ++ a1) ++ t114)).bind fun t115 => (if ((t113 ++ a1) ++ t114).size + t115.size ≤ 9223372036854775807 then (some (((t113 ++ a1) ++ t114) ++ t115, none)) else (none))) else (none)) = some (r1, r2) := H; have A9 := Aside0.mk A90; clear A90
      by_cases c10 : (t113 ++ a1).size + t114.size ≤ 9223372036854775807
      ·rw [if_pos c10] at H; have c10b0 := eq_true c10
       try (have c10sa0 := c10b0; simp only [ByteArray.size_append, Int.natCast_add] at c10sa0)
       have c10b1 : decide ((t113 ++ a1).size + t114.size ≤ 9223372036854775807) = true := decide_eq_true c10
       try (have c10sa1 := c10b1; simp only [ByteArray.size_append, Int.natCast_add] at c10sa1)
       try have c10b2 : (9223372036854775807 < (t113 ++ a1).size + t114.size) = False := eq_false (Nat.not_lt.2 c10)
       try have c10sd0 := eq_true (show t113.size + a1.size + t114.size ≤ 9223372036854775807 from by have h_ := c10; simp only [ByteArray.size_append] at h_; omega)
       try have c10sd1 : decide (t113.size + a1.size + t114.size ≤ 9223372036854775807) = true := decide_eq_true (by have h_ := c10; simp only [ByteArray.size_append] at h_; omega)
       try have c10sd2 : (9223372036854775807 < t113.size + a1.size + t114.size) = False := eq_false (by have h_ := c10; simp only [ByteArray.size_append] at h_; omega)
       replace H := Option.bind_eq_some_iff.mp H; obtain ⟨t115, A110, H⟩ := H; replace H : (if ((t113 ++ a1) ++ t114).size + t115.size ≤ 9223372036854775807 then (some (((t113 ++ a1) ++ t114) ++ t115, none)) else (none)) = some (r1, r2) := H; have A11 := Aside0.mk A110; clear A110
       by_cases c12 : ((t113 ++ a1) ++ t114).size + t115.size ≤ 9223372036854775807
       ·rw [if_pos c12] at H; have c12b0 := eq_true c12
        try (have c12sa0 := c12b0; simp only [ByteArray.size_append, Int.natCast_add] at c12sa0)
        have c12b1 : decide (((t113 ++ a1) ++ t114).size + t115.size ≤ 9223372036854775807) = true := decide_eq_true c12
        try (have c12sa1 := c12b1; simp only [ByteArray.size_append, Int.natCast_add] at c12sa1)
        try have c12b2 : (9223372036854775807 < ((t113 ++ a1) ++ t114).size + t115.size) = False := eq_false (Nat.not_lt.2 c12)
        try have c12sd0 := eq_true (show t113.size + a1.size + t114.size + t115.size ≤ 9223372036854775807 from by have h_ := c12; simp only [ByteArray.size_append] at h_; omega)
        try have c12sd1 : decide (t113.size + a1.size + t114.size + t115.size ≤ 9223372036854775807) = true := decide_eq_true (by have h_ := c12; simp only [ByteArray.size_append] at h_; omega)
        try have c12sd2 : (9223372036854775807 < t113.size + a1.size + t114.size + t115.size) = False := eq_false (by have h_ := c12; simp only [ByteArray.size_append] at h_; omega)
        simp only [Option.some.injEq, Prod.mk.injEq] at H; obtain ⟨rfl, rfl⟩ := H; go_wp2_with (first | ((with_reducible refine gate_callee (f := 84) rfl ?_); refine goesL_ (some 21) rfl rfl Tryd.func84 (by kernel_rfl) rfl #[.int .i64 a0] rfl z15 ?_; (with_reducible refine (mark_head.calls kj2 a0 t113 _ A7.out).mono ?_); rintro e w13 ⟨rfl, hb⟩; refine ⟨_, rfl, ?_⟩; have n0_ := Aside0.mk (below_step z19 hb); clear HB; have HB := n0_; clear n0_; (try clear hb); (try clear hb2); (try clear hk); (try clear hi)) | ((with_reducible refine gate_callee (f := 82) rfl ?_); refine goesL_ (some 27) rfl rfl Tryd.func82 (by kernel_rfl) rfl #[.string (⟨#[0]⟩ : ByteArray), .int .i64 (wrap64 (504 - (a1.size : Int)))] rfl z15 ?_; (with_reducible refine (strings_Repeat.calls (⟨#[0]⟩ : ByteArray) (wrap64 (504 - (a1.size : Int))) t114 _ A9.out).mono ?_); rintro e w14 ⟨rfl, hb⟩; refine ⟨_, rfl, ?_⟩; have n0_ := Aside0.mk (below_step z19 hb); clear HB; have HB := n0_; clear n0_; (try clear hb); (try clear hb2); (try clear hk); (try clear hi)) | ((with_reducible refine gate_callee (f := 85) rfl ?_); refine goesL_ (some 31) rfl rfl Tryd.func85 (by kernel_rfl) rfl #[.string ((t113 ++ a1) ++ t114)] rfl z15 ?_; (with_reducible refine (mark_sumOf.calls kj2 ((t113 ++ a1) ++ t114) t115 _ (Laid.below HL_.out z19) A11.out).mono ?_); rintro e w15 ⟨rfl, hb⟩; refine ⟨_, rfl, ?_⟩; have n0_ := Aside0.mk (below_step z19 hb); clear HB; have HB := n0_; clear n0_; (try clear hb); (try clear hb2); (try clear hk); (try clear hi)))
        go_ret2
        exact ⟨z21, z19⟩
       ·rw [if_neg c12] at H; exact absurd H (by simp)
      ·rw [if_neg c10] at H; exact absurd H (by simp)
     ·rw [if_neg c8] at H; exact absurd H (by simp)
-- @GIVEN lib_out
/-- A number, a text, put behind what there is; none where that isn't as a sector's are. -/
def numO (k : Nat) (n size : Int) (acc : ByteArray) : Option ByteArray := (le_Put.f k n size).bind fun s => if 0 < s.size ∧ acc.size + s.size ≤ 2000 then some (acc ++ s) else none
def textO (s : ByteArray) (size : Nat) (acc : ByteArray) : Option ByteArray := if s.size ≤ size ∧ acc.size + size ≤ 2000 then some (acc ++ (s ++ zerosB (size - s.size))) else none
theorem isEm_false {s : ByteArray} (hn : 0 < s.size) : (false || s.toList.isEmpty) = false := by
  rw [Bool.false_or, Lib.toList_data, List.isEmpty_eq_false_iff]; intro e; have : s.size = 0 := by show s.data.size = 0; rw [← Array.length_toList, e]; rfl
  omega
theorem oNumO (k B g : Nat) (acc acc' : ByteArray) (n size : Int) (w : World) (h : OutIs B g acc false w) (hB : B ≤ w.heap.size) (hs : numO k n size acc = some acc') :
    Calls Tryd.prog 55 #[.pointer (some ⟨g, 0, none⟩), .int .i64 n, .int .i64 size] w fun e w' => e = .returned (.tuple #[]) ∧ OutIs B g acc' false w' ∧ Below B w w' ∧ BKeep g w w' := by
  unfold numO at hs; obtain ⟨s, h1, hs⟩ := Option.bind_eq_some_iff.mp hs
  by_cases hc : 0 < s.size ∧ acc.size + s.size ≤ 2000
  case neg => rw [if_neg hc] at hs; cases hs
  rw [if_pos hc] at hs; obtain rfl := Option.some.inj hs; exact (oNum k B g acc false n size s w h hB h1 (by omega)).mono (by rintro e w' ⟨h2, h3, h4⟩; exact ⟨h2, OutIs.as h3 rfl (isEm_false hc.1), h4⟩)
theorem oTextO (B g : Nat) (acc acc' s : ByteArray) (size : Nat) (z : Int) (w : World) (hz : z = (size : Int)) (h : OutIs B g acc false w) (hB : B ≤ w.heap.size) (hs : textO s size acc = some acc') :
    Calls Tryd.prog 56 #[.pointer (some ⟨g, 0, none⟩), .string s, .int .i64 z] w fun e w' => e = .returned (.tuple #[]) ∧ OutIs B g acc' false w' ∧ Below B w w' ∧ BKeep g w w' := by
  subst hz; unfold textO at hs
  by_cases hc : s.size ≤ size ∧ acc.size + size ≤ 2000
  case neg => rw [if_neg hc] at hs; cases hs
  rw [if_pos hc] at hs; obtain rfl := Option.some.inj hs; have ho : outText acc false s (size : Int) = (acc ++ (s ++ zerosB (size - s.size)), false) := by
    unfold outText; rw [if_neg (by omega), show (((size : Nat) : Int) - (s.size : Int)).toNat = size - s.size by omega]
  exact (oText B g acc false s size w h hB (by omega) (by omega)).mono (by rintro e w' ⟨h2, h3, h4⟩; rw [ho] at h3; exact ⟨h2, h3, h4⟩)
end Go.Proofs.YtegcaniikdibdaaDoor.VPageApart
