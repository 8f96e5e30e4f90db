/- Contracts of functions of this seat: each call comes to what its Lean function computes; no condition beyond what each theorem states. Printed by a program of this session's own laid over the kit's printer. -/
import Derived.Test.YtegcaniikdibdaaDoorVPageApartx0
import Derived.Test.YtegcaniikdibdaaDoorVPageApartx1
import Derived.Laws.Cover1
import Derived.Shelf.Spec.SlicesInsertGrow
import Derived.Laws.Append
namespace Go.Proofs.YtegcaniikdibdaaDoor.VPageApart
open Go.RowKit Go.Proofs.YtegcaniikdibdaaDoorW.PrintWords Go.Proofs.YtegcaniikdibdaaDoorW.PrintLast Go.Proofs.YtegcaniikdibdaaDoorW.PrintMore
attribute [local go_sem] max2_int min2_int max_two min_two max_three min_three max_four min_four   -- for this text's walks alone
set_option linter.unusedSimpArgs false
set_option linter.unusedVariables false
-- @GIVEN page_Put
/-! ### page_Put: by hand -/
def page_Put.l0 (k : Nat) (leaf : Bool) (vals : List ByteArray) (kids : List Int) : List ByteArray → Nat → ByteArray → Option ByteArray
 | [], _, acc => some acc
 | key :: l, i, acc => (numO k (key.size : Int) 1 acc).bind fun b1 =>
  if leaf = true then (if i < vals.length then (numO k ((rdOf ByteArray.empty vals (i : Int)).size : Int) 1 b1).bind fun b2 => (textO key 16 b2).bind fun b3 => (textO (rdOf ByteArray.empty vals (i : Int)) 24 b3).bind fun b4 => page_Put.l0 k leaf vals kids l (i + 1) b4 else none)
  else (if i < kids.length then (numO k (rd kids (i : Int)) 2 b1).bind fun b2 => (numO k 0 1 b2).bind fun b3 => (textO key 16 b3).bind fun b4 => page_Put.l0 k leaf vals kids l (i + 1) b4 else none)
def page_Put.f (k : Nat) (a0_0 : Int) (l0_1 : List ByteArray) (l0_2 : List ByteArray) (l0_3 : List Int) : Option (ByteArray × Option Int) := (page_Right.f k a0_0 l0_1 l0_2 l0_3).bind fun t =>
 if t = true then ((numO k (if 0 < a0_0 then 2 else 1) 1 ⟨#[]⟩).bind fun b1 => (numO k (l0_1.length : Int) 1 b1).bind fun b2 => (numO k a0_0 1 b2).bind fun b3 => (numO k 0 1 b3).bind fun b4 => (page_Put.l0 k (decide (a0_0 ≤ 0)) l0_2 l0_3 l0_1 0 b4).bind fun b => mark_Seal.f k 8 b) else some (⟨#[]⟩, some 1)
set_option maxHeartbeats 16000000 in
set_option maxRecDepth 100000 in
theorem page_Put.calls (k : Nat) (a0_0 : Int) (A0_1 : Option Addr) (c0_1 : Nat) (l0_1 : List ByteArray) (A0_2 : Option Addr) (c0_2 : Nat) (l0_2 : List ByteArray) (A0_3 : Option Addr) (c0_3 : Nat) (l0_3 : List Int) (r1 : ByteArray) (r2 : Option Int) (w : World) (hL_ : Laid w) (hr0_1 : Kd.C Kd.string w A0_1 l0_1.length l0_1) (hc0_1 : l0_1.length ≤ c0_1) (hr0_2 : Kd.C Kd.string w A0_2 l0_2.length l0_2) (hc0_2 : l0_2.length ≤ c0_2) (hr0_3 : Kd.C (Kd.int .i64) w A0_3 l0_3.length l0_3) (hc0_3 : l0_3.length ≤ c0_3) (h : page_Put.f k a0_0 l0_1 l0_2 l0_3 = some (r1, r2)) :
  Calls Tryd.prog 31 #[.agg #[.int .i64 a0_0, .slice A0_1 l0_1.length c0_1, .slice A0_2 l0_2.length c0_2, .slice A0_3 l0_3.length c0_3]] w fun e w' => e = .returned (.tuple #[.string r1, errW r2]) ∧ Below w.heap.size w w' := by
 have HL_ := Aside0.mk hL_; unfold page_Put.f at h; obtain ⟨t, hR, h⟩ := Option.bind_eq_some_iff.mp h; have HRt := Aside0.mk hR; have HB0 := Aside0.mk (below_alloc (Below.refl w.heap.size w) (.cells #[.int .i64 a0_0, .slice A0_1 l0_1.length c0_1, .slice A0_2 l0_2.length c0_2, .slice A0_3 l0_3.length c0_3] 69)); have HX0 := Aside0.mk (heap_alloc_new w (.cells #[.int .i64 a0_0, .slice A0_1 l0_1.length c0_1, .slice A0_2 l0_2.length c0_2, .slice A0_3 l0_3.length c0_3] 69)); have HR1 := Aside0.mk (fun (W : World) (hb : Below w.heap.size w W) => Kd.C_below hr0_1 hb); have HR2 := Aside0.mk (fun (W : World) (hb : Below w.heap.size w W) => Kd.C_below hr0_2 hb); have HR3 := Aside0.mk (fun (W : World) (hb : Below w.heap.size w W) => Kd.C_below hr0_3 hb); have HC1 := Aside0.mk hc0_1; have HC2 := Aside0.mk hc0_2; have HC3 := Aside0.mk hc0_3; have HM1 := Aside0.mk hr0_1.2.1; have HU := Aside0.mk (show (69 : Nat) ≠ 5 by decide); have hu := Tryd.underlying69; clear hL_ hR hr0_1 hc0_1 hr0_2 hc0_2 hr0_3 hc0_3; cases t with
 | false =>
  rw [if_neg (by decide)] at h; obtain ⟨rfl, rfl⟩ := Prod.mk.inj (Option.some.inj h); clear h; go_enter Tryd.func31, Tryd.ntmps31
  go_wp2_with (go_at_call 53; (with_reducible refine (page_Right.calls k a0_0 A0_1 c0_1 l0_1 A0_2 c0_2 l0_2 A0_3 c0_3 l0_3 false _ (HR1.out _ HB0.out) HC1.out (HR2.out _ HB0.out) HC2.out (HR3.out _ HB0.out) HC3.out HRt.out).mono ?_); rintro e w1 ⟨rfl, hb1⟩; have HB1 := Aside0.mk (below_step HB0.out hb1); clear hb1)
  go_ret2
  exact ⟨rfl, HB1.out⟩
 | true =>
  rw [if_pos rfl] at h; obtain ⟨b1, h1, h⟩ := Option.bind_eq_some_iff.mp h; obtain ⟨b2, h2, h⟩ := Option.bind_eq_some_iff.mp h; obtain ⟨b3, h3, h⟩ := Option.bind_eq_some_iff.mp h; obtain ⟨b4, h4, h⟩ := Option.bind_eq_some_iff.mp h; obtain ⟨b, hb, h⟩ := Option.bind_eq_some_iff.mp h; have H2 := Aside0.mk h2; have H3 := Aside0.mk h3; have H4 := Aside0.mk h4; have HM := Aside0.mk h; clear h2 h3 h4 h
  by_cases hlv : 0 < a0_0
  ·rw [if_pos hlv] at h1; rw [show decide (a0_0 ≤ 0) = false from decide_eq_false (by omega)] at hb; have dlv : decide (0 < a0_0) = true := decide_eq_true hlv; have H1 := Aside0.mk h1; have HP := Aside0.mk hb; clear h1 hb hlv; go_enter Tryd.func31, Tryd.ntmps31
   go_wp2_with (first
    | (go_at_call 53; (with_reducible refine (page_Right.calls k a0_0 A0_1 c0_1 l0_1 A0_2 c0_2 l0_2 A0_3 c0_3 l0_3 true _ (HR1.out _ HB0.out) HC1.out (HR2.out _ HB0.out) HC2.out (HR3.out _ HB0.out) HC3.out HRt.out).mono ?_); rintro e w1 ⟨rfl, hb1⟩; have HB1 := Aside0.mk (below_step HB0.out hb1); have HX1 := Aside0.mk (blk_below HX0.out hb1); have HG1 := Aside0.mk (blk_lt HX1.out); have HO2 := Aside0.mk (OutIs.new (B := w.heap.size) (heap_alloc_new w1 (.cells #[.pointer none, .slice none 0 0, .bool false] 113)) HB1.out.size); have HX2 := Aside0.mk (blk_alloc HX1.out (.cells #[.pointer none, .slice none 0 0, .bool false] 113)); have HB2 := Aside0.mk (below_alloc HB1.out (.cells #[.pointer none, .slice none 0 0, .bool false] 113)); have hx0 := (blk_cell HX2.out 0).trans rfl; have hx1 := (blk_cell HX2.out 1).trans rfl; have hx2 := (blk_cell HX2.out 2).trans rfl; have hx3 := (blk_cell HX2.out 3).trans rfl; clear hb1 HB1 HX1)
    | (go_at_call 55; (with_reducible refine (oNumO k w.heap.size w1.heap.size ⟨#[]⟩ b1 2 1 _ HO2.out HB2.out.size H1.out).mono ?_); rintro e w3 ⟨rfl, ho_, hb_, hk_⟩; have HO3 := Aside0.mk ho_; have HX3 := Aside0.mk (hk_ _ _ _ (Nat.ne_of_lt HG1.out) HU.out HX2.out); have HB3 := Aside0.mk (HB2.out.trans hb_); have hx0 := (blk_cell HX3.out 0).trans rfl; have hx1 := (blk_cell HX3.out 1).trans rfl; have hx2 := (blk_cell HX3.out 2).trans rfl; have hx3 := (blk_cell HX3.out 3).trans rfl; clear ho_ hb_ hk_)
    | (go_at_call 55; (with_reducible refine (oNumO k w.heap.size w1.heap.size b1 b2 (l0_1.length : Int) 1 _ HO3.out HB3.out.size H2.out).mono ?_); rintro e w4 ⟨rfl, ho_, hb_, hk_⟩; have HO4 := Aside0.mk ho_; have HX4 := Aside0.mk (hk_ _ _ _ (Nat.ne_of_lt HG1.out) HU.out HX3.out); have HB4 := Aside0.mk (HB3.out.trans hb_); have hx0 := (blk_cell HX4.out 0).trans rfl; have hx1 := (blk_cell HX4.out 1).trans rfl; have hx2 := (blk_cell HX4.out 2).trans rfl; have hx3 := (blk_cell HX4.out 3).trans rfl; clear ho_ hb_ hk_)
    | (go_at_call 55; (with_reducible refine (oNumO k w.heap.size w1.heap.size b2 b3 a0_0 1 _ HO4.out HB4.out.size H3.out).mono ?_); rintro e w5 ⟨rfl, ho_, hb_, hk_⟩; have HO5 := Aside0.mk ho_; have HX5 := Aside0.mk (hk_ _ _ _ (Nat.ne_of_lt HG1.out) HU.out HX4.out); have HB5 := Aside0.mk (HB4.out.trans hb_); have hx0 := (blk_cell HX5.out 0).trans rfl; have hx1 := (blk_cell HX5.out 1).trans rfl; have hx2 := (blk_cell HX5.out 2).trans rfl; have hx3 := (blk_cell HX5.out 3).trans rfl; clear ho_ hb_ hk_)
    | (go_at_call 55; (with_reducible refine (oNumO k w.heap.size w1.heap.size b3 b4 0 1 _ HO5.out HB5.out.size H4.out).mono ?_); rintro e w6 ⟨rfl, ho_, hb_, hk_⟩; have HO6 := Aside0.mk ho_; have HX6 := Aside0.mk (hk_ _ _ _ (Nat.ne_of_lt HG1.out) HU.out HX5.out); have HB6 := Aside0.mk (HB5.out.trans hb_); have hx0 := (blk_cell HX6.out 0).trans rfl; have hx1 := (blk_cell HX6.out 1).trans rfl; have hx2 := (blk_cell HX6.out 2).trans rfl; have hx3 := (blk_cell HX6.out 3).trans rfl; clear ho_ hb_ hk_))
   clear dlv hx0 hx1 hx2 hx3; go_loopg [6, 7, 30] (l0_1.length + 1) (fun kq v6 v7 v30 w' => ∃ (i : Nat) (acc : ByteArray), v30 = .int .i64 (i : Int) ∧ Aside0 (i ≤ l0_1.length ∧ kq = l0_1.length - i + 1) ∧ Aside0 (page_Put.l0 k false l0_2 l0_3 (l0_1.drop i) i acc = some b) ∧ Aside0 (OutIs w.heap.size w1.heap.size acc false w') ∧ Aside0 (w'.heap[w.heap.size]? = some (.cells #[.int .i64 a0_0, .slice A0_1 l0_1.length c0_1, .slice A0_2 l0_2.length c0_2, .slice A0_3 l0_3.length c0_3] 69 (0, 0))) ∧ Aside0 (Below w.heap.size w w'))
   case atStart => exact ⟨0, _, rfl, ⟨by omega, by omega⟩, by rw [List.drop_zero]; exact HP, HO6, HX6, HB6⟩
   case round =>
    clear HP HO2 HX2 HB2 HO3 HX3 HB3 HO4 HX4 HB4 HO5 HX5 HB5 HO6 HX6 HB6; obtain ⟨i, acc, rfl, HI, HP, HO6, HX6, HB6⟩ := hrel
    by_cases c1 : i < l0_1.length
    ·have e1 : decide ((i : Int) < (l0_1.length : Int)) = true := decide_eq_true (by omega); have p1 := eq_true (show (0 : Int) ≤ (i : Int) by omega); have p2 := eq_true (show (i : Int) < (l0_1.length : Int) by omega); have p3 := eq_true c1; obtain ⟨ad, rfl, hk0⟩ := Kd.at_string (HR1.out wr HB6.out) (i : Int) (by omega) (by omega); rw [show ((i : Int)).toNat = i from rfl] at hk0; have HI1 := Aside0.mk (show wrap64 ((i : Int) + 1) = ((i + 1 : Nat) : Int) by have := HM1.out; unfold maxLen at this; unfold wrap64; omega); have H := HP.out; rw [rdOf_drop ByteArray.empty l0_1 i c1, page_Put.l0] at H; clear HP; generalize rdOf ByteArray.empty l0_1 (i : Int) = key at *; obtain ⟨d1, g1, H⟩ := Option.bind_eq_some_iff.mp H; have G1 := Aside0.mk g1; clear g1; rw [if_neg (by decide)] at H
     by_cases hq : i < l0_3.length
     case neg => rw [if_neg hq] at H; cases H
     rw [if_pos hq] at H; have HQ := Aside0.mk hq; have s1 := eq_true (show (i : Int) < (l0_3.length : Int) by omega); have s2 := eq_true hq; obtain ⟨d2, g2, H⟩ := Option.bind_eq_some_iff.mp H; obtain ⟨d3, g3, H⟩ := Option.bind_eq_some_iff.mp H; obtain ⟨d4, g4, H⟩ := Option.bind_eq_some_iff.mp H; have G2 := Aside0.mk g2; have G3 := Aside0.mk g3; have G4 := Aside0.mk g4; have H' := Aside0.mk H; obtain ⟨adk, ek_, _⟩ := Kd.at_int (HR3.out wr HB6.out) (i : Int) (by omega) (by omega); subst ek_; clear g2 g3 g4 H hq; have hx0 := (blk_cell HX6.out 0).trans rfl; have hx1 := (blk_cell HX6.out 1).trans rfl; have hx2 := (blk_cell HX6.out 2).trans rfl; have hx3 := (blk_cell HX6.out 3).trans rfl
     go_wp2_with (first
      | (go_at_call 55; (with_reducible refine (oNumO k w.heap.size w1.heap.size acc d1 (key.size : Int) 1 _ HO6.out HB6.out.size G1.out).mono ?_); rintro e w7 ⟨rfl, ho_, hb_, hk_⟩; have HO7 := Aside0.mk ho_; have HX7 := Aside0.mk (hk_ _ _ _ (Nat.ne_of_lt HG1.out) HU.out HX6.out); have HB7 := Aside0.mk (HB6.out.trans hb_); have hx0 := (blk_cell HX7.out 0).trans rfl; have hx1 := (blk_cell HX7.out 1).trans rfl; have hx2 := (blk_cell HX7.out 2).trans rfl; have hx3 := (blk_cell HX7.out 3).trans rfl; clear ho_ hb_ hk_; obtain ⟨ak_, ek_, hv_⟩ := Kd.at_int (HR3.out _ HB7.out) (i : Int) (by omega) (by have := HQ.out; omega); (rw [show ((i : Int)).toNat = i from rfl] at hv_); injection ek_ with ek_; subst ek_)
      | (go_at_call 55; (with_reducible refine (oNumO k w.heap.size w1.heap.size d1 d2 (rd l0_3 (i : Int)) 2 _ HO7.out HB7.out.size G2.out).mono ?_); rintro e w8 ⟨rfl, ho_, hb_, hk_⟩; have HO8 := Aside0.mk ho_; have HX8 := Aside0.mk (hk_ _ _ _ (Nat.ne_of_lt HG1.out) HU.out HX7.out); have HB8 := Aside0.mk (HB7.out.trans hb_); have hx0 := (blk_cell HX8.out 0).trans rfl; have hx1 := (blk_cell HX8.out 1).trans rfl; have hx2 := (blk_cell HX8.out 2).trans rfl; have hx3 := (blk_cell HX8.out 3).trans rfl; clear ho_ hb_ hk_)
      | (go_at_call 55; (with_reducible refine (oNumO k w.heap.size w1.heap.size d2 d3 0 1 _ HO8.out HB8.out.size G3.out).mono ?_); rintro e w9 ⟨rfl, ho_, hb_, hk_⟩; have HO9 := Aside0.mk ho_; have HX9 := Aside0.mk (hk_ _ _ _ (Nat.ne_of_lt HG1.out) HU.out HX8.out); have HB9 := Aside0.mk (HB8.out.trans hb_); have hx0 := (blk_cell HX9.out 0).trans rfl; have hx1 := (blk_cell HX9.out 1).trans rfl; have hx2 := (blk_cell HX9.out 2).trans rfl; have hx3 := (blk_cell HX9.out 3).trans rfl; clear ho_ hb_ hk_)
      | (go_at_call 56; (with_reducible refine (oTextO w.heap.size w1.heap.size d3 d4 key 16 16 _ rfl HO9.out HB9.out.size G4.out).mono ?_); rintro e w10 ⟨rfl, ho_, hb_, hk_⟩; have HO10 := Aside0.mk ho_; have HX10 := Aside0.mk (hk_ _ _ _ (Nat.ne_of_lt HG1.out) HU.out HX9.out); have HB10 := Aside0.mk (HB9.out.trans hb_); have hx0 := (blk_cell HX10.out 0).trans rfl; have hx1 := (blk_cell HX10.out 1).trans rfl; have hx2 := (blk_cell HX10.out 2).trans rfl; have hx3 := (blk_cell HX10.out 3).trans rfl; clear ho_ hb_ hk_))
     go_roundg (l0_1.length - i)
     case measure => have := HI.out; omega
     case rel => exact ⟨i + 1, _, (by first | rfl | rw [HI1.out]), ⟨by omega, by omega⟩, H', HO10, HX10, HB10⟩
    ·have e1 : decide ((i : Int) < (l0_1.length : Int)) = false := decide_eq_false (by omega); have H := HP.out; rw [List.drop_eq_nil_of_le (by omega), page_Put.l0] at H; obtain rfl := Option.some.inj H; clear H HP
     go_wp2_with (first
      | (go_at_call 57; (with_reducible refine (oString w.heap.size w1.heap.size acc false _ HO6.out).mono ?_); rintro e w8 ⟨rfl, hb8⟩; have HB8 := Aside0.mk (HB6.out.trans hb8); have HO8 := Aside0.mk (show outString acc false = (acc, none) from rfl); simp only [HO8.out, errW_none]; clear hb8)
      | (go_at_call 58; (with_reducible refine (mark_Seal.calls k 8 acc r1 r2 _ (Laid.below HL_.out HB8.out) HM.out).mono ?_); rintro e w9 ⟨rfl, hb9⟩; have HB9 := Aside0.mk (below_step HB8.out hb9); clear hb9))
     go_ret2
     exact ⟨rfl, HB9.out⟩
  ·rw [if_neg hlv] at h1; rw [show decide (a0_0 ≤ 0) = true from decide_eq_true (by omega)] at hb; have dlv : decide (0 < a0_0) = false := decide_eq_false hlv; have H1 := Aside0.mk h1; have HP := Aside0.mk hb; clear h1 hb hlv; go_enter Tryd.func31, Tryd.ntmps31
   go_wp2_with (first
    | (go_at_call 53; (with_reducible refine (page_Right.calls k a0_0 A0_1 c0_1 l0_1 A0_2 c0_2 l0_2 A0_3 c0_3 l0_3 true _ (HR1.out _ HB0.out) HC1.out (HR2.out _ HB0.out) HC2.out (HR3.out _ HB0.out) HC3.out HRt.out).mono ?_); rintro e w1 ⟨rfl, hb1⟩; have HB1 := Aside0.mk (below_step HB0.out hb1); have HX1 := Aside0.mk (blk_below HX0.out hb1); have HG1 := Aside0.mk (blk_lt HX1.out); have HO2 := Aside0.mk (OutIs.new (B := w.heap.size) (heap_alloc_new w1 (.cells #[.pointer none, .slice none 0 0, .bool false] 113)) HB1.out.size); have HX2 := Aside0.mk (blk_alloc HX1.out (.cells #[.pointer none, .slice none 0 0, .bool false] 113)); have HB2 := Aside0.mk (below_alloc HB1.out (.cells #[.pointer none, .slice none 0 0, .bool false] 113)); have hx0 := (blk_cell HX2.out 0).trans rfl; have hx1 := (blk_cell HX2.out 1).trans rfl; have hx2 := (blk_cell HX2.out 2).trans rfl; have hx3 := (blk_cell HX2.out 3).trans rfl; clear hb1 HB1 HX1)
    | (go_at_call 55; (with_reducible refine (oNumO k w.heap.size w1.heap.size ⟨#[]⟩ b1 1 1 _ HO2.out HB2.out.size H1.out).mono ?_); rintro e w3 ⟨rfl, ho_, hb_, hk_⟩; have HO3 := Aside0.mk ho_; have HX3 := Aside0.mk (hk_ _ _ _ (Nat.ne_of_lt HG1.out) HU.out HX2.out); have HB3 := Aside0.mk (HB2.out.trans hb_); have hx0 := (blk_cell HX3.out 0).trans rfl; have hx1 := (blk_cell HX3.out 1).trans rfl; have hx2 := (blk_cell HX3.out 2).trans rfl; have hx3 := (blk_cell HX3.out 3).trans rfl; clear ho_ hb_ hk_)
    | (go_at_call 55; (with_reducible refine (oNumO k w.heap.size w1.heap.size b1 b2 (l0_1.length : Int) 1 _ HO3.out HB3.out.size H2.out).mono ?_); rintro e w4 ⟨rfl, ho_, hb_, hk_⟩; have HO4 := Aside0.mk ho_; have HX4 := Aside0.mk (hk_ _ _ _ (Nat.ne_of_lt HG1.out) HU.out HX3.out); have HB4 := Aside0.mk (HB3.out.trans hb_); have hx0 := (blk_cell HX4.out 0).trans rfl; have hx1 := (blk_cell HX4.out 1).trans rfl; have hx2 := (blk_cell HX4.out 2).trans rfl; have hx3 := (blk_cell HX4.out 3).trans rfl; clear ho_ hb_ hk_)
    | (go_at_call 55; (with_reducible refine (oNumO k w.heap.size w1.heap.size b2 b3 a0_0 1 _ HO4.out HB4.out.size H3.out).mono ?_); rintro e w5 ⟨rfl, ho_, hb_, hk_⟩; have HO5 := Aside0.mk ho_; have HX5 := Aside0.mk (hk_ _ _ _ (Nat.ne_of_lt HG1.out) HU.out HX4.out); have HB5 := Aside0.mk (HB4.out.trans hb_); have hx0 := (blk_cell HX5.out 0).trans rfl; have hx1 := (blk_cell HX5.out 1).trans rfl; have hx2 := (blk_cell HX5.out 2).trans rfl; have hx3 := (blk_cell HX5.out 3).trans rfl; clear ho_ hb_ hk_)
    | (go_at_call 55; (with_reducible refine (oNumO k w.heap.size w1.heap.size b3 b4 0 1 _ HO5.out HB5.out.size H4.out).mono ?_); rintro e w6 ⟨rfl, ho_, hb_, hk_⟩; have HO6 := Aside0.mk ho_; have HX6 := Aside0.mk (hk_ _ _ _ (Nat.ne_of_lt HG1.out) HU.out HX5.out); have HB6 := Aside0.mk (HB5.out.trans hb_); have hx0 := (blk_cell HX6.out 0).trans rfl; have hx1 := (blk_cell HX6.out 1).trans rfl; have hx2 := (blk_cell HX6.out 2).trans rfl; have hx3 := (blk_cell HX6.out 3).trans rfl; clear ho_ hb_ hk_))
   clear dlv hx0 hx1 hx2 hx3; go_loopg [6, 7, 30] (l0_1.length + 1) (fun kq v6 v7 v30 w' => ∃ (i : Nat) (acc : ByteArray), v30 = .int .i64 (i : Int) ∧ Aside0 (i ≤ l0_1.length ∧ kq = l0_1.length - i + 1) ∧ Aside0 (page_Put.l0 k true l0_2 l0_3 (l0_1.drop i) i acc = some b) ∧ Aside0 (OutIs w.heap.size w1.heap.size acc false w') ∧ Aside0 (w'.heap[w.heap.size]? = some (.cells #[.int .i64 a0_0, .slice A0_1 l0_1.length c0_1, .slice A0_2 l0_2.length c0_2, .slice A0_3 l0_3.length c0_3] 69 (0, 0))) ∧ Aside0 (Below w.heap.size w w'))
   case atStart => exact ⟨0, _, rfl, ⟨by omega, by omega⟩, by rw [List.drop_zero]; exact HP, HO6, HX6, HB6⟩
   case round =>
    clear HP HO2 HX2 HB2 HO3 HX3 HB3 HO4 HX4 HB4 HO5 HX5 HB5 HO6 HX6 HB6; obtain ⟨i, acc, rfl, HI, HP, HO6, HX6, HB6⟩ := hrel
    by_cases c1 : i < l0_1.length
    ·have e1 : decide ((i : Int) < (l0_1.length : Int)) = true := decide_eq_true (by omega); have p1 := eq_true (show (0 : Int) ≤ (i : Int) by omega); have p2 := eq_true (show (i : Int) < (l0_1.length : Int) by omega); have p3 := eq_true c1; obtain ⟨ad, rfl, hk0⟩ := Kd.at_string (HR1.out wr HB6.out) (i : Int) (by omega) (by omega); rw [show ((i : Int)).toNat = i from rfl] at hk0; have HI1 := Aside0.mk (show wrap64 ((i : Int) + 1) = ((i + 1 : Nat) : Int) by have := HM1.out; unfold maxLen at this; unfold wrap64; omega); have H := HP.out; rw [rdOf_drop ByteArray.empty l0_1 i c1, page_Put.l0] at H; clear HP; generalize rdOf ByteArray.empty l0_1 (i : Int) = key at *; obtain ⟨d1, g1, H⟩ := Option.bind_eq_some_iff.mp H; have G1 := Aside0.mk g1; clear g1; rw [if_pos rfl] at H
     by_cases hq : i < l0_2.length
     case neg => rw [if_neg hq] at H; cases H
     rw [if_pos hq] at H; have HQ := Aside0.mk hq; have s1 := eq_true (show (i : Int) < (l0_2.length : Int) by omega); have s2 := eq_true hq; obtain ⟨d2, g2, H⟩ := Option.bind_eq_some_iff.mp H; obtain ⟨d3, g3, H⟩ := Option.bind_eq_some_iff.mp H; obtain ⟨d4, g4, H⟩ := Option.bind_eq_some_iff.mp H; have G2 := Aside0.mk g2; have G3 := Aside0.mk g3; have G4 := Aside0.mk g4; have H' := Aside0.mk H; obtain ⟨adv, ev_, _⟩ := Kd.at_string (HR2.out wr HB6.out) (i : Int) (by omega) (by omega); subst ev_; clear g2 g3 g4 H hq; have hx0 := (blk_cell HX6.out 0).trans rfl; have hx1 := (blk_cell HX6.out 1).trans rfl; have hx2 := (blk_cell HX6.out 2).trans rfl; have hx3 := (blk_cell HX6.out 3).trans rfl
     go_wp2_with (first
      | (go_at_call 55; (with_reducible refine (oNumO k w.heap.size w1.heap.size acc d1 (key.size : Int) 1 _ HO6.out HB6.out.size G1.out).mono ?_); rintro e w7 ⟨rfl, ho_, hb_, hk_⟩; have HO7 := Aside0.mk ho_; have HX7 := Aside0.mk (hk_ _ _ _ (Nat.ne_of_lt HG1.out) HU.out HX6.out); have HB7 := Aside0.mk (HB6.out.trans hb_); have hx0 := (blk_cell HX7.out 0).trans rfl; have hx1 := (blk_cell HX7.out 1).trans rfl; have hx2 := (blk_cell HX7.out 2).trans rfl; have hx3 := (blk_cell HX7.out 3).trans rfl; clear ho_ hb_ hk_; obtain ⟨av_, ev_, hv_⟩ := Kd.at_string (HR2.out _ HB7.out) (i : Int) (by omega) (by have := HQ.out; omega); (rw [show ((i : Int)).toNat = i from rfl] at hv_); injection ev_ with ev_; subst ev_)
      | (go_at_call 55; (with_reducible refine (oNumO k w.heap.size w1.heap.size d1 d2 ((rdOf ByteArray.empty l0_2 (i : Int)).size : Int) 1 _ HO7.out HB7.out.size G2.out).mono ?_); rintro e w8 ⟨rfl, ho_, hb_, hk_⟩; have HO8 := Aside0.mk ho_; have HX8 := Aside0.mk (hk_ _ _ _ (Nat.ne_of_lt HG1.out) HU.out HX7.out); have HB8 := Aside0.mk (HB7.out.trans hb_); have hx0 := (blk_cell HX8.out 0).trans rfl; have hx1 := (blk_cell HX8.out 1).trans rfl; have hx2 := (blk_cell HX8.out 2).trans rfl; have hx3 := (blk_cell HX8.out 3).trans rfl; clear ho_ hb_ hk_; clear hv_)
      | (go_at_call 56; (with_reducible refine (oTextO w.heap.size w1.heap.size d2 d3 key 16 16 _ rfl HO8.out HB8.out.size G3.out).mono ?_); rintro e w9 ⟨rfl, ho_, hb_, hk_⟩; have HO9 := Aside0.mk ho_; have HX9 := Aside0.mk (hk_ _ _ _ (Nat.ne_of_lt HG1.out) HU.out HX8.out); have HB9 := Aside0.mk (HB8.out.trans hb_); have hx0 := (blk_cell HX9.out 0).trans rfl; have hx1 := (blk_cell HX9.out 1).trans rfl; have hx2 := (blk_cell HX9.out 2).trans rfl; have hx3 := (blk_cell HX9.out 3).trans rfl; clear ho_ hb_ hk_; obtain ⟨av_, ev_, hv_⟩ := Kd.at_string (HR2.out _ HB9.out) (i : Int) (by omega) (by have := HQ.out; omega); (rw [show ((i : Int)).toNat = i from rfl] at hv_); injection ev_ with ev_; subst ev_)
      | (go_at_call 56; (with_reducible refine (oTextO w.heap.size w1.heap.size d3 d4 (rdOf ByteArray.empty l0_2 (i : Int)) 24 24 _ rfl HO9.out HB9.out.size G4.out).mono ?_); rintro e w10 ⟨rfl, ho_, hb_, hk_⟩; have HO10 := Aside0.mk ho_; have HX10 := Aside0.mk (hk_ _ _ _ (Nat.ne_of_lt HG1.out) HU.out HX9.out); have HB10 := Aside0.mk (HB9.out.trans hb_); have hx0 := (blk_cell HX10.out 0).trans rfl; have hx1 := (blk_cell HX10.out 1).trans rfl; have hx2 := (blk_cell HX10.out 2).trans rfl; have hx3 := (blk_cell HX10.out 3).trans rfl; clear ho_ hb_ hk_))
     go_roundg (l0_1.length - i)
     case measure => have := HI.out; omega
     case rel => exact ⟨i + 1, _, (by first | rfl | rw [HI1.out]), ⟨by omega, by omega⟩, H', HO10, HX10, HB10⟩
    ·have e1 : decide ((i : Int) < (l0_1.length : Int)) = false := decide_eq_false (by omega); have H := HP.out; rw [List.drop_eq_nil_of_le (by omega), page_Put.l0] at H; obtain rfl := Option.some.inj H; clear H HP
     go_wp2_with (first
      | (go_at_call 57; (with_reducible refine (oString w.heap.size w1.heap.size acc false _ HO6.out).mono ?_); rintro e w8 ⟨rfl, hb8⟩; have HB8 := Aside0.mk (HB6.out.trans hb8); have HO8 := Aside0.mk (show outString acc false = (acc, none) from rfl); simp only [HO8.out, errW_none]; clear hb8)
      | (go_at_call 58; (with_reducible refine (mark_Seal.calls k 8 acc r1 r2 _ (Laid.below HL_.out HB8.out) HM.out).mono ?_); rintro e w9 ⟨rfl, hb9⟩; have HB9 := Aside0.mk (below_step HB8.out hb9); clear hb9))
     go_ret2
     exact ⟨rfl, HB9.out⟩
/-! ### cmp_isNaN_string: function 119 -/
def cmp_isNaN_string.f (a0 : ByteArray) : Option (Bool) := some (a0.toList != a0.toList)
set_option maxHeartbeats 8000000 in
set_option maxRecDepth 100000 in
theorem cmp_isNaN_string.calls (a0 : ByteArray) (r : Bool) (w : World) (h : cmp_isNaN_string.f a0 = some r) :
  Calls Tryd.prog 119 #[.string a0] w fun e w' => e = .returned (.bool r) ∧ Drawn0 w w' := by
 have H : (some (a0.toList != a0.toList)) = some r := h; clear h; obtain rfl := Option.some.inj H; go_enter Tryd.func119, Tryd.ntmps119
 go_wp2
 go_ret
 exact ⟨z41, z63⟩

/-! ### cmp_Less_string: function 97 -/
def cmp_Less_string.f (a0 : ByteArray) (a1 : ByteArray) : Option (Bool) := (cmp_isNaN_string.f a0).bind fun t116 => (if t116 = true then ((cmp_isNaN_string.f a1).bind fun t117 => (if t117 = true then (some (Op.bytesLess a0.toList a1.toList)) else (some true))) else (some (Op.bytesLess a0.toList a1.toList)))
set_option maxHeartbeats 8000000 in
set_option maxRecDepth 100000 in
theorem cmp_Less_string.calls (a0 : ByteArray) (a1 : ByteArray) (r : Bool) (w : World) (h : cmp_Less_string.f a0 a1 = some r) :
  Calls Tryd.prog 97 #[.string a0, .string a1] w fun e w' => e = .returned (.bool r) ∧ Drawn0 w w' := by
 have H : ((cmp_isNaN_string.f a0).bind fun t116 => (if t116 = true then ((cmp_isNaN_string.f a1).bind fun t117 => (if t117 = true then (some (Op.bytesLess a0.toList a1.toList)) else (some true))) else (some (Op.bytesLess a0.toList a1.toList)))) = some r := h; clear h; replace H := Option.bind_eq_some_iff.mp H; obtain ⟨t116, A30, H⟩ := H; replace H : (if t116 = true then ((cmp_isNaN_string.f a1).bind fun t117 => (if t117 = true then (some (Op.bytesLess a0.toList a1.toList)) else (some true))) else (some (Op.bytesLess a0.toList a1.toList))) = some r := H; have A3 := Aside0.mk A30; clear A30
 by_cases c4 : t116 = true
 ·subst c4; have H1 : ((cmp_isNaN_string.f a1).bind fun t117 => (if t117 = true then (some (Op.bytesLess a0.toList a1.toList)) else (some true))) = some r := by rw [if_pos rfl] at H; exact H
  clear H; have H := H1; clear H1; replace H := Option.bind_eq_some_iff.mp H; obtain ⟨t117, A50, H⟩ := H; replace H : (if t117 = true then (some (Op.bytesLess a0.toList a1.toList)) else (some true)) = some r := H; have A5 := Aside0.mk A50; clear A50
  by_cases c6 : t117 = true
  ·subst c6; have H1 : (some (Op.bytesLess a0.toList a1.toList)) = some r := by rw [if_pos rfl] at H; exact H
   clear H; have H := H1; clear H1; obtain rfl := Option.some.inj H; go_enter Tryd.func97, Tryd.ntmps97
   go_wp2_with (first | ((with_reducible refine gate_callee (f := 119) rfl ?_); refine goesL_ (some 6) rfl rfl Tryd.func119 (by kernel_rfl) rfl #[.string a0] rfl z15 ?_; (with_reducible refine (cmp_isNaN_string.calls a0 true _ A3.out).mono ?_); rintro e w' ⟨rfl, ⟨nd, rfl⟩⟩; refine ⟨_, rfl, ?_⟩) | (go_at_call 119; (with_reducible refine (cmp_isNaN_string.calls a1 true _ A5.out).mono ?_); rintro e w' ⟨rfl, ⟨nd, rfl⟩⟩))
   go_ret
   exact ⟨z41, z63⟩
  ·replace c6 := Bool.eq_false_iff.mpr c6; subst c6; have H1 : (some true) = some r := by rw [if_neg (show ¬ (false = true) by decide)] at H; exact H
   clear H; have H := H1; clear H1; obtain rfl := Option.some.inj H; go_enter Tryd.func97, Tryd.ntmps97
   go_wp2_with (first | ((with_reducible refine gate_callee (f := 119) rfl ?_); refine goesL_ (some 6) rfl rfl Tryd.func119 (by kernel_rfl) rfl #[.string a0] rfl z15 ?_; (with_reducible refine (cmp_isNaN_string.calls a0 true _ A3.out).mono ?_); rintro e w' ⟨rfl, ⟨nd, rfl⟩⟩; refine ⟨_, rfl, ?_⟩) | (go_at_call 119; (with_reducible refine (cmp_isNaN_string.calls a1 false _ A5.out).mono ?_); rintro e w' ⟨rfl, ⟨nd, rfl⟩⟩))
   go_ret
   exact ⟨z41, z63⟩
 ·replace c4 := Bool.eq_false_iff.mpr c4; subst c4; have H1 : (some (Op.bytesLess a0.toList a1.toList)) = some r := by rw [if_neg (show ¬ (false = true) by decide)] at H; exact H
  clear H; have H := H1; clear H1; obtain rfl := Option.some.inj H; go_enter Tryd.func97, Tryd.ntmps97
  go_wp2_with (first | ((with_reducible refine gate_callee (f := 119) rfl ?_); refine goesL_ (some 6) rfl rfl Tryd.func119 (by kernel_rfl) rfl #[.string a0] rfl z15 ?_; (with_reducible refine (cmp_isNaN_string.calls a0 false _ A3.out).mono ?_); rintro e w' ⟨rfl, ⟨nd, rfl⟩⟩; refine ⟨_, rfl, ?_⟩))
  go_ret
  exact ⟨z41, z63⟩

/-! ### slices_isNaN_string: function 98 -/
def slices_isNaN_string.f (a0 : ByteArray) : Option (Bool) := some (a0.toList != a0.toList)
set_option maxHeartbeats 8000000 in
set_option maxRecDepth 100000 in
theorem slices_isNaN_string.calls (a0 : ByteArray) (r : Bool) (w : World) (h : slices_isNaN_string.f a0 = some r) :
  Calls Tryd.prog 98 #[.string a0] w fun e w' => e = .returned (.bool r) ∧ Drawn0 w w' := by
 have H : (some (a0.toList != a0.toList)) = some r := h; clear h; obtain rfl := Option.some.inj H; go_enter Tryd.func98, Tryd.ntmps98
 go_wp2
 go_ret
 exact ⟨z41, z63⟩

/-! ### slices_BinarySearch_string_string: function 74 -/
def slices_BinarySearch_string_string.l0 : Nat → List ByteArray → ByteArray → Int → Int → Int → Option (Int × Bool)
 | 0, _, _, _, _, _ => none
 | k + 1, x0, x1, x6, x7, x8 => if x7 < x8 then (if 0 ≤ (wrap64 ((IntKind.u64.wrap (wrap64 (x7 + x8))) / 2)) then (if (wrap64 ((IntKind.u64.wrap (wrap64 (x7 + x8))) / 2)) < (x0.length : Int) then ((cmp_Less_string.f (rdOf ByteArray.empty x0 (wrap64 ((IntKind.u64.wrap (wrap64 (x7 + x8))) / 2))) x1).bind fun t119 => (if t119 = true then (slices_BinarySearch_string_string.l0 k x0 x1 x6 (wrap64 ((wrap64 ((IntKind.u64.wrap (wrap64 (x7 + x8))) / 2)) + 1)) x8) else (slices_BinarySearch_string_string.l0 k x0 x1 x6 x7 (wrap64 ((IntKind.u64.wrap (wrap64 (x7 + x8))) / 2))))) else (none)) else (none)) else (if x7 < x6 then (if 0 ≤ x7 then (if x7 < (x0.length : Int) then (if (rdOf ByteArray.empty x0 x7).toList = x1.toList then (some (x7, true)) else ((slices_isNaN_string.f (rdOf ByteArray.empty x0 x7)).bind fun t122 => (if t122 = true then ((slices_isNaN_string.f x1).bind fun t123 => (some (x7, t123))) else (some (x7, false))))) else (none)) else (none)) else (some (x7, false)))
def slices_BinarySearch_string_string.f (k : Nat) (l0 : List ByteArray) (a1 : ByteArray) : Option (Int × Bool) := slices_BinarySearch_string_string.l0 k l0 a1 (l0.length : Int) 0 (l0.length : Int)
set_option maxRecDepth 100000 in
theorem slices_BinarySearch_string_string.mono_l : ∀ k, (∀ y0 y1 y2 y3 y4, LeO (slices_BinarySearch_string_string.l0 k y0 y1 y2 y3 y4) (slices_BinarySearch_string_string.l0 (k + 1) y0 y1 y2 y3 y4))
 | 0 => fun _ _ _ _ _ r h => by first | (rw [slices_BinarySearch_string_string.l0] at h; cases h) | simp [slices_BinarySearch_string_string.l0] at h
 | k + 1 => by
  have ih0 := slices_BinarySearch_string_string.mono_l k
  ·intro y0 y1 y2 y3 y4; unfold slices_BinarySearch_string_string.l0
   repeat' first
   | (with_reducible exact ih0 _ _ _ _ _)
   | (with_reducible exact LeO.refl _)
   | (with_reducible exact LeO.none _)
   | (with_reducible refine LeO.ite ?_ ?_)
   | (with_reducible refine LeO.bind ?_ (fun _ => ?_))
   | exact ih0 _ _ _ _ _
   | exact LeO.none _
   | refine LeO.ite ?_ ?_
   | refine LeO.bind ?_ (fun _ => ?_)
theorem slices_BinarySearch_string_string.mono : ∀ a0 a1 k, LeO (slices_BinarySearch_string_string.f k a0 a1) (slices_BinarySearch_string_string.f (k + 1) a0 a1) := by
 intro a0 a1 k; have ih0 := slices_BinarySearch_string_string.mono_l k; unfold slices_BinarySearch_string_string.f
 repeat' first
   | (with_reducible exact ih0 _ _ _ _ _)
   | (with_reducible exact LeO.refl _)
   | (with_reducible exact LeO.none _)
   | (with_reducible refine LeO.ite ?_ ?_)
   | (with_reducible refine LeO.bind ?_ (fun _ => ?_))
   | exact ih0 _ _ _ _ _
   | exact LeO.none _
   | refine LeO.ite ?_ ?_
   | refine LeO.bind ?_ (fun _ => ?_)
set_option maxHeartbeats 8000000 in
set_option maxRecDepth 100000 in
theorem slices_BinarySearch_string_string.calls (k : Nat) (A0 : Option Addr) (c0 : Nat) (l0 : List ByteArray) (a1 : ByteArray) (r1 : Int) (r2 : Bool) (w : World) (hr0 : Kd.C Kd.string w A0 l0.length l0) (hc0 : l0.length ≤ c0) (h : slices_BinarySearch_string_string.f k l0 a1 = some (r1, r2)) :
  Calls Tryd.prog 74 #[.slice A0 l0.length c0, .string a1] w fun e w' => e = .returned (.tuple #[.int .i64 r1, .bool r2]) ∧ Drawn0 w w' := by
 have HR0 := Aside0.mk hr0; have HC0 := Aside0.mk hc0; clear hr0 hc0; have H : (slices_BinarySearch_string_string.l0 k l0 a1 (l0.length : Int) 0 (l0.length : Int)) = some (r1, r2) := h; clear h; have H' := Aside0.mk H; clear H; go_enter Tryd.func74, Tryd.ntmps74
 go_wp2
 go_loopg [7, 8] k (fun kq v7 v8 w' => ∃ (x7_1 : Int) (x8_1 : Int), v7 = .int .i64 x7_1 ∧ v8 = .int .i64 x8_1 ∧ Aside0 (slices_BinarySearch_string_string.l0 kq l0 a1 (l0.length : Int) x7_1 x8_1 = some (r1, r2)) ∧ Aside0 (kq ≤ k) ∧ Drawn0 w w')
 case atStart => exact ⟨(0), ((l0.length : Int)), z41, z41, H', ⟨Nat.le_refl _⟩, z63⟩
 case round =>
  clear H'; obtain ⟨x7_1, x8_1, rfl, rfl, HA, HK1, ⟨m1, rfl⟩⟩ := hrel; cases gk with
  | zero => exact absurd HA.out (by simp [slices_BinarySearch_string_string.l0])
  | succ k1 =>
   have H := HA.out; clear HA; simp only [slices_BinarySearch_string_string.l0] at H
   by_cases c3 : x7_1 < x8_1
   ·rw [if_pos c3] at H; have c3b0 : decide (x7_1 < x8_1) = true := decide_eq_true c3; clear c3; obtain ⟨ji4, hji4⟩ : ∃ j_ : Int, (wrap64 ((IntKind.u64.wrap (wrap64 (x7_1 + x8_1))) / 2)) = j_ := ⟨_, rfl⟩
    replace H : (if 0 ≤ (ji4) then (if (ji4) < (l0.length : Int) then ((cmp_Less_string.f (rdOf ByteArray.empty l0 (ji4)) a1).bind fun t119 => (if t119 = true then (slices_BinarySearch_string_string.l0 k1 l0 a1 (l0.length : Int) (wrap64 ((ji4) + 1)) x8_1) else (slices_BinarySearch_string_string.l0 k1 l0 a1 (l0.length : Int) x7_1 ji4))) else (none)) else (none)) = some (r1, r2) := by first | (rw [hji4] at H; exact H) | (simp only [hji4] at H ⊢; exact H)
    have hji4w : (IntKind.i64.wrap ((IntKind.u64.wrap (wrap64 (x7_1 + x8_1))) / 2)) = ji4 := (i64_w _).trans hji4
    by_cases c5 : 0 ≤ (ji4)
    ·rw [if_pos c5] at H; have c5b0 : decide (0 ≤ (ji4)) = true := decide_eq_true c5; clear c5
     by_cases c6 : (ji4) < (l0.length : Int)
     ·rw [if_pos c6] at H; have c6b0 : decide ((ji4) < (l0.length : Int)) = true := decide_eq_true c6; clear c6; replace H := Option.bind_eq_some_iff.mp H; obtain ⟨t119, A70, H⟩ := H; replace H : (if t119 = true then (slices_BinarySearch_string_string.l0 k1 l0 a1 (l0.length : Int) (wrap64 ((ji4) + 1)) x8_1) else (slices_BinarySearch_string_string.l0 k1 l0 a1 (l0.length : Int) x7_1 ji4)) = some (r1, r2) := H; have A7 := Aside0.mk A70; clear A70
      by_cases c8 : t119 = true
      ·subst c8; have H1 : (slices_BinarySearch_string_string.l0 k1 l0 a1 (l0.length : Int) (wrap64 ((ji4) + 1)) x8_1) = some (r1, r2) := by rw [if_pos rfl] at H; exact H
       clear H; have H := H1; clear H1; have H' := Aside0.mk H; clear H; have p118 : 0 ≤ ((ji4) : Int) := of_decide_eq_true z18; have q118 : (ji4) < (l0.length : Int) := of_decide_eq_true z18; obtain ⟨ad118, e118, hx118_0⟩ := Kd.at_string HR0.out (ji4) p118 q118; cases e118; replace p118 := eq_true p118; replace q118 := eq_true q118; go_wp2_with (first | ((with_reducible refine gate_callee (f := 97) rfl ?_); refine goesL_ (some 27) rfl rfl Tryd.func97 (by kernel_rfl) rfl #[.string (rdOf ByteArray.empty l0 (ji4)), .string a1] rfl (by (try simp only [List.map_toArray, List.map_cons, List.map_nil]); first | done | (simp only [hji4]; rfl) | rfl | (simp only [List.length_drop, List.length_take]; rfl)) ?_; (with_reducible refine (cmp_Less_string.calls (rdOf ByteArray.empty l0 (ji4)) a1 true _ A7.out).mono ?_); rintro e w' ⟨rfl, ⟨nd, rfl⟩⟩; refine ⟨_, rfl, ?_⟩))
       go_roundg k1
       case measure => have := HK1.out; omega
       case rel => exact ⟨(wrap64 ((ji4) + 1)), (x8_1), (by first | rfl | (simp; done) | (simp only [← hji4] <;> (first | rfl | simp)) | (simp [*]; done)), z41, H', ⟨by have := HK1.out; omega⟩, z63⟩
      ·replace c8 := Bool.eq_false_iff.mpr c8; subst c8; have H1 : (slices_BinarySearch_string_string.l0 k1 l0 a1 (l0.length : Int) x7_1 ji4) = some (r1, r2) := by rw [if_neg (show ¬ (false = true) by decide)] at H; exact H
       clear H; have H := H1; clear H1; have H' := Aside0.mk H; clear H; have p118 : 0 ≤ ((ji4) : Int) := of_decide_eq_true z18; have q118 : (ji4) < (l0.length : Int) := of_decide_eq_true z18; obtain ⟨ad118, e118, hx118_0⟩ := Kd.at_string HR0.out (ji4) p118 q118; cases e118; replace p118 := eq_true p118; replace q118 := eq_true q118; go_wp2_with (first | ((with_reducible refine gate_callee (f := 97) rfl ?_); refine goesL_ (some 27) rfl rfl Tryd.func97 (by kernel_rfl) rfl #[.string (rdOf ByteArray.empty l0 (ji4)), .string a1] rfl (by (try simp only [List.map_toArray, List.map_cons, List.map_nil]); first | done | (simp only [hji4]; rfl) | rfl | (simp only [List.length_drop, List.length_take]; rfl)) ?_; (with_reducible refine (cmp_Less_string.calls (rdOf ByteArray.empty l0 (ji4)) a1 false _ A7.out).mono ?_); rintro e w' ⟨rfl, ⟨nd, rfl⟩⟩; refine ⟨_, rfl, ?_⟩))
       go_roundg k1
       case measure => have := HK1.out; omega
       case rel => exact ⟨(x7_1), (ji4), z41, (by first | rfl | (simp; done) | (simp only [← hji4] <;> (first | rfl | simp)) | (simp [*]; done)), H', ⟨by have := HK1.out; omega⟩, z63⟩
     ·rw [if_neg c6] at H; exact absurd H (by simp)
    ·rw [if_neg c5] at H; exact absurd H (by simp)
   ·rw [if_neg c3] at H; have c3b0 : decide (x7_1 < x8_1) = false := decide_eq_false c3; clear c3
    by_cases c9 : x7_1 < (l0.length : Int)
    ·rw [if_pos c9] at H; have c9b0 : decide (x7_1 < (l0.length : Int)) = true := decide_eq_true c9; clear c9
     by_cases c10 : 0 ≤ x7_1
     ·rw [if_pos c10] at H; have c10b0 : decide (0 ≤ x7_1) = true := decide_eq_true c10; clear c10
      by_cases c11 : x7_1 < (l0.length : Int)
      ·rw [if_pos c11] at H; have c11b0 : decide (x7_1 < (l0.length : Int)) = true := decide_eq_true c11; clear c11
       by_cases c12 : (rdOf ByteArray.empty l0 x7_1).toList = a1.toList
       ·rw [if_pos c12] at H; have c12b0 : ((rdOf ByteArray.empty l0 x7_1).toList == a1.toList) = true := beq_iff_eq.mpr c12; have c12b1 : ((rdOf ByteArray.empty l0 x7_1).toList != a1.toList) = false := bne_eq_false_iff_eq.mpr c12; clear c12; simp only [Option.some.injEq, Prod.mk.injEq] at H; obtain ⟨rfl, rfl⟩ := H; have p120 : 0 ≤ (x7_1 : Int) := of_decide_eq_true z18; have q120 : x7_1 < (l0.length : Int) := of_decide_eq_true z18; obtain ⟨ad120, e120, hx120_0⟩ := Kd.at_string HR0.out x7_1 p120 q120; cases e120; replace p120 := eq_true p120; replace q120 := eq_true q120; go_wp2
        go_ret2
        exact ⟨z41, z63⟩
       ·rw [if_neg c12] at H; have c12b0 : ((rdOf ByteArray.empty l0 x7_1).toList == a1.toList) = false := beq_eq_false_iff_ne.mpr c12; have c12b1 : ((rdOf ByteArray.empty l0 x7_1).toList != a1.toList) = true := bne_iff_ne.mpr c12; replace H := Option.bind_eq_some_iff.mp H; obtain ⟨t122, A130, H⟩ := H; replace H : (if t122 = true then ((slices_isNaN_string.f a1).bind fun t123 => (some (x7_1, t123))) else (some (x7_1, false))) = some (r1, r2) := H; have A13 := Aside0.mk A130; clear A130
        by_cases c14 : t122 = true
        ·subst c14; have H1 : ((slices_isNaN_string.f a1).bind fun t123 => (some (x7_1, t123))) = some (r1, r2) := by rw [if_pos rfl] at H; exact H
         clear H; have H := H1; clear H1; replace H := Option.bind_eq_some_iff.mp H; obtain ⟨t123, A150, H⟩ := H; replace H : (some (x7_1, t123)) = some (r1, r2) := H; have A15 := Aside0.mk A150; clear A150; simp only [Option.some.injEq, Prod.mk.injEq] at H; obtain ⟨rfl, rfl⟩ := H; have p120 : 0 ≤ (x7_1 : Int) := of_decide_eq_true z18; have q120 : x7_1 < (l0.length : Int) := of_decide_eq_true z18; obtain ⟨ad120, e120, hx120_0⟩ := Kd.at_string HR0.out x7_1 p120 q120; cases e120; replace p120 := eq_true p120; replace q120 := eq_true q120; have p121 : 0 ≤ (x7_1 : Int) := of_decide_eq_true z18; have q121 : x7_1 < (l0.length : Int) := of_decide_eq_true z18; obtain ⟨ad121, e121, hx121_0⟩ := Kd.at_string HR0.out x7_1 p121 q121; obtain rfl : ad120 = ad121 := (by injection e121); replace p121 := eq_true p121; replace q121 := eq_true q121; go_wp2_with (first | (go_at_call 98; (with_reducible refine (slices_isNaN_string.calls (rdOf ByteArray.empty l0 x7_1) true _ A13.out).mono ?_); rintro e w' ⟨rfl, ⟨nd, rfl⟩⟩) | (go_at_call 98; (with_reducible refine (slices_isNaN_string.calls a1 t123 _ A15.out).mono ?_); rintro e w' ⟨rfl, ⟨nd, rfl⟩⟩))
         go_ret2
         exact ⟨z41, z63⟩
        ·replace c14 := Bool.eq_false_iff.mpr c14; subst c14; have H1 : (some (x7_1, false)) = some (r1, r2) := by rw [if_neg (show ¬ (false = true) by decide)] at H; exact H
         clear H; have H := H1; clear H1; simp only [Option.some.injEq, Prod.mk.injEq] at H; obtain ⟨rfl, rfl⟩ := H; have p120 : 0 ≤ (x7_1 : Int) := of_decide_eq_true z18; have q120 : x7_1 < (l0.length : Int) := of_decide_eq_true z18; obtain ⟨ad120, e120, hx120_0⟩ := Kd.at_string HR0.out x7_1 p120 q120; cases e120; replace p120 := eq_true p120; replace q120 := eq_true q120; have p121 : 0 ≤ (x7_1 : Int) := of_decide_eq_true z18; have q121 : x7_1 < (l0.length : Int) := of_decide_eq_true z18; obtain ⟨ad121, e121, hx121_0⟩ := Kd.at_string HR0.out x7_1 p121 q121; obtain rfl : ad120 = ad121 := (by injection e121); replace p121 := eq_true p121; replace q121 := eq_true q121; go_wp2_with (first | (go_at_call 98; (with_reducible refine (slices_isNaN_string.calls (rdOf ByteArray.empty l0 x7_1) false _ A13.out).mono ?_); rintro e w' ⟨rfl, ⟨nd, rfl⟩⟩))
         go_ret2
         exact ⟨z41, z63⟩
      ·rw [if_neg c11] at H; exact absurd H (by simp)
     ·rw [if_neg c10] at H; exact absurd H (by simp)
    ·rw [if_neg c9] at H; have c9b0 : decide (x7_1 < (l0.length : Int)) = false := decide_eq_false c9; clear c9; simp only [Option.some.injEq, Prod.mk.injEq] at H; obtain ⟨rfl, rfl⟩ := H; go_wp2
     go_ret2
     exact ⟨z41, z63⟩

/-! ### page_Find: function 52 -/
def page_Find.f (k : Nat) (a0_0 : Int) (l0_1 : List ByteArray) (l0_2 : List ByteArray) (l0_3 : List Int) (a1 : ByteArray) : Option (Int × Bool) := (slices_BinarySearch_string_string.f k l0_1 a1).bind fun bt125 => (some (bt125.1, bt125.2))
theorem page_Find.mono : ∀ a0 a1 a2 a3 a4 k, LeO (page_Find.f k a0 a1 a2 a3 a4) (page_Find.f (k + 1) a0 a1 a2 a3 a4) := by
 intro a0 a1 a2 a3 a4 k; unfold page_Find.f
 repeat' first
   | (with_reducible exact slices_BinarySearch_string_string.mono _ _ _)
   | (with_reducible exact LeO.refl _)
   | (with_reducible exact LeO.none _)
   | (with_reducible refine LeO.ite ?_ ?_)
   | (with_reducible refine LeO.bind ?_ (fun _ => ?_))
   | exact slices_BinarySearch_string_string.mono _ _ _
   | exact LeO.none _
   | refine LeO.ite ?_ ?_
   | refine LeO.bind ?_ (fun _ => ?_)
set_option maxHeartbeats 8000000 in
set_option maxRecDepth 100000 in
theorem page_Find.calls (k : Nat) (a0_0 : Int) (A0_1 : Option Addr) (c0_1 : Nat) (l0_1 : List ByteArray) (A0_2 : Option Addr) (c0_2 : Nat) (l0_2 : List ByteArray) (A0_3 : Option Addr) (c0_3 : Nat) (l0_3 : List Int) (a1 : ByteArray) (r1 : Int) (r2 : Bool) (w : World) (hr0_1 : Kd.C Kd.string w A0_1 l0_1.length l0_1) (hc0_1 : l0_1.length ≤ c0_1) (hr0_2 : Kd.C Kd.string w A0_2 l0_2.length l0_2) (hc0_2 : l0_2.length ≤ c0_2) (hr0_3 : Kd.C (Kd.int .i64) w A0_3 l0_3.length l0_3) (hc0_3 : l0_3.length ≤ c0_3) (h : page_Find.f k a0_0 l0_1 l0_2 l0_3 a1 = some (r1, r2)) :
  Calls Tryd.prog 52 #[.agg #[.int .i64 a0_0, .slice A0_1 l0_1.length c0_1, .slice A0_2 l0_2.length c0_2, .slice A0_3 l0_3.length c0_3], .string a1] w fun e w' => e = .returned (.tuple #[.int .i64 r1, .bool r2]) ∧ Below w.heap.size w w' := by
 have hu69 := Tryd.underlying69; have HR0_1 := Aside0.mk hr0_1; have HC0_1 := Aside0.mk hc0_1; clear hr0_1 hc0_1; have HR0_2 := Aside0.mk hr0_2; have HC0_2 := Aside0.mk hc0_2; clear hr0_2 hc0_2; have HR0_3 := Aside0.mk hr0_3; have HC0_3 := Aside0.mk hc0_3; clear hr0_3 hc0_3; have HB := Aside0.mk (Below.refl w.heap.size w); have H : ((slices_BinarySearch_string_string.f k l0_1 a1).bind fun bt125 => (some (bt125.1, bt125.2))) = some (r1, r2) := h; clear h; replace H := Option.bind_eq_some_iff.mp H; obtain ⟨⟨t125, t126⟩, A30, H⟩ := H; replace H : (some (t125, t126)) = some (r1, r2) := H; have A3 := Aside0.mk A30; clear A30; simp only [Option.some.injEq, Prod.mk.injEq] at H; obtain ⟨rfl, rfl⟩ := H; go_enter Tryd.func52, Tryd.ntmps52
 go_wp2_with (first | ((with_reducible refine gate_dst (N := 2) rfl ?_); refine box_event ?hg (N := 2) ?hd (cs := #[.int .i64 a0_0, .slice A0_1 l0_1.length c0_1, .slice A0_2 l0_2.length c0_2, .slice A0_3 l0_3.length c0_3]) (t := 69) ?hr ?_; (case hd => rfl); (case hg => rfl); (case hr => exact z100); intro gb124 hg w4 hbox hb; have n0_ := Aside0.mk (below_step z19 hb); have n1_ := Aside0.mk (hbox); have n2_ := Aside0.mk ((by rw [hg]; exact (below_size z19) : w.heap.size ≤ gb124)); have n3_ := Aside0.mk ((by rw [hg]; exact (below_size z19) : w.heap.size ≤ gb124)); clear HB; have HB := n0_; have BK124 := n1_; have GW124 := n2_; have GE124 := n3_; clear n0_ n1_ n2_ n3_; clear hb hbox hg; have hcz5_0 : w4.cell? ⟨gb124, 0, none⟩ = some (.int .i64 a0_0) := (blk_cell BK124.out 0).trans rfl; have hcz5_1 : w4.cell? ⟨gb124, 1, none⟩ = some (.slice A0_1 l0_1.length c0_1) := (blk_cell BK124.out 1).trans rfl; have hcz5_2 : w4.cell? ⟨gb124, 2, none⟩ = some (.slice A0_2 l0_2.length c0_2) := (blk_cell BK124.out 2).trans rfl; have hcz5_3 : w4.cell? ⟨gb124, 3, none⟩ = some (.slice A0_3 l0_3.length c0_3) := (blk_cell BK124.out 3).trans rfl; have hfz5_0 := blk_frozen BK124.out 0; have hfz5_1 := blk_frozen BK124.out 1; have hfz5_2 := blk_frozen BK124.out 2; have hfz5_3 := blk_frozen BK124.out 3) | ((with_reducible refine gate_callee (f := 74) rfl ?_); refine goesL_ (some 9) rfl rfl Tryd.func74 (by kernel_rfl) rfl #[.slice A0_1 l0_1.length c0_1, .string a1] rfl z15 ?_; (with_reducible refine (slices_BinarySearch_string_string.calls k _ _ l0_1 a1 t125 t126 _ ?side1 ?side2 A3.out).mono ?_); (case side1 => repeat (first | exact (Kd.C_below HR0_1.out HB.out) | (with_reducible refine Kd.C_alloc ?_ _) | (with_reducible refine Kd.C_drewN ?_ _) | (with_reducible refine Kd.C_drew ?_))); (case side2 => exact HC0_1.out); rintro e w' ⟨rfl, ⟨nd, rfl⟩⟩; refine ⟨_, rfl, ?_⟩))
 go_ret2
 exact ⟨z21, by repeat (first | (with_reducible first | exact HB.out | apply below_alloc | apply pw_below_drewN | apply below_drew1 | refine below_set ?_ GE124.out) | exact HB.out)⟩
-- @GIVEN slices_Clone_string_string
/-! ### slices_Clone_string_string: by hand -/
def slices_Clone_string_string.f (l0 : List ByteArray) : Option (List ByteArray) := if l0.length < 8796093022208 then some l0 else none
theorem infoC_string_ : (Tryd.prog.info? 9).map (fun i => (i.zero, i.size, i.bytes)) = some (some (.string ⟨#[]⟩), 1, 16) := by kernel_rfl
set_option maxHeartbeats 4000000 in
set_option maxRecDepth 100000 in
theorem slices_Clone_string_string.calls (A0 : Option Addr) (c0 : Nat) (l0 : List ByteArray) (r : List ByteArray) (w : World) (hr0 : Kd.C Kd.string w A0 l0.length l0) (hc0 : l0.length ≤ c0) (h : slices_Clone_string_string.f l0 = some r) :
    Calls Tryd.prog 59 #[.slice A0 l0.length c0] w fun e w' => ∃ v0_ : Value, e = .returned (v0_) ∧ Kd.R Kd.string 9 w' w.heap.size (fun _ => True) v0_ r ∧ Below w.heap.size w w' := by
  unfold slices_Clone_string_string.f at h
  by_cases hl : l0.length < 8796093022208
  case neg => rw [if_neg hl] at h; cases h
  rw [if_pos hl] at h; obtain rfl := Option.some.inj h; have HR0 := Aside0.mk hr0; have HL := Aside0.mk hl; clear h hl; cases A0 with
  | none =>
    have hn : l0 = [] := by
      rcases l0 with _ | ⟨x, l⟩
      · rfl
      · obtain ⟨ad, e, _⟩ := Kd.at_string hr0 0 (by omega) (by simp); cases e
    subst hn; clear hr0; have hne : ∀ (n : Nat) (W : World), (binOp BinOp.eql 42 (.slice none n c0) (.slice none 0 0)).run Tryd.prog W = .ok (.bool true) W := fun n W => by
      first | rfl | (simp [binOp]; rfl) | (simp [binOp]; done) | go_simp
    go_enter Tryd.func59, Tryd.ntmps59
    go_wp2
    go_ret
    exact ⟨_, rfl, Kd.R_nil _ _ _ _ _, Below.refl _ _⟩
  | some ad =>
    clear hr0; have hne : ∀ (n : Nat) (W : World), (binOp BinOp.eql 42 (.slice (some ad) n c0) (.slice none 0 0)).run Tryd.prog W = .ok (.bool false) W := fun n W => by
      first | rfl | (simp [binOp]; rfl) | (simp [binOp]; done) | go_simp
    go_enter Tryd.func59, Tryd.ntmps59
    go_wp2_with (first
      | ((with_reducible refine gate_dst (N := 5) rfl ?_); refine Kd.R_lit Kd.string w.heap.size 9 ?hg (N := 5) ?hd (xs := ([] : List ByteArray)) (inner := []) (ok := fun _ => True) (okp := fun _ => True) ?hr ?hp (fun _ hk => hk) trivial (Below.refl _ _) (Nat.le_refl _) (by simp) ?_; (case hd => rfl); (case hg => rfl); (case hr => exact z100); (case hp => exact (Reps.none _ _)); intro v5 w5 ho5 hb5 _ _; have HO5 := Aside0.mk ho5; have HB5 := Aside0.mk hb5; clear ho5 hb5)
      | ((with_reducible refine gate_builtin (b := .append) (xs := #[.tmp 5, .tmp 6]) rfl ?_); at_builtin; refine Kd.R_append_rows Kd.string (w0 := w) w.heap.size rfl (.tmp 5) (.tmp 6) 42 9 (.string ⟨#[]⟩) 16 rfl Tryd.underlying42 infoC_string_ rfl (by decide) (by omega) v5 [] l0 (some ad) _ _ (fun _ => True) (fun _ => False) rfl rfl HO5.out (Kd.C_below HR0.out HB5.out) (fun _ _ h => h) (fun _ h => h.elim) (fun _ _ => trivial) HB5.out HB5.out.size (by have := HL.out; simp only [List.length_nil]; omega) ?_; intro v7 w7 ho7 hb7 _ _; have HO7 := Aside0.mk ho7; have HB7 := Aside0.mk hb7; clear ho7 hb7))
    go_ret
    exact ⟨_, rfl, HO7.out, HB7.out⟩
-- @GIVEN lib_ins
theorem setCells_blk {g : Nat} {t : TypeId} : ∀ (vs : List Value) (o : Nat) (w : World) (cs : Array Value), w.heap[g]? = some (.cells cs t (0, 0)) → ∃ cs', (w.setCells g o vs).heap[g]? = some (.cells cs' t (0, 0)) ∧ cs'.size = cs.size
  | [], _, _, cs, h => ⟨cs, h, rfl⟩
  | v :: vs, o, w, cs, h => by
    obtain ⟨cs', h1, h2⟩ := setCells_blk vs (o + 1) (w.setCell ⟨g, o, none⟩ v) _ (blk_set h o v); exact ⟨cs', h1, h2.trans (by simp)⟩
theorem setCells_size (g : Nat) : ∀ (vs : List Value) (o : Nat) (w : World), (w.setCells g o vs).heap.size = w.heap.size
  | [], _, _ => rfl
  | v :: vs, o, w => (setCells_size g vs (o + 1) (w.setCell ⟨g, o, none⟩ v)).trans (by simp)
theorem setCells_far (g k : Nat) (hne : k ≠ g) : ∀ (vs : List Value) (o : Nat) (w : World), (w.setCells g o vs).heap[k]? = w.heap[k]?
  | [], _, _ => rfl
  | v :: vs, o, w => (setCells_far g k hne vs (o + 1) (w.setCell ⟨g, o, none⟩ v)).trans (Below.heap_setCell w ⟨g, o, none⟩ v k hne)
theorem setCells_world (g : Nat) : ∀ (vs : List Value) (o : Nat) (w : World), (w.setCells g o vs).os = w.os ∧ (w.setCells g o vs).tape = w.tape ∧ (w.setCells g o vs).output = w.output
  | [], _, _ => ⟨rfl, rfl, rfl⟩
  | v :: vs, o, w => setCells_world g vs (o + 1) (w.setCell ⟨g, o, none⟩ v)
/-- A row of the call's own, told by its cells. -/
theorem own_of_cells {w : World} {B e g n cap : Nat} {cur : Array Value} {inner : List Value} (hB : B ≤ g) (hg : w.heap[g]? = some (.cells cur e (0, 0))) (hn : n ≤ cap) (hc : cap ≤ maxLen) (hs : cur.size = cap) (hl : inner.length = n) (hcell : ∀ (j : Nat) (u : Value), inner[j]? = some u → w.cell? ⟨g, j, none⟩ = some u) : w.ownsRow B e 1 (.slice (some ⟨g, 0, none⟩) n cap) n inner := by
  refine ⟨by omega, .inr ⟨g, cap, cur, rfl, hB, hg, hn, hc, by omega, ?_⟩⟩; apply List.ext_getElem?; intro j
  by_cases hj : j < n
  · rw [List.getElem?_take, if_pos (by omega)]; have h1 := hcell j _ (List.getElem?_eq_getElem (by omega : j < inner.length)); rw [blk_cell hg j] at h1; rw [List.getElem?_eq_getElem (by omega : j < inner.length), ← h1, Array.getElem?_toList]
  · rw [List.getElem?_eq_none (by rw [List.length_take]; omega), List.getElem?_eq_none (by omega)]
theorem reps_scalar {α : Type} {w : World} {base : Nat} {ok : Nat → Prop} (enc : α → Value) (h1 : ∀ x, (enc x).oneCell' = true) : ∀ {xs : List α} {inner : List Value}, Reps ((Kd.scalar enc h1).M w base ok) 1 xs inner → inner = xs.map enc := by
  intro xs inner h; apply List.ext_getElem?; intro j
  by_cases hj : j < xs.length
  · have hx := h.2 j _ (List.getElem?_eq_getElem hj); have hx' : (inner.drop (j * 1)).take 1 = [enc xs[j]] := hx; have h3 : inner[j]? = some (enc xs[j]) := by
      have := congrArg (fun l => l[0]?) hx'
      simpa using this
    rw [h3, List.getElem?_map, List.getElem?_eq_getElem hj]; rfl
  · have hl := h.1; rw [List.getElem?_eq_none (by omega), List.getElem?_eq_none (by simp; omega)]
theorem reps_of_scalar {α : Type} {w : World} {base : Nat} {ok : Nat → Prop} (enc : α → Value) (h1 : ∀ x, (enc x).oneCell' = true) (xs : List α) : Reps ((Kd.scalar enc h1).M w base ok) 1 xs (xs.map enc) := by
  refine ⟨by simp, fun j p hp => ?_⟩
  show ((xs.map enc).drop (j * 1)).take 1 = [enc p]
  have hj : j < xs.length := by
    rcases Nat.lt_or_ge j xs.length with h | h
    · exact h
    · rw [List.getElem?_eq_none h] at hp; cases hp
  rw [List.getElem?_eq_getElem hj] at hp; obtain rfl := Option.some.inj hp; rw [Nat.mul_one, ← List.map_drop, List.drop_eq_getElem_cons hj]; rfl
theorem ins_get {α : Type} (l : List α) (i : Nat) (x : α) (hi : i ≤ l.length) (j : Nat) : (l.take i ++ x :: l.drop i)[j]? = if j < i then l[j]? else if j = i then some x else l[j - 1]? := by
  by_cases h1 : j < i
  · rw [if_pos h1, List.getElem?_append_left (by rw [List.length_take]; omega), List.getElem?_take, if_pos h1]
  · rw [if_neg h1, List.getElem?_append_right (by rw [List.length_take]; omega), List.length_take, Nat.min_eq_left hi]
    by_cases h2 : j = i
    · rw [if_pos h2, h2, Nat.sub_self]; rfl
    · rw [if_neg h2, show j - i = (j - i - 1) + 1 by omega, List.getElem?_cons_succ, List.getElem?_drop]
      congr 1; omega
-- @GIVEN slices_Insert_string_string
/-! ### slices_Insert_string_string: by hand -/
def slices_Insert_string_string.f (l0 : List ByteArray) : Option (List ByteArray) := some l0
def layI_ren : Go.Shelf.Ren := ⟨fun | 22 => 60 | 29 => 86 | 30 => 87 | 36 => 107 | 17 => 125 | n => n, fun | 0 => 0 | 3 => 3 | 4 => 4 | 9 => 9 | 24 => 42 | n => n, fun | n => n⟩
theorem layI : Go.Proofs.Lays2.n22 Tryd.prog layI_ren := {
  mixed := by kernel_rfl
  f22 := Tryd.func60.trans (congrArg some (by kernel_rfl))
  f29 := Tryd.func86.trans (congrArg some (by kernel_rfl))
  f30 := Tryd.func87.trans (congrArg some (by kernel_rfl))
  f36 := Tryd.func107.trans (congrArg some (by kernel_rfl))
  f17 := Tryd.func125.trans (congrArg some (by kernel_rfl))
  t0 := Tryd.underlying0
  a0 := Tryd.isAgg0
  z0 := Tryd.sizeOf0
  v0 := Tryd.zeroValue0
  t3 := Tryd.underlying3
  a3 := Tryd.isAgg3
  z3 := Tryd.sizeOf3
  v3 := Tryd.zeroValue3
  t4 := Tryd.underlying4
  a4 := Tryd.isAgg4
  z4 := Tryd.sizeOf4
  v4 := Tryd.zeroValue4
  t9 := Tryd.underlying9
  a9 := Tryd.isAgg9
  z9 := Tryd.sizeOf9
  v9 := Tryd.zeroValue9
  t24 := Tryd.underlying42
  a24 := Tryd.isAgg42
  z24 := Tryd.sizeOf42
  v24 := Tryd.zeroValue42
  i9 := by kernel_rfl }
theorem enc1_string (l : List ByteArray) : ∀ v ∈ l.map Value.string, v.oneCell' = true := by
  intro v hv; obtain ⟨x, _, rfl⟩ := List.mem_map.1 hv; rfl
theorem zc_string (m : Nat) : (Builtin.zeroCells (Value.string ⟨#[]⟩).cells m).size = m := by
  rw [size_zeroCells]; show m * 1 = m; omega
/-- slices.Insert of one value into a row of the call's own. -/
theorem ins_string (B : Nat) (ok : Nat → Prop) (A : Option Addr) (c n i : Nat) (xs : List ByteArray) (x : ByteArray) (vb : Nat) (W : World) (hR : Kd.R Kd.string 9 W B ok (.slice A n c) xs) (hn : xs.length = n) (hBW : B ≤ W.heap.size) (hi : i ≤ n) (hN : n ≤ 1000) (hvb : W.heap[vb]? = some (.cells #[.string x] 9 (0, 0))) (hne : (Value.slice A n c).ownBlock ≠ some vb) :
    Calls Tryd.prog 60 #[.slice A n c, .int .i64 (i : Int), .slice (some ⟨vb, 0, none⟩) 1 1] W fun e w' => (∃ v', e = .returned v' ∧ Kd.R Kd.string 9 w' B (fun k => ok k ∨ W.heap.size ≤ k) v' (xs.take i ++ x :: xs.drop i)) ∧ W.grownBy w' (Value.slice A n c).ownBlock ∧ W.heap.size ≤ w'.heap.size := by
  subst hn; obtain ⟨hok, inner, hown, hreps⟩ := hR; obtain rfl := reps_scalar Value.string (fun _ => rfl) hreps; have hvs : ∀ (j : Nat) (v : Value), ([.string x] : List Value)[j]? = some v → W.cell? ⟨vb, 0 + j, none⟩ = some v := fun j v hj => by
    rw [Nat.zero_add, blk_cell hvb j]
    simpa using hj
  have h1v : ∀ v ∈ ([.string x] : List Value), v.oneCell' = true := fun v hv => by rw [List.mem_singleton.1 hv]; rfl
  have hlast : (xs.take i ++ x :: xs.drop i).map Value.string = (xs.map Value.string).take i ++ .string x :: (xs.map Value.string).drop i := by simp
  have hll : (xs.take i ++ x :: xs.drop i).length = xs.length + 1 := by simp; omega
  have fin : ∀ (w' : World) (g' cap' : Nat), w'.ownsRow B 9 1 (.slice (some ⟨g', 0, none⟩) (xs.length + 1) cap') (xs.length + 1) ((xs.map Value.string).take i ++ .string x :: (xs.map Value.string).drop i) → (ok g' ∨ W.heap.size ≤ g') → Kd.R Kd.string 9 w' B (fun k => ok k ∨ W.heap.size ≤ k) (.slice (some ⟨g', 0, none⟩) (xs.length + 1) cap') (xs.take i ++ x :: xs.drop i) := fun w' g' cap' h1 h2 =>
    ⟨fun k hk => by simp [Value.ownBlock] at hk; subst hk; exact h2, (xs.take i ++ x :: xs.drop i).map Value.string, by rw [hll, hlast]; exact h1, reps_of_scalar Value.string (fun _ => rfl) _⟩
  have hlen : (xs.map Value.string).length = xs.length := by simp
  have hvlt : vb < W.heap.size := blk_lt hvb; rcases hown.2 with ⟨hv, h0⟩ | ⟨g, cap, cur, hv, hBg, hg, hnc, hcm, hcs, htake⟩
  · -- nil
    injection hv with e1 e2 e3
    subst e1 e3; obtain rfl : xs = [] := List.eq_nil_of_length_eq_zero h0; obtain rfl : i = 0 := by simpa using hi
    refine (Go.Proofs.Any2.slices_Insert_string_end_grow (P := Tryd.prog) (ρ := layI_ren) layI none 0 0 vb 0 1 1 [] [.string x] W (by omega) (by omega) (by omega) (by omega) rfl rfl (fun _ => rfl) (fun a ha => by cases ha) hvs h1v).mono ?_; rintro e w' ⟨rfl, rfl⟩; refine ⟨⟨_, rfl, fin _ W.heap.size _ ?_ (.inr (Nat.le_refl _))⟩, ⟨rfl, rfl, rfl, by simp, fun k hk _ => Below.heap_alloc W.drew _ k hk⟩, by simp⟩; refine ⟨by simp, .inr ⟨W.heap.size, _, _, rfl, hBW, heap_alloc_new W.drew _, grownCap_ge W (0 + 1) 0 9, grownCap_le_maxLen W (0 + 1) 0 9 (by unfold maxLen; omega), ?_, ?_⟩⟩
    · have h5 := grownCap_ge W (0 + 1) 0 9; rw [show (layI_ren.t 9) = 9 from rfl]; generalize grownCap W (0 + 1) 0 9 = G at *; rw [Array.size_append, zc_string]
      show 1 + (G - (0 + 1)) = G * 1
      omega
    · simp
  · injection hv with e1 e2 e3
    subst e1 e3; have hcs : cur.size = c * 1 := hcs; have hcl : cur.size = c := by omega
    have hcells : ∀ (j : Nat) (v : Value), (xs.map Value.string)[j]? = some v → W.cell? ⟨g, 0 + j, none⟩ = some v := fun j v hj => by
      have := hown.cells (g := g) rfl j v hj; rw [Addr.add_lit, Nat.zero_add] at this
      rwa [Nat.zero_add]
    have hgv : vb ≠ g := fun e => hne (by simp [Value.ownBlock, e])
    have hokg : ok g := hok g (by simp [Value.ownBlock]); have hisS : ∀ (j : Nat), j < c → (W.cell? ⟨g, 0 + j, none⟩).isSome = true := fun j hj => by
      rw [Nat.zero_add, blk_cell hg j, Array.getElem?_eq_getElem (by omega)]; rfl
    have hfz : ∀ (j : Nat), W.frozen? ⟨g, j, none⟩ = false := fun j => blk_frozen hg j
    by_cases hroom : xs.length + 1 ≤ c
    · by_cases hin : i < xs.length
      · refine (Go.Proofs.Any2.slices_Insert_string_shift (P := Tryd.prog) (ρ := layI_ren) layI g 0 xs.length c i vb 0 1 1 (xs.map Value.string) [.string x] W hin (by omega) hroom (by unfold maxLen at hcm; omega) hgv hlen rfl hcells (fun j hj => hisS j (by omega)) (fun j _ => by rw [Nat.zero_add]; exact hfz j) hvs (enc1_string xs) h1v 9 9 1 c (by simp [World.shape?, hvb]) (by simp [World.shape?, hg, hcl]) (by omega) (blk_frozen hvb 0) (blk_frozen hvb 1)).mono ?_; rintro e w' ⟨rfl, rfl⟩; obtain ⟨c1, hb1, hs1⟩ := setCells_blk ((xs.map Value.string).drop i) (0 + (i + 1)) W.drew cur hg; obtain ⟨c2, hb2, hs2⟩ := setCells_blk [.string x] (0 + i) (W.drew.setCells g (0 + (i + 1)) ((xs.map Value.string).drop i)) c1 hb1; refine ⟨⟨_, rfl, fin _ g _ (own_of_cells hBg hb2 hroom hcm (by omega) (by simp; omega) ?_) (.inl hokg)⟩, ⟨?_, ?_, ?_, ?_, ?_⟩, ?_⟩
        · intro j u hj; rw [ins_get (xs.map Value.string) i (.string x) (by omega) j] at hj; have hS1 : ∀ (q : Nat), q < ((xs.map Value.string).drop i).length → (W.drew.cell? ⟨g, 0 + (i + 1) + q, none⟩).isSome = true := fun q hq => by
            have := hisS (i + 1 + q) (by simp at hq; omega); rw [Nat.zero_add] at this ⊢; exact this
          by_cases h1 : j < i
          · rw [if_pos h1] at hj; rw [World.cell?_setCells_out g _ _ _ _ (fun _ _ => by show j < 0 + i ∨ _; omega), World.cell?_setCells_out g _ _ _ _ (fun _ _ => by show j < 0 + (i + 1) ∨ _; omega)]; have := hcells j u hj; rw [Nat.zero_add] at this; exact this
          · rw [if_neg h1] at hj
            by_cases h2 : j = i
            · rw [if_pos h2] at hj; subst h2
              have h3 := World.cell?_setCells_in g [.string x] (0 + j) (W.drew.setCells g (0 + (j + 1)) ((xs.map Value.string).drop j)) (fun q hq => by
                obtain rfl : q = 0 := by simpa using hq
                rw [World.cell?_setCells_out g _ _ _ _ (fun _ _ => by show 0 + j + 0 < 0 + (j + 1) ∨ _; omega)]
                exact hisS j (by omega)) 0 (by simp)
              rw [show 0 + j + 0 = j by omega] at h3; rw [h3]
              simpa using hj
            · rw [if_neg h2] at hj; rw [World.cell?_setCells_out g _ _ _ _ (fun _ _ => by show j < 0 + i ∨ 0 + i + 1 ≤ j; omega)]; have hjl : j - 1 < xs.length := by
                rcases Nat.lt_or_ge (j - 1) xs.length with h | h
                · exact h
                · rw [List.getElem?_eq_none (by simpa using h)] at hj; cases hj
              have h3 := World.cell?_setCells_in g ((xs.map Value.string).drop i) (0 + (i + 1)) W.drew hS1 (j - 1 - i) (by simp; omega); rw [show 0 + (i + 1) + (j - 1 - i) = j by omega] at h3; rw [h3, ← List.getElem?_eq_getElem, List.getElem?_drop, show i + (j - 1 - i) = j - 1 by omega]; exact hj
        · rw [(setCells_world g _ _ _).1, (setCells_world g _ _ _).1]; rfl
        · rw [(setCells_world g _ _ _).2.1, (setCells_world g _ _ _).2.1]; rfl
        · rw [(setCells_world g _ _ _).2.2, (setCells_world g _ _ _).2.2]; rfl
        · rw [setCells_size, setCells_size]; exact Nat.le_refl _
        · intro k hk hk2; have : k ≠ g := fun e => hk2 (by simp [Value.ownBlock, e])
          rw [setCells_far g k this, setCells_far g k this]; rfl
        · rw [setCells_size, setCells_size]; exact Nat.le_refl _
      · obtain rfl : i = xs.length := by omega
        refine (Go.Proofs.Any2.slices_Insert_string_end_room (P := Tryd.prog) (ρ := layI_ren) layI g 0 xs.length c vb 0 1 1 [.string x] W (by omega) hroom (by unfold maxLen at hcm; omega) rfl (fun j hj => by have := hisS (xs.length + j) (by omega); rw [Nat.zero_add] at this ⊢; exact this) (fun j _ => hfz _) hvs h1v).mono ?_; rintro e w' ⟨rfl, rfl⟩; obtain ⟨c2, hb2, hs2⟩ := setCells_blk [.string x] (0 + xs.length) W cur hg; refine ⟨⟨_, rfl, fin _ g _ (own_of_cells hBg hb2 hroom hcm (by omega) (by simp) ?_) (.inl hokg)⟩, ⟨?_, ?_, ?_, ?_, ?_⟩, ?_⟩
        · intro j u hj; rw [ins_get (xs.map Value.string) xs.length (.string x) (by omega) j] at hj
          by_cases h1 : j < xs.length
          · rw [if_pos h1] at hj; rw [World.cell?_setCells_out g _ _ _ _ (fun _ _ => by show j < 0 + xs.length ∨ _; omega)]; have := hcells j u hj; rw [Nat.zero_add] at this; exact this
          · rw [if_neg h1] at hj
            by_cases h2 : j = xs.length
            · rw [if_pos h2] at hj; subst h2
              have h3 := World.cell?_setCells_in g [.string x] (0 + xs.length) W (fun q hq => by
                obtain rfl : q = 0 := by simpa using hq
                exact hisS xs.length (by omega)) 0 (by simp)
              rw [show 0 + xs.length + 0 = xs.length by omega] at h3; rw [h3]
              simpa using hj
            · rw [if_neg h2, List.getElem?_eq_none (by simp; omega)] at hj; cases hj
        · rw [(setCells_world g _ _ _).1]
        · rw [(setCells_world g _ _ _).2.1]
        · rw [(setCells_world g _ _ _).2.2]
        · rw [setCells_size]; exact Nat.le_refl _
        · intro k hk hk2; have : k ≠ g := fun e => hk2 (by simp [Value.ownBlock, e])
          rw [setCells_far g k this]
        · rw [setCells_size]; exact Nat.le_refl _
    · by_cases hin : i < xs.length
      · refine (Go.Proofs.Any2.slices_Insert_string_grow (P := Tryd.prog) (ρ := layI_ren) layI g 0 xs.length c i vb 0 1 1 (xs.map Value.string) [.string x] W hin (by omega) hnc (by omega) (by omega) hlen rfl hcells hvs (enc1_string xs) h1v).mono ?_; rintro e w' ⟨rfl, rfl⟩; rw [show (layI_ren.t 9) = 9 from rfl]; have hge := grownCap_ge W (xs.length + 1) c 9; have hle := grownCap_le_maxLen W (xs.length + 1) c 9 (by unfold maxLen; omega); obtain ⟨row, hrow⟩ : ∃ row : Array Value, ((xs.map Value.string).take i).toArray ++ Builtin.zeroCells (Value.string ⟨#[]⟩).cells (xs.length + 1 - i) ++ Builtin.zeroCells (Value.string ⟨#[]⟩).cells (grownCap W (xs.length + 1) c 9 - (xs.length + 1)) = row := ⟨_, rfl⟩
        have hrs : row.size = grownCap W (xs.length + 1) c 9 := by
          rw [← hrow, Array.size_append, Array.size_append, zc_string, zc_string, List.size_toArray, List.length_take, hlen]; omega
        have hrc : ∀ (j : Nat), j < i → row[j]? = (xs.map Value.string)[j]? := fun j hj => by
          rw [← hrow, Array.append_assoc, Array.getElem?_append_left (by simp; omega)]; simp [hj]
        generalize grownCap W (xs.length + 1) c 9 = G at *; have hbase : (W.alloc (.cells row 9)).drew.heap[W.heap.size]? = some (.cells row 9 (0, 0)) := heap_alloc_new W _
        show (∃ v', _ ∧ _) ∧ _
        rw [hrow]; obtain ⟨c1, hb1, hs1⟩ := setCells_blk [.string x] i _ row hbase; obtain ⟨c2, hb2, hs2⟩ := setCells_blk ((xs.map Value.string).drop i) (i + 1) ((W.alloc (.cells row 9)).drew.setCells W.heap.size i [.string x]).drew c1 hb1; refine ⟨⟨_, rfl, fin _ W.heap.size _ (own_of_cells hBW hb2 hge hle (by omega) (by simp; omega) ?_) (.inr (Nat.le_refl _))⟩, ⟨?_, ?_, ?_, ?_, ?_⟩, ?_⟩
        · intro j u hj; rw [ins_get (xs.map Value.string) i (.string x) (by omega) j] at hj
          by_cases h1 : j < i
          · rw [if_pos h1] at hj; rw [World.cell?_setCells_out W.heap.size _ _ _ _ (fun _ _ => by show j < i + 1 ∨ _; omega)]
            show (World.setCells _ _ _ _).cell? _ = _
            rw [World.cell?_setCells_out W.heap.size _ _ _ _ (fun _ _ => by show j < i ∨ _; omega), blk_cell hbase j, hrc j h1]; exact hj
          · rw [if_neg h1] at hj
            by_cases h2 : j = i
            · rw [if_pos h2] at hj; subst h2; rw [World.cell?_setCells_out W.heap.size _ _ _ _ (fun _ _ => by show j < j + 1 ∨ _; omega)]
              have h3 := World.cell?_setCells_in W.heap.size [.string x] j (W.alloc (.cells row 9)).drew (fun q hq => by
                obtain rfl : q = 0 := by simpa using hq
                rw [blk_cell hbase, Array.getElem?_eq_getElem (by omega)]; rfl) 0 (by simp)
              rw [Nat.add_zero] at h3; refine h3.trans ?_
              simpa using hj
            · rw [if_neg h2] at hj; have hjl : j - 1 < xs.length := by
                rcases Nat.lt_or_ge (j - 1) xs.length with h | h
                · exact h
                · rw [List.getElem?_eq_none (by simpa using h)] at hj; cases hj
              have h3 := World.cell?_setCells_in W.heap.size ((xs.map Value.string).drop i) (i + 1) ((W.alloc (.cells row 9)).drew.setCells W.heap.size i [.string x]).drew (fun q hq => by
                have hb1' : ((W.alloc (.cells row 9)).drew.setCells W.heap.size i [.string x]).drew.heap[W.heap.size]? = some (.cells c1 9 (0, 0)) := hb1
                rw [blk_cell hb1', Array.getElem?_eq_getElem (by simp at hq; omega)]; rfl) (j - 1 - i) (by simp; omega)
              rw [show i + 1 + (j - 1 - i) = j by omega] at h3; rw [h3, ← List.getElem?_eq_getElem, List.getElem?_drop, show i + (j - 1 - i) = j - 1 by omega]; exact hj
        · rw [(setCells_world _ _ _ _).1]; show (World.setCells _ _ _ _).os = _; rw [(setCells_world _ _ _ _).1]; rfl
        · rw [(setCells_world _ _ _ _).2.1]; show (World.setCells _ _ _ _).tape = _; rw [(setCells_world _ _ _ _).2.1]; rfl
        · rw [(setCells_world _ _ _ _).2.2]; show (World.setCells _ _ _ _).output = _; rw [(setCells_world _ _ _ _).2.2]; rfl
        · rw [setCells_size]; show _ ≤ (World.setCells _ _ _ _).heap.size; rw [setCells_size]; simp
        · intro k hk _; rw [setCells_far W.heap.size k (by omega)]
          show (World.setCells _ _ _ _).heap[k]? = _
          rw [setCells_far W.heap.size k (by omega)]; exact Below.heap_alloc W _ k hk
        · rw [setCells_size]; show _ ≤ (World.setCells _ _ _ _).heap.size; rw [setCells_size]; simp
      · obtain rfl : i = xs.length := by omega
        refine (Go.Proofs.Any2.slices_Insert_string_end_grow (P := Tryd.prog) (ρ := layI_ren) layI (some ⟨g, 0, none⟩) xs.length c vb 0 1 1 (xs.map Value.string) [.string x] W (by omega) hnc (by omega) (by omega) hlen rfl (fun h => by cases h) (fun a ha j v hj => by injection ha with ha; subst ha; exact hown.cells (g := g) rfl j v hj) hvs h1v).mono ?_; rintro e w' ⟨rfl, rfl⟩; rw [show (layI_ren.t 9) = 9 from rfl]; have hge := grownCap_ge W (xs.length + 1) c 9; refine ⟨⟨_, rfl, fin _ W.heap.size _ ⟨by simp, .inr ⟨W.heap.size, _, _, rfl, hBW, heap_alloc_new W.drew _, hge, grownCap_le_maxLen W (xs.length + 1) c 9 (by unfold maxLen; omega), ?_, ?_⟩⟩ (.inr (Nat.le_refl _))⟩, ⟨rfl, rfl, rfl, by simp, fun k hk _ => Below.heap_alloc W.drew _ k hk⟩, by simp⟩
        · rw [Array.size_append, zc_string, List.size_toArray, List.length_append, List.length_map]
          show xs.length + 1 + (_ - (xs.length + 1)) = _ * 1
          omega
        · simp only [Array.toList_append, List.append_assoc]; rw [show (xs.map Value.string).take xs.length = xs.map Value.string by rw [List.take_of_length_le (by simp)], show (xs.map Value.string).drop xs.length = [] by rw [List.drop_eq_nil_of_le (by simp)], ← List.append_assoc, Nat.mul_one, show xs.length + 1 = (xs.map Value.string ++ [Value.string x]).length by simp]; exact List.take_left
-- @GIVEN lib_rows
/-- append onto an empty row without room: nothing that lay there changes. -/
theorem run_append_fresh {P : Program} (W : World) (base : Nat) (t ty e : TypeId) (i : TypeInfo) (z : Value) (size bytes : Nat) (ht : P.underlying t = some (.slice e)) (hi : P.info? e = some i) (hz : i.zero = some z)
    (hsize : i.size = size) (hby : i.bytes = bytes) (hzs : z.cells.size = size) (hsz : 0 < size)
    (g : Nat) (hg : W.heap[g]? = some (.cells #[] e (0, 0))) (hbg : base ≤ g) (hbase : base ≤ W.heap.size)
    (a : Addr) (m c : Nat) (news : List Value) (hl : news.length = m * size) (hnews : ∀ j u, news[j]? = some u → W.cell? (a.add j) = some u)
    (h63 : m ≤ maxLen) (hbytes : m * bytes ≤ 140737488355328) :
    ∃ v' w', (Builtin.append_ #[t, t] ty #[.slice (some ⟨g, 0, none⟩) 0 0, .slice (some a) m c]).run P W = .ok v' w' ∧ w'.ownsRow base e size v' m news ∧ Below W.heap.size W w' ∧ (v'.ownBlock = some g ∨ v'.ownBlock = some W.heap.size) := by
  subst hsize; subst hby; rcases Nat.eq_zero_or_pos m with rfl | hm
  · have hn : news = [] := List.eq_nil_of_length_eq_zero (by simpa using hl); subst hn; refine ⟨.slice (some ⟨g, 0, none⟩) 0 0, W, ?_, ⟨by simp, .inr ⟨g, 0, #[], rfl, hbg, hg, Nat.le_refl _, by simp [maxLen], by simp, by simp⟩⟩, Below.refl _ _, .inl rfl⟩; simp [Builtin.append_, run_underlying ht, sizeOf, typeInfo, hi, Builtin.lenOf, Builtin.firstCells, loadCells, loadCellsFrom, storeCells]
  · unfold maxLen at h63; have hr := run_append_grow (P := P) W t ty e i z ht hi hz ⟨g, 0, none⟩ 0 0 [] (by simp) (by intro j v h; simp at h) a m c news hl hnews (by omega) (by omega) (growslice_fits (by omega) (by simpa using hbytes)); simp only [Nat.zero_add, List.size_toArray, List.length_nil, Array.empty_append] at hr; refine ⟨_, _, hr, ⟨hl, .inr ⟨W.heap.size, _, _, rfl, hbase, heap_alloc_new W.drew _, grownCap_ge W m 0 e, grownCap_le_maxLen W m 0 e (by unfold maxLen; omega), ?_, ?_⟩⟩, below_alloc (Below.refl _ _).drew _, .inr rfl⟩
    · have hge := grownCap_ge W m 0 e; simp only [Array.size_append, List.size_toArray, size_zeroCells, hzs, hl, List.length_nil, Nat.zero_add, ← Nat.add_mul]
      congr 1
      omega
    · simp only [Array.toList_append, List.nil_append, ← hl]; exact List.take_left
theorem R_append_fresh_step {P : Program} {ops : Array Oper} {o : Oper} {a : Act} {Q : Exit → Act → World → Prop} {Kc : Act → World → Prop} {α : Type} (d : Kd α) {W : World} (base : Nat) (hw : Region.wanted o (yielded ops a.tmps) = true) (s x : Operand) (t e : TypeId) (z : Value) (bytes : Nat)
    (ho : o.op = .call { callee := .builtin .append, args := #[s, x], argTypes := #[t, t] })
    (ht : P.underlying t = some (.slice e)) (hinfo : (P.info? e).map (fun i => (i.zero, i.size, i.bytes)) = some (some z, d.sz, bytes)) (hz : z.cells.size = d.sz) (hs0 : 0 < d.sz) (hb0 : 0 < bytes)
    (g : Nat) (ys : List α) (A : Option Addr) (m c : Nat) (hs : a.eval s = .slice (some ⟨g, 0, none⟩) 0 0) (hx : a.eval x = .slice A m c)
    (hg : W.heap[g]? = some (.cells #[] e (0, 0))) (hbg : base ≤ g) (hbase : base ≤ W.heap.size) (HR : d.C W A m ys) (hKM : ∀ x cs, d.K W x cs → d.M W base (fun _ => False) x cs) (hl : m * bytes ≤ 140737488355328)
    (h : ∀ v1 w1, d.R e w1 base (fun k => k = g ∨ W.heap.size ≤ k) v1 ys → Below W.heap.size W w1 → Kc (a.put o.dst v1) w1) :
    if Region.wanted o (yielded ops a.tmps) = true then Oper.wp P o a W Kc Q else Kc (a.put o.dst undef) W := by
  obtain ⟨i0, hi, hzz⟩ := Option.map_eq_some_iff.1 hinfo; simp only [Prod.mk.injEq] at hzz; obtain ⟨hz0, hz1, hz2⟩ := hzz; have hm : ys.length = m := HR.1; have hlen : m ≤ 140737488355328 := Nat.le_trans (Nat.le_mul_of_pos_right _ hb0) hl; have hrun : ∃ v1 w1, (Builtin.append_ #[t, t] o.type #[.slice (some ⟨g, 0, none⟩) 0 0, .slice A m c]).run P W = .ok v1 w1 ∧ d.R e w1 base (fun k => k = g ∨ W.heap.size ≤ k) v1 ys ∧ Below W.heap.size W w1 := by
    rcases A with _ | ad
    · have h0 : m = 0 := by
        rcases Nat.eq_zero_or_pos m with h0 | h0
        · exact h0
        · obtain ⟨ad, h, _⟩ := HR.2.2 h0; cases h
      subst h0; obtain rfl : ys = [] := List.eq_nil_of_length_eq_zero hm; refine ⟨_, W, ?_, ⟨fun k hk => .inl (by simpa [Value.ownBlock] using hk.symm), [], ⟨by simp, .inr ⟨g, 0, #[], rfl, hbg, hg, Nat.le_refl _, by simp [maxLen], by simp, by simp⟩⟩, Reps.none _ _⟩, Below.refl _ _⟩; simp [Builtin.append_, run_underlying ht, sizeOf, typeInfo, hi, Builtin.lenOf, Builtin.firstCells, storeCells]
    · obtain ⟨news, hnr, hnc⟩ := ReadsRow.inner_ HR; have hnM : Reps (d.M W base (fun _ => False)) d.sz ys news := hnr.imp_ (fun p c hp => hKM p c hp); obtain ⟨v1, w1, hrun, h2, hb, hat⟩ := run_append_fresh (P := P) W base t o.type e i0 z d.sz bytes ht hi hz0 hz1 hz2 hz hs0 g hg hbg hbase ad m c news (by rw [hnM.1, hm]) hnc (by simp only [maxLen]; omega) hl; exact ⟨v1, w1, hrun, ⟨fun k hk => by rcases hat with hat | hat <;> (rw [hat] at hk; obtain rfl := Option.some.inj hk); exact .inl rfl; exact .inr (Nat.le_refl _), news, by rw [hm]; exact h2, hnM.imp_ (fun p c hp => d.M_mono (fun _ hk => hk.elim) (Kd.M_below hp hb))⟩, hb⟩
  obtain ⟨v1, w1, hr, hR, hB⟩ := hrun; rw [if_pos hw]; unfold Oper.wp execOp; simp only [ho, resolve, invoke, builtin, Sem.run_bind, Sem.run_pure, Result.andThen_ok, List.map_toArray, List.map_cons, List.map_nil, hs, hx, hr]; exact h v1 w1 hR hB
/-! what a world that changed one block leaves as it was -/
theorem gr_refl (W : World) (row : Option Nat) : W.grownBy W row := World.grownBy.refl W row
theorem gr_set {W W' : World} {g : Nat} (h : W.grownBy W' (some g)) (j : Nat) (u : Value) : W.grownBy (W'.setCell ⟨g, j, none⟩ u) (some g) :=
  ⟨h.1, h.2, h.3, by have := h.4; simpa using this, fun k hk hne => (Below.heap_setCell W' ⟨g, j, none⟩ u k (fun e => hne (by rw [e]))).trans (h.block k hk hne)⟩
theorem blk_gr {W W' : World} {row : Option Nat} {k : Nat} {o : Obj} (h : W.heap[k]? = some o) (hg : W.grownBy W' row) (hne : some k ≠ row) : W'.heap[k]? = some o := (hg.block k (blk_lt h) hne).trans h
theorem some_ne {a b : Nat} (h : a ≠ b) : some a ≠ some b := fun e => h (Option.some.inj e)
theorem set_four {W : World} {g : Nat} {a b c d x y z u : Value} {T : TypeId} (h : W.heap[g]? = some (.cells #[a, b, c, d] T (0, 0))) : ((((W.setCell ⟨g, 0, none⟩ x).setCell ⟨g, 1, none⟩ y).setCell ⟨g, 2, none⟩ z).setCell ⟨g, 3, none⟩ u).heap[g]? = some (.cells #[x, y, z, u] T (0, 0)) := by
  simp [World.setCell, Array.getElem?_modify, h]
theorem gr_four {W : World} {g : Nat} (x y z u : Value) : W.grownBy ((((W.setCell ⟨g, 0, none⟩ x).setCell ⟨g, 1, none⟩ y).setCell ⟨g, 2, none⟩ z).setCell ⟨g, 3, none⟩ u) (some g) := gr_set (gr_set (gr_set (gr_set (gr_refl W _) 0 x) 1 y) 2 z) 3 u
/-- Rows of another type than a block's. -/
theorem Kd.R_blk {α : Type} {d : Kd α} {e : Nat} {w w1 : World} {base : Nat} {ok : Nat → Prop} {v : Value} {xs : List α} {g t : Nat} {cells : Array Value} (h : d.R e w base ok v xs) (hb : w.heap[g]? = some (.cells cells t (0, 0))) (ht : ∀ q, q ∈ e :: d.E → q ≠ t) (hg : w.grownBy w1 (some g)) : d.R e w1 base ok v xs :=
  Kd.R_mono (Kd.R_grown (Kd.R_types h hb ht) hg (fun k hk => some_ne hk.2)) (fun _ hk => hk.1)
theorem Kd.R_ok {α : Type} {d : Kd α} {e : Nat} {w : World} {base : Nat} {ok : Nat → Prop} {v : Value} {xs : List α} (h : d.R e w base ok v xs) : ∀ k, v.ownBlock = some k → ok k := h.1
end Go.Proofs.YtegcaniikdibdaaDoor.VPageApart
