/- Contracts of functions of this seat: each call comes to what its Lean function computes; no condition beyond what each theorem states. Printed by a program of this session's own laid over the kit's printer. -/
import Derived.Laws.Cover1
import Derived.Test.YtegcaniikdibdaaGreatDoorVPagePutsx0
import Derived.Shelf.Spec.SlicesInsertGrow
import Derived.Laws.Append
namespace Go.Proofs.YtegcaniikdibdaaGreatDoor.VPagePuts
open Go.RowKit Go.Proofs.YtegcaniikdibdaaGreatDoorW.PrintWords Go.Proofs.YtegcaniikdibdaaGreatDoorW.PrintLast Go.Proofs.YtegcaniikdibdaaGreatDoorW.PrintMore
attribute [local go_sem] max2_int min2_int max_two min_two max_three min_three max_four min_four   -- for this text's walks alone
set_option linter.unusedSimpArgs false
set_option linter.unusedVariables false
/-! ### cmp_isNaN_string: function 75 -/
def cmp_isNaN_string.f (a0 : ByteArray) : Option (Bool) := some (a0.toList != a0.toList)
set_option maxHeartbeats 8000000 in
set_option maxRecDepth 100000 in
theorem cmp_isNaN_string.calls (a0 : ByteArray) (r : Bool) (w : World) (h : cmp_isNaN_string.f a0 = some r) :
  Calls Tryz.prog 75 #[.string a0] w fun e w' => e = .returned (.bool r) ∧ Drawn0 w w' := by
 have H : (some (a0.toList != a0.toList)) = some r := h; clear h; obtain rfl := Option.some.inj H; go_enter Tryz.func75, Tryz.ntmps75
 go_wp2
 go_ret
 exact ⟨z13, z28⟩

/-! ### cmp_Less_string: function 55 -/
def cmp_Less_string.f (a0 : ByteArray) (a1 : ByteArray) : Option (Bool) := (cmp_isNaN_string.f a0).bind fun t209 => (if t209 = true then ((cmp_isNaN_string.f a1).bind fun t210 => (if t210 = true then (some (Op.bytesLess a0.toList a1.toList)) else (some true))) else (some (Op.bytesLess a0.toList a1.toList)))
set_option maxHeartbeats 8000000 in
set_option maxRecDepth 100000 in
theorem cmp_Less_string.calls (a0 : ByteArray) (a1 : ByteArray) (r : Bool) (w : World) (h : cmp_Less_string.f a0 a1 = some r) :
  Calls Tryz.prog 55 #[.string a0, .string a1] w fun e w' => e = .returned (.bool r) ∧ Drawn0 w w' := by
 have H : ((cmp_isNaN_string.f a0).bind fun t209 => (if t209 = true then ((cmp_isNaN_string.f a1).bind fun t210 => (if t210 = true then (some (Op.bytesLess a0.toList a1.toList)) else (some true))) else (some (Op.bytesLess a0.toList a1.toList)))) = some r := h; clear h; replace H := Option.bind_eq_some_iff.mp H; obtain ⟨t209, A30, H⟩ := H; replace H : (if t209 = true then ((cmp_isNaN_string.f a1).bind fun t210 => (if t210 = true then (some (Op.bytesLess a0.toList a1.toList)) else (some true))) else (some (Op.bytesLess a0.toList a1.toList))) = some r := H; have A3 := Aside0.mk A30; clear A30
 by_cases c4 : t209 = true
 ·subst c4; have H1 : ((cmp_isNaN_string.f a1).bind fun t210 => (if t210 = true then (some (Op.bytesLess a0.toList a1.toList)) else (some true))) = some r := by rw [if_pos rfl] at H; exact H
  clear H; have H := H1; clear H1; replace H := Option.bind_eq_some_iff.mp H; obtain ⟨t210, A50, H⟩ := H; replace H : (if t210 = true then (some (Op.bytesLess a0.toList a1.toList)) else (some true)) = some r := H; have A5 := Aside0.mk A50; clear A50
  by_cases c6 : t210 = true
  ·subst c6; have H1 : (some (Op.bytesLess a0.toList a1.toList)) = some r := by rw [if_pos rfl] at H; exact H
   clear H; have H := H1; clear H1; obtain rfl := Option.some.inj H; go_enter Tryz.func55, Tryz.ntmps55
   go_wp2_with (first | ((with_reducible refine gate_callee (f := 75) rfl ?_); refine goesL_ (some 6) rfl rfl Tryz.func75 (by kernel_rfl) rfl #[.string a0] rfl z6 ?_; (with_reducible refine (cmp_isNaN_string.calls a0 true _ A3.out).mono ?_); rintro e w' ⟨rfl, ⟨nd, rfl⟩⟩; refine ⟨_, rfl, ?_⟩) | (go_at_call 75; (with_reducible refine (cmp_isNaN_string.calls a1 true _ A5.out).mono ?_); rintro e w' ⟨rfl, ⟨nd, rfl⟩⟩))
   go_ret
   exact ⟨z13, z28⟩
  ·replace c6 := Bool.eq_false_iff.mpr c6; subst c6; have H1 : (some true) = some r := by rw [if_neg (show ¬ (false = true) by decide)] at H; exact H
   clear H; have H := H1; clear H1; obtain rfl := Option.some.inj H; go_enter Tryz.func55, Tryz.ntmps55
   go_wp2_with (first | ((with_reducible refine gate_callee (f := 75) rfl ?_); refine goesL_ (some 6) rfl rfl Tryz.func75 (by kernel_rfl) rfl #[.string a0] rfl z6 ?_; (with_reducible refine (cmp_isNaN_string.calls a0 true _ A3.out).mono ?_); rintro e w' ⟨rfl, ⟨nd, rfl⟩⟩; refine ⟨_, rfl, ?_⟩) | (go_at_call 75; (with_reducible refine (cmp_isNaN_string.calls a1 false _ A5.out).mono ?_); rintro e w' ⟨rfl, ⟨nd, rfl⟩⟩))
   go_ret
   exact ⟨z13, z28⟩
 ·replace c4 := Bool.eq_false_iff.mpr c4; subst c4; have H1 : (some (Op.bytesLess a0.toList a1.toList)) = some r := by rw [if_neg (show ¬ (false = true) by decide)] at H; exact H
  clear H; have H := H1; clear H1; obtain rfl := Option.some.inj H; go_enter Tryz.func55, Tryz.ntmps55
  go_wp2_with (first | ((with_reducible refine gate_callee (f := 75) rfl ?_); refine goesL_ (some 6) rfl rfl Tryz.func75 (by kernel_rfl) rfl #[.string a0] rfl z6 ?_; (with_reducible refine (cmp_isNaN_string.calls a0 false _ A3.out).mono ?_); rintro e w' ⟨rfl, ⟨nd, rfl⟩⟩; refine ⟨_, rfl, ?_⟩))
  go_ret
  exact ⟨z13, z28⟩

/-! ### slices_isNaN_string: function 56 -/
def slices_isNaN_string.f (a0 : ByteArray) : Option (Bool) := some (a0.toList != a0.toList)
set_option maxHeartbeats 8000000 in
set_option maxRecDepth 100000 in
theorem slices_isNaN_string.calls (a0 : ByteArray) (r : Bool) (w : World) (h : slices_isNaN_string.f a0 = some r) :
  Calls Tryz.prog 56 #[.string a0] w fun e w' => e = .returned (.bool r) ∧ Drawn0 w w' := by
 have H : (some (a0.toList != a0.toList)) = some r := h; clear h; obtain rfl := Option.some.inj H; go_enter Tryz.func56, Tryz.ntmps56
 go_wp2
 go_ret
 exact ⟨z13, z28⟩

/-! ### slices_BinarySearch_string_string: function 37 -/
def slices_BinarySearch_string_string.l0 : Nat → List ByteArray → ByteArray → Int → Int → Int → Option (Int × Bool)
 | 0, _, _, _, _, _ => none
 | k + 1, x0, x1, x6, x7, x8 => if x7 < x8 then (if 0 ≤ (wrap64 ((IntKind.u64.wrap (wrap64 (x7 + x8))) / 2)) then (if (wrap64 ((IntKind.u64.wrap (wrap64 (x7 + x8))) / 2)) < (x0.length : Int) then ((cmp_Less_string.f (rdOf ByteArray.empty x0 (wrap64 ((IntKind.u64.wrap (wrap64 (x7 + x8))) / 2))) x1).bind fun t212 => (if t212 = true then (slices_BinarySearch_string_string.l0 k x0 x1 x6 (wrap64 ((wrap64 ((IntKind.u64.wrap (wrap64 (x7 + x8))) / 2)) + 1)) x8) else (slices_BinarySearch_string_string.l0 k x0 x1 x6 x7 (wrap64 ((IntKind.u64.wrap (wrap64 (x7 + x8))) / 2))))) else (none)) else (none)) else (if x7 < x6 then (if 0 ≤ x7 then (if x7 < (x0.length : Int) then (if (rdOf ByteArray.empty x0 x7).toList = x1.toList then (some (x7, true)) else ((slices_isNaN_string.f (rdOf ByteArray.empty x0 x7)).bind fun t215 => (if t215 = true then ((slices_isNaN_string.f x1).bind fun t216 => (some (x7, t216))) else (some (x7, false))))) else (none)) else (none)) else (some (x7, false)))
def slices_BinarySearch_string_string.f (k : Nat) (l0 : List ByteArray) (a1 : ByteArray) : Option (Int × Bool) := slices_BinarySearch_string_string.l0 k l0 a1 (l0.length : Int) 0 (l0.length : Int)
set_option maxRecDepth 100000 in
theorem slices_BinarySearch_string_string.mono_l : ∀ k, (∀ y0 y1 y2 y3 y4, LeO (slices_BinarySearch_string_string.l0 k y0 y1 y2 y3 y4) (slices_BinarySearch_string_string.l0 (k + 1) y0 y1 y2 y3 y4))
 | 0 => fun _ _ _ _ _ r h => by first | (rw [slices_BinarySearch_string_string.l0] at h; cases h) | simp [slices_BinarySearch_string_string.l0] at h
 | k + 1 => by
  have ih0 := slices_BinarySearch_string_string.mono_l k
  ·intro y0 y1 y2 y3 y4; unfold slices_BinarySearch_string_string.l0
   repeat' first
   | (with_reducible exact ih0 _ _ _ _ _)
   | (with_reducible exact LeO.refl _)
   | (with_reducible exact LeO.none _)
   | (with_reducible refine LeO.ite ?_ ?_)
   | (with_reducible refine LeO.bind ?_ (fun _ => ?_))
   | exact ih0 _ _ _ _ _
   | exact LeO.none _
   | refine LeO.ite ?_ ?_
   | refine LeO.bind ?_ (fun _ => ?_)
theorem slices_BinarySearch_string_string.mono : ∀ a0 a1 k, LeO (slices_BinarySearch_string_string.f k a0 a1) (slices_BinarySearch_string_string.f (k + 1) a0 a1) := by
 intro a0 a1 k; have ih0 := slices_BinarySearch_string_string.mono_l k; unfold slices_BinarySearch_string_string.f
 repeat' first
   | (with_reducible exact ih0 _ _ _ _ _)
   | (with_reducible exact LeO.refl _)
   | (with_reducible exact LeO.none _)
   | (with_reducible refine LeO.ite ?_ ?_)
   | (with_reducible refine LeO.bind ?_ (fun _ => ?_))
   | exact ih0 _ _ _ _ _
   | exact LeO.none _
   | refine LeO.ite ?_ ?_
   | refine LeO.bind ?_ (fun _ => ?_)
set_option maxHeartbeats 8000000 in
set_option maxRecDepth 100000 in
theorem slices_BinarySearch_string_string.calls (k : Nat) (A0 : Option Addr) (c0 : Nat) (l0 : List ByteArray) (a1 : ByteArray) (r1 : Int) (r2 : Bool) (w : World) (hr0 : Kd.C Kd.string w A0 l0.length l0) (hc0 : l0.length ≤ c0) (h : slices_BinarySearch_string_string.f k l0 a1 = some (r1, r2)) :
  Calls Tryz.prog 37 #[.slice A0 l0.length c0, .string a1] w fun e w' => e = .returned (.tuple #[.int .i64 r1, .bool r2]) ∧ Drawn0 w w' := by
 have HR0 := Aside0.mk hr0; have HC0 := Aside0.mk hc0; clear hr0 hc0; have H : (slices_BinarySearch_string_string.l0 k l0 a1 (l0.length : Int) 0 (l0.length : Int)) = some (r1, r2) := h; clear h; have H' := Aside0.mk H; clear H; go_enter Tryz.func37, Tryz.ntmps37
 go_wp2
 go_loopg [7, 8] k (fun kq v7 v8 w' => ∃ (x7_1 : Int) (x8_1 : Int), v7 = .int .i64 x7_1 ∧ v8 = .int .i64 x8_1 ∧ Aside0 (slices_BinarySearch_string_string.l0 kq l0 a1 (l0.length : Int) x7_1 x8_1 = some (r1, r2)) ∧ Aside0 (kq ≤ k) ∧ Drawn0 w w')
 case atStart => exact ⟨(0), ((l0.length : Int)), z13, z13, H', ⟨Nat.le_refl _⟩, z28⟩
 case round =>
  clear H'; obtain ⟨x7_1, x8_1, rfl, rfl, HA, HK1, ⟨m1, rfl⟩⟩ := hrel; cases gk with
  | zero => exact absurd HA.out (by simp [slices_BinarySearch_string_string.l0])
  | succ k1 =>
   have H := HA.out; clear HA; simp only [slices_BinarySearch_string_string.l0] at H
   by_cases c3 : x7_1 < x8_1
   ·rw [if_pos c3] at H; have c3b0 : decide (x7_1 < x8_1) = true := decide_eq_true c3; clear c3; obtain ⟨ji4, hji4⟩ : ∃ j_ : Int, (wrap64 ((IntKind.u64.wrap (wrap64 (x7_1 + x8_1))) / 2)) = j_ := ⟨_, rfl⟩
    replace H : (if 0 ≤ (ji4) then (if (ji4) < (l0.length : Int) then ((cmp_Less_string.f (rdOf ByteArray.empty l0 (ji4)) a1).bind fun t212 => (if t212 = true then (slices_BinarySearch_string_string.l0 k1 l0 a1 (l0.length : Int) (wrap64 ((ji4) + 1)) x8_1) else (slices_BinarySearch_string_string.l0 k1 l0 a1 (l0.length : Int) x7_1 ji4))) else (none)) else (none)) = some (r1, r2) := by first | (rw [hji4] at H; exact H) | (simp only [hji4] at H ⊢; exact H)
    have hji4w : (IntKind.i64.wrap ((IntKind.u64.wrap (wrap64 (x7_1 + x8_1))) / 2)) = ji4 := (i64_w _).trans hji4
    by_cases c5 : 0 ≤ (ji4)
    ·rw [if_pos c5] at H; have c5b0 : decide (0 ≤ (ji4)) = true := decide_eq_true c5; clear c5
     by_cases c6 : (ji4) < (l0.length : Int)
     ·rw [if_pos c6] at H; have c6b0 : decide ((ji4) < (l0.length : Int)) = true := decide_eq_true c6; clear c6; replace H := Option.bind_eq_some_iff.mp H; obtain ⟨t212, A70, H⟩ := H; replace H : (if t212 = true then (slices_BinarySearch_string_string.l0 k1 l0 a1 (l0.length : Int) (wrap64 ((ji4) + 1)) x8_1) else (slices_BinarySearch_string_string.l0 k1 l0 a1 (l0.length : Int) x7_1 ji4)) = some (r1, r2) := H; have A7 := Aside0.mk A70; clear A70
      by_cases c8 : t212 = true
      ·subst c8; have H1 : (slices_BinarySearch_string_string.l0 k1 l0 a1 (l0.length : Int) (wrap64 ((ji4) + 1)) x8_1) = some (r1, r2) := by rw [if_pos rfl] at H; exact H
       clear H; have H := H1; clear H1; have H' := Aside0.mk H; clear H; have p211 : 0 ≤ ((ji4) : Int) := of_decide_eq_true z11; have q211 : (ji4) < (l0.length : Int) := of_decide_eq_true z11; obtain ⟨ad211, e211, hx211_0⟩ := Kd.at_string HR0.out (ji4) p211 q211; cases e211; replace p211 := eq_true p211; replace q211 := eq_true q211; go_wp2_with (first | ((with_reducible refine gate_callee (f := 55) rfl ?_); refine goesL_ (some 27) rfl rfl Tryz.func55 (by kernel_rfl) rfl #[.string (rdOf ByteArray.empty l0 (ji4)), .string a1] rfl (by (try simp only [List.map_toArray, List.map_cons, List.map_nil]); first | done | (simp only [hji4]; rfl) | rfl | (simp only [List.length_drop, List.length_take]; rfl)) ?_; (with_reducible refine (cmp_Less_string.calls (rdOf ByteArray.empty l0 (ji4)) a1 true _ A7.out).mono ?_); rintro e w' ⟨rfl, ⟨nd, rfl⟩⟩; refine ⟨_, rfl, ?_⟩))
       go_roundg k1
       case measure => have := HK1.out; omega
       case rel => exact ⟨(wrap64 ((ji4) + 1)), (x8_1), (by first | rfl | (simp; done) | (simp only [← hji4] <;> (first | rfl | simp)) | (simp [*]; done)), z13, H', ⟨by have := HK1.out; omega⟩, z28⟩
      ·replace c8 := Bool.eq_false_iff.mpr c8; subst c8; have H1 : (slices_BinarySearch_string_string.l0 k1 l0 a1 (l0.length : Int) x7_1 ji4) = some (r1, r2) := by rw [if_neg (show ¬ (false = true) by decide)] at H; exact H
       clear H; have H := H1; clear H1; have H' := Aside0.mk H; clear H; have p211 : 0 ≤ ((ji4) : Int) := of_decide_eq_true z11; have q211 : (ji4) < (l0.length : Int) := of_decide_eq_true z11; obtain ⟨ad211, e211, hx211_0⟩ := Kd.at_string HR0.out (ji4) p211 q211; cases e211; replace p211 := eq_true p211; replace q211 := eq_true q211; go_wp2_with (first | ((with_reducible refine gate_callee (f := 55) rfl ?_); refine goesL_ (some 27) rfl rfl Tryz.func55 (by kernel_rfl) rfl #[.string (rdOf ByteArray.empty l0 (ji4)), .string a1] rfl (by (try simp only [List.map_toArray, List.map_cons, List.map_nil]); first | done | (simp only [hji4]; rfl) | rfl | (simp only [List.length_drop, List.length_take]; rfl)) ?_; (with_reducible refine (cmp_Less_string.calls (rdOf ByteArray.empty l0 (ji4)) a1 false _ A7.out).mono ?_); rintro e w' ⟨rfl, ⟨nd, rfl⟩⟩; refine ⟨_, rfl, ?_⟩))
       go_roundg k1
       case measure => have := HK1.out; omega
       case rel => exact ⟨(x7_1), (ji4), z13, (by first | rfl | (simp; done) | (simp only [← hji4] <;> (first | rfl | simp)) | (simp [*]; done)), H', ⟨by have := HK1.out; omega⟩, z28⟩
     ·rw [if_neg c6] at H; exact absurd H (by simp)
    ·rw [if_neg c5] at H; exact absurd H (by simp)
   ·rw [if_neg c3] at H; have c3b0 : decide (x7_1 < x8_1) = false := decide_eq_false c3; clear c3
    by_cases c9 : x7_1 < (l0.length : Int)
    ·rw [if_pos c9] at H; have c9b0 : decide (x7_1 < (l0.length : Int)) = true := decide_eq_true c9; clear c9
     by_cases c10 : 0 ≤ x7_1
     ·rw [if_pos c10] at H; have c10b0 : decide (0 ≤ x7_1) = true := decide_eq_true c10; clear c10
      by_cases c11 : x7_1 < (l0.length : Int)
      ·rw [if_pos c11] at H; have c11b0 : decide (x7_1 < (l0.length : Int)) = true := decide_eq_true c11; clear c11
       by_cases c12 : (rdOf ByteArray.empty l0 x7_1).toList = a1.toList
       ·rw [if_pos c12] at H; have c12b0 : ((rdOf ByteArray.empty l0 x7_1).toList == a1.toList) = true := beq_iff_eq.mpr c12; have c12b1 : ((rdOf ByteArray.empty l0 x7_1).toList != a1.toList) = false := bne_eq_false_iff_eq.mpr c12; clear c12; simp only [Option.some.injEq, Prod.mk.injEq] at H; obtain ⟨rfl, rfl⟩ := H; have p213 : 0 ≤ (x7_1 : Int) := of_decide_eq_true z11; have q213 : x7_1 < (l0.length : Int) := of_decide_eq_true z11; obtain ⟨ad213, e213, hx213_0⟩ := Kd.at_string HR0.out x7_1 p213 q213; cases e213; replace p213 := eq_true p213; replace q213 := eq_true q213; go_wp2
        go_ret2
        exact ⟨z13, z28⟩
       ·rw [if_neg c12] at H; have c12b0 : ((rdOf ByteArray.empty l0 x7_1).toList == a1.toList) = false := beq_eq_false_iff_ne.mpr c12; have c12b1 : ((rdOf ByteArray.empty l0 x7_1).toList != a1.toList) = true := bne_iff_ne.mpr c12; replace H := Option.bind_eq_some_iff.mp H; obtain ⟨t215, A130, H⟩ := H; replace H : (if t215 = true then ((slices_isNaN_string.f a1).bind fun t216 => (some (x7_1, t216))) else (some (x7_1, false))) = some (r1, r2) := H; have A13 := Aside0.mk A130; clear A130
        by_cases c14 : t215 = true
        ·subst c14; have H1 : ((slices_isNaN_string.f a1).bind fun t216 => (some (x7_1, t216))) = some (r1, r2) := by rw [if_pos rfl] at H; exact H
         clear H; have H := H1; clear H1; replace H := Option.bind_eq_some_iff.mp H; obtain ⟨t216, A150, H⟩ := H; replace H : (some (x7_1, t216)) = some (r1, r2) := H; have A15 := Aside0.mk A150; clear A150; simp only [Option.some.injEq, Prod.mk.injEq] at H; obtain ⟨rfl, rfl⟩ := H; have p213 : 0 ≤ (x7_1 : Int) := of_decide_eq_true z11; have q213 : x7_1 < (l0.length : Int) := of_decide_eq_true z11; obtain ⟨ad213, e213, hx213_0⟩ := Kd.at_string HR0.out x7_1 p213 q213; cases e213; replace p213 := eq_true p213; replace q213 := eq_true q213; have p214 : 0 ≤ (x7_1 : Int) := of_decide_eq_true z11; have q214 : x7_1 < (l0.length : Int) := of_decide_eq_true z11; obtain ⟨ad214, e214, hx214_0⟩ := Kd.at_string HR0.out x7_1 p214 q214; obtain rfl : ad213 = ad214 := (by injection e214); replace p214 := eq_true p214; replace q214 := eq_true q214; go_wp2_with (first | (go_at_call 56; (with_reducible refine (slices_isNaN_string.calls (rdOf ByteArray.empty l0 x7_1) true _ A13.out).mono ?_); rintro e w' ⟨rfl, ⟨nd, rfl⟩⟩) | (go_at_call 56; (with_reducible refine (slices_isNaN_string.calls a1 t216 _ A15.out).mono ?_); rintro e w' ⟨rfl, ⟨nd, rfl⟩⟩))
         go_ret2
         exact ⟨z13, z28⟩
        ·replace c14 := Bool.eq_false_iff.mpr c14; subst c14; have H1 : (some (x7_1, false)) = some (r1, r2) := by rw [if_neg (show ¬ (false = true) by decide)] at H; exact H
         clear H; have H := H1; clear H1; simp only [Option.some.injEq, Prod.mk.injEq] at H; obtain ⟨rfl, rfl⟩ := H; have p213 : 0 ≤ (x7_1 : Int) := of_decide_eq_true z11; have q213 : x7_1 < (l0.length : Int) := of_decide_eq_true z11; obtain ⟨ad213, e213, hx213_0⟩ := Kd.at_string HR0.out x7_1 p213 q213; cases e213; replace p213 := eq_true p213; replace q213 := eq_true q213; have p214 : 0 ≤ (x7_1 : Int) := of_decide_eq_true z11; have q214 : x7_1 < (l0.length : Int) := of_decide_eq_true z11; obtain ⟨ad214, e214, hx214_0⟩ := Kd.at_string HR0.out x7_1 p214 q214; obtain rfl : ad213 = ad214 := (by injection e214); replace p214 := eq_true p214; replace q214 := eq_true q214; go_wp2_with (first | (go_at_call 56; (with_reducible refine (slices_isNaN_string.calls (rdOf ByteArray.empty l0 x7_1) false _ A13.out).mono ?_); rintro e w' ⟨rfl, ⟨nd, rfl⟩⟩))
         go_ret2
         exact ⟨z13, z28⟩
      ·rw [if_neg c11] at H; exact absurd H (by simp)
     ·rw [if_neg c10] at H; exact absurd H (by simp)
    ·rw [if_neg c9] at H; have c9b0 : decide (x7_1 < (l0.length : Int)) = false := decide_eq_false c9; clear c9; simp only [Option.some.injEq, Prod.mk.injEq] at H; obtain ⟨rfl, rfl⟩ := H; go_wp2
     go_ret2
     exact ⟨z13, z28⟩

/-! ### page_Find: function 13 -/
def page_Find.f (k : Nat) (a0_0 : Int) (l0_1 : List ByteArray) (l0_2 : List ByteArray) (l0_3 : List Int) (a1 : ByteArray) : Option (Int × Bool) := (slices_BinarySearch_string_string.f k l0_1 a1).bind fun bt218 => (some (bt218.1, bt218.2))
theorem page_Find.mono : ∀ a0 a1 a2 a3 a4 k, LeO (page_Find.f k a0 a1 a2 a3 a4) (page_Find.f (k + 1) a0 a1 a2 a3 a4) := by
 intro a0 a1 a2 a3 a4 k; unfold page_Find.f
 repeat' first
   | (with_reducible exact slices_BinarySearch_string_string.mono _ _ _)
   | (with_reducible exact LeO.refl _)
   | (with_reducible exact LeO.none _)
   | (with_reducible refine LeO.ite ?_ ?_)
   | (with_reducible refine LeO.bind ?_ (fun _ => ?_))
   | exact slices_BinarySearch_string_string.mono _ _ _
   | exact LeO.none _
   | refine LeO.ite ?_ ?_
   | refine LeO.bind ?_ (fun _ => ?_)
set_option maxHeartbeats 8000000 in
set_option maxRecDepth 100000 in
theorem page_Find.calls (k : Nat) (a0_0 : Int) (A0_1 : Option Addr) (c0_1 : Nat) (l0_1 : List ByteArray) (A0_2 : Option Addr) (c0_2 : Nat) (l0_2 : List ByteArray) (A0_3 : Option Addr) (c0_3 : Nat) (l0_3 : List Int) (a1 : ByteArray) (r1 : Int) (r2 : Bool) (w : World) (hr0_1 : Kd.C Kd.string w A0_1 l0_1.length l0_1) (hc0_1 : l0_1.length ≤ c0_1) (hr0_2 : Kd.C Kd.string w A0_2 l0_2.length l0_2) (hc0_2 : l0_2.length ≤ c0_2) (hr0_3 : Kd.C (Kd.int .i64) w A0_3 l0_3.length l0_3) (hc0_3 : l0_3.length ≤ c0_3) (h : page_Find.f k a0_0 l0_1 l0_2 l0_3 a1 = some (r1, r2)) :
  Calls Tryz.prog 13 #[.agg #[.int .i64 a0_0, .slice A0_1 l0_1.length c0_1, .slice A0_2 l0_2.length c0_2, .slice A0_3 l0_3.length c0_3], .string a1] w fun e w' => e = .returned (.tuple #[.int .i64 r1, .bool r2]) ∧ Below w.heap.size w w' := by
 have hu28 := Tryz.underlying28; have HR0_1 := Aside0.mk hr0_1; have HC0_1 := Aside0.mk hc0_1; clear hr0_1 hc0_1; have HR0_2 := Aside0.mk hr0_2; have HC0_2 := Aside0.mk hc0_2; clear hr0_2 hc0_2; have HR0_3 := Aside0.mk hr0_3; have HC0_3 := Aside0.mk hc0_3; clear hr0_3 hc0_3; have HB := Aside0.mk (Below.refl w.heap.size w); have H : ((slices_BinarySearch_string_string.f k l0_1 a1).bind fun bt218 => (some (bt218.1, bt218.2))) = some (r1, r2) := h; clear h; replace H := Option.bind_eq_some_iff.mp H; obtain ⟨⟨t218, t219⟩, A30, H⟩ := H; replace H : (some (t218, t219)) = some (r1, r2) := H; have A3 := Aside0.mk A30; clear A30; simp only [Option.some.injEq, Prod.mk.injEq] at H; obtain ⟨rfl, rfl⟩ := H; go_enter Tryz.func13, Tryz.ntmps13
 go_wp2_with (first | ((with_reducible refine gate_dst (N := 2) rfl ?_); refine box_event ?hg (N := 2) ?hd (cs := #[.int .i64 a0_0, .slice A0_1 l0_1.length c0_1, .slice A0_2 l0_2.length c0_2, .slice A0_3 l0_3.length c0_3]) (t := 28) ?hr ?_; (case hd => rfl); (case hg => rfl); (case hr => exact z68); intro gb217 hg w4 hbox hb; have n0_ := Aside0.mk (below_step z8 hb); have n1_ := Aside0.mk (hbox); have n2_ := Aside0.mk ((by rw [hg]; exact (below_size z8) : w.heap.size ≤ gb217)); have n3_ := Aside0.mk ((by rw [hg]; exact (below_size z8) : w.heap.size ≤ gb217)); clear HB; have HB := n0_; have BK217 := n1_; have GW217 := n2_; have GE217 := n3_; clear n0_ n1_ n2_ n3_; clear hb hbox hg; have hcz5_0 : w4.cell? ⟨gb217, 0, none⟩ = some (.int .i64 a0_0) := (blk_cell BK217.out 0).trans rfl; have hcz5_1 : w4.cell? ⟨gb217, 1, none⟩ = some (.slice A0_1 l0_1.length c0_1) := (blk_cell BK217.out 1).trans rfl; have hcz5_2 : w4.cell? ⟨gb217, 2, none⟩ = some (.slice A0_2 l0_2.length c0_2) := (blk_cell BK217.out 2).trans rfl; have hcz5_3 : w4.cell? ⟨gb217, 3, none⟩ = some (.slice A0_3 l0_3.length c0_3) := (blk_cell BK217.out 3).trans rfl; have hfz5_0 := blk_frozen BK217.out 0; have hfz5_1 := blk_frozen BK217.out 1; have hfz5_2 := blk_frozen BK217.out 2; have hfz5_3 := blk_frozen BK217.out 3) | ((with_reducible refine gate_callee (f := 37) rfl ?_); refine goesL_ (some 9) rfl rfl Tryz.func37 (by kernel_rfl) rfl #[.slice A0_1 l0_1.length c0_1, .string a1] rfl z6 ?_; (with_reducible refine (slices_BinarySearch_string_string.calls k _ _ l0_1 a1 t218 t219 _ ?side1 ?side2 A3.out).mono ?_); (case side1 => exact z72); (case side2 => exact HC0_1.out); rintro e w' ⟨rfl, ⟨nd, rfl⟩⟩; refine ⟨_, rfl, ?_⟩))
 go_ret2
 exact ⟨z12, by repeat (first | (with_reducible first | exact HB.out | apply below_alloc | apply pw_below_drewN | apply below_drew1 | refine below_set ?_ GE217.out) | exact HB.out)⟩
-- @GIVEN slices_Clone_string_string
/-! ### slices_Clone_string_string: by hand -/
def slices_Clone_string_string.f (l0 : List ByteArray) : Option (List ByteArray) := if l0.length < 8796093022208 then some l0 else none
theorem infoC_string_ : (Tryz.prog.info? 9).map (fun i => (i.zero, i.size, i.bytes)) = some (some (.string ⟨#[]⟩), 1, 16) := by kernel_rfl
set_option maxHeartbeats 4000000 in
set_option maxRecDepth 100000 in
theorem slices_Clone_string_string.calls (A0 : Option Addr) (c0 : Nat) (l0 : List ByteArray) (r : List ByteArray) (w : World) (hr0 : Kd.C Kd.string w A0 l0.length l0) (hc0 : l0.length ≤ c0) (h : slices_Clone_string_string.f l0 = some r) :
    Calls Tryz.prog 35 #[.slice A0 l0.length c0] w fun e w' => ∃ v0_ : Value, e = .returned (v0_) ∧ Kd.R Kd.string 9 w' w.heap.size (fun _ => True) v0_ r ∧ Below w.heap.size w w' := by
  unfold slices_Clone_string_string.f at h
  by_cases hl : l0.length < 8796093022208
  case neg => rw [if_neg hl] at h; cases h
  rw [if_pos hl] at h; obtain rfl := Option.some.inj h; have HR0 := Aside0.mk hr0; have HL := Aside0.mk hl; clear h hl; cases A0 with
  | none =>
    have hn : l0 = [] := by
      rcases l0 with _ | ⟨x, l⟩
      · rfl
      · obtain ⟨ad, e, _⟩ := Kd.at_string hr0 0 (by omega) (by simp); cases e
    subst hn; clear hr0; have hne : ∀ (n : Nat) (W : World), (binOp BinOp.eql 22 (.slice none n c0) (.slice none 0 0)).run Tryz.prog W = .ok (.bool true) W := fun n W => by
      first | rfl | (simp [binOp]; rfl) | (simp [binOp]; done) | go_simp
    go_enter Tryz.func35, Tryz.ntmps35
    go_wp2
    go_ret
    exact ⟨_, rfl, Kd.R_nil _ _ _ _ _, Below.refl _ _⟩
  | some ad =>
    clear hr0; have hne : ∀ (n : Nat) (W : World), (binOp BinOp.eql 22 (.slice (some ad) n c0) (.slice none 0 0)).run Tryz.prog W = .ok (.bool false) W := fun n W => by
      first | rfl | (simp [binOp]; rfl) | (simp [binOp]; done) | go_simp
    go_enter Tryz.func35, Tryz.ntmps35
    go_wp2_with (first
      | ((with_reducible refine gate_dst (N := 5) rfl ?_); refine Kd.R_lit Kd.string w.heap.size 9 ?hg (N := 5) ?hd (xs := ([] : List ByteArray)) (inner := []) (ok := fun _ => True) (okp := fun _ => True) ?hr ?hp (fun _ hk => hk) trivial (Below.refl _ _) (Nat.le_refl _) (by simp) ?_; (case hd => rfl); (case hg => rfl); (case hr => exact z68); (case hp => exact (Reps.none _ _)); intro v5 w5 ho5 hb5 _ _; have HO5 := Aside0.mk ho5; have HB5 := Aside0.mk hb5; clear ho5 hb5)
      | ((with_reducible refine gate_builtin (b := .append) (xs := #[.tmp 5, .tmp 6]) rfl ?_); at_builtin; refine Kd.R_append_rows Kd.string (w0 := w) w.heap.size rfl (.tmp 5) (.tmp 6) 22 9 (.string ⟨#[]⟩) 16 rfl Tryz.underlying22 infoC_string_ rfl (by decide) (by omega) v5 [] l0 (some ad) _ _ (fun _ => True) (fun _ => False) rfl rfl HO5.out (Kd.C_below HR0.out HB5.out) (fun _ _ h => h) (fun _ h => h.elim) (fun _ _ => trivial) HB5.out HB5.out.size (by have := HL.out; simp only [List.length_nil]; omega) ?_; intro v7 w7 ho7 hb7 _ _; have HO7 := Aside0.mk ho7; have HB7 := Aside0.mk hb7; clear ho7 hb7))
    go_ret
    exact ⟨_, rfl, HO7.out, HB7.out⟩
-- @GIVEN lib_ins
theorem setCells_blk {g : Nat} {t : TypeId} : ∀ (vs : List Value) (o : Nat) (w : World) (cs : Array Value), w.heap[g]? = some (.cells cs t (0, 0)) → ∃ cs', (w.setCells g o vs).heap[g]? = some (.cells cs' t (0, 0)) ∧ cs'.size = cs.size
  | [], _, _, cs, h => ⟨cs, h, rfl⟩
  | v :: vs, o, w, cs, h => by
    obtain ⟨cs', h1, h2⟩ := setCells_blk vs (o + 1) (w.setCell ⟨g, o, none⟩ v) _ (blk_set h o v); exact ⟨cs', h1, h2.trans (by simp)⟩
theorem setCells_size (g : Nat) : ∀ (vs : List Value) (o : Nat) (w : World), (w.setCells g o vs).heap.size = w.heap.size
  | [], _, _ => rfl
  | v :: vs, o, w => (setCells_size g vs (o + 1) (w.setCell ⟨g, o, none⟩ v)).trans (by simp)
theorem setCells_far (g k : Nat) (hne : k ≠ g) : ∀ (vs : List Value) (o : Nat) (w : World), (w.setCells g o vs).heap[k]? = w.heap[k]?
  | [], _, _ => rfl
  | v :: vs, o, w => (setCells_far g k hne vs (o + 1) (w.setCell ⟨g, o, none⟩ v)).trans (Below.heap_setCell w ⟨g, o, none⟩ v k hne)
theorem setCells_world (g : Nat) : ∀ (vs : List Value) (o : Nat) (w : World), (w.setCells g o vs).os = w.os ∧ (w.setCells g o vs).tape = w.tape ∧ (w.setCells g o vs).output = w.output
  | [], _, _ => ⟨rfl, rfl, rfl⟩
  | v :: vs, o, w => setCells_world g vs (o + 1) (w.setCell ⟨g, o, none⟩ v)
/-- A row of the call's own, told by its cells. -/
theorem own_of_cells {w : World} {B e g n cap : Nat} {cur : Array Value} {inner : List Value} (hB : B ≤ g) (hg : w.heap[g]? = some (.cells cur e (0, 0))) (hn : n ≤ cap) (hc : cap ≤ maxLen) (hs : cur.size = cap) (hl : inner.length = n) (hcell : ∀ (j : Nat) (u : Value), inner[j]? = some u → w.cell? ⟨g, j, none⟩ = some u) : w.ownsRow B e 1 (.slice (some ⟨g, 0, none⟩) n cap) n inner := by
  refine ⟨by omega, .inr ⟨g, cap, cur, rfl, hB, hg, hn, hc, by omega, ?_⟩⟩; apply List.ext_getElem?; intro j
  by_cases hj : j < n
  · rw [List.getElem?_take, if_pos (by omega)]; have h1 := hcell j _ (List.getElem?_eq_getElem (by omega : j < inner.length)); rw [blk_cell hg j] at h1; rw [List.getElem?_eq_getElem (by omega : j < inner.length), ← h1, Array.getElem?_toList]
  · rw [List.getElem?_eq_none (by rw [List.length_take]; omega), List.getElem?_eq_none (by omega)]
theorem reps_scalar {α : Type} {w : World} {base : Nat} {ok : Nat → Prop} (enc : α → Value) (h1 : ∀ x, (enc x).oneCell' = true) : ∀ {xs : List α} {inner : List Value}, Reps ((Kd.scalar enc h1).M w base ok) 1 xs inner → inner = xs.map enc := by
  intro xs inner h; apply List.ext_getElem?; intro j
  by_cases hj : j < xs.length
  · have hx := h.2 j _ (List.getElem?_eq_getElem hj); have hx' : (inner.drop (j * 1)).take 1 = [enc xs[j]] := hx; have h3 : inner[j]? = some (enc xs[j]) := by
      have := congrArg (fun l => l[0]?) hx'
      simpa using this
    rw [h3, List.getElem?_map, List.getElem?_eq_getElem hj]; rfl
  · have hl := h.1; rw [List.getElem?_eq_none (by omega), List.getElem?_eq_none (by simp; omega)]
theorem reps_of_scalar {α : Type} {w : World} {base : Nat} {ok : Nat → Prop} (enc : α → Value) (h1 : ∀ x, (enc x).oneCell' = true) (xs : List α) : Reps ((Kd.scalar enc h1).M w base ok) 1 xs (xs.map enc) := by
  refine ⟨by simp, fun j p hp => ?_⟩
  show ((xs.map enc).drop (j * 1)).take 1 = [enc p]
  have hj : j < xs.length := by
    rcases Nat.lt_or_ge j xs.length with h | h
    · exact h
    · rw [List.getElem?_eq_none h] at hp; cases hp
  rw [List.getElem?_eq_getElem hj] at hp; obtain rfl := Option.some.inj hp; rw [Nat.mul_one, ← List.map_drop, List.drop_eq_getElem_cons hj]; rfl
theorem ins_get {α : Type} (l : List α) (i : Nat) (x : α) (hi : i ≤ l.length) (j : Nat) : (l.take i ++ x :: l.drop i)[j]? = if j < i then l[j]? else if j = i then some x else l[j - 1]? := by
  by_cases h1 : j < i
  · rw [if_pos h1, List.getElem?_append_left (by rw [List.length_take]; omega), List.getElem?_take, if_pos h1]
  · rw [if_neg h1, List.getElem?_append_right (by rw [List.length_take]; omega), List.length_take, Nat.min_eq_left hi]
    by_cases h2 : j = i
    · rw [if_pos h2, h2, Nat.sub_self]; rfl
    · rw [if_neg h2, show j - i = (j - i - 1) + 1 by omega, List.getElem?_cons_succ, List.getElem?_drop]
      congr 1; omega
-- @GIVEN slices_Insert_string_string
/-! ### slices_Insert_string_string: by hand -/
def slices_Insert_string_string.f (l0 : List ByteArray) : Option (List ByteArray) := some l0
def layI_ren : Go.Shelf.Ren := ⟨fun | 22 => 36 | 29 => 53 | 30 => 54 | 36 => 74 | 17 => 88 | n => n, fun | 0 => 0 | 3 => 3 | 4 => 4 | 9 => 9 | 24 => 22 | n => n, fun | n => n⟩
theorem layI : Go.Proofs.Lays2.n22 Tryz.prog layI_ren := {
  mixed := by kernel_rfl
  f22 := Tryz.func36.trans (congrArg some (by kernel_rfl))
  f29 := Tryz.func53.trans (congrArg some (by kernel_rfl))
  f30 := Tryz.func54.trans (congrArg some (by kernel_rfl))
  f36 := Tryz.func74.trans (congrArg some (by kernel_rfl))
  f17 := Tryz.func88.trans (congrArg some (by kernel_rfl))
  t0 := Tryz.underlying0
  a0 := Tryz.isAgg0
  z0 := Tryz.sizeOf0
  v0 := Tryz.zeroValue0
  t3 := Tryz.underlying3
  a3 := Tryz.isAgg3
  z3 := Tryz.sizeOf3
  v3 := Tryz.zeroValue3
  t4 := Tryz.underlying4
  a4 := Tryz.isAgg4
  z4 := Tryz.sizeOf4
  v4 := Tryz.zeroValue4
  t9 := Tryz.underlying9
  a9 := Tryz.isAgg9
  z9 := Tryz.sizeOf9
  v9 := Tryz.zeroValue9
  t24 := Tryz.underlying22
  a24 := Tryz.isAgg22
  z24 := Tryz.sizeOf22
  v24 := Tryz.zeroValue22
  i9 := by kernel_rfl }
theorem enc1_string (l : List ByteArray) : ∀ v ∈ l.map Value.string, v.oneCell' = true := by
  intro v hv; obtain ⟨x, _, rfl⟩ := List.mem_map.1 hv; rfl
theorem zc_string (m : Nat) : (Builtin.zeroCells (Value.string ⟨#[]⟩).cells m).size = m := by
  rw [size_zeroCells]; show m * 1 = m; omega
/-- slices.Insert of one value into a row of the call's own. -/
theorem ins_string (B : Nat) (ok : Nat → Prop) (A : Option Addr) (c n i : Nat) (xs : List ByteArray) (x : ByteArray) (vb : Nat) (W : World) (hR : Kd.R Kd.string 9 W B ok (.slice A n c) xs) (hn : xs.length = n) (hBW : B ≤ W.heap.size) (hi : i ≤ n) (hN : n ≤ 1000) (hvb : W.heap[vb]? = some (.cells #[.string x] 9 (0, 0))) (hne : (Value.slice A n c).ownBlock ≠ some vb) :
    Calls Tryz.prog 36 #[.slice A n c, .int .i64 (i : Int), .slice (some ⟨vb, 0, none⟩) 1 1] W fun e w' => (∃ v', e = .returned v' ∧ Kd.R Kd.string 9 w' B (fun k => ok k ∨ W.heap.size ≤ k) v' (xs.take i ++ x :: xs.drop i)) ∧ W.grownBy w' (Value.slice A n c).ownBlock ∧ W.heap.size ≤ w'.heap.size := by
  subst hn; obtain ⟨hok, inner, hown, hreps⟩ := hR; obtain rfl := reps_scalar Value.string (fun _ => rfl) hreps; have hvs : ∀ (j : Nat) (v : Value), ([.string x] : List Value)[j]? = some v → W.cell? ⟨vb, 0 + j, none⟩ = some v := fun j v hj => by
    rw [Nat.zero_add, blk_cell hvb j]
    simpa using hj
  have h1v : ∀ v ∈ ([.string x] : List Value), v.oneCell' = true := fun v hv => by rw [List.mem_singleton.1 hv]; rfl
  have hlast : (xs.take i ++ x :: xs.drop i).map Value.string = (xs.map Value.string).take i ++ .string x :: (xs.map Value.string).drop i := by simp
  have hll : (xs.take i ++ x :: xs.drop i).length = xs.length + 1 := by simp; omega
  have fin : ∀ (w' : World) (g' cap' : Nat), w'.ownsRow B 9 1 (.slice (some ⟨g', 0, none⟩) (xs.length + 1) cap') (xs.length + 1) ((xs.map Value.string).take i ++ .string x :: (xs.map Value.string).drop i) → (ok g' ∨ W.heap.size ≤ g') → Kd.R Kd.string 9 w' B (fun k => ok k ∨ W.heap.size ≤ k) (.slice (some ⟨g', 0, none⟩) (xs.length + 1) cap') (xs.take i ++ x :: xs.drop i) := fun w' g' cap' h1 h2 =>
    ⟨fun k hk => by simp [Value.ownBlock] at hk; subst hk; exact h2, (xs.take i ++ x :: xs.drop i).map Value.string, by rw [hll, hlast]; exact h1, reps_of_scalar Value.string (fun _ => rfl) _⟩
  have hlen : (xs.map Value.string).length = xs.length := by simp
  have hvlt : vb < W.heap.size := blk_lt hvb; rcases hown.2 with ⟨hv, h0⟩ | ⟨g, cap, cur, hv, hBg, hg, hnc, hcm, hcs, htake⟩
  · -- nil
    injection hv with e1 e2 e3
    subst e1 e3; obtain rfl : xs = [] := List.eq_nil_of_length_eq_zero h0; obtain rfl : i = 0 := by simpa using hi
    refine (Go.Proofs.Any2.slices_Insert_string_end_grow (P := Tryz.prog) (ρ := layI_ren) layI none 0 0 vb 0 1 1 [] [.string x] W (by omega) (by omega) (by omega) (by omega) rfl rfl (fun _ => rfl) (fun a ha => by cases ha) hvs h1v).mono ?_; rintro e w' ⟨rfl, rfl⟩; refine ⟨⟨_, rfl, fin _ W.heap.size _ ?_ (.inr (Nat.le_refl _))⟩, ⟨rfl, rfl, rfl, by simp, fun k hk _ => Below.heap_alloc W.drew _ k hk⟩, by simp⟩; refine ⟨by simp, .inr ⟨W.heap.size, _, _, rfl, hBW, heap_alloc_new W.drew _, grownCap_ge W (0 + 1) 0 9, grownCap_le_maxLen W (0 + 1) 0 9 (by unfold maxLen; omega), ?_, ?_⟩⟩
    · have h5 := grownCap_ge W (0 + 1) 0 9; rw [show (layI_ren.t 9) = 9 from rfl]; generalize grownCap W (0 + 1) 0 9 = G at *; rw [Array.size_append, zc_string]
      show 1 + (G - (0 + 1)) = G * 1
      omega
    · simp
  · injection hv with e1 e2 e3
    subst e1 e3; have hcs : cur.size = c * 1 := hcs; have hcl : cur.size = c := by omega
    have hcells : ∀ (j : Nat) (v : Value), (xs.map Value.string)[j]? = some v → W.cell? ⟨g, 0 + j, none⟩ = some v := fun j v hj => by
      have := hown.cells (g := g) rfl j v hj; rw [Addr.add_lit, Nat.zero_add] at this
      rwa [Nat.zero_add]
    have hgv : vb ≠ g := fun e => hne (by simp [Value.ownBlock, e])
    have hokg : ok g := hok g (by simp [Value.ownBlock]); have hisS : ∀ (j : Nat), j < c → (W.cell? ⟨g, 0 + j, none⟩).isSome = true := fun j hj => by
      rw [Nat.zero_add, blk_cell hg j, Array.getElem?_eq_getElem (by omega)]; rfl
    have hfz : ∀ (j : Nat), W.frozen? ⟨g, j, none⟩ = false := fun j => blk_frozen hg j
    by_cases hroom : xs.length + 1 ≤ c
    · by_cases hin : i < xs.length
      · refine (Go.Proofs.Any2.slices_Insert_string_shift (P := Tryz.prog) (ρ := layI_ren) layI g 0 xs.length c i vb 0 1 1 (xs.map Value.string) [.string x] W hin (by omega) hroom (by unfold maxLen at hcm; omega) hgv hlen rfl hcells (fun j hj => hisS j (by omega)) (fun j _ => by rw [Nat.zero_add]; exact hfz j) hvs (enc1_string xs) h1v 9 9 1 c (by simp [World.shape?, hvb]) (by simp [World.shape?, hg, hcl]) (by omega) (blk_frozen hvb 0) (blk_frozen hvb 1)).mono ?_; rintro e w' ⟨rfl, rfl⟩; obtain ⟨c1, hb1, hs1⟩ := setCells_blk ((xs.map Value.string).drop i) (0 + (i + 1)) W.drew cur hg; obtain ⟨c2, hb2, hs2⟩ := setCells_blk [.string x] (0 + i) (W.drew.setCells g (0 + (i + 1)) ((xs.map Value.string).drop i)) c1 hb1; refine ⟨⟨_, rfl, fin _ g _ (own_of_cells hBg hb2 hroom hcm (by omega) (by simp; omega) ?_) (.inl hokg)⟩, ⟨?_, ?_, ?_, ?_, ?_⟩, ?_⟩
        · intro j u hj; rw [ins_get (xs.map Value.string) i (.string x) (by omega) j] at hj; have hS1 : ∀ (q : Nat), q < ((xs.map Value.string).drop i).length → (W.drew.cell? ⟨g, 0 + (i + 1) + q, none⟩).isSome = true := fun q hq => by
            have := hisS (i + 1 + q) (by simp at hq; omega); rw [Nat.zero_add] at this ⊢; exact this
          by_cases h1 : j < i
          · rw [if_pos h1] at hj; rw [World.cell?_setCells_out g _ _ _ _ (fun _ _ => by show j < 0 + i ∨ _; omega), World.cell?_setCells_out g _ _ _ _ (fun _ _ => by show j < 0 + (i + 1) ∨ _; omega)]; have := hcells j u hj; rw [Nat.zero_add] at this; exact this
          · rw [if_neg h1] at hj
            by_cases h2 : j = i
            · rw [if_pos h2] at hj; subst h2
              have h3 := World.cell?_setCells_in g [.string x] (0 + j) (W.drew.setCells g (0 + (j + 1)) ((xs.map Value.string).drop j)) (fun q hq => by
                obtain rfl : q = 0 := by simpa using hq
                rw [World.cell?_setCells_out g _ _ _ _ (fun _ _ => by show 0 + j + 0 < 0 + (j + 1) ∨ _; omega)]
                exact hisS j (by omega)) 0 (by simp)
              rw [show 0 + j + 0 = j by omega] at h3; rw [h3]
              simpa using hj
            · rw [if_neg h2] at hj; rw [World.cell?_setCells_out g _ _ _ _ (fun _ _ => by show j < 0 + i ∨ 0 + i + 1 ≤ j; omega)]; have hjl : j - 1 < xs.length := by
                rcases Nat.lt_or_ge (j - 1) xs.length with h | h
                · exact h
                · rw [List.getElem?_eq_none (by simpa using h)] at hj; cases hj
              have h3 := World.cell?_setCells_in g ((xs.map Value.string).drop i) (0 + (i + 1)) W.drew hS1 (j - 1 - i) (by simp; omega); rw [show 0 + (i + 1) + (j - 1 - i) = j by omega] at h3; rw [h3, ← List.getElem?_eq_getElem, List.getElem?_drop, show i + (j - 1 - i) = j - 1 by omega]; exact hj
        · rw [(setCells_world g _ _ _).1, (setCells_world g _ _ _).1]; rfl
        · rw [(setCells_world g _ _ _).2.1, (setCells_world g _ _ _).2.1]; rfl
        · rw [(setCells_world g _ _ _).2.2, (setCells_world g _ _ _).2.2]; rfl
        · rw [setCells_size, setCells_size]; exact Nat.le_refl _
        · intro k hk hk2; have : k ≠ g := fun e => hk2 (by simp [Value.ownBlock, e])
          rw [setCells_far g k this, setCells_far g k this]; rfl
        · rw [setCells_size, setCells_size]; exact Nat.le_refl _
      · obtain rfl : i = xs.length := by omega
        refine (Go.Proofs.Any2.slices_Insert_string_end_room (P := Tryz.prog) (ρ := layI_ren) layI g 0 xs.length c vb 0 1 1 [.string x] W (by omega) hroom (by unfold maxLen at hcm; omega) rfl (fun j hj => by have := hisS (xs.length + j) (by omega); rw [Nat.zero_add] at this ⊢; exact this) (fun j _ => hfz _) hvs h1v).mono ?_; rintro e w' ⟨rfl, rfl⟩; obtain ⟨c2, hb2, hs2⟩ := setCells_blk [.string x] (0 + xs.length) W cur hg; refine ⟨⟨_, rfl, fin _ g _ (own_of_cells hBg hb2 hroom hcm (by omega) (by simp) ?_) (.inl hokg)⟩, ⟨?_, ?_, ?_, ?_, ?_⟩, ?_⟩
        · intro j u hj; rw [ins_get (xs.map Value.string) xs.length (.string x) (by omega) j] at hj
          by_cases h1 : j < xs.length
          · rw [if_pos h1] at hj; rw [World.cell?_setCells_out g _ _ _ _ (fun _ _ => by show j < 0 + xs.length ∨ _; omega)]; have := hcells j u hj; rw [Nat.zero_add] at this; exact this
          · rw [if_neg h1] at hj
            by_cases h2 : j = xs.length
            · rw [if_pos h2] at hj; subst h2
              have h3 := World.cell?_setCells_in g [.string x] (0 + xs.length) W (fun q hq => by
                obtain rfl : q = 0 := by simpa using hq
                exact hisS xs.length (by omega)) 0 (by simp)
              rw [show 0 + xs.length + 0 = xs.length by omega] at h3; rw [h3]
              simpa using hj
            · rw [if_neg h2, List.getElem?_eq_none (by simp; omega)] at hj; cases hj
        · rw [(setCells_world g _ _ _).1]
        · rw [(setCells_world g _ _ _).2.1]
        · rw [(setCells_world g _ _ _).2.2]
        · rw [setCells_size]; exact Nat.le_refl _
        · intro k hk hk2; have : k ≠ g := fun e => hk2 (by simp [Value.ownBlock, e])
          rw [setCells_far g k this]
        · rw [setCells_size]; exact Nat.le_refl _
    · by_cases hin : i < xs.length
      · refine (Go.Proofs.Any2.slices_Insert_string_grow (P := Tryz.prog) (ρ := layI_ren) layI g 0 xs.length c i vb 0 1 1 (xs.map Value.string) [.string x] W hin (by omega) hnc (by omega) (by omega) hlen rfl hcells hvs (enc1_string xs) h1v).mono ?_; rintro e w' ⟨rfl, rfl⟩; rw [show (layI_ren.t 9) = 9 from rfl]; have hge := grownCap_ge W (xs.length + 1) c 9; have hle := grownCap_le_maxLen W (xs.length + 1) c 9 (by unfold maxLen; omega); obtain ⟨row, hrow⟩ : ∃ row : Array Value, ((xs.map Value.string).take i).toArray ++ Builtin.zeroCells (Value.string ⟨#[]⟩).cells (xs.length + 1 - i) ++ Builtin.zeroCells (Value.string ⟨#[]⟩).cells (grownCap W (xs.length + 1) c 9 - (xs.length + 1)) = row := ⟨_, rfl⟩
        have hrs : row.size = grownCap W (xs.length + 1) c 9 := by
          rw [← hrow, Array.size_append, Array.size_append, zc_string, zc_string, List.size_toArray, List.length_take, hlen]; omega
        have hrc : ∀ (j : Nat), j < i → row[j]? = (xs.map Value.string)[j]? := fun j hj => by
          rw [← hrow, Array.append_assoc, Array.getElem?_append_left (by simp; omega)]; simp [hj]
        generalize grownCap W (xs.length + 1) c 9 = G at *; have hbase : (W.alloc (.cells row 9)).drew.heap[W.heap.size]? = some (.cells row 9 (0, 0)) := heap_alloc_new W _
        show (∃ v', _ ∧ _) ∧ _
        rw [hrow]; obtain ⟨c1, hb1, hs1⟩ := setCells_blk [.string x] i _ row hbase; obtain ⟨c2, hb2, hs2⟩ := setCells_blk ((xs.map Value.string).drop i) (i + 1) ((W.alloc (.cells row 9)).drew.setCells W.heap.size i [.string x]).drew c1 hb1; refine ⟨⟨_, rfl, fin _ W.heap.size _ (own_of_cells hBW hb2 hge hle (by omega) (by simp; omega) ?_) (.inr (Nat.le_refl _))⟩, ⟨?_, ?_, ?_, ?_, ?_⟩, ?_⟩
        · intro j u hj; rw [ins_get (xs.map Value.string) i (.string x) (by omega) j] at hj
          by_cases h1 : j < i
          · rw [if_pos h1] at hj; rw [World.cell?_setCells_out W.heap.size _ _ _ _ (fun _ _ => by show j < i + 1 ∨ _; omega)]
            show (World.setCells _ _ _ _).cell? _ = _
            rw [World.cell?_setCells_out W.heap.size _ _ _ _ (fun _ _ => by show j < i ∨ _; omega), blk_cell hbase j, hrc j h1]; exact hj
          · rw [if_neg h1] at hj
            by_cases h2 : j = i
            · rw [if_pos h2] at hj; subst h2; rw [World.cell?_setCells_out W.heap.size _ _ _ _ (fun _ _ => by show j < j + 1 ∨ _; omega)]
              have h3 := World.cell?_setCells_in W.heap.size [.string x] j (W.alloc (.cells row 9)).drew (fun q hq => by
                obtain rfl : q = 0 := by simpa using hq
                rw [blk_cell hbase, Array.getElem?_eq_getElem (by omega)]; rfl) 0 (by simp)
              rw [Nat.add_zero] at h3; refine h3.trans ?_
              simpa using hj
            · rw [if_neg h2] at hj; have hjl : j - 1 < xs.length := by
                rcases Nat.lt_or_ge (j - 1) xs.length with h | h
                · exact h
                · rw [List.getElem?_eq_none (by simpa using h)] at hj; cases hj
              have h3 := World.cell?_setCells_in W.heap.size ((xs.map Value.string).drop i) (i + 1) ((W.alloc (.cells row 9)).drew.setCells W.heap.size i [.string x]).drew (fun q hq => by
                have hb1' : ((W.alloc (.cells row 9)).drew.setCells W.heap.size i [.string x]).drew.heap[W.heap.size]? = some (.cells c1 9 (0, 0)) := hb1
                rw [blk_cell hb1', Array.getElem?_eq_getElem (by simp at hq; omega)]; rfl) (j - 1 - i) (by simp; omega)
              rw [show i + 1 + (j - 1 - i) = j by omega] at h3; rw [h3, ← List.getElem?_eq_getElem, List.getElem?_drop, show i + (j - 1 - i) = j - 1 by omega]; exact hj
        · rw [(setCells_world _ _ _ _).1]; show (World.setCells _ _ _ _).os = _; rw [(setCells_world _ _ _ _).1]; rfl
        · rw [(setCells_world _ _ _ _).2.1]; show (World.setCells _ _ _ _).tape = _; rw [(setCells_world _ _ _ _).2.1]; rfl
        · rw [(setCells_world _ _ _ _).2.2]; show (World.setCells _ _ _ _).output = _; rw [(setCells_world _ _ _ _).2.2]; rfl
        · rw [setCells_size]; show _ ≤ (World.setCells _ _ _ _).heap.size; rw [setCells_size]; simp
        · intro k hk _; rw [setCells_far W.heap.size k (by omega)]
          show (World.setCells _ _ _ _).heap[k]? = _
          rw [setCells_far W.heap.size k (by omega)]; exact Below.heap_alloc W _ k hk
        · rw [setCells_size]; show _ ≤ (World.setCells _ _ _ _).heap.size; rw [setCells_size]; simp
      · obtain rfl : i = xs.length := by omega
        refine (Go.Proofs.Any2.slices_Insert_string_end_grow (P := Tryz.prog) (ρ := layI_ren) layI (some ⟨g, 0, none⟩) xs.length c vb 0 1 1 (xs.map Value.string) [.string x] W (by omega) hnc (by omega) (by omega) hlen rfl (fun h => by cases h) (fun a ha j v hj => by injection ha with ha; subst ha; exact hown.cells (g := g) rfl j v hj) hvs h1v).mono ?_; rintro e w' ⟨rfl, rfl⟩; rw [show (layI_ren.t 9) = 9 from rfl]; have hge := grownCap_ge W (xs.length + 1) c 9; refine ⟨⟨_, rfl, fin _ W.heap.size _ ⟨by simp, .inr ⟨W.heap.size, _, _, rfl, hBW, heap_alloc_new W.drew _, hge, grownCap_le_maxLen W (xs.length + 1) c 9 (by unfold maxLen; omega), ?_, ?_⟩⟩ (.inr (Nat.le_refl _))⟩, ⟨rfl, rfl, rfl, by simp, fun k hk _ => Below.heap_alloc W.drew _ k hk⟩, by simp⟩
        · rw [Array.size_append, zc_string, List.size_toArray, List.length_append, List.length_map]
          show xs.length + 1 + (_ - (xs.length + 1)) = _ * 1
          omega
        · simp only [Array.toList_append, List.append_assoc]; rw [show (xs.map Value.string).take xs.length = xs.map Value.string by rw [List.take_of_length_le (by simp)], show (xs.map Value.string).drop xs.length = [] by rw [List.drop_eq_nil_of_le (by simp)], ← List.append_assoc, Nat.mul_one, show xs.length + 1 = (xs.map Value.string ++ [Value.string x]).length by simp]; exact List.take_left
-- @GIVEN lib_rows
/-- append onto an empty row without room: nothing that lay there changes. -/
theorem run_append_fresh {P : Program} (W : World) (base : Nat) (t ty e : TypeId) (i : TypeInfo) (z : Value) (size bytes : Nat) (ht : P.underlying t = some (.slice e)) (hi : P.info? e = some i) (hz : i.zero = some z)
    (hsize : i.size = size) (hby : i.bytes = bytes) (hzs : z.cells.size = size) (hsz : 0 < size)
    (g : Nat) (hg : W.heap[g]? = some (.cells #[] e (0, 0))) (hbg : base ≤ g) (hbase : base ≤ W.heap.size)
    (a : Addr) (m c : Nat) (news : List Value) (hl : news.length = m * size) (hnews : ∀ j u, news[j]? = some u → W.cell? (a.add j) = some u)
    (h63 : m ≤ maxLen) (hbytes : m * bytes ≤ 140737488355328) :
    ∃ v' w', (Builtin.append_ #[t, t] ty #[.slice (some ⟨g, 0, none⟩) 0 0, .slice (some a) m c]).run P W = .ok v' w' ∧ w'.ownsRow base e size v' m news ∧ Below W.heap.size W w' ∧ (v'.ownBlock = some g ∨ v'.ownBlock = some W.heap.size) := by
  subst hsize; subst hby; rcases Nat.eq_zero_or_pos m with rfl | hm
  · have hn : news = [] := List.eq_nil_of_length_eq_zero (by simpa using hl); subst hn; refine ⟨.slice (some ⟨g, 0, none⟩) 0 0, W, ?_, ⟨by simp, .inr ⟨g, 0, #[], rfl, hbg, hg, Nat.le_refl _, by simp [maxLen], by simp, by simp⟩⟩, Below.refl _ _, .inl rfl⟩; simp [Builtin.append_, run_underlying ht, sizeOf, typeInfo, hi, Builtin.lenOf, Builtin.firstCells, loadCells, loadCellsFrom, storeCells]
  · unfold maxLen at h63; have hr := run_append_grow (P := P) W t ty e i z ht hi hz ⟨g, 0, none⟩ 0 0 [] (by simp) (by intro j v h; simp at h) a m c news hl hnews (by omega) (by omega) (growslice_fits (by omega) (by simpa using hbytes)); simp only [Nat.zero_add, List.size_toArray, List.length_nil, Array.empty_append] at hr; refine ⟨_, _, hr, ⟨hl, .inr ⟨W.heap.size, _, _, rfl, hbase, heap_alloc_new W.drew _, grownCap_ge W m 0 e, grownCap_le_maxLen W m 0 e (by unfold maxLen; omega), ?_, ?_⟩⟩, below_alloc (Below.refl _ _).drew _, .inr rfl⟩
    · have hge := grownCap_ge W m 0 e; simp only [Array.size_append, List.size_toArray, size_zeroCells, hzs, hl, List.length_nil, Nat.zero_add, ← Nat.add_mul]
      congr 1
      omega
    · simp only [Array.toList_append, List.nil_append, ← hl]; exact List.take_left
theorem R_append_fresh_step {P : Program} {ops : Array Oper} {o : Oper} {a : Act} {Q : Exit → Act → World → Prop} {Kc : Act → World → Prop} {α : Type} (d : Kd α) {W : World} (base : Nat) (hw : Region.wanted o (yielded ops a.tmps) = true) (s x : Operand) (t e : TypeId) (z : Value) (bytes : Nat)
    (ho : o.op = .call { callee := .builtin .append, args := #[s, x], argTypes := #[t, t] })
    (ht : P.underlying t = some (.slice e)) (hinfo : (P.info? e).map (fun i => (i.zero, i.size, i.bytes)) = some (some z, d.sz, bytes)) (hz : z.cells.size = d.sz) (hs0 : 0 < d.sz) (hb0 : 0 < bytes)
    (g : Nat) (ys : List α) (A : Option Addr) (m c : Nat) (hs : a.eval s = .slice (some ⟨g, 0, none⟩) 0 0) (hx : a.eval x = .slice A m c)
    (hg : W.heap[g]? = some (.cells #[] e (0, 0))) (hbg : base ≤ g) (hbase : base ≤ W.heap.size) (HR : d.C W A m ys) (hKM : ∀ x cs, d.K W x cs → d.M W base (fun _ => False) x cs) (hl : m * bytes ≤ 140737488355328)
    (h : ∀ v1 w1, d.R e w1 base (fun k => k = g ∨ W.heap.size ≤ k) v1 ys → Below W.heap.size W w1 → Kc (a.put o.dst v1) w1) :
    if Region.wanted o (yielded ops a.tmps) = true then Oper.wp P o a W Kc Q else Kc (a.put o.dst undef) W := by
  obtain ⟨i0, hi, hzz⟩ := Option.map_eq_some_iff.1 hinfo; simp only [Prod.mk.injEq] at hzz; obtain ⟨hz0, hz1, hz2⟩ := hzz; have hm : ys.length = m := HR.1; have hlen : m ≤ 140737488355328 := Nat.le_trans (Nat.le_mul_of_pos_right _ hb0) hl; have hrun : ∃ v1 w1, (Builtin.append_ #[t, t] o.type #[.slice (some ⟨g, 0, none⟩) 0 0, .slice A m c]).run P W = .ok v1 w1 ∧ d.R e w1 base (fun k => k = g ∨ W.heap.size ≤ k) v1 ys ∧ Below W.heap.size W w1 := by
    rcases A with _ | ad
    · have h0 : m = 0 := by
        rcases Nat.eq_zero_or_pos m with h0 | h0
        · exact h0
        · obtain ⟨ad, h, _⟩ := HR.2.2 h0; cases h
      subst h0; obtain rfl : ys = [] := List.eq_nil_of_length_eq_zero hm; refine ⟨_, W, ?_, ⟨fun k hk => .inl (by simpa [Value.ownBlock] using hk.symm), [], ⟨by simp, .inr ⟨g, 0, #[], rfl, hbg, hg, Nat.le_refl _, by simp [maxLen], by simp, by simp⟩⟩, Reps.none _ _⟩, Below.refl _ _⟩; simp [Builtin.append_, run_underlying ht, sizeOf, typeInfo, hi, Builtin.lenOf, Builtin.firstCells, storeCells]
    · obtain ⟨news, hnr, hnc⟩ := ReadsRow.inner_ HR; have hnM : Reps (d.M W base (fun _ => False)) d.sz ys news := hnr.imp_ (fun p c hp => hKM p c hp); obtain ⟨v1, w1, hrun, h2, hb, hat⟩ := run_append_fresh (P := P) W base t o.type e i0 z d.sz bytes ht hi hz0 hz1 hz2 hz hs0 g hg hbg hbase ad m c news (by rw [hnM.1, hm]) hnc (by simp only [maxLen]; omega) hl; exact ⟨v1, w1, hrun, ⟨fun k hk => by rcases hat with hat | hat <;> (rw [hat] at hk; obtain rfl := Option.some.inj hk); exact .inl rfl; exact .inr (Nat.le_refl _), news, by rw [hm]; exact h2, hnM.imp_ (fun p c hp => d.M_mono (fun _ hk => hk.elim) (Kd.M_below hp hb))⟩, hb⟩
  obtain ⟨v1, w1, hr, hR, hB⟩ := hrun; rw [if_pos hw]; unfold Oper.wp execOp; simp only [ho, resolve, invoke, builtin, Sem.run_bind, Sem.run_pure, Result.andThen_ok, List.map_toArray, List.map_cons, List.map_nil, hs, hx, hr]; exact h v1 w1 hR hB
/-! what a world that changed one block leaves as it was -/
theorem gr_refl (W : World) (row : Option Nat) : W.grownBy W row := World.grownBy.refl W row
theorem gr_set {W W' : World} {g : Nat} (h : W.grownBy W' (some g)) (j : Nat) (u : Value) : W.grownBy (W'.setCell ⟨g, j, none⟩ u) (some g) :=
  ⟨h.1, h.2, h.3, by have := h.4; simpa using this, fun k hk hne => (Below.heap_setCell W' ⟨g, j, none⟩ u k (fun e => hne (by rw [e]))).trans (h.block k hk hne)⟩
theorem blk_gr {W W' : World} {row : Option Nat} {k : Nat} {o : Obj} (h : W.heap[k]? = some o) (hg : W.grownBy W' row) (hne : some k ≠ row) : W'.heap[k]? = some o := (hg.block k (blk_lt h) hne).trans h
theorem some_ne {a b : Nat} (h : a ≠ b) : some a ≠ some b := fun e => h (Option.some.inj e)
theorem set_four {W : World} {g : Nat} {a b c d x y z u : Value} {T : TypeId} (h : W.heap[g]? = some (.cells #[a, b, c, d] T (0, 0))) : ((((W.setCell ⟨g, 0, none⟩ x).setCell ⟨g, 1, none⟩ y).setCell ⟨g, 2, none⟩ z).setCell ⟨g, 3, none⟩ u).heap[g]? = some (.cells #[x, y, z, u] T (0, 0)) := by
  simp [World.setCell, Array.getElem?_modify, h]
theorem gr_four {W : World} {g : Nat} (x y z u : Value) : W.grownBy ((((W.setCell ⟨g, 0, none⟩ x).setCell ⟨g, 1, none⟩ y).setCell ⟨g, 2, none⟩ z).setCell ⟨g, 3, none⟩ u) (some g) := gr_set (gr_set (gr_set (gr_set (gr_refl W _) 0 x) 1 y) 2 z) 3 u
/-- Rows of another type than a block's. -/
theorem Kd.R_blk {α : Type} {d : Kd α} {e : Nat} {w w1 : World} {base : Nat} {ok : Nat → Prop} {v : Value} {xs : List α} {g t : Nat} {cells : Array Value} (h : d.R e w base ok v xs) (hb : w.heap[g]? = some (.cells cells t (0, 0))) (ht : ∀ q, q ∈ e :: d.E → q ≠ t) (hg : w.grownBy w1 (some g)) : d.R e w1 base ok v xs :=
  Kd.R_mono (Kd.R_grown (Kd.R_types h hb ht) hg (fun k hk => some_ne hk.2)) (fun _ hk => hk.1)
theorem Kd.R_ok {α : Type} {d : Kd α} {e : Nat} {w : World} {base : Nat} {ok : Nat → Prop} {v : Value} {xs : List α} (h : d.R e w base ok v xs) : ∀ k, v.ownBlock = some k → ok k := h.1
section
open Bool renaming true → T, false → F

-- @GIVEN page_With
/-! ### page_With: by hand -/
def page_With.f (k : Nat) (a0_0 : Int) (l0_1 : List ByteArray) (l0_2 : List ByteArray) (l0_3 : List Int) (a1 : ByteArray) (a2 : ByteArray) : Option (Int × List ByteArray × List ByteArray × List Int) :=
 if l0_1.length ≤ 1000 ∧ l0_2.length ≤ 1000 then (page_Find.f k a0_0 l0_1 l0_2 l0_3 a1).bind fun r =>
  if r.2 = true then (if 0 ≤ r.1 ∧ r.1 < (l0_2.length : Int) then some (a0_0, l0_1, l0_2.set r.1.toNat a2, []) else none)
  else (if 0 ≤ r.1 ∧ r.1 ≤ (l0_1.length : Int) ∧ r.1 ≤ (l0_2.length : Int) then some (a0_0, l0_1.take r.1.toNat ++ a1 :: l0_1.drop r.1.toNat, l0_2.take r.1.toNat ++ a2 :: l0_2.drop r.1.toNat, []) else none)
 else none
theorem page_With.mono : ∀ a0 a1 a2 a3 a4 a5 k, LeO (page_With.f k a0 a1 a2 a3 a4 a5) (page_With.f (k + 1) a0 a1 a2 a3 a4 a5) := by
 intro a0 a1 a2 a3 a4 a5 k; unfold page_With.f; exact LeO.ite (LeO.bind (page_Find.mono _ _ _ _ _ k) fun _ => LeO.refl _) (LeO.refl _)
set_option maxHeartbeats 16000000 in
set_option maxRecDepth 100000 in
theorem page_With.calls (k : Nat) (a0_0 : Int) (A0_1 : Option Addr) (c0_1 : Nat) (l0_1 : List ByteArray) (A0_2 : Option Addr) (c0_2 : Nat) (l0_2 : List ByteArray) (A0_3 : Option Addr) (c0_3 : Nat) (l0_3 : List Int) (a1 : ByteArray) (a2 : ByteArray) (r1 : Int) (r2 : List ByteArray) (r3 : List ByteArray) (r4 : List Int) (w : World) (hr0_1 : Kd.C Kd.string w A0_1 l0_1.length l0_1) (hc0_1 : l0_1.length ≤ c0_1) (hr0_2 : Kd.C Kd.string w A0_2 l0_2.length l0_2) (hc0_2 : l0_2.length ≤ c0_2) (hr0_3 : Kd.C (Kd.int .i64) w A0_3 l0_3.length l0_3) (hc0_3 : l0_3.length ≤ c0_3) (h : page_With.f k a0_0 l0_1 l0_2 l0_3 a1 a2 = some (r1, r2, r3, r4)) :
  Calls Tryz.prog 12 #[.agg #[.int .i64 a0_0, .slice A0_1 l0_1.length c0_1, .slice A0_2 l0_2.length c0_2, .slice A0_3 l0_3.length c0_3], .string a1, .string a2] w fun e w' => ∃ v1_ v2_ v3_ : Value, e = .returned (.agg #[.int .i64 r1, v1_, v2_, v3_]) ∧ Kd.R Kd.string 9 w' w.heap.size (fun k_ => some k_ ≠ (v2_ : Value).ownBlock) v1_ r2 ∧ Kd.R Kd.string 9 w' w.heap.size (fun k_ => some k_ ≠ (v1_ : Value).ownBlock) v2_ r3 ∧ Kd.R (Kd.int .i64) 3 w' w.heap.size (fun _ => True) v3_ r4 ∧ Below w.heap.size w w' := by
 unfold page_With.f at h
 by_cases hlen : l0_1.length ≤ 1000 ∧ l0_2.length ≤ 1000
 case neg => rw [if_neg hlen] at h; cases h
 rw [if_pos hlen] at h; obtain ⟨⟨fi, ft⟩, hfind, h⟩ := Option.bind_eq_some_iff.mp h; have HR1 := A0k (fun (W : World) (hb : Below w.heap.size w W) => Kd.C_below hr0_1 hb); have HR2 := A0k (fun (W : World) (hb : Below w.heap.size w W) => Kd.C_below hr0_2 hb); have HR3 := A0k (fun (W : World) (hb : Below w.heap.size w W) => Kd.C_below hr0_3 hb); have HC1 := A0k hc0_1; have HC2 := A0k hc0_2; have HC3 := A0k hc0_3; have HLE := A0k hlen; have HFI := A0k hfind; have HH := A0k h; have HCK := A0k (show slices_Clone_string_string.f l0_1 = some l0_1 by unfold slices_Clone_string_string.f; rw [if_pos (by omega)]); have HCV := A0k (show slices_Clone_string_string.f l0_2 = some l0_2 by unfold slices_Clone_string_string.f; rw [if_pos (by omega)]); have HX0 := A0k (bA (heap_alloc_new w (.cells #[.int .i64 a0_0, .slice A0_1 l0_1.length c0_1, .slice A0_2 l0_2.length c0_2, .slice A0_3 l0_3.length c0_3] 28)) (.cells #[.int .i64 0, .slice none 0 0, .slice none 0 0, .slice none 0 0] 28)); have HZ0 := A0k (show ((w.alloc (.cells #[.int .i64 a0_0, .slice A0_1 l0_1.length c0_1, .slice A0_2 l0_2.length c0_2, .slice A0_3 l0_3.length c0_3] 28)).alloc (.cells #[.int .i64 0, .slice none 0 0, .slice none 0 0, .slice none 0 0] 28)).heap[w.heap.size + 1]? = some (.cells #[.int .i64 0, .slice none 0 0, .slice none 0 0, .slice none 0 0] 28 (0, 0)) from by have hx := heap_alloc_new (w.alloc (.cells #[.int .i64 a0_0, .slice A0_1 l0_1.length c0_1, .slice A0_2 l0_2.length c0_2, .slice A0_3 l0_3.length c0_3] 28)) (.cells #[.int .i64 0, .slice none 0 0, .slice none 0 0, .slice none 0 0] 28); rw [show (w.alloc (.cells #[.int .i64 a0_0, .slice A0_1 l0_1.length c0_1, .slice A0_2 l0_2.length c0_2, .slice A0_3 l0_3.length c0_3] 28)).heap.size = w.heap.size + 1 by simp] at hx; exact hx); have HB0 := A0k (pA (pA (Below.refl w.heap.size w) (.cells #[.int .i64 a0_0, .slice A0_1 l0_1.length c0_1, .slice A0_2 l0_2.length c0_2, .slice A0_3 l0_3.length c0_3] 28)) (.cells #[.int .i64 0, .slice none 0 0, .slice none 0 0, .slice none 0 0] 28)); have HN0 := A0k (show w.heap.size + 2 ≤ ((w.alloc (.cells #[.int .i64 a0_0, .slice A0_1 l0_1.length c0_1, .slice A0_2 l0_2.length c0_2, .slice A0_3 l0_3.length c0_3] 28)).alloc (.cells #[.int .i64 0, .slice none 0 0, .slice none 0 0, .slice none 0 0] 28)).heap.size by simp); have HGX := A0k (show w.heap.size + 1 ≠ w.heap.size by omega); have hu := Tryz.underlying28; clear hr0_1 hc0_1 hr0_2 hc0_2 hr0_3 hc0_3 hlen hfind h; go_enter Tryz.func12, Tryz.ntmps12
 go_wp2_with fail
 obtain ⟨gz, hgz⟩ : ∃ gz, w.heap.size + 1 = gz := ⟨_, rfl⟩
 have HGZ := A0k hgz; simp only [hgz] at HZ0 HGX ⊢; clear hgz; generalize hw0 : (w.alloc (.cells #[.int .i64 a0_0, .slice A0_1 l0_1.length c0_1, .slice A0_2 l0_2.length c0_2, .slice A0_3 l0_3.length c0_3] 28)).alloc (.cells #[.int .i64 0, .slice none 0 0, .slice none 0 0, .slice none 0 0] 28) = w0 at *; clear hw0; refine start_ (n := 11) (S := fun w' => w'.cell? ⟨w.heap.size, 0, none⟩ = some (.int .i64 a0_0) ∧ w'.cell? ⟨w.heap.size, 1, none⟩ = some (.slice A0_1 l0_1.length c0_1) ∧ w'.cell? ⟨w.heap.size, 2, none⟩ = some (.slice A0_2 l0_2.length c0_2)) (ds := [10]) #[F,F,F,F,F,F,F,F,F,F,F] (by kernel_rfl) rfl rfl ⟨(bC (bD HX0.out) 0).trans rfl, (bC (bD HX0.out) 1).trans rfl, (bC (bD HX0.out) 2).trans rfl⟩ (fun hHeld => ?_); refine zp 0 10 #[T,F,F,F,F,F,F,F,F,F,F] ?_
 refine zp 2 12 #[T,F,T,F,F,F,F,F,F,F,F] ?_
 refine zp 5 15 #[T,F,T,F,F,T,F,F,F,F,F] ?_
 refine zt3 1 11 #[T,T,T,F,F,T,F,F,F,F,F] hHeld ?_; refine zt3 3 13 #[T,T,T,T,F,T,F,F,F,F,F] hHeld ?_; refine zt3 6 16 #[T,T,T,T,F,T,T,F,F,F,F] hHeld ?_; refine join_ (σ := Option Addr × Nat × Option Addr × Nat × Nat × Nat) 1 #[T,T,T,T,T,T,T,T,T,T,F] (fun s => [(14, .slice s.1 l0_1.length s.2.1), (17, .slice s.2.2.1 l0_2.length s.2.2.2.1), (7, .pointer (some ⟨s.2.2.2.2.2, 0, none⟩)), (18, .agg #[.int .i64 a0_0, .slice s.1 l0_1.length s.2.1, .slice s.2.2.1 l0_2.length s.2.2.2.1, .slice none 0 0])]) (fun s w' => (w'.cell? ⟨w.heap.size, 0, none⟩ = some (.int .i64 a0_0) ∧ w'.cell? ⟨w.heap.size, 1, none⟩ = some (.slice A0_1 l0_1.length c0_1) ∧ w'.cell? ⟨w.heap.size, 2, none⟩ = some (.slice A0_2 l0_2.length c0_2)) ∧ Aside0 (Below w.heap.size w w') ∧ Aside0 (w'.heap[w.heap.size]? = some (.cells #[.int .i64 a0_0, .slice A0_1 l0_1.length c0_1, .slice A0_2 l0_2.length c0_2, .slice A0_3 l0_3.length c0_3] 28 (0, 0))) ∧ Aside0 (w'.heap[gz]? = some (.cells #[.int .i64 0, .slice none 0 0, .slice none 0 0, .slice none 0 0] 28 (0, 0))) ∧ Aside0 (w.heap.size + 2 ≤ w'.heap.size) ∧ Aside0 (Kd.R Kd.string 9 w' w.heap.size (fun k_ => k_ < s.2.2.2.2.1) (.slice s.1 l0_1.length s.2.1) l0_1) ∧ Aside0 (w'.heap[s.2.2.2.2.2]? = some (.cells #[.int .i64 0, .slice none 0 0, .slice none 0 0, .slice none 0 0] 28 (0, 0))) ∧ Aside0 (w.heap.size + 2 ≤ s.2.2.2.2.2) ∧ Aside0 (Kd.R Kd.string 9 w' w.heap.size (fun k_ => s.2.2.2.2.1 ≤ k_) (.slice s.2.2.1 l0_2.length s.2.2.2.1) l0_2) ∧ Aside0 (s.2.2.2.2.1 ≤ w'.heap.size)) ?_ ?_; rotate_left
 ·intro hJ4_7_9; refine join_ (σ := Option Addr × Nat × Option Addr × Nat × Nat) 2 #[T,T,T,T,T,T,T,T,T,F,F] (fun s => [(14, .slice s.1 l0_1.length s.2.1), (17, .slice s.2.2.1 l0_2.length s.2.2.2.1), (18, .agg #[.int .i64 a0_0, .slice s.1 l0_1.length s.2.1, .slice s.2.2.1 l0_2.length s.2.2.2.1, .slice none 0 0])]) (fun s w' => (w'.cell? ⟨w.heap.size, 0, none⟩ = some (.int .i64 a0_0) ∧ w'.cell? ⟨w.heap.size, 1, none⟩ = some (.slice A0_1 l0_1.length c0_1) ∧ w'.cell? ⟨w.heap.size, 2, none⟩ = some (.slice A0_2 l0_2.length c0_2)) ∧ Aside0 (Below w.heap.size w w') ∧ Aside0 (w'.heap[w.heap.size]? = some (.cells #[.int .i64 a0_0, .slice A0_1 l0_1.length c0_1, .slice A0_2 l0_2.length c0_2, .slice A0_3 l0_3.length c0_3] 28 (0, 0))) ∧ Aside0 (w'.heap[gz]? = some (.cells #[.int .i64 0, .slice none 0 0, .slice none 0 0, .slice none 0 0] 28 (0, 0))) ∧ Aside0 (w.heap.size + 2 ≤ w'.heap.size) ∧ Aside0 (Kd.R Kd.string 9 w' w.heap.size (fun k_ => k_ < s.2.2.2.2) (.slice s.1 l0_1.length s.2.1) l0_1) ∧ Aside0 (Kd.R Kd.string 9 w' w.heap.size (fun k_ => s.2.2.2.2 ≤ k_) (.slice s.2.2.1 l0_2.length s.2.2.2.1) l0_2) ∧ Aside0 (s.2.2.2.2 ≤ w'.heap.size)) ?_ ?_; rotate_left
  ·intro hJ4_7; refine join_ (σ := Option Addr × Nat × Nat) 3 #[T,T,T,T,T,T,T,F,F,T,F] (fun s => [(14, .slice s.1 l0_1.length s.2.1), (7, .pointer (some ⟨s.2.2, 0, none⟩))]) (fun s w' => (w'.cell? ⟨w.heap.size, 0, none⟩ = some (.int .i64 a0_0) ∧ w'.cell? ⟨w.heap.size, 1, none⟩ = some (.slice A0_1 l0_1.length c0_1) ∧ w'.cell? ⟨w.heap.size, 2, none⟩ = some (.slice A0_2 l0_2.length c0_2)) ∧ Aside0 (Below w.heap.size w w') ∧ Aside0 (w'.heap[w.heap.size]? = some (.cells #[.int .i64 a0_0, .slice A0_1 l0_1.length c0_1, .slice A0_2 l0_2.length c0_2, .slice A0_3 l0_3.length c0_3] 28 (0, 0))) ∧ Aside0 (w'.heap[gz]? = some (.cells #[.int .i64 0, .slice none 0 0, .slice none 0 0, .slice none 0 0] 28 (0, 0))) ∧ Aside0 (w.heap.size + 2 ≤ w'.heap.size) ∧ Aside0 (Kd.R Kd.string 9 w' w.heap.size (fun k_ => True) (.slice s.1 l0_1.length s.2.1) l0_1) ∧ Aside0 (w'.heap[s.2.2]? = some (.cells #[.int .i64 0, .slice none 0 0, .slice none 0 0, .slice none 0 0] 28 (0, 0))) ∧ Aside0 (w.heap.size + 2 ≤ s.2.2)) ?_ ?_; rotate_left
   ·intro hJ4_9; refine join_ (σ := Option Addr × Nat) 4 #[T,T,T,T,T,T,T,F,F,F,F] (fun s => [(14, .slice s.1 l0_1.length s.2)]) (fun s w' => (w'.cell? ⟨w.heap.size, 0, none⟩ = some (.int .i64 a0_0) ∧ w'.cell? ⟨w.heap.size, 1, none⟩ = some (.slice A0_1 l0_1.length c0_1) ∧ w'.cell? ⟨w.heap.size, 2, none⟩ = some (.slice A0_2 l0_2.length c0_2)) ∧ Aside0 (Below w.heap.size w w') ∧ Aside0 (w'.heap[w.heap.size]? = some (.cells #[.int .i64 a0_0, .slice A0_1 l0_1.length c0_1, .slice A0_2 l0_2.length c0_2, .slice A0_3 l0_3.length c0_3] 28 (0, 0))) ∧ Aside0 (w'.heap[gz]? = some (.cells #[.int .i64 0, .slice none 0 0, .slice none 0 0, .slice none 0 0] 28 (0, 0))) ∧ Aside0 (w.heap.size + 2 ≤ w'.heap.size) ∧ Aside0 (Kd.R Kd.string 9 w' w.heap.size (fun k_ => True) (.slice s.1 l0_1.length s.2) l0_1)) ?_ ?_; rotate_left
    ·intro hJ4; refine join_ (σ := Nat) 4 #[T,T,T,T,F,T,T,F,F,T,F] (fun s => [(7, .pointer (some ⟨s, 0, none⟩))]) (fun s w' => (w'.cell? ⟨w.heap.size, 0, none⟩ = some (.int .i64 a0_0) ∧ w'.cell? ⟨w.heap.size, 1, none⟩ = some (.slice A0_1 l0_1.length c0_1) ∧ w'.cell? ⟨w.heap.size, 2, none⟩ = some (.slice A0_2 l0_2.length c0_2)) ∧ Aside0 (Below w.heap.size w w') ∧ Aside0 (w'.heap[w.heap.size]? = some (.cells #[.int .i64 a0_0, .slice A0_1 l0_1.length c0_1, .slice A0_2 l0_2.length c0_2, .slice A0_3 l0_3.length c0_3] 28 (0, 0))) ∧ Aside0 (w'.heap[gz]? = some (.cells #[.int .i64 0, .slice none 0 0, .slice none 0 0, .slice none 0 0] 28 (0, 0))) ∧ Aside0 (w.heap.size + 2 ≤ w'.heap.size) ∧ Aside0 (w'.heap[s]? = some (.cells #[.int .i64 0, .slice none 0 0, .slice none 0 0, .slice none 0 0] 28 (0, 0))) ∧ Aside0 (w.heap.size + 2 ≤ s)) ?_ ?_; rotate_left
     ·intro hJ9; refine two_ (i := 4) (j := 9) (Ni := some 14) (Nj := some 7) #[T,T,T,T,T,T,T,F,F,F,F] #[T,T,T,T,F,T,T,F,F,T,F] rfl rfl rfl rfl (by kernel_rfl) (by decide) (by decide) (fun K hK => ?_) (fun K hK => ?_)
      ·skip; refine goes_ Tryz.func35 (by kernel_rfl) rfl #[.slice A0_1 l0_1.length c0_1] (by rfl) rfl rfl z37 ?_
       with_reducible refine (slices_Clone_string_string.calls A0_1 c0_1 l0_1 l0_1 _ (HR1.out _ HB0.out.drew) HC1.out HCK.out).mono ?_
       rintro e_ wN ⟨v_, rfl, hr_, hb_⟩; refine ⟨_, rfl, ?_⟩; obtain ⟨A_, c_, rfl⟩ := Kd.R_slice hr_; have HBN := A0k (pS HB0.out.drew hb_); have HXN := A0k (bB (bD HX0.out) hb_); have HZN := A0k (bB (bD HZ0.out) hb_); have HNN := A0k (Nat.le_trans (show w.heap.size + 2 ≤ w0.drew.heap.size from HN0.out) (Below.size hb_)); have HKN := A0k (Kd.R_lower hr_ (Nat.le_trans (Nat.le_add_right _ 2) (show w.heap.size + 2 ≤ w0.drew.heap.size from HN0.out))); refine hK.out _ _ ⟨bq HXN.out 0, bq HXN.out 1, bq HXN.out 2⟩ (fun hHeld => ?_); clear hK K; refine zn ?_
       exact norm_ z9 (hJ4 (A_, c_) _ ⟨hHeld, HBN, HXN, HZN, HNN, HKN⟩)
      ·skip; refine value_ (w1 := ?_) (v := ?_) (by rfl) rfl ?_ ?_; rotate_left 2
       ·go_simp
        constructor
        ·rfl
        ·rfl
       have HBN := A0k (pS HB0.out.drew (pA (Below.refl _ _) (.cells #[.int .i64 0, .slice none 0 0, .slice none 0 0, .slice none 0 0] 28))); have HXN := A0k (bB (bD HX0.out) (pA (Below.refl _ _) (.cells #[.int .i64 0, .slice none 0 0, .slice none 0 0, .slice none 0 0] 28))); have HZN := A0k (bB (bD HZ0.out) (pA (Below.refl _ _) (.cells #[.int .i64 0, .slice none 0 0, .slice none 0 0, .slice none 0 0] 28))); have HNN := A0k (Nat.le_trans (show w.heap.size + 2 ≤ w0.drew.heap.size from HN0.out) (Below.size (pA (Below.refl _ _) (.cells #[.int .i64 0, .slice none 0 0, .slice none 0 0, .slice none 0 0] 28)))); have HGN := A0k (heap_alloc_new w0.drew (.cells #[.int .i64 0, .slice none 0 0, .slice none 0 0, .slice none 0 0] 28)); have HGNN := A0k ((show w.heap.size + 2 ≤ w0.drew.heap.size from HN0.out)); refine hK.out _ _ ⟨bq HXN.out 0, bq HXN.out 1, bq HXN.out 2⟩ (fun hHeld => ?_); clear hK K; refine zn ?_
       exact norm_ z9 (hJ9 w0.drew.heap.size _ ⟨hHeld, HBN, HXN, HZN, HNN, HGN, HGNN⟩)
     ·skip; rintro g9 wJ9 ⟨hHeld, HBJ, HXJ, HZJ, HNJ, HGJ, HGNJ⟩
      try dsimp only at HGJ
      try dsimp only at HGNJ
      refine zm ?_
      refine zo 4 14 #[T,T,T,T,T,T,T,F,F,T,F] (fun K hK => ?_); refine goes_ Tryz.func35 (by kernel_rfl) rfl #[.slice A0_1 l0_1.length c0_1] (by rfl) rfl rfl z37 ?_
      with_reducible refine (slices_Clone_string_string.calls A0_1 c0_1 l0_1 l0_1 _ (HR1.out _ HBJ.out) HC1.out HCK.out).mono ?_
      rintro e_ wN ⟨v_, rfl, hr_, hb_⟩; refine ⟨_, rfl, ?_⟩; obtain ⟨A_, c_, rfl⟩ := Kd.R_slice hr_; have HBN := A0k (pS HBJ.out hb_); have HXN := A0k (bB HXJ.out hb_); have HZN := A0k (bB HZJ.out hb_); have HNN := A0k (Nat.le_trans HNJ.out (Below.size hb_)); have HKN := A0k (Kd.R_lower hr_ (Nat.le_trans (Nat.le_add_right _ 2) HNJ.out)); have HGN := A0k (bB HGJ.out hb_); have HGNN := A0k (HGNJ.out); refine hK.out _ _ ⟨bq HXN.out 0, bq HXN.out 1, bq HXN.out 2⟩ (fun hHeld => ?_); clear hK K; refine zn ?_
      exact norm_ z9 (hJ4_9 (A_, c_, g9) _ ⟨hHeld, HBN, HXN, HZN, HNN, HKN, HGN, HGNN⟩)
    ·skip; rintro ⟨A4, c4⟩ wJ4 ⟨hHeld, HBJ, HXJ, HZJ, HNJ, HKJ⟩
     try dsimp only at HKJ
     refine zm ?_
     refine two_ (i := 7) (j := 9) (Ni := some 17) (Nj := some 7) #[T,T,T,T,T,T,T,T,F,F,F] #[T,T,T,T,T,T,T,F,F,T,F] rfl rfl rfl rfl (by kernel_rfl) (by decide) (by decide) (fun K hK => ?_) (fun K hK => ?_)
     ·skip; refine goes_ Tryz.func35 (by kernel_rfl) rfl #[.slice A0_2 l0_2.length c0_2] (by rfl) rfl rfl z37 ?_
      with_reducible refine (slices_Clone_string_string.calls A0_2 c0_2 l0_2 l0_2 _ (HR2.out _ HBJ.out) HC2.out HCV.out).mono ?_
      rintro e_ wN ⟨v_, rfl, hr_, hb_⟩; refine ⟨_, rfl, ?_⟩; obtain ⟨A_, c_, rfl⟩ := Kd.R_slice hr_; have HBN := A0k (pS HBJ.out hb_); have HXN := A0k (bB HXJ.out hb_); have HZN := A0k (bB HZJ.out hb_); have HNN := A0k (Nat.le_trans HNJ.out (Below.size hb_)); have HKN := A0k (Kd.R_below (Kd.R_mono (Kd.R_bound HKJ.out) (fun _ hk_ => hk_.2.2.1)) hb_); have HVN := A0k ((show Kd.R Kd.string 9 wN w.heap.size (fun k_ => wJ4.heap.size ≤ k_) _ _ from Kd.R_lower (Kd.R_mono (Kd.R_bound hr_) (fun _ hk_ => hk_.2.1)) (Nat.le_trans (Nat.le_add_right _ 2) HNJ.out))); have HMN := A0k (Below.size hb_); refine hK.out _ _ ⟨bq HXN.out 0, bq HXN.out 1, bq HXN.out 2⟩ (fun hHeld => ?_); clear hK K; refine zn ?_
      refine zp 8 18 #[T,T,T,T,T,T,T,T,T,F,F] ?_
      exact norm_ z9 (hJ4_7 (A4, c4, A_, c_, wJ4.heap.size) _ ⟨hHeld, HBN, HXN, HZN, HNN, HKN, HVN, HMN⟩)
     ·skip; refine value_ (w1 := ?_) (v := ?_) (by rfl) rfl ?_ ?_; rotate_left 2
      ·go_simp
       constructor
       ·rfl
       ·rfl
      have HBN := A0k (pS HBJ.out (pA (Below.refl _ _) (.cells #[.int .i64 0, .slice none 0 0, .slice none 0 0, .slice none 0 0] 28))); have HXN := A0k (bB HXJ.out (pA (Below.refl _ _) (.cells #[.int .i64 0, .slice none 0 0, .slice none 0 0, .slice none 0 0] 28))); have HZN := A0k (bB HZJ.out (pA (Below.refl _ _) (.cells #[.int .i64 0, .slice none 0 0, .slice none 0 0, .slice none 0 0] 28))); have HNN := A0k (Nat.le_trans HNJ.out (Below.size (pA (Below.refl _ _) (.cells #[.int .i64 0, .slice none 0 0, .slice none 0 0, .slice none 0 0] 28)))); have HKN := A0k (Kd.R_below HKJ.out (pA (Below.refl _ _) (.cells #[.int .i64 0, .slice none 0 0, .slice none 0 0, .slice none 0 0] 28))); have HGN := A0k (heap_alloc_new wJ4 (.cells #[.int .i64 0, .slice none 0 0, .slice none 0 0, .slice none 0 0] 28)); have HGNN := A0k (HNJ.out); refine hK.out _ _ ⟨bq HXN.out 0, bq HXN.out 1, bq HXN.out 2⟩ (fun hHeld => ?_); clear hK K; refine zn ?_
      exact norm_ z9 (hJ4_9 (A4, c4, wJ4.heap.size) _ ⟨hHeld, HBN, HXN, HZN, HNN, HKN, HGN, HGNN⟩)
   ·skip; rintro ⟨A4, c4, g9⟩ wJ4_9 ⟨hHeld, HBJ, HXJ, HZJ, HNJ, HKJ, HGJ, HGNJ⟩
    try dsimp only at HKJ
    try dsimp only at HGJ
    try dsimp only at HGNJ
    refine zm ?_
    refine zo 7 17 #[T,T,T,T,T,T,T,T,F,T,F] (fun K hK => ?_); refine goes_ Tryz.func35 (by kernel_rfl) rfl #[.slice A0_2 l0_2.length c0_2] (by rfl) rfl rfl z37 ?_
    with_reducible refine (slices_Clone_string_string.calls A0_2 c0_2 l0_2 l0_2 _ (HR2.out _ HBJ.out) HC2.out HCV.out).mono ?_
    rintro e_ wN ⟨v_, rfl, hr_, hb_⟩; refine ⟨_, rfl, ?_⟩; obtain ⟨A_, c_, rfl⟩ := Kd.R_slice hr_; have HBN := A0k (pS HBJ.out hb_); have HXN := A0k (bB HXJ.out hb_); have HZN := A0k (bB HZJ.out hb_); have HNN := A0k (Nat.le_trans HNJ.out (Below.size hb_)); have HKN := A0k (Kd.R_below (Kd.R_mono (Kd.R_bound HKJ.out) (fun _ hk_ => hk_.2.2.1)) hb_); have HGN := A0k (bB HGJ.out hb_); have HGNN := A0k (HGNJ.out); have HVN := A0k ((show Kd.R Kd.string 9 wN w.heap.size (fun k_ => wJ4_9.heap.size ≤ k_) _ _ from Kd.R_lower (Kd.R_mono (Kd.R_bound hr_) (fun _ hk_ => hk_.2.1)) (Nat.le_trans (Nat.le_add_right _ 2) HNJ.out))); have HMN := A0k (Below.size hb_); refine hK.out _ _ ⟨bq HXN.out 0, bq HXN.out 1, bq HXN.out 2⟩ (fun hHeld => ?_); clear hK K; refine zn ?_
    refine zp 8 18 #[T,T,T,T,T,T,T,T,T,T,F] ?_
    exact norm_ z9 (hJ4_7_9 (A4, c4, A_, c_, wJ4_9.heap.size, g9) _ ⟨hHeld, HBN, HXN, HZN, HNN, HKN, HGN, HGNN, HVN, HMN⟩)
  ·skip; rintro ⟨A4, c4, A7, c7, m7⟩ wJ4_7 ⟨hHeld, HBJ, HXJ, HZJ, HNJ, HKJ, HVJ, HMJ⟩
   try dsimp only at HKJ
   try dsimp only at HVJ
   try dsimp only at HMJ
   refine zm ?_
   refine zo 9 7 #[T,T,T,T,T,T,T,T,T,T,F] (fun K hK => ?_); refine value_ (w1 := ?_) (v := ?_) (by rfl) rfl ?_ ?_; rotate_left 2
   ·go_simp
    constructor
    ·rfl
    ·rfl
   have HBN := A0k (pS HBJ.out (pA (Below.refl _ _) (.cells #[.int .i64 0, .slice none 0 0, .slice none 0 0, .slice none 0 0] 28))); have HXN := A0k (bB HXJ.out (pA (Below.refl _ _) (.cells #[.int .i64 0, .slice none 0 0, .slice none 0 0, .slice none 0 0] 28))); have HZN := A0k (bB HZJ.out (pA (Below.refl _ _) (.cells #[.int .i64 0, .slice none 0 0, .slice none 0 0, .slice none 0 0] 28))); have HNN := A0k (Nat.le_trans HNJ.out (Below.size (pA (Below.refl _ _) (.cells #[.int .i64 0, .slice none 0 0, .slice none 0 0, .slice none 0 0] 28)))); have HKN := A0k (Kd.R_below HKJ.out (pA (Below.refl _ _) (.cells #[.int .i64 0, .slice none 0 0, .slice none 0 0, .slice none 0 0] 28))); have HGN := A0k (heap_alloc_new wJ4_7 (.cells #[.int .i64 0, .slice none 0 0, .slice none 0 0, .slice none 0 0] 28)); have HGNN := A0k (HNJ.out); have HVN := A0k (Kd.R_below HVJ.out (pA (Below.refl _ _) (.cells #[.int .i64 0, .slice none 0 0, .slice none 0 0, .slice none 0 0] 28))); have HMN := A0k (Nat.le_trans HMJ.out (Below.size (pA (Below.refl _ _) (.cells #[.int .i64 0, .slice none 0 0, .slice none 0 0, .slice none 0 0] 28)))); refine hK.out _ _ ⟨bq HXN.out 0, bq HXN.out 1, bq HXN.out 2⟩ (fun hHeld => ?_); clear hK K; refine zn ?_
   exact norm_ z9 (hJ4_7_9 (A4, c4, A7, c7, m7, wJ4_7.heap.size) _ ⟨hHeld, HBN, HXN, HZN, HNN, HKN, HGN, HGNN, HVN, HMN⟩)
 rintro ⟨A4, c4, A7, c7, m7, g9⟩ w5 ⟨hHeld, HB, HX, HZ, HN, HK, HG, HGN, HV, HM⟩
 try dsimp only at HK
 try dsimp only at HG
 try dsimp only at HGN
 try dsimp only at HV
 try dsimp only at HM
 refine zm ?_
 refine last_ (i := 10) (N := none) #[T,T,T,T,T,T,T,T,T,T,T] rfl rfl (by kernel_rfl) (by decide) (fun K hK => ?_); have hg0 := (bC HG.out 0).trans rfl; have hg1 := (bC HG.out 1).trans rfl; have hg2 := (bC HG.out 2).trans rfl; have hg3 := (bC HG.out 3).trans rfl; have hf0 := bF HG.out 0; have hf1 := bF HG.out 1; have hf2 := bF HG.out 2; have hf3 := bF HG.out 3; refine skip_ (w1 := ?_) (by rfl) rfl ?_ ?_; rotate_left
 ·go_simp
  rfl
 refine hK.out _ _ ?_; clear hK K; refine done_ (by kernel_rfl) ?_; have hgr := gr_four (W := w5) (g := g9) (.int .i64 a0_0) (.slice A4 l0_1.length c4) (.slice A7 l0_2.length c7) (.slice none 0 0); have HG6 := A0k (set_four (x := .int .i64 a0_0) (y := .slice A4 l0_1.length c4) (z := .slice A7 l0_2.length c7) (u := .slice none 0 0) HG.out); have HNE := A0k (show w.heap.size ≠ g9 ∧ gz ≠ g9 by have h1 := HGN.out; have h2 := HGZ.out; omega); have HX6 := A0k (blk_gr HX.out hgr (some_ne HNE.out.1)); have HZ6 := A0k (blk_gr HZ.out hgr (some_ne HNE.out.2)); have HK6 := A0k (Kd.R_blk HK.out HG.out (by decide) hgr); have HV6 := A0k (Kd.R_blk HV.out HG.out (by decide) hgr); have HB6 := A0k (HB.out.grown hgr HB.out.size (fun k_ hk_ => by have h1 := HGN.out; have h2 : k_ = g9 := (by simpa using hk_.symm); omega)); have HM6 := A0k (Nat.le_trans HM.out hgr.4); clear hgr HG HX HZ HK HV HB HM HN hg0 hg1 hg2 hg3 hf0 hf1 hf2 hf3
 (try clear hHeld)
 generalize (((w5.setCell ⟨g9, 0, none⟩ (.int .i64 a0_0)).setCell ⟨g9, 1, none⟩ (.slice A4 l0_1.length c4)).setCell ⟨g9, 2, none⟩ (.slice A7 l0_2.length c7)).setCell ⟨g9, 3, none⟩ (.slice none 0 0) = w6 at *; have H := HH.out; clear HH; have hx0 := (bC HX6.out 0).trans rfl; have hx1 := (bC HX6.out 1).trans rfl; have hx2 := (bC HX6.out 2).trans rfl; have hx3 := (bC HX6.out 3).trans rfl; cases ft with
 | true =>
  rw [if_pos rfl] at H
  by_cases hcc : 0 ≤ fi ∧ fi < (l0_2.length : Int)
  case neg => rw [if_neg hcc] at H; cases H
  rw [if_pos hcc] at H; simp only [Option.some.injEq, Prod.mk.injEq] at H; obtain ⟨rfl, rfl, rfl, rfl⟩ := H; obtain ⟨gv, cv, ev, hgv1, hgv2, hgv3⟩ := Kd.R_form HV6.out (by omega); injection ev with e1 e2 e3
  subst e1 e3; obtain ⟨vcs, hgv3⟩ := hgv3; have HGV := A0k hgv1; have HFC := A0k hcc; have p1 := eq_true hcc.1; have p2 := eq_true hcc.2; have p3 : decide (0 ≤ fi) = true := decide_eq_true hcc.1; have p4 : decide (fi < (l0_2.length : Int)) = true := decide_eq_true hcc.2; clear hcc hgv1 hgv2 hgv3 e2
  go_wp2_with (first
   | (go_at_call 13; (with_reducible refine (page_Find.calls k a0_0 A0_1 c0_1 l0_1 A0_2 c0_2 l0_2 A0_3 c0_3 l0_3 a1 fi true _ (HR1.out _ HB6.out) HC1.out (HR2.out _ HB6.out) HC2.out (HR3.out _ HB6.out) HC3.out HFI.out).mono ?_); rintro e_ w7 ⟨rfl, hb7⟩; have HB7 := A0k (pS HB6.out hb7); have HZ7 := A0k (bB HZ6.out hb7); have HG7 := A0k (bB HG6.out hb7); have HK7 := A0k (Kd.R_below HK6.out hb7); have HV7 := A0k (Kd.R_below HV6.out hb7); have hy2 := (bC HG7.out 2).trans rfl; have HCL := A0k (Kd.R_celln ByteArray.empty HV7.out fi HFC.out.1 HFC.out.2); have hcl := HCL.out.1; have hcf := HCL.out.2; clear hb7)
   | ((with_reducible refine gate_store (t := 9) (p := 30) rfl ?_); refine store_event (t := 9) (p := 30) (v := ?vo_) (w1 := w7.setCell ⟨gv, fi.toNat, none⟩ (.string a2)) ?hg ?ho ?hn ?hr ?_; (case ho => rfl); (case hg => rfl); (case hn => rfl); (case hr => exact z68); intro w8 hw; obtain ⟨hv8, hg8⟩ := Kd.R_putg HV7.out fi a2; rw [← hw] at hv8 hg8; have HV8 := A0k hv8; have HK8 := A0k (Kd.R_grown HK7.out hg8 (fun k_ hk_ => some_ne (fun e_ => by have h1 := HV7.out.1 gv (by simp [Value.ownBlock]); simp only at h1 hk_; omega))); have HG8 := A0k (blk_gr HG7.out hg8 (Kd.R_ne HV7.out HG7.out (by decide))); have HZ8 := A0k (blk_gr HZ7.out hg8 (Kd.R_ne HV7.out HZ7.out (by decide))); have HB8 := A0k (HB7.out.grown hg8 HB7.out.size (Kd.R_base HV7.out)); have hz0 := (bC HG8.out 0).trans rfl; have hz1 := (bC HG8.out 1).trans rfl; have hz2 := (bC HG8.out 2).trans rfl; have hz3 := (bC HG8.out 3).trans rfl; clear hw hv8 hg8 hcl hcf hy2)
   | ((with_reducible refine gate_store (t := 28) (p := 6) rfl ?_); refine store_event (t := 28) (p := 6) (v := ?vp_) (w1 := (((w8.setCell ⟨gz, 0, none⟩ (.int .i64 a0_0)).setCell ⟨gz, 1, none⟩ (.slice A4 l0_1.length c4)).setCell ⟨gz, 2, none⟩ (.slice (some ⟨gv, 0, none⟩) l0_2.length c7)).setCell ⟨gz, 3, none⟩ (.slice none 0 0)) ?hg2 ?ho2 ?hn2 ?hr2 ?_; (case ho2 => rfl); (case hg2 => rfl); (case hn2 => rfl); (case hr2 => (have hq0 := (bC HZ8.out 0).trans rfl; have hq1 := (bC HZ8.out 1).trans rfl; have hq2 := (bC HZ8.out 2).trans rfl; have hq3 := (bC HZ8.out 3).trans rfl; have hf0 := bF HZ8.out 0; have hf1 := bF HZ8.out 1; have hf2 := bF HZ8.out 2; have hf3 := bF HZ8.out 3; first | (go_simp; done) | (go_simp; rfl))); intro w9 hw; have hg9 := gr_four (W := w8) (g := gz) (.int .i64 a0_0) (.slice A4 l0_1.length c4) (.slice (some ⟨gv, 0, none⟩) l0_2.length c7) (.slice none 0 0); have hs9 := set_four (x := .int .i64 a0_0) (y := .slice A4 l0_1.length c4) (z := .slice (some ⟨gv, 0, none⟩) l0_2.length c7) (u := .slice none 0 0) HZ8.out; rw [← hw] at hg9 hs9; have HZ9 := A0k hs9; have HK9 := A0k (Kd.R_blk HK8.out HZ8.out (by decide) hg9); have HV9 := A0k (Kd.R_blk HV8.out HZ8.out (by decide) hg9); have HB9 := A0k (HB8.out.grown hg9 HB8.out.size (fun k_ hk_ => by have h1 := HGZ.out; have h2 : k_ = gz := (by simpa using hk_.symm); omega)); clear hw hg9 hs9 hz0 hz1 hz2 hz3))
  refine bodyPost_ret (results_cell_row rfl _ _ gz 28 #[.int .i64 a0_0, .slice A4 l0_1.length c4, .slice (some ⟨gv, 0, none⟩) l0_2.length c7, .slice none 0 0] (0, 0) _ rfl HZ9.out Tryz.underlying28 rfl (by kernel_rfl)) rfl ?_; exact ⟨_, _, _, rfl, Kd.R_mono HK9.out (fun k_ hk_ => some_ne (fun e_ => by have h1 := HV9.out.1 gv (by simp [Value.ownBlock]); have e2 : k_ = gv := e_; simp only at h1 hk_; omega)), Kd.R_mono HV9.out (fun k_ hk_ e_ => by have h1 := HK9.out.1 k_ e_.symm; simp only at h1 hk_; omega), Kd.R_nil _ _ _ _ _, HB9.out⟩
 | false =>
  rw [if_neg (by decide)] at H
  by_cases hcc : 0 ≤ fi ∧ fi ≤ (l0_1.length : Int) ∧ fi ≤ (l0_2.length : Int)
  case neg => rw [if_neg hcc] at H; cases H
  rw [if_pos hcc] at H; simp only [Option.some.injEq, Prod.mk.injEq] at H; obtain ⟨rfl, h2, h3, rfl⟩ := H; obtain ⟨n, rfl⟩ := Int.eq_ofNat_of_zero_le hcc.1; have HFC := A0k (show n ≤ l0_1.length ∧ n ≤ l0_2.length by omega); clear hcc; have HL1 := A0k (show l0_1.take n ++ a1 :: l0_1.drop n = r2 from h2); have HL2 := A0k (show l0_2.take n ++ a2 :: l0_2.drop n = r3 from h3); clear h2 h3; go_wp2_with (go_at_call 13; (with_reducible refine (page_Find.calls k a0_0 A0_1 c0_1 l0_1 A0_2 c0_2 l0_2 A0_3 c0_3 l0_3 a1 (n : Int) false _ (HR1.out _ HB6.out) HC1.out (HR2.out _ HB6.out) HC2.out (HR3.out _ HB6.out) HC3.out HFI.out).mono ?_); rintro e_ w7 ⟨rfl, hb7⟩; have HB7 := A0k (pS HB6.out hb7); have HZ7 := A0k (bB HZ6.out hb7); have HG7 := A0k (bB HG6.out hb7); have HK7 := A0k (Kd.R_below HK6.out hb7); have HV7 := A0k (Kd.R_mono (Kd.R_bound (Kd.R_below HV6.out hb7)) (fun _ hk_ => (⟨hk_.1, hk_.2.2.1⟩ : m7 ≤ _ ∧ _ < w7.heap.size))); have HM7 := A0k (Nat.le_trans HM6.out hb7.size); clear hb7)
  clear hx0 hx1 hx2 hx3; refine start_ (n := 16) (S := fun w' => w'.cell? ⟨g9, 1, none⟩ = some (.slice A4 l0_1.length c4) ∧ w'.cell? ⟨g9, 2, none⟩ = some (.slice A7 l0_2.length c7)) (ds := [13, 15]) #[F,F,F,F,F,F,F,F,F,F,F,F,F,F,F,F] (by kernel_rfl) rfl rfl ⟨(bC (bD HG7.out) 1).trans rfl, (bC (bD HG7.out) 2).trans rfl⟩ (fun hHeld => ?_); refine zp 0 32 #[T,F,F,F,F,F,F,F,F,F,F,F,F,F,F,F] ?_
  refine zp 2 34 #[T,F,T,F,F,F,F,F,F,F,F,F,F,F,F,F] ?_
  refine zp 3 35 #[T,F,T,T,F,F,F,F,F,F,F,F,F,F,F,F] ?_
  refine zp 6 38 #[T,F,T,T,F,F,T,F,F,F,F,F,F,F,F,F] ?_
  refine zp 8 40 #[T,F,T,T,F,F,T,F,T,F,F,F,F,F,F,F] ?_
  refine zp 9 41 #[T,F,T,T,F,F,T,F,T,T,F,F,F,F,F,F] ?_
  refine zt2 1 33 #[T,T,T,T,F,F,T,F,T,T,F,F,F,F,F,F] hHeld ?_; refine zt2 7 39 #[T,T,T,T,F,F,T,T,T,T,F,F,F,F,F,F] hHeld ?_; refine join_ (σ := Nat × Option Addr × Nat × Nat × Option Addr × Nat × Nat) 3 #[T,T,T,T,T,T,T,T,T,T,T,T,T,F,F,F] (fun s => [(36, .slice (some ⟨s.1, 0, none⟩) 1 1), (37, .slice s.2.1 r2.length s.2.2.1), (42, .slice (some ⟨s.2.2.2.1, 0, none⟩) 1 1), (43, .slice s.2.2.2.2.1 r3.length s.2.2.2.2.2.1), (44, .pointer (some ⟨g9, 1, none⟩))]) (fun s w' => (w'.cell? ⟨g9, 1, none⟩ = some (.slice A4 l0_1.length c4) ∧ w'.cell? ⟨g9, 2, none⟩ = some (.slice A7 l0_2.length c7)) ∧ Aside0 (Below w.heap.size w w') ∧ Aside0 (w'.heap[g9]? = some (.cells #[.int .i64 a0_0, .slice A4 l0_1.length c4, .slice A7 l0_2.length c7, .slice none 0 0] 28 (0, 0))) ∧ Aside0 (w'.heap[gz]? = some (.cells #[.int .i64 0, .slice none 0 0, .slice none 0 0, .slice none 0 0] 28 (0, 0))) ∧ Aside0 (w7.heap.size ≤ w'.heap.size) ∧ Aside0 (Kd.R Kd.string 9 w' w.heap.size (fun k_ => (k_ < m7 ∨ w7.heap.size ≤ k_) ∧ k_ < s.2.2.2.2.2.2) (.slice s.2.1 r2.length s.2.2.1) r2) ∧ Aside0 (Kd.R Kd.string 9 w' w.heap.size (fun k_ => (m7 ≤ k_ ∧ k_ < w7.heap.size) ∨ s.2.2.2.2.2.2 ≤ k_) (.slice s.2.2.2.2.1 r3.length s.2.2.2.2.2.1) r3) ∧ Aside0 (w'.heap[s.1]? = some (.cells #[.string a1] 9 (0, 0))) ∧ Aside0 (w7.heap.size ≤ s.1) ∧ Aside0 (w'.heap[s.2.2.2.1]? = some (.cells #[.string a2] 9 (0, 0))) ∧ Aside0 (w7.heap.size ≤ s.2.2.2.1)) ?_ ?_; rotate_left
  ·intro hJ4_5_10_11; refine join_ (σ := Nat × Option Addr × Nat × Nat) 4 #[T,T,T,T,T,T,T,T,T,T,T,F,T,F,F,F] (fun s => [(36, .slice (some ⟨s.1, 0, none⟩) 1 1), (37, .slice s.2.1 r2.length s.2.2.1), (42, .slice (some ⟨s.2.2.2, 0, none⟩) 1 1), (44, .pointer (some ⟨g9, 1, none⟩))]) (fun s w' => (w'.cell? ⟨g9, 1, none⟩ = some (.slice A4 l0_1.length c4) ∧ w'.cell? ⟨g9, 2, none⟩ = some (.slice A7 l0_2.length c7)) ∧ Aside0 (Below w.heap.size w w') ∧ Aside0 (w'.heap[g9]? = some (.cells #[.int .i64 a0_0, .slice A4 l0_1.length c4, .slice A7 l0_2.length c7, .slice none 0 0] 28 (0, 0))) ∧ Aside0 (w'.heap[gz]? = some (.cells #[.int .i64 0, .slice none 0 0, .slice none 0 0, .slice none 0 0] 28 (0, 0))) ∧ Aside0 (w7.heap.size ≤ w'.heap.size) ∧ Aside0 (Kd.R Kd.string 9 w' w.heap.size (fun k_ => k_ < m7 ∨ w7.heap.size ≤ k_) (.slice s.2.1 r2.length s.2.2.1) r2) ∧ Aside0 (Kd.R Kd.string 9 w' w.heap.size (fun k_ => m7 ≤ k_ ∧ k_ < w7.heap.size) (.slice A7 l0_2.length c7) l0_2) ∧ Aside0 (w'.heap[s.1]? = some (.cells #[.string a1] 9 (0, 0))) ∧ Aside0 (w7.heap.size ≤ s.1) ∧ Aside0 (w'.heap[s.2.2.2]? = some (.cells #[.string a2] 9 (0, 0))) ∧ Aside0 (w7.heap.size ≤ s.2.2.2)) ?_ ?_; rotate_left
   ·intro hJ4_5_10; refine join_ (σ := Nat × Option Addr × Nat) 5 #[T,T,T,T,T,T,T,T,T,T,F,F,T,F,F,F] (fun s => [(36, .slice (some ⟨s.1, 0, none⟩) 1 1), (37, .slice s.2.1 r2.length s.2.2), (44, .pointer (some ⟨g9, 1, none⟩))]) (fun s w' => (w'.cell? ⟨g9, 1, none⟩ = some (.slice A4 l0_1.length c4) ∧ w'.cell? ⟨g9, 2, none⟩ = some (.slice A7 l0_2.length c7)) ∧ Aside0 (Below w.heap.size w w') ∧ Aside0 (w'.heap[g9]? = some (.cells #[.int .i64 a0_0, .slice A4 l0_1.length c4, .slice A7 l0_2.length c7, .slice none 0 0] 28 (0, 0))) ∧ Aside0 (w'.heap[gz]? = some (.cells #[.int .i64 0, .slice none 0 0, .slice none 0 0, .slice none 0 0] 28 (0, 0))) ∧ Aside0 (w7.heap.size ≤ w'.heap.size) ∧ Aside0 (Kd.R Kd.string 9 w' w.heap.size (fun k_ => k_ < m7 ∨ w7.heap.size ≤ k_) (.slice s.2.1 r2.length s.2.2) r2) ∧ Aside0 (Kd.R Kd.string 9 w' w.heap.size (fun k_ => m7 ≤ k_ ∧ k_ < w7.heap.size) (.slice A7 l0_2.length c7) l0_2) ∧ Aside0 (w'.heap[s.1]? = some (.cells #[.string a1] 9 (0, 0))) ∧ Aside0 (w7.heap.size ≤ s.1)) ?_ ?_; rotate_left
    ·intro hJ4_5; refine join_ (σ := Nat × Nat) 6 #[T,T,T,T,T,F,T,T,T,T,T,F,F,F,F,F] (fun s => [(36, .slice (some ⟨s.1, 0, none⟩) 1 1), (42, .slice (some ⟨s.2, 0, none⟩) 1 1)]) (fun s w' => (w'.cell? ⟨g9, 1, none⟩ = some (.slice A4 l0_1.length c4) ∧ w'.cell? ⟨g9, 2, none⟩ = some (.slice A7 l0_2.length c7)) ∧ Aside0 (Below w.heap.size w w') ∧ Aside0 (w'.heap[g9]? = some (.cells #[.int .i64 a0_0, .slice A4 l0_1.length c4, .slice A7 l0_2.length c7, .slice none 0 0] 28 (0, 0))) ∧ Aside0 (w'.heap[gz]? = some (.cells #[.int .i64 0, .slice none 0 0, .slice none 0 0, .slice none 0 0] 28 (0, 0))) ∧ Aside0 (w7.heap.size ≤ w'.heap.size) ∧ Aside0 (Kd.R Kd.string 9 w' w.heap.size (fun k_ => k_ < m7) (.slice A4 l0_1.length c4) l0_1) ∧ Aside0 (Kd.R Kd.string 9 w' w.heap.size (fun k_ => m7 ≤ k_ ∧ k_ < w7.heap.size) (.slice A7 l0_2.length c7) l0_2) ∧ Aside0 (w'.heap[s.1]? = some (.cells #[.string a1] 9 (0, 0))) ∧ Aside0 (w7.heap.size ≤ s.1) ∧ Aside0 (w'.heap[s.2]? = some (.cells #[.string a2] 9 (0, 0))) ∧ Aside0 (w7.heap.size ≤ s.2)) ?_ ?_; rotate_left
     ·intro hJ4_10; refine join_ (σ := Nat) 7 #[T,T,T,T,T,F,T,T,T,T,F,F,F,F,F,F] (fun s => [(36, .slice (some ⟨s, 0, none⟩) 1 1)]) (fun s w' => (w'.cell? ⟨g9, 1, none⟩ = some (.slice A4 l0_1.length c4) ∧ w'.cell? ⟨g9, 2, none⟩ = some (.slice A7 l0_2.length c7)) ∧ Aside0 (Below w.heap.size w w') ∧ Aside0 (w'.heap[g9]? = some (.cells #[.int .i64 a0_0, .slice A4 l0_1.length c4, .slice A7 l0_2.length c7, .slice none 0 0] 28 (0, 0))) ∧ Aside0 (w'.heap[gz]? = some (.cells #[.int .i64 0, .slice none 0 0, .slice none 0 0, .slice none 0 0] 28 (0, 0))) ∧ Aside0 (w7.heap.size ≤ w'.heap.size) ∧ Aside0 (Kd.R Kd.string 9 w' w.heap.size (fun k_ => k_ < m7) (.slice A4 l0_1.length c4) l0_1) ∧ Aside0 (Kd.R Kd.string 9 w' w.heap.size (fun k_ => m7 ≤ k_ ∧ k_ < w7.heap.size) (.slice A7 l0_2.length c7) l0_2) ∧ Aside0 (w'.heap[s]? = some (.cells #[.string a1] 9 (0, 0))) ∧ Aside0 (w7.heap.size ≤ s)) ?_ ?_; rotate_left
      ·intro hJ4; refine join_ (σ := Nat) 7 #[T,T,T,T,F,F,T,T,T,T,T,F,F,F,F,F] (fun s => [(42, .slice (some ⟨s, 0, none⟩) 1 1)]) (fun s w' => (w'.cell? ⟨g9, 1, none⟩ = some (.slice A4 l0_1.length c4) ∧ w'.cell? ⟨g9, 2, none⟩ = some (.slice A7 l0_2.length c7)) ∧ Aside0 (Below w.heap.size w w') ∧ Aside0 (w'.heap[g9]? = some (.cells #[.int .i64 a0_0, .slice A4 l0_1.length c4, .slice A7 l0_2.length c7, .slice none 0 0] 28 (0, 0))) ∧ Aside0 (w'.heap[gz]? = some (.cells #[.int .i64 0, .slice none 0 0, .slice none 0 0, .slice none 0 0] 28 (0, 0))) ∧ Aside0 (w7.heap.size ≤ w'.heap.size) ∧ Aside0 (Kd.R Kd.string 9 w' w.heap.size (fun k_ => k_ < m7) (.slice A4 l0_1.length c4) l0_1) ∧ Aside0 (Kd.R Kd.string 9 w' w.heap.size (fun k_ => m7 ≤ k_ ∧ k_ < w7.heap.size) (.slice A7 l0_2.length c7) l0_2) ∧ Aside0 (w'.heap[s]? = some (.cells #[.string a2] 9 (0, 0))) ∧ Aside0 (w7.heap.size ≤ s)) ?_ ?_; rotate_left
       ·intro hJ10; refine two_ (i := 4) (j := 10) (Ni := some 36) (Nj := some 42) #[T,T,T,T,T,F,T,T,T,T,F,F,F,F,F,F] #[T,T,T,T,F,F,T,T,T,T,T,F,F,F,F,F] rfl rfl rfl rfl (by kernel_rfl) (by decide) (by decide) (fun K hK => ?_) (fun K hK => ?_)
        ·skip; refine value_ (w1 := ?_) (v := ?_) (by rfl) rfl ?_ ?_; rotate_left 2
         ·go_simp
          constructor
          ·rfl
          ·rfl
         have HBN := A0k (pS HB7.out.drew (pA (Below.refl _ _) (.cells #[.string a1] 9))); have HGN := A0k (bB (bD HG7.out) (pA (Below.refl _ _) (.cells #[.string a1] 9))); have HZN := A0k (bB (bD HZ7.out) (pA (Below.refl _ _) (.cells #[.string a1] 9))); have HNN := A0k (Nat.le_trans (show w7.heap.size ≤ w7.drew.heap.size from Nat.le_refl _) (Below.size (pA (Below.refl _ _) (.cells #[.string a1] 9)))); have HKN := A0k (Kd.R_below (Kd.R_drew HK7.out) (pA (Below.refl _ _) (.cells #[.string a1] 9))); have HVN := A0k (Kd.R_below (Kd.R_drew HV7.out) (pA (Below.refl _ _) (.cells #[.string a1] 9))); have HL4N := A0k (heap_alloc_new w7.drew (.cells #[.string a1] 9)); have HLN4N := A0k ((show w7.heap.size ≤ w7.drew.heap.size from Nat.le_refl _)); refine hK.out _ _ ⟨bq HGN.out 1, bq HGN.out 2⟩ (fun hHeld => ?_); clear hK K; refine zn ?_
         exact norm_ z9 (hJ4 w7.drew.heap.size _ ⟨hHeld, HBN, HGN, HZN, HNN, HKN, HVN, HL4N, HLN4N⟩)
        ·skip; refine value_ (w1 := ?_) (v := ?_) (by rfl) rfl ?_ ?_; rotate_left 2
         ·go_simp
          constructor
          ·rfl
          ·rfl
         have HBN := A0k (pS HB7.out.drew (pA (Below.refl _ _) (.cells #[.string a2] 9))); have HGN := A0k (bB (bD HG7.out) (pA (Below.refl _ _) (.cells #[.string a2] 9))); have HZN := A0k (bB (bD HZ7.out) (pA (Below.refl _ _) (.cells #[.string a2] 9))); have HNN := A0k (Nat.le_trans (show w7.heap.size ≤ w7.drew.heap.size from Nat.le_refl _) (Below.size (pA (Below.refl _ _) (.cells #[.string a2] 9)))); have HKN := A0k (Kd.R_below (Kd.R_drew HK7.out) (pA (Below.refl _ _) (.cells #[.string a2] 9))); have HVN := A0k (Kd.R_below (Kd.R_drew HV7.out) (pA (Below.refl _ _) (.cells #[.string a2] 9))); have HL10N := A0k (heap_alloc_new w7.drew (.cells #[.string a2] 9)); have HLN10N := A0k ((show w7.heap.size ≤ w7.drew.heap.size from Nat.le_refl _)); refine hK.out _ _ ⟨bq HGN.out 1, bq HGN.out 2⟩ (fun hHeld => ?_); clear hK K; refine zn ?_
         exact norm_ z9 (hJ10 w7.drew.heap.size _ ⟨hHeld, HBN, HGN, HZN, HNN, HKN, HVN, HL10N, HLN10N⟩)
       ·skip; rintro b10 wJ10 ⟨hHeld, HBJ, HGJ, HZJ, HNJ, HKJ, HVJ, HL10J, HLN10J⟩
        try dsimp only at HL10J
        try dsimp only at HLN10J
        refine zm ?_
        refine zo 4 36 #[T,T,T,T,T,F,T,T,T,T,T,F,F,F,F,F] (fun K hK => ?_); refine value_ (w1 := ?_) (v := ?_) (by rfl) rfl ?_ ?_; rotate_left 2
        ·go_simp
         constructor
         ·rfl
         ·rfl
        have HBN := A0k (pS HBJ.out (pA (Below.refl _ _) (.cells #[.string a1] 9))); have HGN := A0k (bB HGJ.out (pA (Below.refl _ _) (.cells #[.string a1] 9))); have HZN := A0k (bB HZJ.out (pA (Below.refl _ _) (.cells #[.string a1] 9))); have HNN := A0k (Nat.le_trans HNJ.out (Below.size (pA (Below.refl _ _) (.cells #[.string a1] 9)))); have HKN := A0k (Kd.R_below HKJ.out (pA (Below.refl _ _) (.cells #[.string a1] 9))); have HVN := A0k (Kd.R_below HVJ.out (pA (Below.refl _ _) (.cells #[.string a1] 9))); have HL4N := A0k (heap_alloc_new wJ10 (.cells #[.string a1] 9)); have HLN4N := A0k (HNJ.out); have HL10N := A0k (bB HL10J.out (pA (Below.refl _ _) (.cells #[.string a1] 9))); have HLN10N := A0k (HLN10J.out); refine hK.out _ _ ⟨bq HGN.out 1, bq HGN.out 2⟩ (fun hHeld => ?_); clear hK K; refine zn ?_
        exact norm_ z9 (hJ4_10 (wJ10.heap.size, b10) _ ⟨hHeld, HBN, HGN, HZN, HNN, HKN, HVN, HL4N, HLN4N, HL10N, HLN10N⟩)
      ·skip; rintro b4 wJ4 ⟨hHeld, HBJ, HGJ, HZJ, HNJ, HKJ, HVJ, HL4J, HLN4J⟩
       try dsimp only at HL4J
       try dsimp only at HLN4J
       refine zm ?_
       refine two_ (i := 5) (j := 10) (Ni := some 37) (Nj := some 42) #[T,T,T,T,T,T,T,T,T,T,F,F,F,F,F,F] #[T,T,T,T,T,F,T,T,T,T,T,F,F,F,F,F] rfl rfl rfl rfl (by kernel_rfl) (by decide) (by decide) (fun K hK => ?_) (fun K hK => ?_)
       ·skip; refine goes_ Tryz.func36 (by kernel_rfl) rfl #[.slice A4 l0_1.length c4, .int .i64 (n : Int), .slice (some ⟨b4, 0, none⟩) 1 1] (by rfl) rfl rfl z37 ?_
        with_reducible refine (ins_string w.heap.size (fun k_ => k_ < m7) A4 c4 l0_1.length n l0_1 a1 b4 _ HKJ.out rfl (Below.size HBJ.out) HFC.out.1 HLE.out.1 HL4J.out (fun e_ => by have h1_ := Kd.R_ok HKJ.out b4 e_; have h2_ := HLN4J.out; have h3_ := HM7.out; omega)).mono ?_
        rintro e_ wN ⟨⟨v_, rfl, hr_⟩, hg_, hs_⟩; refine ⟨_, rfl, ?_⟩; rw [HL1.out] at hr_; obtain ⟨A_, c_, rfl⟩ := Kd.R_slice hr_; have HBN := A0k (Below.grown HBJ.out hg_ (Below.size HBJ.out) (Kd.R_base HKJ.out)); have HGN := A0k (blk_gr HGJ.out hg_ (Kd.R_ne HKJ.out HGJ.out (by decide))); have HZN := A0k (blk_gr HZJ.out hg_ (Kd.R_ne HKJ.out HZJ.out (by decide))); have HNN := A0k (Nat.le_trans HNJ.out hs_); have HKN := A0k (Kd.R_mono hr_ (fun _ hk_ => hk_.imp id (Nat.le_trans HNJ.out))); have HVN := A0k (Kd.R_grown HVJ.out hg_ (fun k_ hk_ e_ => by have h1_ := Kd.R_ok HKJ.out k_ e_.symm; (try simp only at hk_); omega)); have HL4N := A0k (blk_gr HL4J.out hg_ (fun e_ => by have h1_ := Kd.R_ok HKJ.out b4 e_.symm; have h2_ := HLN4J.out; have h3_ := HM7.out; omega)); have HLN4N := A0k (HLN4J.out); refine hK.out _ _ ⟨bq HGN.out 1, bq HGN.out 2⟩ (fun hHeld => ?_); clear hK K; refine zn ?_
        refine zp 12 44 #[T,T,T,T,T,T,T,T,T,T,F,F,T,F,F,F] ?_
        exact norm_ z9 (hJ4_5 (b4, A_, c_) _ ⟨hHeld, HBN, HGN, HZN, HNN, HKN, HVN, HL4N, HLN4N⟩)
       ·skip; refine value_ (w1 := ?_) (v := ?_) (by rfl) rfl ?_ ?_; rotate_left 2
        ·go_simp
         constructor
         ·rfl
         ·rfl
        have HBN := A0k (pS HBJ.out (pA (Below.refl _ _) (.cells #[.string a2] 9))); have HGN := A0k (bB HGJ.out (pA (Below.refl _ _) (.cells #[.string a2] 9))); have HZN := A0k (bB HZJ.out (pA (Below.refl _ _) (.cells #[.string a2] 9))); have HNN := A0k (Nat.le_trans HNJ.out (Below.size (pA (Below.refl _ _) (.cells #[.string a2] 9)))); have HKN := A0k (Kd.R_below HKJ.out (pA (Below.refl _ _) (.cells #[.string a2] 9))); have HVN := A0k (Kd.R_below HVJ.out (pA (Below.refl _ _) (.cells #[.string a2] 9))); have HL4N := A0k (bB HL4J.out (pA (Below.refl _ _) (.cells #[.string a2] 9))); have HLN4N := A0k (HLN4J.out); have HL10N := A0k (heap_alloc_new wJ4 (.cells #[.string a2] 9)); have HLN10N := A0k (HNJ.out); refine hK.out _ _ ⟨bq HGN.out 1, bq HGN.out 2⟩ (fun hHeld => ?_); clear hK K; refine zn ?_
        exact norm_ z9 (hJ4_10 (b4, wJ4.heap.size) _ ⟨hHeld, HBN, HGN, HZN, HNN, HKN, HVN, HL4N, HLN4N, HL10N, HLN10N⟩)
     ·skip; rintro ⟨b4, b10⟩ wJ4_10 ⟨hHeld, HBJ, HGJ, HZJ, HNJ, HKJ, HVJ, HL4J, HLN4J, HL10J, HLN10J⟩
      try dsimp only at HL4J
      try dsimp only at HLN4J
      try dsimp only at HL10J
      try dsimp only at HLN10J
      refine zm ?_
      refine zo 5 37 #[T,T,T,T,T,T,T,T,T,T,T,F,F,F,F,F] (fun K hK => ?_); refine goes_ Tryz.func36 (by kernel_rfl) rfl #[.slice A4 l0_1.length c4, .int .i64 (n : Int), .slice (some ⟨b4, 0, none⟩) 1 1] (by rfl) rfl rfl z37 ?_
      with_reducible refine (ins_string w.heap.size (fun k_ => k_ < m7) A4 c4 l0_1.length n l0_1 a1 b4 _ HKJ.out rfl (Below.size HBJ.out) HFC.out.1 HLE.out.1 HL4J.out (fun e_ => by have h1_ := Kd.R_ok HKJ.out b4 e_; have h2_ := HLN4J.out; have h3_ := HM7.out; omega)).mono ?_
      rintro e_ wN ⟨⟨v_, rfl, hr_⟩, hg_, hs_⟩; refine ⟨_, rfl, ?_⟩; rw [HL1.out] at hr_; obtain ⟨A_, c_, rfl⟩ := Kd.R_slice hr_; have HBN := A0k (Below.grown HBJ.out hg_ (Below.size HBJ.out) (Kd.R_base HKJ.out)); have HGN := A0k (blk_gr HGJ.out hg_ (Kd.R_ne HKJ.out HGJ.out (by decide))); have HZN := A0k (blk_gr HZJ.out hg_ (Kd.R_ne HKJ.out HZJ.out (by decide))); have HNN := A0k (Nat.le_trans HNJ.out hs_); have HKN := A0k (Kd.R_mono hr_ (fun _ hk_ => hk_.imp id (Nat.le_trans HNJ.out))); have HVN := A0k (Kd.R_grown HVJ.out hg_ (fun k_ hk_ e_ => by have h1_ := Kd.R_ok HKJ.out k_ e_.symm; (try simp only at hk_); omega)); have HL4N := A0k (blk_gr HL4J.out hg_ (fun e_ => by have h1_ := Kd.R_ok HKJ.out b4 e_.symm; have h2_ := HLN4J.out; have h3_ := HM7.out; omega)); have HLN4N := A0k (HLN4J.out); have HL10N := A0k (blk_gr HL10J.out hg_ (fun e_ => by have h1_ := Kd.R_ok HKJ.out b10 e_.symm; have h2_ := HLN10J.out; have h3_ := HM7.out; omega)); have HLN10N := A0k (HLN10J.out); refine hK.out _ _ ⟨bq HGN.out 1, bq HGN.out 2⟩ (fun hHeld => ?_); clear hK K; refine zn ?_
      refine zp 12 44 #[T,T,T,T,T,T,T,T,T,T,T,F,T,F,F,F] ?_
      exact norm_ z9 (hJ4_5_10 (b4, A_, c_, b10) _ ⟨hHeld, HBN, HGN, HZN, HNN, HKN, HVN, HL4N, HLN4N, HL10N, HLN10N⟩)
    ·skip; rintro ⟨b4, A5, c5⟩ wJ4_5 ⟨hHeld, HBJ, HGJ, HZJ, HNJ, HKJ, HVJ, HL4J, HLN4J⟩
     try dsimp only at HKJ
     try dsimp only at HL4J
     try dsimp only at HLN4J
     refine zm ?_
     refine zo 10 42 #[T,T,T,T,T,T,T,T,T,T,T,F,T,F,F,F] (fun K hK => ?_); refine value_ (w1 := ?_) (v := ?_) (by rfl) rfl ?_ ?_; rotate_left 2
     ·go_simp
      constructor
      ·rfl
      ·rfl
     have HBN := A0k (pS HBJ.out (pA (Below.refl _ _) (.cells #[.string a2] 9))); have HGN := A0k (bB HGJ.out (pA (Below.refl _ _) (.cells #[.string a2] 9))); have HZN := A0k (bB HZJ.out (pA (Below.refl _ _) (.cells #[.string a2] 9))); have HNN := A0k (Nat.le_trans HNJ.out (Below.size (pA (Below.refl _ _) (.cells #[.string a2] 9)))); have HKN := A0k (Kd.R_below HKJ.out (pA (Below.refl _ _) (.cells #[.string a2] 9))); have HVN := A0k (Kd.R_below HVJ.out (pA (Below.refl _ _) (.cells #[.string a2] 9))); have HL4N := A0k (bB HL4J.out (pA (Below.refl _ _) (.cells #[.string a2] 9))); have HLN4N := A0k (HLN4J.out); have HL10N := A0k (heap_alloc_new wJ4_5 (.cells #[.string a2] 9)); have HLN10N := A0k (HNJ.out); refine hK.out _ _ ⟨bq HGN.out 1, bq HGN.out 2⟩ (fun hHeld => ?_); clear hK K; refine zn ?_
     exact norm_ z9 (hJ4_5_10 (b4, A5, c5, wJ4_5.heap.size) _ ⟨hHeld, HBN, HGN, HZN, HNN, HKN, HVN, HL4N, HLN4N, HL10N, HLN10N⟩)
   ·skip; rintro ⟨b4, A5, c5, b10⟩ wJ4_5_10 ⟨hHeld, HBJ, HGJ, HZJ, HNJ, HKJ, HVJ, HL4J, HLN4J, HL10J, HLN10J⟩
    try dsimp only at HKJ
    try dsimp only at HL4J
    try dsimp only at HLN4J
    try dsimp only at HL10J
    try dsimp only at HLN10J
    refine zm ?_
    refine zo 11 43 #[T,T,T,T,T,T,T,T,T,T,T,T,T,F,F,F] (fun K hK => ?_); refine goes_ Tryz.func36 (by kernel_rfl) rfl #[.slice A7 l0_2.length c7, .int .i64 (n : Int), .slice (some ⟨b10, 0, none⟩) 1 1] (by rfl) rfl rfl z37 ?_
    with_reducible refine (ins_string w.heap.size (fun k_ => m7 ≤ k_ ∧ k_ < w7.heap.size) A7 c7 l0_2.length n l0_2 a2 b10 _ HVJ.out rfl (Below.size HBJ.out) HFC.out.2 HLE.out.2 HL10J.out (fun e_ => by have h1_ := Kd.R_ok HVJ.out b10 e_; have h2_ := HLN10J.out; omega)).mono ?_
    rintro e_ wN ⟨⟨v_, rfl, hr_⟩, hg_, hs_⟩; refine ⟨_, rfl, ?_⟩; rw [HL2.out] at hr_; obtain ⟨A_, c_, rfl⟩ := Kd.R_slice hr_; have HBN := A0k (Below.grown HBJ.out hg_ (Below.size HBJ.out) (Kd.R_base HVJ.out)); have HGN := A0k (blk_gr HGJ.out hg_ (Kd.R_ne HVJ.out HGJ.out (by decide))); have HZN := A0k (blk_gr HZJ.out hg_ (Kd.R_ne HVJ.out HZJ.out (by decide))); have HNN := A0k (Nat.le_trans HNJ.out hs_); have HKN := A0k (Kd.R_grown (Kd.R_mono (Kd.R_bound HKJ.out) (fun k_ hk_ => (⟨hk_.1, hk_.2.2.1⟩ : (k_ < m7 ∨ w7.heap.size ≤ k_) ∧ k_ < wJ4_5_10.heap.size))) hg_ (fun k_ hk_ e_ => by have h1_ := Kd.R_ok HVJ.out k_ e_.symm; (try simp only at hk_); omega)); have HVN := A0k (hr_); have HL4N := A0k (blk_gr HL4J.out hg_ (fun e_ => by have h1_ := Kd.R_ok HVJ.out b4 e_.symm; have h2_ := HLN4J.out; have h3_ := HM7.out; omega)); have HLN4N := A0k (HLN4J.out); have HL10N := A0k (blk_gr HL10J.out hg_ (fun e_ => by have h1_ := Kd.R_ok HVJ.out b10 e_.symm; have h2_ := HLN10J.out; have h3_ := HM7.out; omega)); have HLN10N := A0k (HLN10J.out); refine hK.out _ _ ⟨bq HGN.out 1, bq HGN.out 2⟩ (fun hHeld => ?_); clear hK K; refine zn ?_
    exact norm_ z9 (hJ4_5_10_11 (b4, A5, c5, b10, A_, c_, wJ4_5_10.heap.size) _ ⟨hHeld, HBN, HGN, HZN, HNN, HKN, HVN, HL4N, HLN4N, HL10N, HLN10N⟩)
  rintro ⟨b4, A5, c5, b10, A11, c11, s11⟩ w8 ⟨hHeld, HB, HG, HZ, HN, HK, HV, HL4, HLN4, HL10, HLN10⟩
  try dsimp only at HK
  try dsimp only at HV
  try dsimp only at HL4
  try dsimp only at HLN4
  try dsimp only at HL10
  try dsimp only at HLN10
  refine zm ?_
  refine last_ (i := 13) (N := none) #[T,T,T,T,T,T,T,T,T,T,T,T,T,T,F,F] rfl rfl (by kernel_rfl) (by decide) (fun K hK => ?_); have hg1 := (bC HG.out 1).trans rfl; have hg2 := (bC HG.out 2).trans rfl; have hf1 := bF HG.out 1; have hf2 := bF HG.out 2; refine skip_ (w1 := ?_) (by rfl) rfl ?_ ?_; rotate_left
  ·go_simp
   rfl
  refine hK.out _ _ ?_; clear hK K; refine zp 14 45 #[T,T,T,T,T,T,T,T,T,T,T,T,T,T,T,F] ?_
  refine last_ (i := 15) (N := none) #[T,T,T,T,T,T,T,T,T,T,T,T,T,T,T,T] rfl rfl (by kernel_rfl) (by decide) (fun K hK => ?_); refine skip_ (w1 := ?_) (by rfl) rfl ?_ ?_; rotate_left
  ·go_simp
   rfl
  refine hK.out _ _ ?_; clear hK K; refine done_ (by kernel_rfl) ?_; have hgr := gr_set (gr_set (gr_refl w8 (some g9)) 1 (.slice A5 r2.length c5)) 2 (.slice A11 r3.length c11); have HG9 := A0k (show ((w8.setCell ⟨g9, 1, none⟩ (.slice A5 r2.length c5)).setCell ⟨g9, 2, none⟩ (.slice A11 r3.length c11)).heap[g9]? = some (.cells #[.int .i64 a0_0, .slice A5 r2.length c5, .slice A11 r3.length c11, .slice none 0 0] 28 (0, 0)) from by have h1 := blk_set (blk_set HG.out 1 (.slice A5 r2.length c5)) 2 (.slice A11 r3.length c11); simpa using h1); have HZ9 := A0k (blk_gr HZ.out hgr (some_ne HNE.out.2)); have HK9 := A0k (Kd.R_blk HK.out HG.out (by decide) hgr); have HV9 := A0k (Kd.R_blk HV.out HG.out (by decide) hgr); have HB9 := A0k (HB.out.grown hgr HB.out.size (fun k_ hk_ => by have h1 := HGN.out; have h2 : k_ = g9 := (by simpa using hk_.symm); omega)); clear hgr HG HZ HK HV HB HN hg1 hg2 hf1 hf2
  (try clear hHeld)
  generalize (w8.setCell ⟨g9, 1, none⟩ (.slice A5 r2.length c5)).setCell ⟨g9, 2, none⟩ (.slice A11 r3.length c11) = w9 at *; have hz0 := (bC HG9.out 0).trans rfl; have hz1 := (bC HG9.out 1).trans rfl; have hz2 := (bC HG9.out 2).trans rfl; have hz3 := (bC HG9.out 3).trans rfl; have hq0 := (bC HZ9.out 0).trans rfl; have hq1 := (bC HZ9.out 1).trans rfl; have hq2 := (bC HZ9.out 2).trans rfl; have hq3 := (bC HZ9.out 3).trans rfl; have hf0 := bF HZ9.out 0; have hf1 := bF HZ9.out 1; have hf2 := bF HZ9.out 2; have hf3 := bF HZ9.out 3; have hg10 := A0k (gr_four (W := w9) (g := gz) (.int .i64 a0_0) (.slice A5 r2.length c5) (.slice A11 r3.length c11) (.slice none 0 0)); have HZ10 := A0k (set_four (x := .int .i64 a0_0) (y := .slice A5 r2.length c5) (z := .slice A11 r3.length c11) (u := .slice none 0 0) HZ9.out); have HK10 := A0k (Kd.R_blk HK9.out HZ9.out (by decide) hg10.out); have HV10 := A0k (Kd.R_blk HV9.out HZ9.out (by decide) hg10.out); have HB10 := A0k (HB9.out.grown hg10.out HB9.out.size (fun k_ hk_ => by have h1 := HGZ.out; have h2 : k_ = gz := (by simpa using hk_.symm); omega)); go_wp2_with fail
  refine bodyPost_ret (results_cell_row rfl _ _ gz 28 #[.int .i64 a0_0, .slice A5 r2.length c5, .slice A11 r3.length c11, .slice none 0 0] (0, 0) _ rfl HZ10.out Tryz.underlying28 rfl (by kernel_rfl)) rfl ?_; exact ⟨_, _, _, rfl, Kd.R_mono HK10.out (fun k_ hk_ e_ => by have h1 := Kd.R_ok HV10.out k_ e_.symm; (try simp only at hk_); omega), Kd.R_mono HV10.out (fun k_ hk_ e_ => by have h1 := Kd.R_ok HK10.out k_ e_.symm; (try simp only at hk_); omega), Kd.R_nil _ _ _ _ _, HB10.out⟩
end
end Go.Proofs.YtegcaniikdibdaaGreatDoor.VPagePuts
