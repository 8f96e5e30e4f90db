/- Contracts of functions of this seat: each call comes to what its Lean function computes; no condition beyond what each theorem states. Printed by a program of this session's own laid over the kit's printer. -/
import Derived.Test.YtekjkbocblonmaaDoorVCodeGetsx0
import Derived.Test.YtekjkbocblonmaaDoorVCodeGetsx3
namespace Go.Proofs.YtekjkbocblonmaaDoor.VCodeGets
open Go.RowKit Go.Proofs.YtekjkbocblonmaaDoorW.PrintWords Go.Proofs.YtekjkbocblonmaaDoorW.PrintLast Go.Proofs.YtekjkbocblonmaaDoorW.PrintMore
attribute [local go_sem] max2_int min2_int max_two min_two max_three min_three max_four min_four   -- for this text's walks alone
set_option linter.unusedVariables false
set_option linter.unusedSimpArgs false

/-! ### le_Get: function 35 -/
def le_Get.l0 : Nat → ByteArray → Int → Int → Option (Int)
  | 0, _, _, _ => none
  | k + 1, x0, x3, x4 => if x4 ≥ 0 then (if 0 ≤ x4 then (if x4 < (x0.size : Int) then (le_Get.l0 k x0 (Go.bits .or .i64 (wrap64 (x3 * 256)) (wrap64 (bt x0 x4))) (wrap64 (x4 - 1))) else (none)) else (none)) else (some x3)
def le_Get.f (k : Nat) (a0 : ByteArray) : Option (Int) := if (a0.size : Int) > 7 then (some 0) else (le_Get.l0 k a0 0 (wrap64 ((a0.size : Int) - 1)))
set_option maxRecDepth 100000 in
theorem le_Get.mono_l : ∀ k, (∀ y0 y1 y2, LeO (le_Get.l0 k y0 y1 y2) (le_Get.l0 (k + 1) y0 y1 y2))
  | 0 => fun _ _ _ r h => by first | (rw [le_Get.l0] at h; cases h) | simp [le_Get.l0] at h
  | k + 1 => by
    have ih0 := le_Get.mono_l k
    · intro y0 y1 y2
      unfold le_Get.l0
      repeat' first
      | (with_reducible exact ih0 _ _ _)
      | (with_reducible exact LeO.refl _)
      | (with_reducible exact LeO.none _)
      | (with_reducible refine LeO.ite ?_ ?_)
      | (with_reducible refine LeO.bind ?_ (fun _ => ?_))
      | exact ih0 _ _ _
      | exact LeO.none _
      | refine LeO.ite ?_ ?_
      | refine LeO.bind ?_ (fun _ => ?_)
theorem le_Get.mono : ∀ a0 k, LeO (le_Get.f k a0) (le_Get.f (k + 1) a0) := by
  intro a0 k
  have ih0 := le_Get.mono_l k
  unfold le_Get.f
  repeat' first
      | (with_reducible exact ih0 _ _ _)
      | (with_reducible exact LeO.refl _)
      | (with_reducible exact LeO.none _)
      | (with_reducible refine LeO.ite ?_ ?_)
      | (with_reducible refine LeO.bind ?_ (fun _ => ?_))
      | exact ih0 _ _ _
      | exact LeO.none _
      | refine LeO.ite ?_ ?_
      | refine LeO.bind ?_ (fun _ => ?_)
set_option maxHeartbeats 8000000 in
set_option maxRecDepth 100000 in
theorem le_Get.calls (k : Nat) (a0 : ByteArray) (r : Int) (w : World) (h : le_Get.f k a0 = some r) :
    Calls Tryd.prog 35 #[.string a0] w fun e w' => e = .returned (.int .i64 r) ∧ Drawn0 w w' := by
  have H : (if (a0.size : Int) > 7 then (some 0) else (le_Get.l0 k a0 0 (wrap64 ((a0.size : Int) - 1)))) = some r := h
  clear h
  by_cases c2 : (a0.size : Int) > 7
  · rw [if_pos c2] at H
    have c2b0 : decide (7 < (a0.size : Int)) = true := decide_eq_true c2
    have c2b1 : decide (7 < a0.size) = true := decide_eq_true (by omega)
    clear c2
    obtain rfl := Option.some.inj H
    go_enter Tryd.func35, Tryd.ntmps35
    go_wp2
    go_ret
    exact ⟨by first | rfl | (simp; done) | (simp [*]; done), by repeat (first | exact Drawn0.refl _ | apply Drawn0.step)⟩
  · rw [if_neg c2] at H
    have c2b0 : decide (7 < (a0.size : Int)) = false := decide_eq_false c2
    have c2b1 : decide (7 < a0.size) = false := decide_eq_false (by omega)
    clear c2
    have H' := Aside0.mk H
    clear H
    go_enter Tryd.func35, Tryd.ntmps35
    go_wp2
    go_loopg [3, 4] k (fun kq v3 v4 w' => ∃ (x3_1 : Int) (x4_1 : Int), v3 = .int .i64 x3_1 ∧ v4 = .int .i64 x4_1 ∧ Aside0 (le_Get.l0 kq a0 x3_1 x4_1 = some r) ∧ Aside0 (kq ≤ k) ∧ Drawn0 w w')
    case atStart => exact ⟨(0), (wrap64 ((a0.size : Int) - 1)), (by first | rfl | (simp; done) | (simp [*]; done)), (by first | rfl | (simp; done) | (simp [*]; done)), H', ⟨Nat.le_refl _⟩, by repeat (first | exact Drawn0.refl _ | apply Drawn0.step)⟩
    case round =>
      clear H'
      try clear c2
      try clear c2b0
      try clear c2b1
      try clear p2
      obtain ⟨x3_1, x4_1, rfl, rfl, HA, HK1, ⟨m1, rfl⟩⟩ := hrel
      cases gk with
      | zero => exact absurd HA.out (by simp [le_Get.l0])
      | succ k1 =>
        have H := HA.out
        clear HA
        simp only [le_Get.l0] at H
        by_cases c3 : x4_1 ≥ 0
        · rw [if_pos c3] at H
          have c3b0 : decide (0 ≤ x4_1) = true := decide_eq_true c3
          clear c3
          by_cases c4 : 0 ≤ x4_1
          · rw [if_pos c4] at H
            have c4b0 : decide (0 ≤ x4_1) = true := decide_eq_true c4
            clear c4
            by_cases c5 : x4_1 < (a0.size : Int)
            · rw [if_pos c5] at H
              have c5b0 : decide (x4_1 < (a0.size : Int)) = true := decide_eq_true c5
              clear c5
              have H' := Aside0.mk H
              clear H
              have p6 : 0 ≤ (x4_1 : Int) := of_decide_eq_true (by first | (with_reducible assumption) | assumption)
              have q6 : x4_1 < (a0.size : Int) := of_decide_eq_true (by first | (with_reducible assumption) | assumption)
              have hx6 := bt_at a0 x4_1
              replace p6 := eq_true p6
              replace q6 := eq_true q6
              go_wp2
              go_roundg k1
              case measure => have := HK1.out; omega
              case rel => exact ⟨(Go.bits .or .i64 (wrap64 (x3_1 * 256)) (wrap64 (bt a0 x4_1))), (wrap64 (x4_1 - 1)), (by first | rfl | (simp; done) | (simp [*]; done)), (by first | rfl | (simp; done) | (simp [*]; done)), H', ⟨by have := HK1.out; omega⟩, by repeat (first | exact Drawn0.refl _ | apply Drawn0.step)⟩
            · rw [if_neg c5] at H
              exact absurd H (by simp)
          · rw [if_neg c4] at H
            exact absurd H (by simp)
        · rw [if_neg c3] at H
          have c3b0 : decide (0 ≤ x4_1) = false := decide_eq_false c3
          clear c3
          obtain rfl := Option.some.inj H
          go_wp2
          go_ret
          exact ⟨by first | rfl | (simp; done) | (simp [*]; done), by repeat (first | exact Drawn0.refl _ | apply Drawn0.step)⟩

/-! ### code_Get: function 17 -/
mutual
def code_Get.l0 : Nat → ByteArray → List (S35) → Int → Option ((List (S35)) × Option Int)
  | 0, _, _, _ => none
  | k + 1, x0, x4, x5 => if x5 < (x0.size : Int) then (if 0 ≤ (wrap64 (x5 + 3)) then (if (wrap64 (x5 + 3)) < (x0.size : Int) then (if (bt x0 (wrap64 (x5 + 3))) = 0 then (if 0 ≤ x5 then (if 0 ≤ (wrap64 (x5 + 1)) then (if (wrap64 (x5 + 1)) < (x0.size : Int) then (if 0 ≤ (wrap64 (x5 + 2)) then (if (wrap64 (x5 + 2)) < (x0.size : Int) then (if 0 ≤ (wrap64 (x5 + 4)) then (if (wrap64 (x5 + 4)) ≤ (wrap64 (x5 + 8)) then (if (wrap64 (x5 + 8)) ≤ (x0.size : Int) then ((le_Get.f k (x0.extract ((wrap64 (x5 + 4)) : Int).toNat ((wrap64 (x5 + 8)) : Int).toNat)).bind fun t110 => (if x4.length < 4398046511104 then (code_Get.l0 k x0 (x4 ++ [(⟨wrap64 (bt x0 x5), wrap64 (bt x0 (wrap64 (x5 + 1))), wrap64 (bt x0 (wrap64 (x5 + 2))), wrap64 (t110 - 2147483648)⟩ : S35)]) (wrap64 (x5 + 8))) else (none))) else (none)) else (none)) else (none)) else (none)) else (none)) else (none)) else (none)) else (none)) else (some (([] : List (S35)), some 4))) else (none)) else (none)) else (if (x4.length : Int) > 128 then (some (([] : List (S35)), some 10)) else (code_Get.l1 k x4 x4 (x4.length : Int) 0))
def code_Get.l1 : Nat → List (S35) → List (S35) → Int → Int → Option ((List (S35)) × Option Int)
  | 0, _, _, _, _ => none
  | k + 1, x4, x55, x56, x57 => if x57 < x56 then (if 0 ≤ x57 then (if x57 < (x55.length : Int) then ((code_Right.f k ((rd_T35 x55 x57).f0) ((rd_T35 x55 x57).f1) ((rd_T35 x55 x57).f2) ((rd_T35 x55 x57).f3)).bind fun t116 => (if t116 = true then (code_Get.l1 k x4 x55 x56 (wrap64 (x57 + 1))) else (some (([] : List (S35)), some 11)))) else (none)) else (none)) else (some (x4, none))
end
def code_Get.f (k : Nat) (a0 : ByteArray) : Option ((List (S35)) × Option Int) := if ((a0.size : Int) % 8) = 0 then (code_Get.l0 k a0 ([] : List (S35)) 0) else (some (([] : List (S35)), some 4))
set_option maxRecDepth 100000 in
theorem code_Get.mono_l : ∀ k, (∀ y0 y1 y2, LeO (code_Get.l0 k y0 y1 y2) (code_Get.l0 (k + 1) y0 y1 y2)) ∧ (∀ y0 y1 y2 y3, LeO (code_Get.l1 k y0 y1 y2 y3) (code_Get.l1 (k + 1) y0 y1 y2 y3))
  | 0 => ⟨fun _ _ _ r h => by first | (rw [code_Get.l0] at h; cases h) | simp [code_Get.l0] at h, fun _ _ _ _ r h => by first | (rw [code_Get.l1] at h; cases h) | simp [code_Get.l1] at h⟩
  | k + 1 => by
    obtain ⟨ih0, ih1⟩ := code_Get.mono_l k
    refine ⟨?_, ?_⟩
    · intro y0 y1 y2
      unfold code_Get.l0
      repeat' first
      | (with_reducible exact ih0 _ _ _)
      | (with_reducible exact ih1 _ _ _ _)
      | (with_reducible exact code_Right.mono _ _ _ _ _)
      | (with_reducible exact le_Get.mono _ _)
      | (with_reducible exact LeO.refl _)
      | (with_reducible exact LeO.none _)
      | (with_reducible refine LeO.ite ?_ ?_)
      | (with_reducible refine LeO.bind ?_ (fun _ => ?_))
      | exact ih0 _ _ _
      | exact ih1 _ _ _ _
      | exact code_Right.mono _ _ _ _ _
      | exact le_Get.mono _ _
      | exact LeO.none _
      | refine LeO.ite ?_ ?_
      | refine LeO.bind ?_ (fun _ => ?_)
    · intro y0 y1 y2 y3
      unfold code_Get.l1
      repeat' first
      | (with_reducible exact ih0 _ _ _)
      | (with_reducible exact ih1 _ _ _ _)
      | (with_reducible exact code_Right.mono _ _ _ _ _)
      | (with_reducible exact le_Get.mono _ _)
      | (with_reducible exact LeO.refl _)
      | (with_reducible exact LeO.none _)
      | (with_reducible refine LeO.ite ?_ ?_)
      | (with_reducible refine LeO.bind ?_ (fun _ => ?_))
      | exact ih0 _ _ _
      | exact ih1 _ _ _ _
      | exact code_Right.mono _ _ _ _ _
      | exact le_Get.mono _ _
      | exact LeO.none _
      | refine LeO.ite ?_ ?_
      | refine LeO.bind ?_ (fun _ => ?_)
theorem code_Get.mono : ∀ a0 k, LeO (code_Get.f k a0) (code_Get.f (k + 1) a0) := by
  intro a0 k
  obtain ⟨ih0, ih1⟩ := code_Get.mono_l k
  unfold code_Get.f
  repeat' first
      | (with_reducible exact ih0 _ _ _)
      | (with_reducible exact ih1 _ _ _ _)
      | (with_reducible exact code_Right.mono _ _ _ _ _)
      | (with_reducible exact le_Get.mono _ _)
      | (with_reducible exact LeO.refl _)
      | (with_reducible exact LeO.none _)
      | (with_reducible refine LeO.ite ?_ ?_)
      | (with_reducible refine LeO.bind ?_ (fun _ => ?_))
      | exact ih0 _ _ _
      | exact ih1 _ _ _ _
      | exact code_Right.mono _ _ _ _ _
      | exact le_Get.mono _ _
      | exact LeO.none _
      | refine LeO.ite ?_ ?_
      | refine LeO.bind ?_ (fun _ => ?_)
def code_Get.T9 : Bool × List (List Nat × List Nat) := (true, [([], []), ([], []), ([], []), ([1, 2], [1, 2]), ([3], [3]), ([], []), ([], []), ([6], [6]), ([5, 7], [5, 7]), ([8], [8]), ([], []), ([], []), ([11], [11]), ([10, 12], [10, 12]), ([13], [13]), ([], []), ([], []), ([16], [16]), ([], []), ([18], [18]), ([15, 17, 19], [15, 17, 19]), ([20], [20]), ([21], [21]), ([4, 9, 14, 22], [4, 9, 14, 22]), ([23], [23]), ([0, 24, 21], [0, 24]), ([25, 25, 0, 1, 2, 3, 4, 5, 6, 7, 8, 9, 10, 11, 12, 13, 14, 15, 16, 17, 18, 19, 20, 21, 22, 23, 24, 25], [0, 25])])
def code_Get.B9 : List Nat := [0, 0, 0, 6, 14, 0, 0, 64, 224, 480, 0, 0, 2048, 7168, 15360, 0, 0, 65536, 0, 262144, 1015808, 2064384, 4161536, 8388606, 16777214, 33554431, 67108863]
theorem code_Get.tab9 : rtab .any (opsOf Tryd.f17 9) = code_Get.T9 := by kernel_rfl
theorem code_Get.bits9 : waitsOk code_Get.T9.2 code_Get.B9 = true := by kernel_rfl
set_option maxHeartbeats 8000000 in
set_option maxRecDepth 100000 in
theorem code_Get.calls (k : Nat) (a0 : ByteArray) (r1 : List (S35)) (r2 : Option Int) (w : World) (h : code_Get.f k a0 = some (r1, r2)) :
    Calls Tryd.prog 17 #[.string a0] w fun e w' => ∃ v0_ : Value, e = .returned (.tuple #[v0_, errW r2]) ∧ Kd.R k35 35 w' w.heap.size (fun _ => True) v0_ r1 ∧ Below w.heap.size w w' := by
  have hu35 := Tryd.underlying35
  have hu27 := Tryd.underlying27
  have hu63 := Tryd.underlying63
  have HB := Aside0.mk (Below.refl w.heap.size w)
  have H : (if ((a0.size : Int) % 8) = 0 then (code_Get.l0 k a0 ([] : List (S35)) 0) else (some (([] : List (S35)), some 4))) = some (r1, r2) := h
  clear h
  by_cases c2 : ((a0.size : Int) % 8) = 0
  · rw [if_pos c2] at H
    have c2b0 : (((a0.size : Int) % 8) == 0) = true := beq_iff_eq.mpr c2
    have c2b1 : (((a0.size : Int) % 8) != 0) = false := bne_eq_false_iff_eq.mpr c2
    clear c2
    have H' := Aside0.mk H
    clear H
    go_enter Tryd.func17, Tryd.ntmps17
    go_wp2
    go_loopg [4, 5] k (fun kq v4 v5 w' => ∃ (x4_1 : List (S35)) (x5_1 : Int), v5 = .int .i64 x5_1 ∧ Aside0 (code_Get.l0 kq a0 x4_1 x5_1 = some (r1, r2)) ∧ Aside0 (kq ≤ k) ∧ Aside0 (Kd.R k35 35 w' w.heap.size (fun _ => True) v4 x4_1) ∧ Aside0 (Below w.heap.size w w'))
    case atStart => exact ⟨(([] : List (S35))), (0), (by first | rfl | (simp; done) | (simp [*]; done)), H', ⟨Nat.le_refl _⟩, ⟨by first | exact Kd.R_nil _ _ _ _ _ | exact Kd.N_nil _ _ _ _ _ | exact Kd.V_nil _ _ _ _ _ | exact Kd.Q_nil _ _ _ _ _ | exact Kd.S_nil _ _ _ _ _⟩, ⟨by repeat (first | (with_reducible first | exact HB.out | apply below_alloc | apply pw_below_drewN | apply below_drew1) | exact HB.out)⟩⟩
    case round =>
      clear H'
      try clear c1
      try clear c2
      try clear c2b0
      try clear c2b1
      try clear p2
      obtain ⟨x4_1, x5_1, rfl, HA, HK1, HO_4, HB⟩ := hrel
      cases gk with
      | zero => exact absurd HA.out (by simp [code_Get.l0])
      | succ k1 =>
        have H := HA.out
        clear HA
        simp only [code_Get.l0] at H
        by_cases c3 : x5_1 < (a0.size : Int)
        · rw [if_pos c3] at H
          have c3b0 : decide (x5_1 < (a0.size : Int)) = true := decide_eq_true c3
          clear c3
          obtain ⟨ji4, hji4⟩ : ∃ j_ : Int, (wrap64 (x5_1 + 3)) = j_ := ⟨_, rfl⟩
          replace H : (if 0 ≤ (ji4) then (if (ji4) < (a0.size : Int) then (if (bt a0 (ji4)) = 0 then (if 0 ≤ x5_1 then (if 0 ≤ (wrap64 (x5_1 + 1)) then (if (wrap64 (x5_1 + 1)) < (a0.size : Int) then (if 0 ≤ (wrap64 (x5_1 + 2)) then (if (wrap64 (x5_1 + 2)) < (a0.size : Int) then (if 0 ≤ (wrap64 (x5_1 + 4)) then (if (wrap64 (x5_1 + 4)) ≤ (wrap64 (x5_1 + 8)) then (if (wrap64 (x5_1 + 8)) ≤ (a0.size : Int) then ((le_Get.f k1 (a0.extract ((wrap64 (x5_1 + 4)) : Int).toNat ((wrap64 (x5_1 + 8)) : Int).toNat)).bind fun t110 => (if x4_1.length < 4398046511104 then (code_Get.l0 k1 a0 (x4_1 ++ [(⟨wrap64 (bt a0 x5_1), wrap64 (bt a0 (wrap64 (x5_1 + 1))), wrap64 (bt a0 (wrap64 (x5_1 + 2))), wrap64 (t110 - 2147483648)⟩ : S35)]) (wrap64 (x5_1 + 8))) else (none))) else (none)) else (none)) else (none)) else (none)) else (none)) else (none)) else (none)) else (none)) else (some (([] : List (S35)), some 4))) else (none)) else (none)) = some (r1, r2) := by first | (rw [hji4] at H; exact H) | (simp only [hji4] at H ⊢; exact H)
          have hji4w : (IntKind.i64.wrap (x5_1 + 3)) = ji4 := (i64_w _).trans hji4
          by_cases c5 : 0 ≤ (ji4)
          · rw [if_pos c5] at H
            have c5b0 : decide (0 ≤ (ji4)) = true := decide_eq_true c5
            clear c5
            by_cases c6 : (ji4) < (a0.size : Int)
            · rw [if_pos c6] at H
              have c6b0 : decide ((ji4) < (a0.size : Int)) = true := decide_eq_true c6
              clear c6
              by_cases c8 : (bt a0 (ji4)) = 0
              · rw [if_pos c8] at H
                have c8b0 : ((bt a0 (ji4)) == 0) = true := beq_iff_eq.mpr c8
                have c8b1 : ((bt a0 (ji4)) != 0) = false := bne_eq_false_iff_eq.mpr c8
                clear c8
                by_cases c9 : 0 ≤ x5_1
                · rw [if_pos c9] at H
                  have c9b0 : decide (0 ≤ x5_1) = true := decide_eq_true c9
                  clear c9
                  obtain ⟨ji11, hji11⟩ : ∃ j_ : Int, (wrap64 (x5_1 + 1)) = j_ := ⟨_, rfl⟩
                  replace H : (if 0 ≤ (ji11) then (if (ji11) < (a0.size : Int) then (if 0 ≤ (wrap64 (x5_1 + 2)) then (if (wrap64 (x5_1 + 2)) < (a0.size : Int) then (if 0 ≤ (wrap64 (x5_1 + 4)) then (if (wrap64 (x5_1 + 4)) ≤ (wrap64 (x5_1 + 8)) then (if (wrap64 (x5_1 + 8)) ≤ (a0.size : Int) then ((le_Get.f k1 (a0.extract ((wrap64 (x5_1 + 4)) : Int).toNat ((wrap64 (x5_1 + 8)) : Int).toNat)).bind fun t110 => (if x4_1.length < 4398046511104 then (code_Get.l0 k1 a0 (x4_1 ++ [(⟨wrap64 (bt a0 x5_1), wrap64 (bt a0 (ji11)), wrap64 (bt a0 (wrap64 (x5_1 + 2))), wrap64 (t110 - 2147483648)⟩ : S35)]) (wrap64 (x5_1 + 8))) else (none))) else (none)) else (none)) else (none)) else (none)) else (none)) else (none)) else (none)) = some (r1, r2) := by first | (rw [hji11] at H; exact H) | (simp only [hji11] at H ⊢; exact H)
                  have hji11w : (IntKind.i64.wrap (x5_1 + 1)) = ji11 := (i64_w _).trans hji11
                  by_cases c12 : 0 ≤ (ji11)
                  · rw [if_pos c12] at H
                    have c12b0 : decide (0 ≤ (ji11)) = true := decide_eq_true c12
                    clear c12
                    by_cases c13 : (ji11) < (a0.size : Int)
                    · rw [if_pos c13] at H
                      have c13b0 : decide ((ji11) < (a0.size : Int)) = true := decide_eq_true c13
                      clear c13
                      obtain ⟨ji15, hji15⟩ : ∃ j_ : Int, (wrap64 (x5_1 + 2)) = j_ := ⟨_, rfl⟩
                      replace H : (if 0 ≤ (ji15) then (if (ji15) < (a0.size : Int) then (if 0 ≤ (wrap64 (x5_1 + 4)) then (if (wrap64 (x5_1 + 4)) ≤ (wrap64 (x5_1 + 8)) then (if (wrap64 (x5_1 + 8)) ≤ (a0.size : Int) then ((le_Get.f k1 (a0.extract ((wrap64 (x5_1 + 4)) : Int).toNat ((wrap64 (x5_1 + 8)) : Int).toNat)).bind fun t110 => (if x4_1.length < 4398046511104 then (code_Get.l0 k1 a0 (x4_1 ++ [(⟨wrap64 (bt a0 x5_1), wrap64 (bt a0 (ji11)), wrap64 (bt a0 (ji15)), wrap64 (t110 - 2147483648)⟩ : S35)]) (wrap64 (x5_1 + 8))) else (none))) else (none)) else (none)) else (none)) else (none)) else (none)) = some (r1, r2) := by first | (rw [hji15] at H; exact H) | (simp only [hji15] at H ⊢; exact H)
                      have hji15w : (IntKind.i64.wrap (x5_1 + 2)) = ji15 := (i64_w _).trans hji15
                      by_cases c16 : 0 ≤ (ji15)
                      · rw [if_pos c16] at H
                        have c16b0 : decide (0 ≤ (ji15)) = true := decide_eq_true c16
                        clear c16
                        by_cases c17 : (ji15) < (a0.size : Int)
                        · rw [if_pos c17] at H
                          have c17b0 : decide ((ji15) < (a0.size : Int)) = true := decide_eq_true c17
                          clear c17
                          obtain ⟨ji19, hji19⟩ : ∃ j_ : Int, (wrap64 (x5_1 + 4)) = j_ := ⟨_, rfl⟩
                          replace H : (if 0 ≤ (ji19) then (if (ji19) ≤ (wrap64 (x5_1 + 8)) then (if (wrap64 (x5_1 + 8)) ≤ (a0.size : Int) then ((le_Get.f k1 (a0.extract ((ji19) : Int).toNat ((wrap64 (x5_1 + 8)) : Int).toNat)).bind fun t110 => (if x4_1.length < 4398046511104 then (code_Get.l0 k1 a0 (x4_1 ++ [(⟨wrap64 (bt a0 x5_1), wrap64 (bt a0 (ji11)), wrap64 (bt a0 (ji15)), wrap64 (t110 - 2147483648)⟩ : S35)]) (wrap64 (x5_1 + 8))) else (none))) else (none)) else (none)) else (none)) = some (r1, r2) := by first | (rw [hji19] at H; exact H) | (simp only [hji19] at H ⊢; exact H)
                          have hji19w : (IntKind.i64.wrap (x5_1 + 4)) = ji19 := (i64_w _).trans hji19
                          by_cases c20 : 0 ≤ (ji19)
                          · rw [if_pos c20] at H
                            have c20b0 := eq_true c20
                            try (have c20sa0 := c20b0; simp only [ByteArray.size_append, Int.natCast_add] at c20sa0)
                            have c20b1 : decide (0 ≤ (ji19)) = true := decide_eq_true c20
                            clear c20
                            by_cases c21 : (ji19) ≤ (wrap64 (x5_1 + 8))
                            · rw [if_pos c21] at H
                              have c21b0 := eq_true c21
                              try (have c21sa0 := c21b0; simp only [ByteArray.size_append, Int.natCast_add] at c21sa0)
                              have c21b1 : decide ((ji19) ≤ (wrap64 (x5_1 + 8))) = true := decide_eq_true c21
                              by_cases c22 : (wrap64 (x5_1 + 8)) ≤ (a0.size : Int)
                              · rw [if_pos c22] at H
                                have c22b0 := eq_true c22
                                try (have c22sa0 := c22b0; simp only [ByteArray.size_append, Int.natCast_add] at c22sa0)
                                have c22b1 : decide ((wrap64 (x5_1 + 8)) ≤ (a0.size : Int)) = true := decide_eq_true c22
                                replace H := Option.bind_eq_some_iff.mp H
                                obtain ⟨t110, A230, H⟩ := H
                                replace H : (if x4_1.length < 4398046511104 then (code_Get.l0 k1 a0 (x4_1 ++ [(⟨wrap64 (bt a0 x5_1), wrap64 (bt a0 (ji11)), wrap64 (bt a0 (ji15)), wrap64 (t110 - 2147483648)⟩ : S35)]) (wrap64 (x5_1 + 8))) else (none)) = some (r1, r2) := H
                                have A23 := Aside0.mk A230
                                clear A230
                                by_cases c24 : x4_1.length < 4398046511104
                                · rw [if_pos c24] at H
                                  have LMc24 := Aside0.mk c24
                                  clear c24
                                  obtain ⟨y111, hy111⟩ : ∃ y_ : List (S35), y_ = (x4_1 ++ [(⟨wrap64 (bt a0 x5_1), wrap64 (bt a0 (ji11)), wrap64 (bt a0 (ji15)), wrap64 (t110 - 2147483648)⟩ : S35)]) := ⟨_, rfl⟩
                                  replace H : (code_Get.l0 k1 a0 y111 (wrap64 (x5_1 + 8))) = some (r1, r2) := by first | (rw [hy111]; with_reducible exact H) | (have H2_ := (Option.bind_some _ _).symm.trans H; rw [hy111]; with_reducible exact H2_) | (have H2_ := (Option.bind_some _ _).symm.trans H; with_reducible exact H2_) | with_reducible exact H | (rw [hy111]; exact H) | exact H
                                  have Ny111 := Aside0.mk hy111
                                  clear hy111
                                  have H' := Aside0.mk H
                                  clear H
                                  have p7 : 0 ≤ ((ji4) : Int) := of_decide_eq_true (by first | (with_reducible assumption) | assumption)
                                  have q7 : (ji4) < (a0.size : Int) := of_decide_eq_true (by first | (with_reducible assumption) | assumption)
                                  have hx7 := bt_at a0 (ji4)
                                  replace p7 := eq_true p7
                                  replace q7 := eq_true q7
                                  try go_wp2
                                  have n0_ := Aside0.mk (Kd.R_drew HO_4.out)
                                  have n1_ := Aside0.mk (below_drew1 HB.out)
                                  clear HO_4
                                  clear HB
                                  have HO_4 := n0_
                                  have HB := n1_
                                  clear n0_ n1_
                                  have p10 : 0 ≤ (x5_1 : Int) := of_decide_eq_true (by first | (with_reducible assumption) | assumption)
                                  have q10 : x5_1 < (a0.size : Int) := of_decide_eq_true (by first | (with_reducible assumption) | assumption)
                                  have hx10 := bt_at a0 x5_1
                                  replace p10 := eq_true p10
                                  replace q10 := eq_true q10
                                  have p14 : 0 ≤ ((ji11) : Int) := of_decide_eq_true (by first | (with_reducible assumption) | assumption)
                                  have q14 : (ji11) < (a0.size : Int) := of_decide_eq_true (by first | (with_reducible assumption) | assumption)
                                  have hx14 := bt_at a0 (ji11)
                                  replace p14 := eq_true p14
                                  replace q14 := eq_true q14
                                  have p18 : 0 ≤ ((ji15) : Int) := of_decide_eq_true (by first | (with_reducible assumption) | assumption)
                                  have q18 : (ji15) < (a0.size : Int) := of_decide_eq_true (by first | (with_reducible assumption) | assumption)
                                  have hx18 := bt_at a0 (ji15)
                                  replace p18 := eq_true p18
                                  replace q18 := eq_true q18
                                  refine start_ (n := 27) (S := fun w' => True) (ds := []) #[false, false, false, false, false, false, false, false, false, false, false, false, false, false, false, false, false, false, false, false, false, false, false, false, false, false, false] (by kernel_rfl) rfl rfl trivial (fun hHeld => ?_); refine with_tabW code_Get.tab9 code_Get.bits9 (fun HT_ HW_ => ?_)
                                  generalize wr.drew = w25 at HO_4 HB hHeld ⊢
                                  refine pure_ (i := 0) (N := some 25) (v := ?_) (a' := ?_) #[true, false, false, false, false, false, false, false, false, false, false, false, false, false, false, false, false, false, false, false, false, false, false, false, false, false, false] rfl rfl (any_of HT_.out (by kernel_rfl)) (fun _ _ _ h => h) (Or.inl ⟨by rfl, ?_⟩) ?_ ?_
                                  rotate_left
                                  · intro w'
                                    go_simp
                                    with_reducible rfl
                                  rotate_left
                                  · simp only [Act.put, List.setIfInBounds_toArray, List.set_cons_zero, List.set_cons_succ, i64_w, i32_w]
                                    rfl
                                  refine pure_ (i := 1) (N := some 26) (v := ?_) (a' := ?_) #[true, true, false, false, false, false, false, false, false, false, false, false, false, false, false, false, false, false, false, false, false, false, false, false, false, false, false] rfl rfl (any_of HT_.out (by kernel_rfl)) (fun _ _ _ h => h) (Or.inl ⟨by rfl, ?_⟩) ?_ ?_
                                  rotate_left
                                  · intro w'
                                    go_simp
                                    with_reducible rfl
                                  rotate_left
                                  · simp only [Act.put, List.setIfInBounds_toArray, List.set_cons_zero, List.set_cons_succ, i64_w, i32_w]
                                    rfl
                                  refine pure_ (i := 2) (N := some 27) (v := ?_) (a' := ?_) #[true, true, true, false, false, false, false, false, false, false, false, false, false, false, false, false, false, false, false, false, false, false, false, false, false, false, false] rfl rfl (any_of HT_.out (by kernel_rfl)) (fun _ _ _ h => h) (Or.inl ⟨by rfl, ?_⟩) ?_ ?_
                                  rotate_left
                                  · intro w'
                                    go_simp
                                    with_reducible rfl
                                  rotate_left
                                  · simp only [Act.put, List.setIfInBounds_toArray, List.set_cons_zero, List.set_cons_succ, i64_w, i32_w]
                                    rfl
                                  refine pure_ (i := 5) (N := some 30) (v := ?_) (a' := ?_) #[true, true, true, false, false, true, false, false, false, false, false, false, false, false, false, false, false, false, false, false, false, false, false, false, false, false, false] rfl rfl (any_of HT_.out (by kernel_rfl)) (fun _ _ _ h => h) (Or.inl ⟨by rfl, ?_⟩) ?_ ?_
                                  rotate_left
                                  · intro w'
                                    go_simp
                                    with_reducible rfl
                                  rotate_left
                                  · simp only [Act.put, List.setIfInBounds_toArray, List.set_cons_zero, List.set_cons_succ, i64_w, i32_w]
                                    rfl
                                  refine pure_ (i := 6) (N := some 31) (v := ?_) (a' := ?_) #[true, true, true, false, false, true, true, false, false, false, false, false, false, false, false, false, false, false, false, false, false, false, false, false, false, false, false] rfl rfl (any_of HT_.out (by kernel_rfl)) (fun _ _ _ h => h) (Or.inl ⟨by rfl, ?_⟩) ?_ ?_
                                  rotate_left
                                  · intro w'
                                    go_simp
                                    with_reducible rfl
                                  rotate_left
                                  · simp only [Act.put, List.setIfInBounds_toArray, List.set_cons_zero, List.set_cons_succ, i64_w, i32_w]
                                    rfl
                                  refine pure_ (i := 7) (N := some 32) (v := ?_) (a' := ?_) #[true, true, true, false, false, true, true, true, false, false, false, false, false, false, false, false, false, false, false, false, false, false, false, false, false, false, false] rfl rfl (any_of HT_.out (by kernel_rfl)) (fun _ _ _ h => h) (Or.inl ⟨by rfl, ?_⟩) ?_ ?_
                                  rotate_left
                                  · intro w'
                                    go_simp
                                    with_reducible rfl
                                  rotate_left
                                  · simp only [Act.put, List.setIfInBounds_toArray, List.set_cons_zero, List.set_cons_succ, i64_w, i32_w]
                                    rfl
                                  refine pure_ (i := 10) (N := some 35) (v := ?_) (a' := ?_) #[true, true, true, false, false, true, true, true, false, false, true, false, false, false, false, false, false, false, false, false, false, false, false, false, false, false, false] rfl rfl (any_of HT_.out (by kernel_rfl)) (fun _ _ _ h => h) (Or.inl ⟨by rfl, ?_⟩) ?_ ?_
                                  rotate_left
                                  · intro w'
                                    go_simp
                                    with_reducible rfl
                                  rotate_left
                                  · simp only [Act.put, List.setIfInBounds_toArray, List.set_cons_zero, List.set_cons_succ, i64_w, i32_w]
                                    rfl
                                  refine pure_ (i := 11) (N := some 36) (v := ?_) (a' := ?_) #[true, true, true, false, false, true, true, true, false, false, true, true, false, false, false, false, false, false, false, false, false, false, false, false, false, false, false] rfl rfl (any_of HT_.out (by kernel_rfl)) (fun _ _ _ h => h) (Or.inl ⟨by rfl, ?_⟩) ?_ ?_
                                  rotate_left
                                  · intro w'
                                    go_simp
                                    with_reducible rfl
                                  rotate_left
                                  · simp only [Act.put, List.setIfInBounds_toArray, List.set_cons_zero, List.set_cons_succ, i64_w, i32_w]
                                    rfl
                                  refine pure_ (i := 12) (N := some 37) (v := ?_) (a' := ?_) #[true, true, true, false, false, true, true, true, false, false, true, true, true, false, false, false, false, false, false, false, false, false, false, false, false, false, false] rfl rfl (any_of HT_.out (by kernel_rfl)) (fun _ _ _ h => h) (Or.inl ⟨by rfl, ?_⟩) ?_ ?_
                                  rotate_left
                                  · intro w'
                                    go_simp
                                    with_reducible rfl
                                  rotate_left
                                  · simp only [Act.put, List.setIfInBounds_toArray, List.set_cons_zero, List.set_cons_succ, i64_w, i32_w]
                                    rfl
                                  refine pure_ (i := 15) (N := some 40) (v := ?_) (a' := ?_) #[true, true, true, false, false, true, true, true, false, false, true, true, true, false, false, true, false, false, false, false, false, false, false, false, false, false, false] rfl rfl (any_of HT_.out (by kernel_rfl)) (fun _ _ _ h => h) (Or.inl ⟨by rfl, ?_⟩) ?_ ?_
                                  rotate_left
                                  · intro w'
                                    go_simp
                                    with_reducible rfl
                                  rotate_left
                                  · simp only [Act.put, List.setIfInBounds_toArray, List.set_cons_zero, List.set_cons_succ, i64_w, i32_w]
                                    rfl
                                  refine pure_ (i := 16) (N := some 41) (v := ?_) (a' := ?_) #[true, true, true, false, false, true, true, true, false, false, true, true, true, false, false, true, true, false, false, false, false, false, false, false, false, false, false] rfl rfl (any_of HT_.out (by kernel_rfl)) (fun _ _ _ h => h) (Or.inl ⟨by rfl, ?_⟩) ?_ ?_
                                  rotate_left
                                  · intro w'
                                    go_simp
                                    with_reducible rfl
                                  rotate_left
                                  · simp only [Act.put, List.setIfInBounds_toArray, List.set_cons_zero, List.set_cons_succ, i64_w, i32_w]
                                    rfl
                                  refine pure_ (i := 17) (N := some 42) (v := ?_) (a' := ?_) #[true, true, true, false, false, true, true, true, false, false, true, true, true, false, false, true, true, true, false, false, false, false, false, false, false, false, false] rfl rfl (any_of HT_.out (by kernel_rfl)) (fun _ _ _ h => h) (Or.inl ⟨by rfl, ?_⟩) ?_ ?_
                                  rotate_left
                                  · intro w'
                                    go_simp
                                    with_reducible rfl
                                  rotate_left
                                  · simp only [Act.put, List.setIfInBounds_toArray, List.set_cons_zero, List.set_cons_succ, i64_w, i32_w]
                                    rfl
                                  refine pure_ (i := 18) (N := some 43) (v := ?_) (a' := ?_) #[true, true, true, false, false, true, true, true, false, false, true, true, true, false, false, true, true, true, true, false, false, false, false, false, false, false, false] rfl rfl (any_of HT_.out (by kernel_rfl)) (fun _ _ _ h => h) (Or.inl ⟨by rfl, ?_⟩) ?_ ?_
                                  rotate_left
                                  · intro w'
                                    go_simp
                                    with_reducible rfl
                                  rotate_left
                                  · simp only [Act.put, List.setIfInBounds_toArray, List.set_cons_zero, List.set_cons_succ, i64_w, i32_w]
                                    rfl
                                  refine pure_ (i := 19) (N := some 44) (v := ?_) (a' := ?_) #[true, true, true, false, false, true, true, true, false, false, true, true, true, false, false, true, true, true, true, true, false, false, false, false, false, false, false] rfl rfl (any_of HT_.out (by kernel_rfl)) (fun _ _ _ h => h) (Or.inl ⟨by rfl, ?_⟩) ?_ ?_
                                  rotate_left
                                  · intro w'
                                    go_simp
                                    with_reducible rfl
                                  rotate_left
                                  · simp only [Act.put, List.setIfInBounds_toArray, List.set_cons_zero, List.set_cons_succ, i64_w, i32_w]
                                    rfl
                                  refine pure_ (i := 20) (N := some 45) (v := ?_) (a' := ?_) #[true, true, true, false, false, true, true, true, false, false, true, true, true, false, false, true, true, true, true, true, true, false, false, false, false, false, false] rfl rfl (any_of HT_.out (by kernel_rfl)) (fun _ _ _ h => h) (Or.inl ⟨by rfl, ?_⟩) ?_ ?_
                                  rotate_left
                                  · intro w'
                                    go_simp
                                    with_reducible rfl
                                  rotate_left
                                  · simp only [Act.put, List.setIfInBounds_toArray, List.set_cons_zero, List.set_cons_succ, i64_w, i32_w]
                                    rfl
                                  refine take_ (i := 3) (N := some 28) (v := ?_) (a' := ?_) #[true, true, true, true, false, true, true, true, false, false, true, true, true, false, false, true, true, true, true, true, true, false, false, false, false, false, false] rfl rfl (take_ofW HT_.out HW_.out (by kernel_rfl)) (fun _ _ _ h => h) (Or.inl ⟨by rfl, ?_⟩) hHeld ?_ ?_
                                  rotate_left
                                  · intro w' _
                                    go_simp
                                    with_reducible rfl
                                  rotate_left
                                  · simp only [Act.put, List.setIfInBounds_toArray, List.set_cons_zero, List.set_cons_succ, i64_w, i32_w]
                                    rfl
                                  refine pure_ (i := 4) (N := some 29) (v := ?_) (a' := ?_) #[true, true, true, true, true, true, true, true, false, false, true, true, true, false, false, true, true, true, true, true, true, false, false, false, false, false, false] rfl rfl (any_of HT_.out (by kernel_rfl)) (fun _ _ _ h => h) (Or.inl ⟨by rfl, ?_⟩) ?_ ?_
                                  rotate_left
                                  · intro w'
                                    go_simp
                                    with_reducible rfl
                                  rotate_left
                                  · simp only [Act.put, List.setIfInBounds_toArray, List.set_cons_zero, List.set_cons_succ, i64_w, i32_w]
                                    rfl
                                  refine take_ (i := 8) (N := some 33) (v := ?_) (a' := ?_) #[true, true, true, true, true, true, true, true, true, false, true, true, true, false, false, true, true, true, true, true, true, false, false, false, false, false, false] rfl rfl (take_ofW HT_.out HW_.out (by kernel_rfl)) (fun _ _ _ h => h) (Or.inl ⟨by rfl, ?_⟩) hHeld ?_ ?_
                                  rotate_left
                                  · intro w' _
                                    go_simp
                                    with_reducible rfl
                                  rotate_left
                                  · simp only [Act.put, List.setIfInBounds_toArray, List.set_cons_zero, List.set_cons_succ, i64_w, i32_w]
                                    rfl
                                  refine pure_ (i := 9) (N := some 34) (v := ?_) (a' := ?_) #[true, true, true, true, true, true, true, true, true, true, true, true, true, false, false, true, true, true, true, true, true, false, false, false, false, false, false] rfl rfl (any_of HT_.out (by kernel_rfl)) (fun _ _ _ h => h) (Or.inl ⟨by rfl, ?_⟩) ?_ ?_
                                  rotate_left
                                  · intro w'
                                    go_simp
                                    with_reducible rfl
                                  rotate_left
                                  · simp only [Act.put, List.setIfInBounds_toArray, List.set_cons_zero, List.set_cons_succ, i64_w, i32_w]
                                    rfl
                                  refine take_ (i := 13) (N := some 38) (v := ?_) (a' := ?_) #[true, true, true, true, true, true, true, true, true, true, true, true, true, true, false, true, true, true, true, true, true, false, false, false, false, false, false] rfl rfl (take_ofW HT_.out HW_.out (by kernel_rfl)) (fun _ _ _ h => h) (Or.inl ⟨by rfl, ?_⟩) hHeld ?_ ?_
                                  rotate_left
                                  · intro w' _
                                    go_simp
                                    with_reducible rfl
                                  rotate_left
                                  · simp only [Act.put, List.setIfInBounds_toArray, List.set_cons_zero, List.set_cons_succ, i64_w, i32_w]
                                    rfl
                                  refine pure_ (i := 14) (N := some 39) (v := ?_) (a' := ?_) #[true, true, true, true, true, true, true, true, true, true, true, true, true, true, true, true, true, true, true, true, true, false, false, false, false, false, false] rfl rfl (any_of HT_.out (by kernel_rfl)) (fun _ _ _ h => h) (Or.inl ⟨by rfl, ?_⟩) ?_ ?_
                                  rotate_left
                                  · intro w'
                                    go_simp
                                    with_reducible rfl
                                  rotate_left
                                  · simp only [Act.put, List.setIfInBounds_toArray, List.set_cons_zero, List.set_cons_succ, i64_w, i32_w]
                                    rfl
                                  refine one_ (i := 21) (N := some 46) #[true, true, true, true, true, true, true, true, true, true, true, true, true, true, true, true, true, true, true, true, true, true, false, false, false, false, false] rfl rfl (one_of HT_.out (by kernel_rfl)) (by decide) (fun K hK => ?_)
                                  refine goes_ Tryd.func35 (by kernel_rfl) rfl #[.string (a0.extract ((ji19) : Int).toNat ((wrap64 (x5_1 + 8)) : Int).toNat)] (by rfl) rfl rfl (by (try simp only [List.map_toArray, List.map_cons, List.map_nil]); first | done | (simp only [hji19]; rfl) | rfl | (simp only [List.length_drop, List.length_take]; rfl)) ?_
                                  with_reducible refine (le_Get.calls k1 (a0.extract ((ji19) : Int).toNat ((wrap64 (x5_1 + 8)) : Int).toNat) t110 _ A23.out).mono ?_
                                  rintro e w' ⟨rfl, ⟨nd, rfl⟩⟩
                                  refine ⟨_, rfl, ?_⟩
                                  refine hK.out _ _ trivial (fun hHeld => ?_)
                                  clear hK K
                                  refine norm_ (a' := ?_) ?_ ?_
                                  rotate_left
                                  · show Act.put _ (some 46) _ = _
                                    simp only [Act.put, List.setIfInBounds_toArray, List.set_cons_zero, List.set_cons_succ, i64_w, i32_w]
                                    rfl
                                  refine pure_ (i := 22) (N := some 47) (v := ?_) (a' := ?_) #[true, true, true, true, true, true, true, true, true, true, true, true, true, true, true, true, true, true, true, true, true, true, true, false, false, false, false] rfl rfl (any_of HT_.out (by kernel_rfl)) (fun _ _ _ h => h) (Or.inl ⟨by rfl, ?_⟩) ?_ ?_
                                  rotate_left
                                  · intro w'
                                    go_simp
                                    with_reducible rfl
                                  rotate_left
                                  · simp only [Act.put, List.setIfInBounds_toArray, List.set_cons_zero, List.set_cons_succ, i64_w, i32_w]
                                    rfl
                                  refine pure_ (i := 23) (N := some 48) (v := ?_) (a' := ?_) #[true, true, true, true, true, true, true, true, true, true, true, true, true, true, true, true, true, true, true, true, true, true, true, true, false, false, false] rfl rfl (any_of HT_.out (by kernel_rfl)) (fun _ _ _ h => h) (Or.inl ⟨by rfl, ?_⟩) ?_ ?_
                                  rotate_left
                                  · intro w'
                                    go_simp
                                    with_reducible rfl
                                  rotate_left
                                  · simp only [Act.put, List.setIfInBounds_toArray, List.set_cons_zero, List.set_cons_succ, i64_w, i32_w]
                                    rfl
                                  refine one_ (i := 24) (N := some 49) #[true, true, true, true, true, true, true, true, true, true, true, true, true, true, true, true, true, true, true, true, true, true, true, true, true, false, false] rfl rfl (one_of HT_.out (by kernel_rfl)) (by decide) (fun K hK => ?_)
                                  refine value_ (w1 := ?_) (v := ?_) (by rfl) rfl ?_ ?_
                                  rotate_left 2
                                  · go_simp
                                    constructor
                                    · rfl
                                    · rfl
                                  refine hK.out _ _ trivial (fun hHeld => ?_)
                                  clear hK K
                                  refine norm_ (a' := ?_) ?_ ?_
                                  rotate_left
                                  · show Act.put _ (some 49) _ = _
                                    simp only [Act.put, List.setIfInBounds_toArray, List.set_cons_zero, List.set_cons_succ, i64_w, i32_w]
                                    rfl
                                  refine one_ (i := 25) (N := some 50) #[true, true, true, true, true, true, true, true, true, true, true, true, true, true, true, true, true, true, true, true, true, true, true, true, true, true, false] rfl rfl (one_of HT_.out (by kernel_rfl)) (by decide) (fun K hK => ?_)
                                  refine Kd.R_append_step k35 (w0 := w) w.heap.size (by rfl) (.tmp 25) (.tmp 49) 32 35 (.agg #[(.int .i64 0), (.int .i64 0), (.int .i64 0), (.int .i64 0)]) 32 rfl Tryd.underlying32 info35 rfl (by decide) (by omega) u4 x4_1 (⟨wrap64 (bt a0 x5_1), wrap64 (bt a0 (ji11)), wrap64 (bt a0 (ji15)), wrap64 (t110 - 2147483648)⟩ : S35) [.int .i64 (wrap64 (bt a0 x5_1)), .int .i64 (wrap64 (bt a0 (ji11))), .int .i64 (wrap64 (bt a0 (ji15))), .int .i64 (wrap64 (t110 - 2147483648))] (fun _ => True) (fun _ => False) rfl rfl ?aP (fun _ hk => hk.elim) ?aF ?aO ?aB ?aS ?aL ?_
                                  (case aP => exact k35_mkM _ _ _ (⟨wrap64 (bt a0 x5_1), wrap64 (bt a0 (ji11)), wrap64 (bt a0 (ji15)), wrap64 (t110 - 2147483648)⟩ : S35))
                                  (case aB => exact (by repeat (first | (with_reducible first | exact HB.out | apply below_alloc | apply pw_below_drewN | apply below_drew1) | exact HB.out)))
                                  (case aF => exact (fun _ _ => trivial))
                                  (case aO => exact (by (with_reducible repeat (first | apply Kd.R_alloc | apply Kd.R_drewN | apply Kd.R_drew)); exact HO_4.out))
                                  (case aS => exact (below_size (by repeat (first | (with_reducible first | exact HB.out | apply below_alloc | apply pw_below_drewN | apply below_drew1) | exact HB.out))))
                                  (case aL => have := LMc24.out; omega)
                                  intro v112 w26 ho hb hg hat
                                  rw [← Ny111.out] at ho
                                  have n0_ := Aside0.mk (hb)
                                  have n1_ := Aside0.mk (ho)
                                  clear HB
                                  clear HO_4
                                  have HB := n0_
                                  have HO113 := n1_
                                  clear n0_ n1_
                                  clear ho hb hg hat
                                  refine hK.out _ _ trivial (fun hHeld => ?_)
                                  clear hK K
                                  refine norm_ (a' := ?_) ?_ ?_
                                  rotate_left
                                  · show Act.put _ (some 50) _ = _
                                    simp only [Act.put, List.setIfInBounds_toArray, List.set_cons_zero, List.set_cons_succ, i64_w, i32_w]
                                    rfl
                                  refine pure_ (i := 26) (N := some 4) (v := ?_) (a' := ?_) #[true, true, true, true, true, true, true, true, true, true, true, true, true, true, true, true, true, true, true, true, true, true, true, true, true, true, true] rfl rfl (any_of HT_.out (by kernel_rfl)) (fun _ _ _ h => h) (Or.inl ⟨by rfl, ?_⟩) ?_ ?_
                                  rotate_left
                                  · intro w'
                                    go_simp
                                    with_reducible rfl
                                  rotate_left
                                  · simp only [Act.put, List.setIfInBounds_toArray, List.set_cons_zero, List.set_cons_succ, i64_w, i32_w]
                                    rfl
                                  refine done_ (done_of HT_.out (by kernel_rfl)) ?_
                                  try go_wp2
                                  go_roundg k1
                                  case measure => have := HK1.out; omega
                                  case rel => exact ⟨(y111), (wrap64 (x5_1 + 8)), (by first | rfl | (simp; done) | (simp [*]; done)), H', ⟨by have := HK1.out; omega⟩, ⟨by (with_reducible repeat (first | apply Kd.R_alloc | apply Kd.R_drewN | apply Kd.R_drew)); exact HO113.out⟩, ⟨by repeat (first | (with_reducible first | exact HB.out | apply below_alloc | apply pw_below_drewN | apply below_drew1) | exact HB.out)⟩⟩
                                · rw [if_neg c24] at H
                                  exact absurd H (by simp)
                              · rw [if_neg c22] at H
                                exact absurd H (by simp)
                            · rw [if_neg c21] at H
                              exact absurd H (by simp)
                          · rw [if_neg c20] at H
                            exact absurd H (by simp)
                        · rw [if_neg c17] at H
                          exact absurd H (by simp)
                      · rw [if_neg c16] at H
                        exact absurd H (by simp)
                    · rw [if_neg c13] at H
                      exact absurd H (by simp)
                  · rw [if_neg c12] at H
                    exact absurd H (by simp)
                · rw [if_neg c9] at H
                  exact absurd H (by simp)
              · rw [if_neg c8] at H
                have c8b0 : ((bt a0 (ji4)) == 0) = false := beq_eq_false_iff_ne.mpr c8
                have c8b1 : ((bt a0 (ji4)) != 0) = true := bne_iff_ne.mpr c8
                simp only [Option.some.injEq, Prod.mk.injEq] at H
                obtain ⟨rfl, rfl⟩ := H
                have p7 : 0 ≤ ((ji4) : Int) := of_decide_eq_true (by first | (with_reducible assumption) | assumption)
                have q7 : (ji4) < (a0.size : Int) := of_decide_eq_true (by first | (with_reducible assumption) | assumption)
                have hx7 := bt_at a0 (ji4)
                replace p7 := eq_true p7
                replace q7 := eq_true q7
                go_wp2
                go_ret2
                exact ⟨_, by first | rfl | (simp [errW_none, errW_some] <;> rfl) | (simp only [← hji4]; first | rfl | (simp [errW_none, errW_some] <;> rfl)) | (simp [*, errW_none, errW_some] <;> rfl), by first | exact Kd.R_nil _ _ _ _ _ | exact Kd.N_nil _ _ _ _ _ | exact Kd.V_nil _ _ _ _ _ | exact Kd.Q_nil _ _ _ _ _ | exact Kd.S_nil _ _ _ _ _, by repeat (first | (with_reducible first | exact HB.out | apply below_alloc | apply pw_below_drewN | apply below_drew1) | exact HB.out)⟩
            · rw [if_neg c6] at H
              exact absurd H (by simp)
          · rw [if_neg c5] at H
            exact absurd H (by simp)
        · rw [if_neg c3] at H
          have c3b0 : decide (x5_1 < (a0.size : Int)) = false := decide_eq_false c3
          clear c3
          by_cases c27 : (x4_1.length : Int) > 128
          · rw [if_pos c27] at H
            have c27b0 : decide (128 < (x4_1.length : Int)) = true := decide_eq_true c27
            have c27b1 : decide (128 < x4_1.length) = true := decide_eq_true (by omega)
            clear c27
            simp only [Option.some.injEq, Prod.mk.injEq] at H
            obtain ⟨rfl, rfl⟩ := H
            obtain ⟨Ao28, co28, eo28⟩ := Kd.R_slice HO_4.out
            subst eo28
            go_wp2
            go_ret2
            exact ⟨_, by first | rfl | (simp [errW_none, errW_some] <;> rfl) | (simp [*, errW_none, errW_some] <;> rfl), by first | exact Kd.R_nil _ _ _ _ _ | exact Kd.N_nil _ _ _ _ _ | exact Kd.V_nil _ _ _ _ _ | exact Kd.Q_nil _ _ _ _ _ | exact Kd.S_nil _ _ _ _ _, by repeat (first | (with_reducible first | exact HB.out | apply below_alloc | apply pw_below_drewN | apply below_drew1) | exact HB.out)⟩
          · rw [if_neg c27] at H
            have c27b0 : decide (128 < (x4_1.length : Int)) = false := decide_eq_false c27
            have c27b1 : decide (128 < x4_1.length) = false := decide_eq_false (by omega)
            clear c27
            have H' := Aside0.mk H
            clear H
            obtain ⟨Ao29, co29, eo29⟩ := Kd.R_slice HO_4.out
            subst eo29
            go_wp2
            go_loopg [57] k1 (fun kq v57 w' => ∃ (x57_2 : Int), v57 = .int .i64 x57_2 ∧ Aside0 (code_Get.l1 kq x4_1 x4_1 (x4_1.length : Int) x57_2 = some (r1, r2)) ∧ Aside0 (kq ≤ k1) ∧ Aside0 (Kd.R k35 35 w' w.heap.size (fun _ => True) (.slice Ao29 x4_1.length co29) x4_1) ∧ Aside0 (Kd.R k35 35 w' w.heap.size (fun _ => True) (.slice Ao29 x4_1.length co29) x4_1) ∧ Aside0 (Below w.heap.size w w'))
            case atStart => exact ⟨(0), (by first | rfl | (simp; done) | (simp [*]; done)), H', ⟨Nat.le_refl _⟩, ⟨by (with_reducible repeat (first | apply Kd.R_alloc | apply Kd.R_drewN | apply Kd.R_drew)); exact HO_4.out⟩, ⟨by (with_reducible repeat (first | apply Kd.R_alloc | apply Kd.R_drewN | apply Kd.R_drew)); exact HO_4.out⟩, ⟨by repeat (first | (with_reducible first | exact HB.out | apply below_alloc | apply pw_below_drewN | apply below_drew1) | exact HB.out)⟩⟩
            case round =>
              clear H'
              try clear c1
              try clear p1
              try clear q1
              try clear hx1
              try clear c2
              try clear c2b0
              try clear c2b1
              try clear p2
              try clear c3
              try clear c3b0
              try clear c5
              try clear c5b0
              try clear c6
              try clear c6b0
              try clear p6
              try clear p7
              try clear q7
              try clear hx7
              try clear c8
              try clear c8b0
              try clear c8b1
              try clear c9
              try clear c9b0
              try clear p10
              try clear q10
              try clear hx10
              try clear c12
              try clear c12b0
              try clear c13
              try clear c13b0
              try clear p14
              try clear q14
              try clear hx14
              try clear c16
              try clear c16b0
              try clear c17
              try clear c17b0
              try clear p18
              try clear q18
              try clear hx18
              try clear c20
              try clear c20b0
              try clear c20b1
              try clear c21
              try clear c21b0
              try clear c21b1
              try clear c22
              try clear c22b0
              try clear c22b1
              try clear c24
              try clear c27
              try clear c27b0
              try clear c27b1
              try clear p10
              try clear p14
              try clear p18
              try clear p2
              try clear p7
              try clear q10
              try clear q14
              try clear q18
              try clear q7
              obtain ⟨x57_2, rfl, HA, HK2, HO_4, HO_55, HB⟩ := hrel
              cases gk with
              | zero => exact absurd HA.out (by simp [code_Get.l1])
              | succ k2 =>
                have H := HA.out
                clear HA
                simp only [code_Get.l1] at H
                by_cases c30 : x57_2 < (x4_1.length : Int)
                · rw [if_pos c30] at H
                  have c30b0 : decide (x57_2 < (x4_1.length : Int)) = true := decide_eq_true c30
                  clear c30
                  by_cases c31 : 0 ≤ x57_2
                  · rw [if_pos c31] at H
                    have c31b0 : decide (0 ≤ x57_2) = true := decide_eq_true c31
                    clear c31
                    by_cases c32 : x57_2 < (x4_1.length : Int)
                    · rw [if_pos c32] at H
                      have c32b0 : decide (x57_2 < (x4_1.length : Int)) = true := decide_eq_true c32
                      clear c32
                      replace H := Option.bind_eq_some_iff.mp H
                      obtain ⟨t116, A330, H⟩ := H
                      replace H : (if t116 = true then (code_Get.l1 k2 x4_1 x4_1 (x4_1.length : Int) (wrap64 (x57_2 + 1))) else (some (([] : List (S35)), some 11))) = some (r1, r2) := H
                      have A33 := Aside0.mk A330
                      clear A330
                      by_cases c34 : t116 = true
                      · subst c34
                        have H1 : (code_Get.l1 k2 x4_1 x4_1 (x4_1.length : Int) (wrap64 (x57_2 + 1))) = some (r1, r2) := by rw [if_pos rfl] at H; exact H
                        clear H
                        have H := H1
                        clear H1
                        have H' := Aside0.mk H
                        clear H
                        have p114 : 0 ≤ (x57_2 : Int) := of_decide_eq_true (by first | (with_reducible assumption) | assumption)
                        have q114 : x57_2 < (x4_1.length : Int) := of_decide_eq_true (by first | (with_reducible assumption) | assumption)
                        obtain ⟨ad114, e114, hx114_0, hx114_1, hx114_2, hx114_3⟩ := at_T35 (Kd.R_reads' HO_55.out).2.2 x57_2 p114 q114
                        cases e114
                        replace p114 := eq_true p114
                        replace q114 := eq_true q114
                        go_wp2_with (first | ((with_reducible refine gate_dst (N := 7) rfl ?_); refine box_event ?hg (N := 7) ?hd (cs := #[.int .i64 0, .int .i64 0, .int .i64 0, .int .i64 0]) (t := 35) ?hr ?_; (case hd => rfl); (case hg => rfl); (case hr => first | (go_simp; done) | (go_simp; rfl)); intro gb115 hg w35 hbox hb; have n0_ := Aside0.mk (Kd.R_below (Kd.R_elderB (by (with_reducible repeat (first | apply Kd.R_alloc | apply Kd.R_drewN | apply Kd.R_drew)); exact HO_4.out) gb115 (Nat.le_of_eq hg.symm)) hb); have n1_ := Aside0.mk (Kd.R_below (Kd.R_elderB (by (with_reducible repeat (first | apply Kd.R_alloc | apply Kd.R_drewN | apply Kd.R_drew)); exact HO_55.out) gb115 (Nat.le_of_eq hg.symm)) hb); have n2_ := Aside0.mk (below_step (by repeat (first | (with_reducible first | exact HB.out | apply below_alloc | apply pw_below_drewN | apply below_drew1) | exact HB.out)) hb); have n3_ := Aside0.mk (hbox); have n4_ := Aside0.mk ((by rw [hg]; exact (below_size (by repeat (first | (with_reducible first | exact HB.out | apply below_alloc | apply pw_below_drewN | apply below_drew1) | exact HB.out))) : w.heap.size ≤ gb115)); have n5_ := Aside0.mk ((by rw [hg]; exact (below_size (by repeat (first | (with_reducible first | exact HB.out | apply below_alloc | apply pw_below_drewN | apply below_drew1) | exact HB.out))) : w.heap.size ≤ gb115)); clear HO_4; clear HO_55; clear HB; have HO_4 := n0_; have HO_55 := n1_; have HB := n2_; have BK115 := n3_; have GW115 := n4_; have GE115 := n5_; clear n0_ n1_ n2_ n3_ n4_ n5_; clear hb hbox hg; have hcz36_0 : w35.cell? ⟨gb115, 0, none⟩ = some (.int .i64 0) := (blk_cell BK115.out 0).trans rfl; have hcz36_1 : w35.cell? ⟨gb115, 1, none⟩ = some (.int .i64 0) := (blk_cell BK115.out 1).trans rfl; have hcz36_2 : w35.cell? ⟨gb115, 2, none⟩ = some (.int .i64 0) := (blk_cell BK115.out 2).trans rfl; have hcz36_3 : w35.cell? ⟨gb115, 3, none⟩ = some (.int .i64 0) := (blk_cell BK115.out 3).trans rfl; have hfz36_0 := blk_frozen BK115.out 0; have hfz36_1 := blk_frozen BK115.out 1; have hfz36_2 := blk_frozen BK115.out 2; have hfz36_3 := blk_frozen BK115.out 3) | ((with_reducible refine gate_callee (f := 11) rfl ?_); refine goesL_ (some 62) rfl rfl Tryd.func11 (by kernel_rfl) rfl #[.agg #[.int .i64 ((rd_T35 x4_1 x57_2).f0), .int .i64 ((rd_T35 x4_1 x57_2).f1), .int .i64 ((rd_T35 x4_1 x57_2).f2), .int .i64 ((rd_T35 x4_1 x57_2).f3)]] rfl (by (try simp only [List.map_toArray, List.map_cons, List.map_nil]); first | done | rfl | (simp only [List.length_drop, List.length_take]; rfl) | (simp only [decide_eq_true_eq, decide_eq_false_iff_not, eq_iff_iff, iff_true, iff_false] at *; have w_id : ∀ {n : Int}, -9223372036854775808 ≤ n → n ≤ 9223372036854775807 → wrap64 n = n := fun h0 h1 => (by unfold wrap64; omega); rw [w_id (by omega) (by omega)]; rfl)) ?_; (with_reducible refine (code_Right.calls k2 ((rd_T35 x4_1 x57_2).f0) ((rd_T35 x4_1 x57_2).f1) ((rd_T35 x4_1 x57_2).f2) ((rd_T35 x4_1 x57_2).f3) true _ A33.out).mono ?_); rintro e w37 ⟨rfl, hb⟩; refine ⟨_, rfl, ?_⟩; have n0_ := Aside0.mk (Kd.R_below (by (with_reducible repeat (first | apply Kd.R_alloc | apply Kd.R_drewN | apply Kd.R_drew)); exact (Kd.R_mono (Kd.R_far (p := ⟨gb115, 3, none⟩) (Kd.R_far (p := ⟨gb115, 2, none⟩) (Kd.R_far (p := ⟨gb115, 1, none⟩) (Kd.R_far (p := ⟨gb115, 0, none⟩) (Kd.R_mono HO_4.out (fun k_ hk => (⟨hk, hk.2⟩ : _ ∧ k_ ≠ gb115))) (fun _ hk => hk.2) (.int .i64 ((rd_T35 x4_1 x57_2).f0))) (fun _ hk => hk.2) (.int .i64 ((rd_T35 x4_1 x57_2).f1))) (fun _ hk => hk.2) (.int .i64 ((rd_T35 x4_1 x57_2).f2))) (fun _ hk => hk.2) (.int .i64 ((rd_T35 x4_1 x57_2).f3))) (fun _ h_ => h_.1))) hb); have n1_ := Aside0.mk (Kd.R_below (by (with_reducible repeat (first | apply Kd.R_alloc | apply Kd.R_drewN | apply Kd.R_drew)); exact (Kd.R_mono (Kd.R_far (p := ⟨gb115, 3, none⟩) (Kd.R_far (p := ⟨gb115, 2, none⟩) (Kd.R_far (p := ⟨gb115, 1, none⟩) (Kd.R_far (p := ⟨gb115, 0, none⟩) (Kd.R_mono HO_55.out (fun k_ hk => (⟨hk, hk.2⟩ : _ ∧ k_ ≠ gb115))) (fun _ hk => hk.2) (.int .i64 ((rd_T35 x4_1 x57_2).f0))) (fun _ hk => hk.2) (.int .i64 ((rd_T35 x4_1 x57_2).f1))) (fun _ hk => hk.2) (.int .i64 ((rd_T35 x4_1 x57_2).f2))) (fun _ hk => hk.2) (.int .i64 ((rd_T35 x4_1 x57_2).f3))) (fun _ h_ => h_.1))) hb); have n2_ := Aside0.mk (blk_below (g := gb115) (o := .cells #[.int .i64 ((rd_T35 x4_1 x57_2).f0), .int .i64 ((rd_T35 x4_1 x57_2).f1), .int .i64 ((rd_T35 x4_1 x57_2).f2), .int .i64 ((rd_T35 x4_1 x57_2).f3)] 35 (0, 0)) (by (with_reducible repeat (first | refine blk_drewN ?_ _ | refine blk_drew ?_ | refine blk_alloc ?_ _)); refine blk_put (cs := #[.int .i64 ((rd_T35 x4_1 x57_2).f0), .int .i64 ((rd_T35 x4_1 x57_2).f1), .int .i64 ((rd_T35 x4_1 x57_2).f2), .int .i64 0]) ?_ 3 _ rfl; (with_reducible repeat (first | refine blk_drewN ?_ _ | refine blk_drew ?_ | refine blk_alloc ?_ _)); refine blk_put (cs := #[.int .i64 ((rd_T35 x4_1 x57_2).f0), .int .i64 ((rd_T35 x4_1 x57_2).f1), .int .i64 0, .int .i64 0]) ?_ 2 _ rfl; (with_reducible repeat (first | refine blk_drewN ?_ _ | refine blk_drew ?_ | refine blk_alloc ?_ _)); refine blk_put (cs := #[.int .i64 ((rd_T35 x4_1 x57_2).f0), .int .i64 0, .int .i64 0, .int .i64 0]) ?_ 1 _ rfl; (with_reducible repeat (first | refine blk_drewN ?_ _ | refine blk_drew ?_ | refine blk_alloc ?_ _)); refine blk_put (cs := #[.int .i64 0, .int .i64 0, .int .i64 0, .int .i64 0]) ?_ 0 _ rfl; (with_reducible repeat (first | refine blk_drewN ?_ _ | refine blk_drew ?_ | refine blk_alloc ?_ _)); exact BK115.out) hb); have n3_ := Aside0.mk (below_step (by repeat (first | (with_reducible first | exact HB.out | apply below_alloc | apply pw_below_drewN | apply below_drew1 | refine below_set ?_ GE115.out) | exact HB.out)) hb); clear HO_4; clear HO_55; clear BK115; clear HB; have HO_4 := n0_; have HO_55 := n1_; have BK115 := n2_; have HB := n3_; clear n0_ n1_ n2_ n3_; (try clear hb); (try clear hb2); (try clear hk); (try clear hi)))
                        go_roundg k2
                        case measure => have := HK1.out; have := HK2.out; omega
                        case rel => exact ⟨(wrap64 (x57_2 + 1)), (by first | rfl | (simp; done) | (simp [*]; done)), H', ⟨by have := HK1.out; have := HK2.out; omega⟩, ⟨by (with_reducible repeat (first | apply Kd.R_alloc | apply Kd.R_drewN | apply Kd.R_drew)); exact Kd.R_mono HO_4.out (fun _ hk => trivial)⟩, ⟨by (with_reducible repeat (first | apply Kd.R_alloc | apply Kd.R_drewN | apply Kd.R_drew)); exact Kd.R_mono HO_55.out (fun _ hk => trivial)⟩, ⟨by repeat (first | (with_reducible first | exact HB.out | apply below_alloc | apply pw_below_drewN | apply below_drew1 | refine below_set ?_ GE115.out) | exact HB.out)⟩⟩
                      · replace c34 := Bool.eq_false_iff.mpr c34
                        subst c34
                        have H1 : (some (([] : List (S35)), some 11)) = some (r1, r2) := by rw [if_neg (show ¬ (false = true) by decide)] at H; exact H
                        clear H
                        have H := H1
                        clear H1
                        simp only [Option.some.injEq, Prod.mk.injEq] at H
                        obtain ⟨rfl, rfl⟩ := H
                        have p114 : 0 ≤ (x57_2 : Int) := of_decide_eq_true (by first | (with_reducible assumption) | assumption)
                        have q114 : x57_2 < (x4_1.length : Int) := of_decide_eq_true (by first | (with_reducible assumption) | assumption)
                        obtain ⟨ad114, e114, hx114_0, hx114_1, hx114_2, hx114_3⟩ := at_T35 (Kd.R_reads' HO_55.out).2.2 x57_2 p114 q114
                        cases e114
                        replace p114 := eq_true p114
                        replace q114 := eq_true q114
                        go_wp2_with (first | ((with_reducible refine gate_dst (N := 7) rfl ?_); refine box_event ?hg (N := 7) ?hd (cs := #[.int .i64 0, .int .i64 0, .int .i64 0, .int .i64 0]) (t := 35) ?hr ?_; (case hd => rfl); (case hg => rfl); (case hr => first | (go_simp; done) | (go_simp; rfl)); intro gb115 hg w38 hbox hb; have n0_ := Aside0.mk (Kd.R_below (Kd.R_elderB (by (with_reducible repeat (first | apply Kd.R_alloc | apply Kd.R_drewN | apply Kd.R_drew)); exact HO_4.out) gb115 (Nat.le_of_eq hg.symm)) hb); have n1_ := Aside0.mk (Kd.R_below (Kd.R_elderB (by (with_reducible repeat (first | apply Kd.R_alloc | apply Kd.R_drewN | apply Kd.R_drew)); exact HO_55.out) gb115 (Nat.le_of_eq hg.symm)) hb); have n2_ := Aside0.mk (below_step (by repeat (first | (with_reducible first | exact HB.out | apply below_alloc | apply pw_below_drewN | apply below_drew1) | exact HB.out)) hb); have n3_ := Aside0.mk (hbox); have n4_ := Aside0.mk ((by rw [hg]; exact (below_size (by repeat (first | (with_reducible first | exact HB.out | apply below_alloc | apply pw_below_drewN | apply below_drew1) | exact HB.out))) : w.heap.size ≤ gb115)); have n5_ := Aside0.mk ((by rw [hg]; exact (below_size (by repeat (first | (with_reducible first | exact HB.out | apply below_alloc | apply pw_below_drewN | apply below_drew1) | exact HB.out))) : w.heap.size ≤ gb115)); clear HO_4; clear HO_55; clear HB; have HO_4 := n0_; have HO_55 := n1_; have HB := n2_; have BK115 := n3_; have GW115 := n4_; have GE115 := n5_; clear n0_ n1_ n2_ n3_ n4_ n5_; clear hb hbox hg; have hcz39_0 : w38.cell? ⟨gb115, 0, none⟩ = some (.int .i64 0) := (blk_cell BK115.out 0).trans rfl; have hcz39_1 : w38.cell? ⟨gb115, 1, none⟩ = some (.int .i64 0) := (blk_cell BK115.out 1).trans rfl; have hcz39_2 : w38.cell? ⟨gb115, 2, none⟩ = some (.int .i64 0) := (blk_cell BK115.out 2).trans rfl; have hcz39_3 : w38.cell? ⟨gb115, 3, none⟩ = some (.int .i64 0) := (blk_cell BK115.out 3).trans rfl; have hfz39_0 := blk_frozen BK115.out 0; have hfz39_1 := blk_frozen BK115.out 1; have hfz39_2 := blk_frozen BK115.out 2; have hfz39_3 := blk_frozen BK115.out 3) | ((with_reducible refine gate_callee (f := 11) rfl ?_); refine goesL_ (some 62) rfl rfl Tryd.func11 (by kernel_rfl) rfl #[.agg #[.int .i64 ((rd_T35 x4_1 x57_2).f0), .int .i64 ((rd_T35 x4_1 x57_2).f1), .int .i64 ((rd_T35 x4_1 x57_2).f2), .int .i64 ((rd_T35 x4_1 x57_2).f3)]] rfl (by (try simp only [List.map_toArray, List.map_cons, List.map_nil]); first | done | rfl | (simp only [List.length_drop, List.length_take]; rfl) | (simp only [decide_eq_true_eq, decide_eq_false_iff_not, eq_iff_iff, iff_true, iff_false] at *; have w_id : ∀ {n : Int}, -9223372036854775808 ≤ n → n ≤ 9223372036854775807 → wrap64 n = n := fun h0 h1 => (by unfold wrap64; omega); rw [w_id (by omega) (by omega)]; rfl)) ?_; (with_reducible refine (code_Right.calls k2 ((rd_T35 x4_1 x57_2).f0) ((rd_T35 x4_1 x57_2).f1) ((rd_T35 x4_1 x57_2).f2) ((rd_T35 x4_1 x57_2).f3) false _ A33.out).mono ?_); rintro e w40 ⟨rfl, hb⟩; refine ⟨_, rfl, ?_⟩; have n0_ := Aside0.mk (Kd.R_below (by (with_reducible repeat (first | apply Kd.R_alloc | apply Kd.R_drewN | apply Kd.R_drew)); exact (Kd.R_mono (Kd.R_far (p := ⟨gb115, 3, none⟩) (Kd.R_far (p := ⟨gb115, 2, none⟩) (Kd.R_far (p := ⟨gb115, 1, none⟩) (Kd.R_far (p := ⟨gb115, 0, none⟩) (Kd.R_mono HO_4.out (fun k_ hk => (⟨hk, hk.2⟩ : _ ∧ k_ ≠ gb115))) (fun _ hk => hk.2) (.int .i64 ((rd_T35 x4_1 x57_2).f0))) (fun _ hk => hk.2) (.int .i64 ((rd_T35 x4_1 x57_2).f1))) (fun _ hk => hk.2) (.int .i64 ((rd_T35 x4_1 x57_2).f2))) (fun _ hk => hk.2) (.int .i64 ((rd_T35 x4_1 x57_2).f3))) (fun _ h_ => h_.1))) hb); have n1_ := Aside0.mk (Kd.R_below (by (with_reducible repeat (first | apply Kd.R_alloc | apply Kd.R_drewN | apply Kd.R_drew)); exact (Kd.R_mono (Kd.R_far (p := ⟨gb115, 3, none⟩) (Kd.R_far (p := ⟨gb115, 2, none⟩) (Kd.R_far (p := ⟨gb115, 1, none⟩) (Kd.R_far (p := ⟨gb115, 0, none⟩) (Kd.R_mono HO_55.out (fun k_ hk => (⟨hk, hk.2⟩ : _ ∧ k_ ≠ gb115))) (fun _ hk => hk.2) (.int .i64 ((rd_T35 x4_1 x57_2).f0))) (fun _ hk => hk.2) (.int .i64 ((rd_T35 x4_1 x57_2).f1))) (fun _ hk => hk.2) (.int .i64 ((rd_T35 x4_1 x57_2).f2))) (fun _ hk => hk.2) (.int .i64 ((rd_T35 x4_1 x57_2).f3))) (fun _ h_ => h_.1))) hb); have n2_ := Aside0.mk (blk_below (g := gb115) (o := .cells #[.int .i64 ((rd_T35 x4_1 x57_2).f0), .int .i64 ((rd_T35 x4_1 x57_2).f1), .int .i64 ((rd_T35 x4_1 x57_2).f2), .int .i64 ((rd_T35 x4_1 x57_2).f3)] 35 (0, 0)) (by (with_reducible repeat (first | refine blk_drewN ?_ _ | refine blk_drew ?_ | refine blk_alloc ?_ _)); refine blk_put (cs := #[.int .i64 ((rd_T35 x4_1 x57_2).f0), .int .i64 ((rd_T35 x4_1 x57_2).f1), .int .i64 ((rd_T35 x4_1 x57_2).f2), .int .i64 0]) ?_ 3 _ rfl; (with_reducible repeat (first | refine blk_drewN ?_ _ | refine blk_drew ?_ | refine blk_alloc ?_ _)); refine blk_put (cs := #[.int .i64 ((rd_T35 x4_1 x57_2).f0), .int .i64 ((rd_T35 x4_1 x57_2).f1), .int .i64 0, .int .i64 0]) ?_ 2 _ rfl; (with_reducible repeat (first | refine blk_drewN ?_ _ | refine blk_drew ?_ | refine blk_alloc ?_ _)); refine blk_put (cs := #[.int .i64 ((rd_T35 x4_1 x57_2).f0), .int .i64 0, .int .i64 0, .int .i64 0]) ?_ 1 _ rfl; (with_reducible repeat (first | refine blk_drewN ?_ _ | refine blk_drew ?_ | refine blk_alloc ?_ _)); refine blk_put (cs := #[.int .i64 0, .int .i64 0, .int .i64 0, .int .i64 0]) ?_ 0 _ rfl; (with_reducible repeat (first | refine blk_drewN ?_ _ | refine blk_drew ?_ | refine blk_alloc ?_ _)); exact BK115.out) hb); have n3_ := Aside0.mk (below_step (by repeat (first | (with_reducible first | exact HB.out | apply below_alloc | apply pw_below_drewN | apply below_drew1 | refine below_set ?_ GE115.out) | exact HB.out)) hb); clear HO_4; clear HO_55; clear BK115; clear HB; have HO_4 := n0_; have HO_55 := n1_; have BK115 := n2_; have HB := n3_; clear n0_ n1_ n2_ n3_; (try clear hb); (try clear hb2); (try clear hk); (try clear hi)))
                        go_ret2
                        exact ⟨_, by first | rfl | (simp [errW_none, errW_some] <;> rfl) | (simp [*, errW_none, errW_some] <;> rfl), by first | exact Kd.R_nil _ _ _ _ _ | exact Kd.N_nil _ _ _ _ _ | exact Kd.V_nil _ _ _ _ _ | exact Kd.Q_nil _ _ _ _ _ | exact Kd.S_nil _ _ _ _ _, by repeat (first | (with_reducible first | exact HB.out | apply below_alloc | apply pw_below_drewN | apply below_drew1 | refine below_set ?_ GE115.out) | exact HB.out)⟩
                    · rw [if_neg c32] at H
                      exact absurd H (by simp)
                  · rw [if_neg c31] at H
                    exact absurd H (by simp)
                · rw [if_neg c30] at H
                  have c30b0 : decide (x57_2 < (x4_1.length : Int)) = false := decide_eq_false c30
                  clear c30
                  simp only [Option.some.injEq, Prod.mk.injEq] at H
                  obtain ⟨rfl, rfl⟩ := H
                  go_wp2
                  go_ret2
                  exact ⟨_, by first | rfl | (simp [errW_none, errW_some] <;> rfl) | (simp [*, errW_none, errW_some] <;> rfl), by (with_reducible repeat (first | apply Kd.R_alloc | apply Kd.R_drewN | apply Kd.R_drew)); exact HO_4.out, by repeat (first | (with_reducible first | exact HB.out | apply below_alloc | apply pw_below_drewN | apply below_drew1) | exact HB.out)⟩
  · rw [if_neg c2] at H
    have c2b0 : (((a0.size : Int) % 8) == 0) = false := beq_eq_false_iff_ne.mpr c2
    have c2b1 : (((a0.size : Int) % 8) != 0) = true := bne_iff_ne.mpr c2
    simp only [Option.some.injEq, Prod.mk.injEq] at H
    obtain ⟨rfl, rfl⟩ := H
    go_enter Tryd.func17, Tryd.ntmps17
    go_wp2
    go_ret2
    exact ⟨_, by first | rfl | (simp [errW_none, errW_some] <;> rfl) | (simp [*, errW_none, errW_some] <;> rfl), by first | exact Kd.R_nil _ _ _ _ _ | exact Kd.N_nil _ _ _ _ _ | exact Kd.V_nil _ _ _ _ _ | exact Kd.Q_nil _ _ _ _ _ | exact Kd.S_nil _ _ _ _ _, by repeat (first | (with_reducible first | exact HB.out | apply below_alloc | apply pw_below_drewN | apply below_drew1) | exact HB.out)⟩

end Go.Proofs.YtekjkbocblonmaaDoor.VCodeGets
