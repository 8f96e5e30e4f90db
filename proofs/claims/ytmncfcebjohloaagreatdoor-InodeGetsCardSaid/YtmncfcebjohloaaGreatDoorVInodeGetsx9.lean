/- Contracts of functions of this seat: each call comes to what its Lean function computes; no condition beyond what each theorem states. Printed by a program of this session's own laid over the kit's printer. -/
import Derived.Test.YtmncfcebjohloaaGreatDoorVInodeGetsx0
namespace Go.Proofs.YtmncfcebjohloaaGreatDoor.VInodeGets
open Go.RowKit Go.Proofs.YtmncfcebjohloaaGreatDoorW.PrintWords Go.Proofs.YtmncfcebjohloaaGreatDoorW.PrintLast Go.Proofs.YtmncfcebjohloaaGreatDoorW.PrintMore
attribute [local go_sem] max2_int min2_int max_two min_two max_three min_three max_four min_four   -- for this text's walks alone
set_option linter.unusedVariables false
set_option linter.unusedSimpArgs false

/-! ### le_Put: function 39 -/
mutual
def le_Put.j0 : Nat → Int → Int → Bool → Option (ByteArray)
 | 0, _, _, _ => none
 | k + 1, x0, x1, x23 => if x23 = true then (some (⟨#[]⟩ : ByteArray)) else (if 0 ≤ x1 then (if (x1 : Int).toNat ≤ 281474976710656 then ((some (List.replicate (x1 : Int).toNat 0 : List Int)).bind fun y157 => (le_Put.l0 k x0 y157 (y157.length : Int) 0)) else (none)) else (none))
def le_Put.l0 : Nat → Int → List Int → Int → Int → Option (ByteArray)
 | 0, _, _, _, _ => none
 | k + 1, x0, x5, x27, x28 => if x28 < x27 then (if 0 ≤ (wrap64 (8 * x28)) then (if 0 ≤ x28 then (if x28 < (x5.length : Int) then (le_Put.l0 k x0 (x5.set (x28 : Int).toNat ((shr .i64 x0 (wrap64 (8 * x28))) % 256)) x27 (wrap64 (x28 + 1))) else (none)) else (none)) else (none)) else (some (strOfNums x5))
end
def le_Put.f (k : Nat) (a0 : Int) (a1 : Int) : Option (ByteArray) := if a1 < 1 then (le_Put.j0 k a0 a1 true) else (if a1 > 7 then (le_Put.j0 k a0 a1 true) else (if a0 < 0 then (le_Put.j0 k a0 a1 true) else (if 0 ≤ (wrap64 (8 * a1)) then (le_Put.j0 k a0 a1 ((shr .i64 a0 (wrap64 (8 * a1))) != 0)) else (none))))
set_option maxRecDepth 100000 in
theorem le_Put.mono_l : ∀ k, (∀ y0 y1 y2, LeO (le_Put.j0 k y0 y1 y2) (le_Put.j0 (k + 1) y0 y1 y2)) ∧ (∀ y0 y1 y2 y3, LeO (le_Put.l0 k y0 y1 y2 y3) (le_Put.l0 (k + 1) y0 y1 y2 y3))
 | 0 => ⟨fun _ _ _ r h => by first | (rw [le_Put.j0] at h; cases h) | simp [le_Put.j0] at h, fun _ _ _ _ r h => by first | (rw [le_Put.l0] at h; cases h) | simp [le_Put.l0] at h⟩
 | k + 1 => by
  obtain ⟨ih0, ih1⟩ := le_Put.mono_l k
  refine ⟨?_, ?_⟩
  ·intro y0 y1 y2
   unfold le_Put.j0
   repeat' first
   | (with_reducible exact ih0 _ _ _)
   | (with_reducible exact ih1 _ _ _ _)
   | (with_reducible exact LeO.refl _)
   | (with_reducible exact LeO.none _)
   | (with_reducible refine LeO.ite ?_ ?_)
   | (with_reducible refine LeO.bind ?_ (fun _ => ?_))
   | exact ih0 _ _ _
   | exact ih1 _ _ _ _
   | exact LeO.none _
   | refine LeO.ite ?_ ?_
   | refine LeO.bind ?_ (fun _ => ?_)
  ·intro y0 y1 y2 y3
   unfold le_Put.l0
   repeat' first
   | (with_reducible exact ih0 _ _ _)
   | (with_reducible exact ih1 _ _ _ _)
   | (with_reducible exact LeO.refl _)
   | (with_reducible exact LeO.none _)
   | (with_reducible refine LeO.ite ?_ ?_)
   | (with_reducible refine LeO.bind ?_ (fun _ => ?_))
   | exact ih0 _ _ _
   | exact ih1 _ _ _ _
   | exact LeO.none _
   | refine LeO.ite ?_ ?_
   | refine LeO.bind ?_ (fun _ => ?_)
theorem le_Put.mono : ∀ a0 a1 k, LeO (le_Put.f k a0 a1) (le_Put.f (k + 1) a0 a1) := by
 intro a0 a1 k
 obtain ⟨ih0, ih1⟩ := le_Put.mono_l k
 unfold le_Put.f
 repeat' first
   | (with_reducible exact ih0 _ _ _)
   | (with_reducible exact ih1 _ _ _ _)
   | (with_reducible exact LeO.refl _)
   | (with_reducible exact LeO.none _)
   | (with_reducible refine LeO.ite ?_ ?_)
   | (with_reducible refine LeO.bind ?_ (fun _ => ?_))
   | exact ih0 _ _ _
   | exact ih1 _ _ _ _
   | exact LeO.none _
   | refine LeO.ite ?_ ?_
   | refine LeO.bind ?_ (fun _ => ?_)
set_option maxHeartbeats 8000000 in
set_option maxRecDepth 100000 in
theorem le_Put.calls (k : Nat) (a0 : Int) (a1 : Int) (r : ByteArray) (w : World) (h : le_Put.f k a0 a1 = some r) :
  Calls Tryz.prog 39 #[.int .i64 a0, .int .i64 a1] w fun e w' => e = .returned (.string r) ∧ Below w.heap.size w w' := by
 have HB := Aside0.mk (Below.refl w.heap.size w)
 have H : (if a1 < 1 then (le_Put.j0 k a0 a1 true) else (if a1 > 7 then (le_Put.j0 k a0 a1 true) else (if a0 < 0 then (le_Put.j0 k a0 a1 true) else (if 0 ≤ (wrap64 (8 * a1)) then (le_Put.j0 k a0 a1 ((shr .i64 a0 (wrap64 (8 * a1))) != 0)) else (none))))) = some r := h
 clear h
 have HC3 := Aside0.mk H
 clear H
 go_enter Tryz.func39, Tryz.ntmps39
 go_upto_region 1 with (fail)
 go_cut [23] (fun v23 wc => ∃ (kq : Nat) (x23_2 : Bool), v23 = .bool x23_2 ∧ Aside0 (le_Put.j0 kq a0 a1 x23_2 = some r) ∧ Aside0 (kq ≤ k) ∧ Aside0 (Below w.heap.size w wc))
 case first =>
  have H := HC3.out
  clear HC3
  by_cases c4 : a1 < 1
  ·rw [if_pos c4] at H
   have c4b0 : decide (a1 < 1) = true := decide_eq_true c4
   clear c4
   (first | rw [c4b0] | (simp only [i64_w, i32_w]; rw [c4b0]) | skip)
   have H' := Aside0.mk H
   clear H
   go_wp2
   go_meet
   case rel => exact ⟨_, (true), (by first | rfl | (simp; done) | (simp [*]; done)), H', ⟨by first | omega | exact Nat.le_refl _⟩, ⟨by repeat (first | (with_reducible first | exact HB.out | apply below_alloc | apply pw_below_drewN | apply below_drew1) | exact HB.out)⟩⟩
  ·rw [if_neg c4] at H
   have c4b0 : decide (a1 < 1) = false := decide_eq_false c4
   clear c4
   (first | rw [c4b0] | (simp only [i64_w, i32_w]; rw [c4b0]) | skip)
   by_cases c5 : a1 > 7
   ·rw [if_pos c5] at H
    have c5b0 : decide (7 < a1) = true := decide_eq_true c5
    clear c5
    have H' := Aside0.mk H
    clear H
    go_wp2
    go_meet
    case rel => exact ⟨_, (true), (by first | rfl | (simp; done) | (simp [*]; done)), H', ⟨by first | omega | exact Nat.le_refl _⟩, ⟨by repeat (first | (with_reducible first | exact HB.out | apply below_alloc | apply pw_below_drewN | apply below_drew1) | exact HB.out)⟩⟩
   ·rw [if_neg c5] at H
    have c5b0 : decide (7 < a1) = false := decide_eq_false c5
    clear c5
    by_cases c6 : a0 < 0
    ·rw [if_pos c6] at H
     have c6b0 : decide (a0 < 0) = true := decide_eq_true c6
     clear c6
     have H' := Aside0.mk H
     clear H
     go_wp2
     go_meet
     case rel => exact ⟨_, (true), (by first | rfl | (simp; done) | (simp [*]; done)), H', ⟨by first | omega | exact Nat.le_refl _⟩, ⟨by repeat (first | (with_reducible first | exact HB.out | apply below_alloc | apply pw_below_drewN | apply below_drew1) | exact HB.out)⟩⟩
    ·rw [if_neg c6] at H
     have c6b0 : decide (a0 < 0) = false := decide_eq_false c6
     clear c6
     obtain ⟨ji7, hji7⟩ : ∃ j_ : Int, (wrap64 (8 * a1)) = j_ := ⟨_, rfl⟩
     replace H : (if 0 ≤ (ji7) then (le_Put.j0 k a0 a1 ((shr .i64 a0 (ji7)) != 0)) else (none)) = some r := by first | (rw [hji7] at H; exact H) | (simp only [hji7] at H ⊢; exact H)
     have hji7w : (IntKind.i64.wrap (8 * a1)) = ji7 := (i64_w _).trans hji7
     by_cases c8 : 0 ≤ (ji7)
     ·rw [if_pos c8] at H
      have c8b0 := eq_true c8
      try (have c8sa0 := c8b0; simp only [ByteArray.size_append, Int.natCast_add] at c8sa0)
      have c8b1 : decide (0 ≤ (ji7)) = true := decide_eq_true c8
      clear c8
      obtain ⟨ji9, hji9⟩ : ∃ j_ : Int, (shr .i64 a0 (ji7)) = j_ := ⟨_, rfl⟩
      replace H : (le_Put.j0 k a0 a1 ((ji9) != 0)) = some r := by first | (rw [hji9] at H; exact H) | (simp only [hji9] at H ⊢; exact H)
      have hji9_ : (a0 / 2 ^ min (ji7).toNat 64) = ji9 := hji9
      have hji9z : (ji7) ≤ 64 → (a0 / 2 ^ (ji7).toNat) = ji9 := shr_small hji9
      have H' := Aside0.mk H
      clear H
      go_wp2
      go_meet
      case rel => exact ⟨_, (((ji9) != 0)), (by first | rfl | (simp; done) | (simp only [← hji9] <;> (first | rfl | simp)) | (simp [*]; done)), H', ⟨by first | omega | exact Nat.le_refl _⟩, ⟨by repeat (first | (with_reducible first | exact HB.out | apply below_alloc | apply pw_below_drewN | apply below_drew1) | exact HB.out)⟩⟩
     ·rw [if_neg c8] at H
      exact absurd H (by simp)
 case rest =>
  clear HC3
  try clear p2
  try clear c3
  try clear c4
  try clear c4b0
  try clear c5
  try clear c5b0
  try clear c6
  try clear c6b0
  try clear p6
  try clear c8
  try clear c8b0
  try clear c8b1
  obtain ⟨kq, x23_2, rfl, HA, HJ2, HB⟩ := hcut
  cases kq with
  | zero => exact absurd HA.out (by simp [le_Put.j0])
  | succ kj2 =>
   have H := HA.out
   clear HA
   simp only [le_Put.j0] at H
   by_cases c10 : x23_2 = true
   ·subst c10
    have H1 : (some (⟨#[]⟩ : ByteArray)) = some r := by rw [if_pos rfl] at H; exact H
    clear H
    have H := H1
    clear H1
    obtain rfl := Option.some.inj H
    go_wp2
    go_ret
    exact ⟨by first | rfl | (simp [errW_none, errW_some] <;> rfl) | (simp [*, errW_none, errW_some] <;> rfl), by repeat (first | (with_reducible first | exact HB.out | apply below_alloc | apply pw_below_drewN | apply below_drew1) | exact HB.out)⟩
   ·replace c10 := Bool.eq_false_iff.mpr c10
    subst c10
    have H1 : (if 0 ≤ a1 then (if (a1 : Int).toNat ≤ 281474976710656 then ((some (List.replicate (a1 : Int).toNat 0 : List Int)).bind fun y157 => (le_Put.l0 kj2 a0 y157 (y157.length : Int) 0)) else (none)) else (none)) = some r := by rw [if_neg (show ¬ (false = true) by decide)] at H; exact H
    clear H
    have H := H1
    clear H1
    by_cases c11 : 0 ≤ a1
    ·rw [if_pos c11] at H
     have c11b0 := eq_true c11
     try (have c11sa0 := c11b0; simp only [ByteArray.size_append, Int.natCast_add] at c11sa0)
     have c11b1 : decide (0 ≤ a1) = true := decide_eq_true c11
     clear c11
     by_cases c12 : (a1 : Int).toNat ≤ 281474976710656
     ·rw [if_pos c12] at H
      have c12b0 := eq_true c12
      try (have c12sa0 := c12b0; simp only [ByteArray.size_append, Int.natCast_add] at c12sa0)
      have c12b1 : decide ((a1 : Int).toNat ≤ 281474976710656) = true := decide_eq_true c12
      clear c12
      obtain ⟨y157, hy157⟩ : ∃ y_ : List Int, y_ = (List.replicate (a1 : Int).toNat 0) := ⟨_, rfl⟩
      replace H : (le_Put.l0 kj2 a0 y157 (y157.length : Int) 0) = some r := by first | (rw [hy157]; with_reducible exact H) | (have H2_ := (Option.bind_some _ _).symm.trans H; rw [hy157]; with_reducible exact H2_) | (have H2_ := (Option.bind_some _ _).symm.trans H; with_reducible exact H2_) | with_reducible exact H | (rw [hy157]; exact H) | exact H
      have Ny157 := Aside0.mk hy157
      clear hy157
      have H' := Aside0.mk H
      clear H
      go_wp2_with (first | ((with_reducible refine gate_dst (N := 25) rfl ?_); refine Kd.R_make (Kd.int .u8) _ 5 rfl (N := 25) rfl 59 _ _ rfl a1 rfl rfl Tryz.underlying59 (.int .u8 0) 1 info5 rfl (by decide) (by omega) 0 (ok := fun _ => True) (okp := fun _ => True) rfl (fun _ hk => hk) trivial (of_decide_eq_true (by first | (with_reducible assumption) | assumption)) (Nat.le_trans (Nat.mul_le_mul_right _ (of_decide_eq_true (by first | (with_reducible assumption) | assumption) : a1.toNat ≤ 281474976710656)) (by omega)) (Below.refl _ _) (Nat.le_refl _) ?_; intro v158 w13 ho14 hb hg_ hnew_; clear hg_ hnew_; (first | rw [← Ny157.out] at ho14 | (simp only [Int.reduceToNat] at ho14; rw [← Ny157.out] at ho14)); have n0_ := Aside0.mk (Kd.R_lower ho14 (below_size (by repeat (first | (with_reducible first | exact HB.out | apply below_alloc | apply pw_below_drewN | apply below_drew1) | exact HB.out)))); have n1_ := Aside0.mk (below_step (by repeat (first | (with_reducible first | exact HB.out | apply below_alloc | apply pw_below_drewN | apply below_drew1) | exact HB.out)) hb); clear HB; have HO159 := n0_; have HB := n1_; clear n0_ n1_; clear hb ho14; obtain ⟨Ao15, co15, eo15⟩ := Kd.R_slice HO159.out; subst eo15))
      go_loopg [28] kj2 (fun kq v28 w' => ∃ (x5_2 : List Int) (x28_2 : Int), v28 = .int .i64 x28_2 ∧ Aside0 (le_Put.l0 kq a0 x5_2 (y157.length : Int) x28_2 = some r) ∧ Aside0 (kq ≤ kj2) ∧ Aside0 (Kd.R (Kd.int .u8) 5 w' w.heap.size (fun _ => True) (.slice Ao15 y157.length co15) x5_2) ∧ Aside0 (Below w.heap.size w w'))
      case atStart => exact ⟨(y157), (0), (by first | rfl | (simp; done) | (simp [*]; done)), H', ⟨Nat.le_refl _⟩, ⟨by (with_reducible repeat (first | apply Kd.R_alloc | apply Kd.R_drewN | apply Kd.R_drew)); exact HO159.out⟩, ⟨by repeat (first | (with_reducible first | exact HB.out | apply below_alloc | apply pw_below_drewN | apply below_drew1) | exact HB.out)⟩⟩
      case round =>
       clear H'
       try clear c1
       try clear p2
       try clear c3
       try clear c4
       try clear c4b0
       try clear c5
       try clear c5b0
       try clear c6
       try clear c6b0
       try clear p6
       try clear c8
       try clear c8b0
       try clear c8b1
       try clear c10
       try clear c11
       try clear c11b0
       try clear c11b1
       try clear c12
       try clear c12b0
       try clear c12b1
       try clear p2
       try clear p6
       obtain ⟨x5_2, x28_2, rfl, HA, HK2, HO_5, HB⟩ := hrel
       have hl5_2 := (Kd.R_reads' HO_5.out).1
       rw [hl5_2] at HO_5
       (try simp only [hl5_2])
       cases gk with
       | zero => exact absurd HA.out (by simp [le_Put.l0])
       | succ k2 =>
        have H := HA.out
        clear HA
        simp only [le_Put.l0] at H
        by_cases c16 : x28_2 < (y157.length : Int)
        ·rw [if_pos c16] at H
         have c16b0 : decide (x28_2 < (y157.length : Int)) = true := decide_eq_true c16
         try (have c16bl0 := c16b0; rw [hl5_2] at c16bl0)
         try (have c16bm0 := c16b0; rw [← hl5_2] at c16bm0)
         clear c16
         obtain ⟨ji17, hji17⟩ : ∃ j_ : Int, (wrap64 (8 * x28_2)) = j_ := ⟨_, rfl⟩
         replace H : (if 0 ≤ (ji17) then (if 0 ≤ x28_2 then (if x28_2 < (x5_2.length : Int) then (le_Put.l0 k2 a0 (x5_2.set (x28_2 : Int).toNat ((shr .i64 a0 (ji17)) % 256)) (y157.length : Int) (wrap64 (x28_2 + 1))) else (none)) else (none)) else (none)) = some r := by first | (rw [hji17] at H; exact H) | (simp only [hji17] at H ⊢; exact H)
         have hji17w : (IntKind.i64.wrap (8 * x28_2)) = ji17 := (i64_w _).trans hji17
         by_cases c18 : 0 ≤ (ji17)
         ·rw [if_pos c18] at H
          have c18b0 := eq_true c18
          try (have c18sa0 := c18b0; simp only [ByteArray.size_append, Int.natCast_add] at c18sa0)
          have c18b1 : decide (0 ≤ (ji17)) = true := decide_eq_true c18
          clear c18
          obtain ⟨ji19, hji19⟩ : ∃ j_ : Int, (shr .i64 a0 (ji17)) = j_ := ⟨_, rfl⟩
          replace H : (if 0 ≤ x28_2 then (if x28_2 < (x5_2.length : Int) then (le_Put.l0 k2 a0 (x5_2.set (x28_2 : Int).toNat ((ji19) % 256)) (y157.length : Int) (wrap64 (x28_2 + 1))) else (none)) else (none)) = some r := by first | (rw [hji19] at H; exact H) | (simp only [hji19] at H ⊢; exact H)
          have hji19_ : (a0 / 2 ^ min (ji17).toNat 64) = ji19 := hji19
          have hji19z : (ji17) ≤ 64 → (a0 / 2 ^ (ji17).toNat) = ji19 := shr_small hji19
          by_cases c20 : 0 ≤ x28_2
          ·rw [if_pos c20] at H
           have c20b0 : decide (0 ≤ x28_2) = true := decide_eq_true c20
           clear c20
           by_cases c21 : x28_2 < (x5_2.length : Int)
           ·rw [if_pos c21] at H
            have c21b0 : decide (x28_2 < (x5_2.length : Int)) = true := decide_eq_true c21
            try (have c21bl0 := c21b0; rw [hl5_2] at c21bl0)
            try (have c21bm0 := c21b0; rw [← hl5_2] at c21bm0)
            clear c21
            obtain ⟨y160, hy160⟩ : ∃ y_ : List Int, y_ = (x5_2.set (x28_2 : Int).toNat ((ji19) % 256)) := ⟨_, rfl⟩
            replace H : (le_Put.l0 k2 a0 y160 (y157.length : Int) (wrap64 (x28_2 + 1))) = some r := by first | (rw [hy160]; with_reducible exact H) | (have H2_ := (Option.bind_some _ _).symm.trans H; rw [hy160]; with_reducible exact H2_) | (have H2_ := (Option.bind_some _ _).symm.trans H; with_reducible exact H2_) | with_reducible exact H | (rw [hy160]; exact H) | exact H
            have Ny160 := Aside0.mk hy160
            clear hy160
            have H' := Aside0.mk H
            clear H
            have p22 : 0 ≤ (x28_2 : Int) := of_decide_eq_true (by first | (with_reducible assumption) | assumption)
            have q22 : (x28_2 : Int) < ((x5_2.length : Int) : Int) := of_decide_eq_true (by first | (with_reducible assumption) | assumption)
            obtain ⟨go22, co22, eo22, gb22, gl22, cl22, HG22⟩ := Kd.R_form HO_5.out (by omega)
            (first | cases eo22 | (injection eo22 with ea_ en_ ec_; (first | subst ea_ | (injection ea_ with ea_; subst ea_)); subst ec_; clear en_))
            have GB22 := Aside0.mk gb22
            have GG22 := Aside0.mk HG22
            clear gb22 gl22 HG22
            obtain ⟨hx22_0, hf22_0⟩ := Kd.R_celln 0 HO_5.out (x28_2 : Int) p22 q22
            replace p22 := eq_true p22
            replace q22 := eq_true q22
            have HP23 := Kd.R_putg HO_5.out (x28_2 : Int) ((ji19) % 256)
            go_wp2_with (first | ((with_reducible refine gate_store (t := 5) (p := 38) rfl ?_); refine store_event (t := 5) (p := 38) (v := ?vo_w24) (w1 := (wr.setCell ⟨go22, (x28_2 : Int).toNat, none⟩ (.int .u8 ((ji19) % 256)))) ?hg ?ho ?hn ?hr ?_; (case ho => rfl); (case hg => rfl); (case hn => rfl); (case hr => first | (go_simp; done) | (go_simp; rfl)); intro w24 hw; have hg : wr.grownBy w24 (some go22) := (by rw [hw]; exact HP23.2); have hp_ : Kd.R (Kd.int .u8) 5 w24 w.heap.size (fun _ => True) (.slice (some ⟨go22, 0, none⟩) x5_2.length co15) y160 := (by rw [hw, Ny160.out]; exact HP23.1); clear HP23; have n0_ := Aside0.mk (hp_); have n1_ := Aside0.mk ((by rw [hw]; exact below_set (HB.out) GB22.out : Below w.heap.size w w24)); clear HO_5; clear HB; have HO_5 := n0_; have HB := n1_; clear n0_ n1_; clear hg hw hp_))
            (try simp only [← hl5_2])
            go_roundg k2
            case measure => have := HJ2.out; have := HK2.out; omega
            case rel => exact ⟨(y160), (wrap64 (x28_2 + 1)), (by first | rfl | (simp; done) | (simp [*]; done)), H', ⟨by have := HJ2.out; have := HK2.out; omega⟩, ⟨by (try simp only [hl5_2]); (with_reducible repeat (first | apply Kd.R_alloc | apply Kd.R_drewN | apply Kd.R_drew)); exact HO_5.out⟩, ⟨by repeat (first | (with_reducible first | exact HB.out | apply below_alloc | apply pw_below_drewN | apply below_drew1) | exact HB.out)⟩⟩
           ·rw [if_neg c21] at H
            exact absurd H (by simp)
          ·rw [if_neg c20] at H
           exact absurd H (by simp)
         ·rw [if_neg c18] at H
          exact absurd H (by simp)
        ·rw [if_neg c16] at H
         have c16b0 : decide (x28_2 < (y157.length : Int)) = false := decide_eq_false c16
         try (have c16bl0 := c16b0; rw [hl5_2] at c16bl0)
         try (have c16bm0 := c16b0; rw [← hl5_2] at c16bm0)
         clear c16
         obtain rfl := Option.some.inj H
         have hcv25 := own_string (P := Tryz.prog) Tryz.underlying59 Tryz.underlying5 Tryz.underlying9 (Kd.own_of_R HO_5.out)
         go_wp2
         go_ret
         exact ⟨by first | rfl | (simp [errW_none, errW_some] <;> rfl) | (simp [*, errW_none, errW_some] <;> rfl), by repeat (first | (with_reducible first | exact HB.out | apply below_alloc | apply pw_below_drewN | apply below_drew1) | exact HB.out)⟩
     ·rw [if_neg c12] at H
      exact absurd H (by simp)
    ·rw [if_neg c11] at H
     exact absurd H (by simp)

end Go.Proofs.YtmncfcebjohloaaGreatDoor.VInodeGets
