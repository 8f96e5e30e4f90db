/- Contracts of functions of this seat: each call comes to what its Lean function computes; no condition beyond what each theorem states. Printed by a program of this session's own laid over the kit's printer. -/
import Derived.Test.YtekjkbocblonmaaDoorVCodeGetsx0
namespace Go.Proofs.YtekjkbocblonmaaDoor.VCodeGets
open Go.RowKit Go.Proofs.YtekjkbocblonmaaDoorW.PrintWords Go.Proofs.YtekjkbocblonmaaDoorW.PrintLast Go.Proofs.YtekjkbocblonmaaDoorW.PrintMore
attribute [local go_sem] max2_int min2_int max_two min_two max_three min_three max_four min_four   -- for this text's walks alone
set_option linter.unusedVariables false
set_option linter.unusedSimpArgs false

/-! ### posthorseref17_Right: function 12 -/
mutual
def posthorseref17_Right.j0 : Nat → ByteArray → ByteArray → ByteArray → Bool → Int → Int → Int → Int → Option (Bool)
  | 0, _, _, _, _, _, _, _, _ => none
  | k + 1, x3, x4, x5, x43, x132000, x132001, x132002, x132003 => if x43 = true then (some false) else (if x132000 = 19 then (if x132001 = 0 then (if x132002 = 0 then (if x132003 ≥ 1 then (some (decide (x132003 ≤ 3))) else (some false)) else (some false)) else (some false)) else (if x132000 ≥ 18 then (if x132001 = 0 then (if x132002 = 0 then (some (x132003 == 0)) else (some false)) else (some false)) else (if 0 ≤ x132000 then (if x132000 < (x3.size : Int) then (if (bt x3 x132000) = 48 then (if x132001 = 0 then (if x132000 < (x4.size : Int) then (if (bt x4 x132000) = 48 then (if x132002 = 0 then (if x132000 < (x5.size : Int) then (if (bt x5 x132000) = 48 then (posthorseref17_Right.j1 k (x132003 != 0) x132000 x132001 x132002 x132003) else (posthorseref17_Right.j1 k false x132000 x132001 x132002 x132003)) else (none)) else (posthorseref17_Right.j1 k true x132000 x132001 x132002 x132003)) else (if x132000 < (x5.size : Int) then (if (bt x5 x132000) = 48 then (posthorseref17_Right.j1 k (x132003 != 0) x132000 x132001 x132002 x132003) else (posthorseref17_Right.j1 k false x132000 x132001 x132002 x132003)) else (none))) else (none)) else (posthorseref17_Right.j1 k true x132000 x132001 x132002 x132003)) else (if x132000 < (x4.size : Int) then (if (bt x4 x132000) = 48 then (if x132002 = 0 then (if x132000 < (x5.size : Int) then (if (bt x5 x132000) = 48 then (posthorseref17_Right.j1 k (x132003 != 0) x132000 x132001 x132002 x132003) else (posthorseref17_Right.j1 k false x132000 x132001 x132002 x132003)) else (none)) else (posthorseref17_Right.j1 k true x132000 x132001 x132002 x132003)) else (if x132000 < (x5.size : Int) then (if (bt x5 x132000) = 48 then (posthorseref17_Right.j1 k (x132003 != 0) x132000 x132001 x132002 x132003) else (posthorseref17_Right.j1 k false x132000 x132001 x132002 x132003)) else (none))) else (none))) else (none)) else (none))))
def posthorseref17_Right.j1 : Nat → Bool → Int → Int → Int → Int → Option (Bool)
  | 0, _, _, _, _, _ => none
  | k + 1, x114, x132000, x132001, x132002, x132003 => if x114 = true then (some false) else (if x132000 = 6 then (if x132003 < 0 then (some false) else (if x132000 ≥ 12 then (if x132000 ≤ 16 then (if x132003 > 127 then (some false) else (if x132000 = 17 then (if x132003 ≥ 1 then (some (decide (x132003 ≤ 64))) else (some false)) else (some true))) else (if x132000 = 17 then (if x132003 ≥ 1 then (some (decide (x132003 ≤ 64))) else (some false)) else (some true))) else (if x132000 = 17 then (if x132003 ≥ 1 then (some (decide (x132003 ≤ 64))) else (some false)) else (some true)))) else (if x132000 ≥ 12 then (if x132000 ≤ 16 then (if x132003 < 0 then (some false) else (if x132003 > 127 then (some false) else (if x132000 = 17 then (if x132003 ≥ 1 then (some (decide (x132003 ≤ 64))) else (some false)) else (some true)))) else (if x132000 = 17 then (if x132003 ≥ 1 then (some (decide (x132003 ≤ 64))) else (some false)) else (some true))) else (if x132000 = 17 then (if x132003 ≥ 1 then (some (decide (x132003 ≤ 64))) else (some false)) else (some true))))
end
def posthorseref17_Right.f (k : Nat) (a0_0 : Int) (a0_1 : Int) (a0_2 : Int) (a0_3 : Int) : Option (Bool) := if a0_0 < 0 then (posthorseref17_Right.j0 k (⟨#[49, 49, 49, 49, 49, 49, 49, 49, 49, 49, 49, 49, 48, 49, 49, 49, 49, 48, 48, 48, 48, 49]⟩ : ByteArray) (⟨#[48, 49, 49, 49, 48, 48, 48, 49, 49, 49, 49, 49, 48, 49, 49, 49, 49, 48, 48, 48, 48, 49]⟩ : ByteArray) (⟨#[49, 48, 48, 48, 49, 49, 49, 49, 49, 49, 49, 49, 49, 49, 49, 49, 49, 49, 48, 49, 48, 48]⟩ : ByteArray) true a0_0 a0_1 a0_2 a0_3) else (if a0_0 > 20 then (posthorseref17_Right.j0 k (⟨#[49, 49, 49, 49, 49, 49, 49, 49, 49, 49, 49, 49, 48, 49, 49, 49, 49, 48, 48, 48, 48, 49]⟩ : ByteArray) (⟨#[48, 49, 49, 49, 48, 48, 48, 49, 49, 49, 49, 49, 48, 49, 49, 49, 49, 48, 48, 48, 48, 49]⟩ : ByteArray) (⟨#[49, 48, 48, 48, 49, 49, 49, 49, 49, 49, 49, 49, 49, 49, 49, 49, 49, 49, 48, 49, 48, 48]⟩ : ByteArray) true a0_0 a0_1 a0_2 a0_3) else (if a0_1 < 0 then (posthorseref17_Right.j0 k (⟨#[49, 49, 49, 49, 49, 49, 49, 49, 49, 49, 49, 49, 48, 49, 49, 49, 49, 48, 48, 48, 48, 49]⟩ : ByteArray) (⟨#[48, 49, 49, 49, 48, 48, 48, 49, 49, 49, 49, 49, 48, 49, 49, 49, 49, 48, 48, 48, 48, 49]⟩ : ByteArray) (⟨#[49, 48, 48, 48, 49, 49, 49, 49, 49, 49, 49, 49, 49, 49, 49, 49, 49, 49, 48, 49, 48, 48]⟩ : ByteArray) true a0_0 a0_1 a0_2 a0_3) else (if a0_1 > 7 then (posthorseref17_Right.j0 k (⟨#[49, 49, 49, 49, 49, 49, 49, 49, 49, 49, 49, 49, 48, 49, 49, 49, 49, 48, 48, 48, 48, 49]⟩ : ByteArray) (⟨#[48, 49, 49, 49, 48, 48, 48, 49, 49, 49, 49, 49, 48, 49, 49, 49, 49, 48, 48, 48, 48, 49]⟩ : ByteArray) (⟨#[49, 48, 48, 48, 49, 49, 49, 49, 49, 49, 49, 49, 49, 49, 49, 49, 49, 49, 48, 49, 48, 48]⟩ : ByteArray) true a0_0 a0_1 a0_2 a0_3) else (if a0_2 < 0 then (posthorseref17_Right.j0 k (⟨#[49, 49, 49, 49, 49, 49, 49, 49, 49, 49, 49, 49, 48, 49, 49, 49, 49, 48, 48, 48, 48, 49]⟩ : ByteArray) (⟨#[48, 49, 49, 49, 48, 48, 48, 49, 49, 49, 49, 49, 48, 49, 49, 49, 49, 48, 48, 48, 48, 49]⟩ : ByteArray) (⟨#[49, 48, 48, 48, 49, 49, 49, 49, 49, 49, 49, 49, 49, 49, 49, 49, 49, 49, 48, 49, 48, 48]⟩ : ByteArray) true a0_0 a0_1 a0_2 a0_3) else (if a0_2 > 7 then (posthorseref17_Right.j0 k (⟨#[49, 49, 49, 49, 49, 49, 49, 49, 49, 49, 49, 49, 48, 49, 49, 49, 49, 48, 48, 48, 48, 49]⟩ : ByteArray) (⟨#[48, 49, 49, 49, 48, 48, 48, 49, 49, 49, 49, 49, 48, 49, 49, 49, 49, 48, 48, 48, 48, 49]⟩ : ByteArray) (⟨#[49, 48, 48, 48, 49, 49, 49, 49, 49, 49, 49, 49, 49, 49, 49, 49, 49, 49, 48, 49, 48, 48]⟩ : ByteArray) true a0_0 a0_1 a0_2 a0_3) else (if a0_3 < (-2147483648) then (posthorseref17_Right.j0 k (⟨#[49, 49, 49, 49, 49, 49, 49, 49, 49, 49, 49, 49, 48, 49, 49, 49, 49, 48, 48, 48, 48, 49]⟩ : ByteArray) (⟨#[48, 49, 49, 49, 48, 48, 48, 49, 49, 49, 49, 49, 48, 49, 49, 49, 49, 48, 48, 48, 48, 49]⟩ : ByteArray) (⟨#[49, 48, 48, 48, 49, 49, 49, 49, 49, 49, 49, 49, 49, 49, 49, 49, 49, 49, 48, 49, 48, 48]⟩ : ByteArray) true a0_0 a0_1 a0_2 a0_3) else (posthorseref17_Right.j0 k (⟨#[49, 49, 49, 49, 49, 49, 49, 49, 49, 49, 49, 49, 48, 49, 49, 49, 49, 48, 48, 48, 48, 49]⟩ : ByteArray) (⟨#[48, 49, 49, 49, 48, 48, 48, 49, 49, 49, 49, 49, 48, 49, 49, 49, 49, 48, 48, 48, 48, 49]⟩ : ByteArray) (⟨#[49, 48, 48, 48, 49, 49, 49, 49, 49, 49, 49, 49, 49, 49, 49, 49, 49, 49, 48, 49, 48, 48]⟩ : ByteArray) (decide (a0_3 > 2147483647)) a0_0 a0_1 a0_2 a0_3)))))))
set_option maxRecDepth 100000 in
theorem posthorseref17_Right.mono_l : ∀ k, (∀ y0 y1 y2 y3 y4 y5 y6 y7, LeO (posthorseref17_Right.j0 k y0 y1 y2 y3 y4 y5 y6 y7) (posthorseref17_Right.j0 (k + 1) y0 y1 y2 y3 y4 y5 y6 y7)) ∧ (∀ y0 y1 y2 y3 y4, LeO (posthorseref17_Right.j1 k y0 y1 y2 y3 y4) (posthorseref17_Right.j1 (k + 1) y0 y1 y2 y3 y4))
  | 0 => ⟨fun _ _ _ _ _ _ _ _ r h => by first | (rw [posthorseref17_Right.j0] at h; cases h) | simp [posthorseref17_Right.j0] at h, fun _ _ _ _ _ r h => by first | (rw [posthorseref17_Right.j1] at h; cases h) | simp [posthorseref17_Right.j1] at h⟩
  | k + 1 => by
    obtain ⟨ih0, ih1⟩ := posthorseref17_Right.mono_l k
    refine ⟨?_, ?_⟩
    · intro y0 y1 y2 y3 y4 y5 y6 y7
      unfold posthorseref17_Right.j0
      repeat' first
      | (with_reducible exact ih0 _ _ _ _ _ _ _ _)
      | (with_reducible exact ih1 _ _ _ _ _)
      | (with_reducible exact LeO.refl _)
      | (with_reducible exact LeO.none _)
      | (with_reducible refine LeO.ite ?_ ?_)
      | (with_reducible refine LeO.bind ?_ (fun _ => ?_))
      | exact ih0 _ _ _ _ _ _ _ _
      | exact ih1 _ _ _ _ _
      | exact LeO.none _
      | refine LeO.ite ?_ ?_
      | refine LeO.bind ?_ (fun _ => ?_)
    · intro y0 y1 y2 y3 y4
      unfold posthorseref17_Right.j1
      repeat' first
      | (with_reducible exact ih0 _ _ _ _ _ _ _ _)
      | (with_reducible exact ih1 _ _ _ _ _)
      | (with_reducible exact LeO.refl _)
      | (with_reducible exact LeO.none _)
      | (with_reducible refine LeO.ite ?_ ?_)
      | (with_reducible refine LeO.bind ?_ (fun _ => ?_))
      | exact ih0 _ _ _ _ _ _ _ _
      | exact ih1 _ _ _ _ _
      | exact LeO.none _
      | refine LeO.ite ?_ ?_
      | refine LeO.bind ?_ (fun _ => ?_)
theorem posthorseref17_Right.mono : ∀ a0 a1 a2 a3 k, LeO (posthorseref17_Right.f k a0 a1 a2 a3) (posthorseref17_Right.f (k + 1) a0 a1 a2 a3) := by
  intro a0 a1 a2 a3 k
  obtain ⟨ih0, ih1⟩ := posthorseref17_Right.mono_l k
  unfold posthorseref17_Right.f
  repeat' first
      | (with_reducible exact ih0 _ _ _ _ _ _ _ _)
      | (with_reducible exact ih1 _ _ _ _ _)
      | (with_reducible exact LeO.refl _)
      | (with_reducible exact LeO.none _)
      | (with_reducible refine LeO.ite ?_ ?_)
      | (with_reducible refine LeO.bind ?_ (fun _ => ?_))
      | exact ih0 _ _ _ _ _ _ _ _
      | exact ih1 _ _ _ _ _
      | exact LeO.none _
      | refine LeO.ite ?_ ?_
      | refine LeO.bind ?_ (fun _ => ?_)
set_option maxHeartbeats 8000000 in
set_option maxRecDepth 100000 in
theorem posthorseref17_Right.calls (k : Nat) (a0_0 : Int) (a0_1 : Int) (a0_2 : Int) (a0_3 : Int) (r : Bool) (w : World) (h : posthorseref17_Right.f k a0_0 a0_1 a0_2 a0_3 = some r) :
    Calls Tryd.prog 12 #[.agg #[.int .i64 a0_0, .int .i64 a0_1, .int .i64 a0_2, .int .i64 a0_3]] w fun e w' => e = .returned (.bool r) ∧ Below w.heap.size w w' := by
  have hu37 := Tryd.underlying37
  have HB := Aside0.mk (Below.refl w.heap.size w)
  have H : (if a0_0 < 0 then (posthorseref17_Right.j0 k (⟨#[49, 49, 49, 49, 49, 49, 49, 49, 49, 49, 49, 49, 48, 49, 49, 49, 49, 48, 48, 48, 48, 49]⟩ : ByteArray) (⟨#[48, 49, 49, 49, 48, 48, 48, 49, 49, 49, 49, 49, 48, 49, 49, 49, 49, 48, 48, 48, 48, 49]⟩ : ByteArray) (⟨#[49, 48, 48, 48, 49, 49, 49, 49, 49, 49, 49, 49, 49, 49, 49, 49, 49, 49, 48, 49, 48, 48]⟩ : ByteArray) true a0_0 a0_1 a0_2 a0_3) else (if a0_0 > 20 then (posthorseref17_Right.j0 k (⟨#[49, 49, 49, 49, 49, 49, 49, 49, 49, 49, 49, 49, 48, 49, 49, 49, 49, 48, 48, 48, 48, 49]⟩ : ByteArray) (⟨#[48, 49, 49, 49, 48, 48, 48, 49, 49, 49, 49, 49, 48, 49, 49, 49, 49, 48, 48, 48, 48, 49]⟩ : ByteArray) (⟨#[49, 48, 48, 48, 49, 49, 49, 49, 49, 49, 49, 49, 49, 49, 49, 49, 49, 49, 48, 49, 48, 48]⟩ : ByteArray) true a0_0 a0_1 a0_2 a0_3) else (if a0_1 < 0 then (posthorseref17_Right.j0 k (⟨#[49, 49, 49, 49, 49, 49, 49, 49, 49, 49, 49, 49, 48, 49, 49, 49, 49, 48, 48, 48, 48, 49]⟩ : ByteArray) (⟨#[48, 49, 49, 49, 48, 48, 48, 49, 49, 49, 49, 49, 48, 49, 49, 49, 49, 48, 48, 48, 48, 49]⟩ : ByteArray) (⟨#[49, 48, 48, 48, 49, 49, 49, 49, 49, 49, 49, 49, 49, 49, 49, 49, 49, 49, 48, 49, 48, 48]⟩ : ByteArray) true a0_0 a0_1 a0_2 a0_3) else (if a0_1 > 7 then (posthorseref17_Right.j0 k (⟨#[49, 49, 49, 49, 49, 49, 49, 49, 49, 49, 49, 49, 48, 49, 49, 49, 49, 48, 48, 48, 48, 49]⟩ : ByteArray) (⟨#[48, 49, 49, 49, 48, 48, 48, 49, 49, 49, 49, 49, 48, 49, 49, 49, 49, 48, 48, 48, 48, 49]⟩ : ByteArray) (⟨#[49, 48, 48, 48, 49, 49, 49, 49, 49, 49, 49, 49, 49, 49, 49, 49, 49, 49, 48, 49, 48, 48]⟩ : ByteArray) true a0_0 a0_1 a0_2 a0_3) else (if a0_2 < 0 then (posthorseref17_Right.j0 k (⟨#[49, 49, 49, 49, 49, 49, 49, 49, 49, 49, 49, 49, 48, 49, 49, 49, 49, 48, 48, 48, 48, 49]⟩ : ByteArray) (⟨#[48, 49, 49, 49, 48, 48, 48, 49, 49, 49, 49, 49, 48, 49, 49, 49, 49, 48, 48, 48, 48, 49]⟩ : ByteArray) (⟨#[49, 48, 48, 48, 49, 49, 49, 49, 49, 49, 49, 49, 49, 49, 49, 49, 49, 49, 48, 49, 48, 48]⟩ : ByteArray) true a0_0 a0_1 a0_2 a0_3) else (if a0_2 > 7 then (posthorseref17_Right.j0 k (⟨#[49, 49, 49, 49, 49, 49, 49, 49, 49, 49, 49, 49, 48, 49, 49, 49, 49, 48, 48, 48, 48, 49]⟩ : ByteArray) (⟨#[48, 49, 49, 49, 48, 48, 48, 49, 49, 49, 49, 49, 48, 49, 49, 49, 49, 48, 48, 48, 48, 49]⟩ : ByteArray) (⟨#[49, 48, 48, 48, 49, 49, 49, 49, 49, 49, 49, 49, 49, 49, 49, 49, 49, 49, 48, 49, 48, 48]⟩ : ByteArray) true a0_0 a0_1 a0_2 a0_3) else (if a0_3 < (-2147483648) then (posthorseref17_Right.j0 k (⟨#[49, 49, 49, 49, 49, 49, 49, 49, 49, 49, 49, 49, 48, 49, 49, 49, 49, 48, 48, 48, 48, 49]⟩ : ByteArray) (⟨#[48, 49, 49, 49, 48, 48, 48, 49, 49, 49, 49, 49, 48, 49, 49, 49, 49, 48, 48, 48, 48, 49]⟩ : ByteArray) (⟨#[49, 48, 48, 48, 49, 49, 49, 49, 49, 49, 49, 49, 49, 49, 49, 49, 49, 49, 48, 49, 48, 48]⟩ : ByteArray) true a0_0 a0_1 a0_2 a0_3) else (posthorseref17_Right.j0 k (⟨#[49, 49, 49, 49, 49, 49, 49, 49, 49, 49, 49, 49, 48, 49, 49, 49, 49, 48, 48, 48, 48, 49]⟩ : ByteArray) (⟨#[48, 49, 49, 49, 48, 48, 48, 49, 49, 49, 49, 49, 48, 49, 49, 49, 49, 48, 48, 48, 48, 49]⟩ : ByteArray) (⟨#[49, 48, 48, 48, 49, 49, 49, 49, 49, 49, 49, 49, 49, 49, 49, 49, 49, 49, 48, 49, 48, 48]⟩ : ByteArray) (decide (a0_3 > 2147483647)) a0_0 a0_1 a0_2 a0_3)))))))) = some r := h
  clear h
  have HC2 := Aside0.mk H
  clear H
  go_enter Tryd.func12, Tryd.ntmps12
  go_upto_region 4 with (first | ((with_reducible refine gate_dst (N := 1) rfl ?_); refine box_event ?hg (N := 1) ?hd (cs := #[.int .i64 a0_0, .int .i64 a0_1, .int .i64 a0_2, .int .i64 a0_3]) (t := 37) ?hr ?_; (case hd => rfl); (case hg => rfl); (case hr => first | (go_simp; done) | (go_simp; rfl)); intro gb131 hg w3 hbox hb; have n0_ := Aside0.mk (below_step (by repeat (first | (with_reducible first | exact HB.out | apply below_alloc | apply pw_below_drewN | apply below_drew1) | exact HB.out)) hb); have n1_ := Aside0.mk (hbox); have n2_ := Aside0.mk ((by rw [hg]; exact (below_size (by repeat (first | (with_reducible first | exact HB.out | apply below_alloc | apply pw_below_drewN | apply below_drew1) | exact HB.out))) : w.heap.size ≤ gb131)); have n3_ := Aside0.mk ((by rw [hg]; exact (below_size (by repeat (first | (with_reducible first | exact HB.out | apply below_alloc | apply pw_below_drewN | apply below_drew1) | exact HB.out))) : w.heap.size ≤ gb131)); clear HB; have HB := n0_; have BK131 := n1_; have GW131 := n2_; have GE131 := n3_; clear n0_ n1_ n2_ n3_; clear hb hbox hg))
  (try simp only [Act.put, List.setIfInBounds_toArray, List.set_cons_zero, List.set_cons_succ])
  go_cut [43] (fun v43 wc => ∃ (kq : Nat) (x43_1 : Bool), v43 = .bool x43_1 ∧ Aside0 (posthorseref17_Right.j0 kq (⟨#[49, 49, 49, 49, 49, 49, 49, 49, 49, 49, 49, 49, 48, 49, 49, 49, 49, 48, 48, 48, 48, 49]⟩ : ByteArray) (⟨#[48, 49, 49, 49, 48, 48, 48, 49, 49, 49, 49, 49, 48, 49, 49, 49, 49, 48, 48, 48, 48, 49]⟩ : ByteArray) (⟨#[49, 48, 48, 48, 49, 49, 49, 49, 49, 49, 49, 49, 49, 49, 49, 49, 49, 49, 48, 49, 48, 48]⟩ : ByteArray) x43_1 a0_0 a0_1 a0_2 a0_3 = some r) ∧ Aside0 (kq ≤ k) ∧ Aside0 (wc.heap[gb131]? = some (.cells #[.int .i64 a0_0, .int .i64 a0_1, .int .i64 a0_2, .int .i64 a0_3] 37 (0, 0))) ∧ Aside0 (Below w.heap.size w wc))
  case first =>
    have H := HC2.out
    clear HC2
    by_cases c4 : a0_0 < 0
    · rw [if_pos c4] at H
      have c4b0 : decide (a0_0 < 0) = true := decide_eq_true c4
      clear c4
      (first | rw [c4b0] | (simp only [i64_w, i32_w]; rw [c4b0]) | skip)
      have H' := Aside0.mk H
      clear H
      have hcz5_0 : w3.cell? ⟨gb131, 0, none⟩ = some (.int .i64 a0_0) := (blk_cell BK131.out 0).trans rfl
      have hcz5_1 : w3.cell? ⟨gb131, 1, none⟩ = some (.int .i64 a0_1) := (blk_cell BK131.out 1).trans rfl
      have hcz5_2 : w3.cell? ⟨gb131, 2, none⟩ = some (.int .i64 a0_2) := (blk_cell BK131.out 2).trans rfl
      have hcz5_3 : w3.cell? ⟨gb131, 3, none⟩ = some (.int .i64 a0_3) := (blk_cell BK131.out 3).trans rfl
      have hfz5_0 := blk_frozen BK131.out 0
      have hfz5_1 := blk_frozen BK131.out 1
      have hfz5_2 := blk_frozen BK131.out 2
      have hfz5_3 := blk_frozen BK131.out 3
      go_wp2
      go_meet
      case rel => exact ⟨_, (true), (by first | rfl | (simp; done) | (simp [*]; done)), H', ⟨by first | omega | exact Nat.le_refl _⟩, ⟨by (with_reducible repeat (first | refine blk_drewN ?_ _ | refine blk_drew ?_ | refine blk_alloc ?_ _)); exact BK131.out⟩, ⟨by repeat (first | (with_reducible first | exact HB.out | apply below_alloc | apply pw_below_drewN | apply below_drew1 | refine below_set ?_ GE131.out) | exact HB.out)⟩⟩
    · rw [if_neg c4] at H
      have c4b0 : decide (a0_0 < 0) = false := decide_eq_false c4
      clear c4
      (first | rw [c4b0] | (simp only [i64_w, i32_w]; rw [c4b0]) | skip)
      by_cases c6 : a0_0 > 20
      · rw [if_pos c6] at H
        have c6b0 : decide (20 < a0_0) = true := decide_eq_true c6
        clear c6
        have H' := Aside0.mk H
        clear H
        have hcz7_0 : w3.cell? ⟨gb131, 0, none⟩ = some (.int .i64 a0_0) := (blk_cell BK131.out 0).trans rfl
        have hcz7_1 : w3.cell? ⟨gb131, 1, none⟩ = some (.int .i64 a0_1) := (blk_cell BK131.out 1).trans rfl
        have hcz7_2 : w3.cell? ⟨gb131, 2, none⟩ = some (.int .i64 a0_2) := (blk_cell BK131.out 2).trans rfl
        have hcz7_3 : w3.cell? ⟨gb131, 3, none⟩ = some (.int .i64 a0_3) := (blk_cell BK131.out 3).trans rfl
        have hfz7_0 := blk_frozen BK131.out 0
        have hfz7_1 := blk_frozen BK131.out 1
        have hfz7_2 := blk_frozen BK131.out 2
        have hfz7_3 := blk_frozen BK131.out 3
        go_wp2
        go_meet
        case rel => exact ⟨_, (true), (by first | rfl | (simp; done) | (simp [*]; done)), H', ⟨by first | omega | exact Nat.le_refl _⟩, ⟨by (with_reducible repeat (first | refine blk_drewN ?_ _ | refine blk_drew ?_ | refine blk_alloc ?_ _)); exact BK131.out⟩, ⟨by repeat (first | (with_reducible first | exact HB.out | apply below_alloc | apply pw_below_drewN | apply below_drew1 | refine below_set ?_ GE131.out) | exact HB.out)⟩⟩
      · rw [if_neg c6] at H
        have c6b0 : decide (20 < a0_0) = false := decide_eq_false c6
        clear c6
        by_cases c8 : a0_1 < 0
        · rw [if_pos c8] at H
          have c8b0 : decide (a0_1 < 0) = true := decide_eq_true c8
          clear c8
          have H' := Aside0.mk H
          clear H
          have hcz9_0 : w3.cell? ⟨gb131, 0, none⟩ = some (.int .i64 a0_0) := (blk_cell BK131.out 0).trans rfl
          have hcz9_1 : w3.cell? ⟨gb131, 1, none⟩ = some (.int .i64 a0_1) := (blk_cell BK131.out 1).trans rfl
          have hcz9_2 : w3.cell? ⟨gb131, 2, none⟩ = some (.int .i64 a0_2) := (blk_cell BK131.out 2).trans rfl
          have hcz9_3 : w3.cell? ⟨gb131, 3, none⟩ = some (.int .i64 a0_3) := (blk_cell BK131.out 3).trans rfl
          have hfz9_0 := blk_frozen BK131.out 0
          have hfz9_1 := blk_frozen BK131.out 1
          have hfz9_2 := blk_frozen BK131.out 2
          have hfz9_3 := blk_frozen BK131.out 3
          go_wp2
          go_meet
          case rel => exact ⟨_, (true), (by first | rfl | (simp; done) | (simp [*]; done)), H', ⟨by first | omega | exact Nat.le_refl _⟩, ⟨by (with_reducible repeat (first | refine blk_drewN ?_ _ | refine blk_drew ?_ | refine blk_alloc ?_ _)); exact BK131.out⟩, ⟨by repeat (first | (with_reducible first | exact HB.out | apply below_alloc | apply pw_below_drewN | apply below_drew1 | refine below_set ?_ GE131.out) | exact HB.out)⟩⟩
        · rw [if_neg c8] at H
          have c8b0 : decide (a0_1 < 0) = false := decide_eq_false c8
          clear c8
          by_cases c10 : a0_1 > 7
          · rw [if_pos c10] at H
            have c10b0 : decide (7 < a0_1) = true := decide_eq_true c10
            clear c10
            have H' := Aside0.mk H
            clear H
            have hcz11_0 : w3.cell? ⟨gb131, 0, none⟩ = some (.int .i64 a0_0) := (blk_cell BK131.out 0).trans rfl
            have hcz11_1 : w3.cell? ⟨gb131, 1, none⟩ = some (.int .i64 a0_1) := (blk_cell BK131.out 1).trans rfl
            have hcz11_2 : w3.cell? ⟨gb131, 2, none⟩ = some (.int .i64 a0_2) := (blk_cell BK131.out 2).trans rfl
            have hcz11_3 : w3.cell? ⟨gb131, 3, none⟩ = some (.int .i64 a0_3) := (blk_cell BK131.out 3).trans rfl
            have hfz11_0 := blk_frozen BK131.out 0
            have hfz11_1 := blk_frozen BK131.out 1
            have hfz11_2 := blk_frozen BK131.out 2
            have hfz11_3 := blk_frozen BK131.out 3
            go_wp2
            go_meet
            case rel => exact ⟨_, (true), (by first | rfl | (simp; done) | (simp [*]; done)), H', ⟨by first | omega | exact Nat.le_refl _⟩, ⟨by (with_reducible repeat (first | refine blk_drewN ?_ _ | refine blk_drew ?_ | refine blk_alloc ?_ _)); exact BK131.out⟩, ⟨by repeat (first | (with_reducible first | exact HB.out | apply below_alloc | apply pw_below_drewN | apply below_drew1 | refine below_set ?_ GE131.out) | exact HB.out)⟩⟩
          · rw [if_neg c10] at H
            have c10b0 : decide (7 < a0_1) = false := decide_eq_false c10
            clear c10
            by_cases c12 : a0_2 < 0
            · rw [if_pos c12] at H
              have c12b0 : decide (a0_2 < 0) = true := decide_eq_true c12
              clear c12
              have H' := Aside0.mk H
              clear H
              have hcz13_0 : w3.cell? ⟨gb131, 0, none⟩ = some (.int .i64 a0_0) := (blk_cell BK131.out 0).trans rfl
              have hcz13_1 : w3.cell? ⟨gb131, 1, none⟩ = some (.int .i64 a0_1) := (blk_cell BK131.out 1).trans rfl
              have hcz13_2 : w3.cell? ⟨gb131, 2, none⟩ = some (.int .i64 a0_2) := (blk_cell BK131.out 2).trans rfl
              have hcz13_3 : w3.cell? ⟨gb131, 3, none⟩ = some (.int .i64 a0_3) := (blk_cell BK131.out 3).trans rfl
              have hfz13_0 := blk_frozen BK131.out 0
              have hfz13_1 := blk_frozen BK131.out 1
              have hfz13_2 := blk_frozen BK131.out 2
              have hfz13_3 := blk_frozen BK131.out 3
              go_wp2
              go_meet
              case rel => exact ⟨_, (true), (by first | rfl | (simp; done) | (simp [*]; done)), H', ⟨by first | omega | exact Nat.le_refl _⟩, ⟨by (with_reducible repeat (first | refine blk_drewN ?_ _ | refine blk_drew ?_ | refine blk_alloc ?_ _)); exact BK131.out⟩, ⟨by repeat (first | (with_reducible first | exact HB.out | apply below_alloc | apply pw_below_drewN | apply below_drew1 | refine below_set ?_ GE131.out) | exact HB.out)⟩⟩
            · rw [if_neg c12] at H
              have c12b0 : decide (a0_2 < 0) = false := decide_eq_false c12
              clear c12
              by_cases c14 : a0_2 > 7
              · rw [if_pos c14] at H
                have c14b0 : decide (7 < a0_2) = true := decide_eq_true c14
                clear c14
                have H' := Aside0.mk H
                clear H
                have hcz15_0 : w3.cell? ⟨gb131, 0, none⟩ = some (.int .i64 a0_0) := (blk_cell BK131.out 0).trans rfl
                have hcz15_1 : w3.cell? ⟨gb131, 1, none⟩ = some (.int .i64 a0_1) := (blk_cell BK131.out 1).trans rfl
                have hcz15_2 : w3.cell? ⟨gb131, 2, none⟩ = some (.int .i64 a0_2) := (blk_cell BK131.out 2).trans rfl
                have hcz15_3 : w3.cell? ⟨gb131, 3, none⟩ = some (.int .i64 a0_3) := (blk_cell BK131.out 3).trans rfl
                have hfz15_0 := blk_frozen BK131.out 0
                have hfz15_1 := blk_frozen BK131.out 1
                have hfz15_2 := blk_frozen BK131.out 2
                have hfz15_3 := blk_frozen BK131.out 3
                go_wp2
                go_meet
                case rel => exact ⟨_, (true), (by first | rfl | (simp; done) | (simp [*]; done)), H', ⟨by first | omega | exact Nat.le_refl _⟩, ⟨by (with_reducible repeat (first | refine blk_drewN ?_ _ | refine blk_drew ?_ | refine blk_alloc ?_ _)); exact BK131.out⟩, ⟨by repeat (first | (with_reducible first | exact HB.out | apply below_alloc | apply pw_below_drewN | apply below_drew1 | refine below_set ?_ GE131.out) | exact HB.out)⟩⟩
              · rw [if_neg c14] at H
                have c14b0 : decide (7 < a0_2) = false := decide_eq_false c14
                clear c14
                by_cases c16 : a0_3 < (-2147483648)
                · rw [if_pos c16] at H
                  have c16b0 : decide (a0_3 < (-2147483648)) = true := decide_eq_true c16
                  clear c16
                  have H' := Aside0.mk H
                  clear H
                  have hcz17_0 : w3.cell? ⟨gb131, 0, none⟩ = some (.int .i64 a0_0) := (blk_cell BK131.out 0).trans rfl
                  have hcz17_1 : w3.cell? ⟨gb131, 1, none⟩ = some (.int .i64 a0_1) := (blk_cell BK131.out 1).trans rfl
                  have hcz17_2 : w3.cell? ⟨gb131, 2, none⟩ = some (.int .i64 a0_2) := (blk_cell BK131.out 2).trans rfl
                  have hcz17_3 : w3.cell? ⟨gb131, 3, none⟩ = some (.int .i64 a0_3) := (blk_cell BK131.out 3).trans rfl
                  have hfz17_0 := blk_frozen BK131.out 0
                  have hfz17_1 := blk_frozen BK131.out 1
                  have hfz17_2 := blk_frozen BK131.out 2
                  have hfz17_3 := blk_frozen BK131.out 3
                  go_wp2
                  go_meet
                  case rel => exact ⟨_, (true), (by first | rfl | (simp; done) | (simp [*]; done)), H', ⟨by first | omega | exact Nat.le_refl _⟩, ⟨by (with_reducible repeat (first | refine blk_drewN ?_ _ | refine blk_drew ?_ | refine blk_alloc ?_ _)); exact BK131.out⟩, ⟨by repeat (first | (with_reducible first | exact HB.out | apply below_alloc | apply pw_below_drewN | apply below_drew1 | refine below_set ?_ GE131.out) | exact HB.out)⟩⟩
                · rw [if_neg c16] at H
                  have c16b0 : decide (a0_3 < (-2147483648)) = false := decide_eq_false c16
                  clear c16
                  have H' := Aside0.mk H
                  clear H
                  have hcz18_0 : w3.cell? ⟨gb131, 0, none⟩ = some (.int .i64 a0_0) := (blk_cell BK131.out 0).trans rfl
                  have hcz18_1 : w3.cell? ⟨gb131, 1, none⟩ = some (.int .i64 a0_1) := (blk_cell BK131.out 1).trans rfl
                  have hcz18_2 : w3.cell? ⟨gb131, 2, none⟩ = some (.int .i64 a0_2) := (blk_cell BK131.out 2).trans rfl
                  have hcz18_3 : w3.cell? ⟨gb131, 3, none⟩ = some (.int .i64 a0_3) := (blk_cell BK131.out 3).trans rfl
                  have hfz18_0 := blk_frozen BK131.out 0
                  have hfz18_1 := blk_frozen BK131.out 1
                  have hfz18_2 := blk_frozen BK131.out 2
                  have hfz18_3 := blk_frozen BK131.out 3
                  go_wp2
                  go_meet
                  case rel => exact ⟨_, (decide (a0_3 > 2147483647)), (by first | rfl | (simp; done) | (simp [*]; done)), H', ⟨by first | omega | exact Nat.le_refl _⟩, ⟨by (with_reducible repeat (first | refine blk_drewN ?_ _ | refine blk_drew ?_ | refine blk_alloc ?_ _)); exact BK131.out⟩, ⟨by repeat (first | (with_reducible first | exact HB.out | apply below_alloc | apply pw_below_drewN | apply below_drew1 | refine below_set ?_ GE131.out) | exact HB.out)⟩⟩
  case rest =>
    clear HC2
    try clear c1
    try clear p2
    try clear c4
    try clear c4b0
    try clear c6
    try clear c6b0
    try clear c8
    try clear c8b0
    try clear c10
    try clear c10b0
    try clear c12
    try clear c12b0
    try clear c14
    try clear c14b0
    try clear c16
    try clear c16b0
    try clear hcz11_0
    try clear hcz11_1
    try clear hcz11_2
    try clear hcz11_3
    try clear hcz13_0
    try clear hcz13_1
    try clear hcz13_2
    try clear hcz13_3
    try clear hcz15_0
    try clear hcz15_1
    try clear hcz15_2
    try clear hcz15_3
    try clear hcz17_0
    try clear hcz17_1
    try clear hcz17_2
    try clear hcz17_3
    try clear hcz18_0
    try clear hcz18_1
    try clear hcz18_2
    try clear hcz18_3
    try clear hcz5_0
    try clear hcz5_1
    try clear hcz5_2
    try clear hcz5_3
    try clear hcz7_0
    try clear hcz7_1
    try clear hcz7_2
    try clear hcz7_3
    try clear hcz9_0
    try clear hcz9_1
    try clear hcz9_2
    try clear hcz9_3
    try clear hfz11_0
    try clear hfz11_1
    try clear hfz11_2
    try clear hfz11_3
    try clear hfz13_0
    try clear hfz13_1
    try clear hfz13_2
    try clear hfz13_3
    try clear hfz15_0
    try clear hfz15_1
    try clear hfz15_2
    try clear hfz15_3
    try clear hfz17_0
    try clear hfz17_1
    try clear hfz17_2
    try clear hfz17_3
    try clear hfz18_0
    try clear hfz18_1
    try clear hfz18_2
    try clear hfz18_3
    try clear hfz5_0
    try clear hfz5_1
    try clear hfz5_2
    try clear hfz5_3
    try clear hfz7_0
    try clear hfz7_1
    try clear hfz7_2
    try clear hfz7_3
    try clear hfz9_0
    try clear hfz9_1
    try clear hfz9_2
    try clear hfz9_3
    obtain ⟨kq, x43_1, rfl, HA, HJ1, BK131, HB⟩ := hcut
    cases kq with
    | zero => exact absurd HA.out (by simp [posthorseref17_Right.j0])
    | succ kj1 =>
      have H := HA.out
      clear HA
      simp only [posthorseref17_Right.j0] at H
      by_cases c19 : x43_1 = true
      · subst c19
        have H1 : (some false) = some r := by rw [if_pos rfl] at H; exact H
        clear H
        have H := H1
        clear H1
        obtain rfl := Option.some.inj H
        go_wp2
        go_ret
        exact ⟨by first | rfl | (simp [errW_none, errW_some] <;> rfl) | (simp [*, errW_none, errW_some] <;> rfl), by repeat (first | (with_reducible first | exact HB.out | apply below_alloc | apply pw_below_drewN | apply below_drew1 | refine below_set ?_ GE131.out) | exact HB.out)⟩
      · replace c19 := Bool.eq_false_iff.mpr c19
        subst c19
        have H1 : (if a0_0 = 19 then (if a0_1 = 0 then (if a0_2 = 0 then (if a0_3 ≥ 1 then (some (decide (a0_3 ≤ 3))) else (some false)) else (some false)) else (some false)) else (if a0_0 ≥ 18 then (if a0_1 = 0 then (if a0_2 = 0 then (some (a0_3 == 0)) else (some false)) else (some false)) else (if 0 ≤ a0_0 then (if a0_0 < ((⟨#[49, 49, 49, 49, 49, 49, 49, 49, 49, 49, 49, 49, 48, 49, 49, 49, 49, 48, 48, 48, 48, 49]⟩ : ByteArray).size : Int) then (if (bt (⟨#[49, 49, 49, 49, 49, 49, 49, 49, 49, 49, 49, 49, 48, 49, 49, 49, 49, 48, 48, 48, 48, 49]⟩ : ByteArray) a0_0) = 48 then (if a0_1 = 0 then (if a0_0 < ((⟨#[48, 49, 49, 49, 48, 48, 48, 49, 49, 49, 49, 49, 48, 49, 49, 49, 49, 48, 48, 48, 48, 49]⟩ : ByteArray).size : Int) then (if (bt (⟨#[48, 49, 49, 49, 48, 48, 48, 49, 49, 49, 49, 49, 48, 49, 49, 49, 49, 48, 48, 48, 48, 49]⟩ : ByteArray) a0_0) = 48 then (if a0_2 = 0 then (if a0_0 < ((⟨#[49, 48, 48, 48, 49, 49, 49, 49, 49, 49, 49, 49, 49, 49, 49, 49, 49, 49, 48, 49, 48, 48]⟩ : ByteArray).size : Int) then (if (bt (⟨#[49, 48, 48, 48, 49, 49, 49, 49, 49, 49, 49, 49, 49, 49, 49, 49, 49, 49, 48, 49, 48, 48]⟩ : ByteArray) a0_0) = 48 then (posthorseref17_Right.j1 kj1 (a0_3 != 0) a0_0 a0_1 a0_2 a0_3) else (posthorseref17_Right.j1 kj1 false a0_0 a0_1 a0_2 a0_3)) else (none)) else (posthorseref17_Right.j1 kj1 true a0_0 a0_1 a0_2 a0_3)) else (if a0_0 < ((⟨#[49, 48, 48, 48, 49, 49, 49, 49, 49, 49, 49, 49, 49, 49, 49, 49, 49, 49, 48, 49, 48, 48]⟩ : ByteArray).size : Int) then (if (bt (⟨#[49, 48, 48, 48, 49, 49, 49, 49, 49, 49, 49, 49, 49, 49, 49, 49, 49, 49, 48, 49, 48, 48]⟩ : ByteArray) a0_0) = 48 then (posthorseref17_Right.j1 kj1 (a0_3 != 0) a0_0 a0_1 a0_2 a0_3) else (posthorseref17_Right.j1 kj1 false a0_0 a0_1 a0_2 a0_3)) else (none))) else (none)) else (posthorseref17_Right.j1 kj1 true a0_0 a0_1 a0_2 a0_3)) else (if a0_0 < ((⟨#[48, 49, 49, 49, 48, 48, 48, 49, 49, 49, 49, 49, 48, 49, 49, 49, 49, 48, 48, 48, 48, 49]⟩ : ByteArray).size : Int) then (if (bt (⟨#[48, 49, 49, 49, 48, 48, 48, 49, 49, 49, 49, 49, 48, 49, 49, 49, 49, 48, 48, 48, 48, 49]⟩ : ByteArray) a0_0) = 48 then (if a0_2 = 0 then (if a0_0 < ((⟨#[49, 48, 48, 48, 49, 49, 49, 49, 49, 49, 49, 49, 49, 49, 49, 49, 49, 49, 48, 49, 48, 48]⟩ : ByteArray).size : Int) then (if (bt (⟨#[49, 48, 48, 48, 49, 49, 49, 49, 49, 49, 49, 49, 49, 49, 49, 49, 49, 49, 48, 49, 48, 48]⟩ : ByteArray) a0_0) = 48 then (posthorseref17_Right.j1 kj1 (a0_3 != 0) a0_0 a0_1 a0_2 a0_3) else (posthorseref17_Right.j1 kj1 false a0_0 a0_1 a0_2 a0_3)) else (none)) else (posthorseref17_Right.j1 kj1 true a0_0 a0_1 a0_2 a0_3)) else (if a0_0 < ((⟨#[49, 48, 48, 48, 49, 49, 49, 49, 49, 49, 49, 49, 49, 49, 49, 49, 49, 49, 48, 49, 48, 48]⟩ : ByteArray).size : Int) then (if (bt (⟨#[49, 48, 48, 48, 49, 49, 49, 49, 49, 49, 49, 49, 49, 49, 49, 49, 49, 49, 48, 49, 48, 48]⟩ : ByteArray) a0_0) = 48 then (posthorseref17_Right.j1 kj1 (a0_3 != 0) a0_0 a0_1 a0_2 a0_3) else (posthorseref17_Right.j1 kj1 false a0_0 a0_1 a0_2 a0_3)) else (none))) else (none))) else (none)) else (none)))) = some r := by rw [if_neg (show ¬ (false = true) by decide)] at H; exact H
        clear H
        have H := H1
        clear H1
        by_cases c20 : a0_0 = 19
        · rw [if_pos c20] at H
          have c20b0 : (a0_0 == 19) = true := beq_iff_eq.mpr c20
          have c20b1 : (a0_0 != 19) = false := bne_eq_false_iff_eq.mpr c20
          clear c20
          by_cases c21 : a0_1 = 0
          · rw [if_pos c21] at H
            have c21b0 : (a0_1 == 0) = true := beq_iff_eq.mpr c21
            have c21b1 : (a0_1 != 0) = false := bne_eq_false_iff_eq.mpr c21
            clear c21
            by_cases c22 : a0_2 = 0
            · rw [if_pos c22] at H
              have c22b0 : (a0_2 == 0) = true := beq_iff_eq.mpr c22
              have c22b1 : (a0_2 != 0) = false := bne_eq_false_iff_eq.mpr c22
              clear c22
              by_cases c23 : a0_3 ≥ 1
              · rw [if_pos c23] at H
                have c23b0 : decide (1 ≤ a0_3) = true := decide_eq_true c23
                clear c23
                obtain rfl := Option.some.inj H
                have hcz24_0 : wc.cell? ⟨gb131, 0, none⟩ = some (.int .i64 a0_0) := (blk_cell BK131.out 0).trans rfl
                have hcz24_1 : wc.cell? ⟨gb131, 1, none⟩ = some (.int .i64 a0_1) := (blk_cell BK131.out 1).trans rfl
                have hcz24_2 : wc.cell? ⟨gb131, 2, none⟩ = some (.int .i64 a0_2) := (blk_cell BK131.out 2).trans rfl
                have hcz24_3 : wc.cell? ⟨gb131, 3, none⟩ = some (.int .i64 a0_3) := (blk_cell BK131.out 3).trans rfl
                have hfz24_0 := blk_frozen BK131.out 0
                have hfz24_1 := blk_frozen BK131.out 1
                have hfz24_2 := blk_frozen BK131.out 2
                have hfz24_3 := blk_frozen BK131.out 3
                go_wp2
                go_ret
                exact ⟨by first | rfl | (simp [errW_none, errW_some] <;> rfl) | (simp [*, errW_none, errW_some] <;> rfl), by repeat (first | (with_reducible first | exact HB.out | apply below_alloc | apply pw_below_drewN | apply below_drew1 | refine below_set ?_ GE131.out) | exact HB.out)⟩
              · rw [if_neg c23] at H
                have c23b0 : decide (1 ≤ a0_3) = false := decide_eq_false c23
                clear c23
                obtain rfl := Option.some.inj H
                have hcz25_0 : wc.cell? ⟨gb131, 0, none⟩ = some (.int .i64 a0_0) := (blk_cell BK131.out 0).trans rfl
                have hcz25_1 : wc.cell? ⟨gb131, 1, none⟩ = some (.int .i64 a0_1) := (blk_cell BK131.out 1).trans rfl
                have hcz25_2 : wc.cell? ⟨gb131, 2, none⟩ = some (.int .i64 a0_2) := (blk_cell BK131.out 2).trans rfl
                have hcz25_3 : wc.cell? ⟨gb131, 3, none⟩ = some (.int .i64 a0_3) := (blk_cell BK131.out 3).trans rfl
                have hfz25_0 := blk_frozen BK131.out 0
                have hfz25_1 := blk_frozen BK131.out 1
                have hfz25_2 := blk_frozen BK131.out 2
                have hfz25_3 := blk_frozen BK131.out 3
                go_wp2
                go_ret
                exact ⟨by first | rfl | (simp [errW_none, errW_some] <;> rfl) | (simp [*, errW_none, errW_some] <;> rfl), by repeat (first | (with_reducible first | exact HB.out | apply below_alloc | apply pw_below_drewN | apply below_drew1 | refine below_set ?_ GE131.out) | exact HB.out)⟩
            · rw [if_neg c22] at H
              have c22b0 : (a0_2 == 0) = false := beq_eq_false_iff_ne.mpr c22
              have c22b1 : (a0_2 != 0) = true := bne_iff_ne.mpr c22
              obtain rfl := Option.some.inj H
              have hcz26_0 : wc.cell? ⟨gb131, 0, none⟩ = some (.int .i64 a0_0) := (blk_cell BK131.out 0).trans rfl
              have hcz26_1 : wc.cell? ⟨gb131, 1, none⟩ = some (.int .i64 a0_1) := (blk_cell BK131.out 1).trans rfl
              have hcz26_2 : wc.cell? ⟨gb131, 2, none⟩ = some (.int .i64 a0_2) := (blk_cell BK131.out 2).trans rfl
              have hcz26_3 : wc.cell? ⟨gb131, 3, none⟩ = some (.int .i64 a0_3) := (blk_cell BK131.out 3).trans rfl
              have hfz26_0 := blk_frozen BK131.out 0
              have hfz26_1 := blk_frozen BK131.out 1
              have hfz26_2 := blk_frozen BK131.out 2
              have hfz26_3 := blk_frozen BK131.out 3
              go_wp2
              go_ret
              exact ⟨by first | rfl | (simp [errW_none, errW_some] <;> rfl) | (simp [*, errW_none, errW_some] <;> rfl), by repeat (first | (with_reducible first | exact HB.out | apply below_alloc | apply pw_below_drewN | apply below_drew1 | refine below_set ?_ GE131.out) | exact HB.out)⟩
          · rw [if_neg c21] at H
            have c21b0 : (a0_1 == 0) = false := beq_eq_false_iff_ne.mpr c21
            have c21b1 : (a0_1 != 0) = true := bne_iff_ne.mpr c21
            obtain rfl := Option.some.inj H
            have hcz27_0 : wc.cell? ⟨gb131, 0, none⟩ = some (.int .i64 a0_0) := (blk_cell BK131.out 0).trans rfl
            have hcz27_1 : wc.cell? ⟨gb131, 1, none⟩ = some (.int .i64 a0_1) := (blk_cell BK131.out 1).trans rfl
            have hcz27_2 : wc.cell? ⟨gb131, 2, none⟩ = some (.int .i64 a0_2) := (blk_cell BK131.out 2).trans rfl
            have hcz27_3 : wc.cell? ⟨gb131, 3, none⟩ = some (.int .i64 a0_3) := (blk_cell BK131.out 3).trans rfl
            have hfz27_0 := blk_frozen BK131.out 0
            have hfz27_1 := blk_frozen BK131.out 1
            have hfz27_2 := blk_frozen BK131.out 2
            have hfz27_3 := blk_frozen BK131.out 3
            go_wp2
            go_ret
            exact ⟨by first | rfl | (simp [errW_none, errW_some] <;> rfl) | (simp [*, errW_none, errW_some] <;> rfl), by repeat (first | (with_reducible first | exact HB.out | apply below_alloc | apply pw_below_drewN | apply below_drew1 | refine below_set ?_ GE131.out) | exact HB.out)⟩
        · rw [if_neg c20] at H
          have c20b0 : (a0_0 == 19) = false := beq_eq_false_iff_ne.mpr c20
          have c20b1 : (a0_0 != 19) = true := bne_iff_ne.mpr c20
          by_cases c28 : a0_0 ≥ 18
          · rw [if_pos c28] at H
            have c28b0 : decide (18 ≤ a0_0) = true := decide_eq_true c28
            clear c28
            by_cases c29 : a0_1 = 0
            · rw [if_pos c29] at H
              have c29b0 : (a0_1 == 0) = true := beq_iff_eq.mpr c29
              have c29b1 : (a0_1 != 0) = false := bne_eq_false_iff_eq.mpr c29
              clear c29
              by_cases c30 : a0_2 = 0
              · rw [if_pos c30] at H
                have c30b0 : (a0_2 == 0) = true := beq_iff_eq.mpr c30
                have c30b1 : (a0_2 != 0) = false := bne_eq_false_iff_eq.mpr c30
                clear c30
                obtain rfl := Option.some.inj H
                have hcz31_0 : wc.cell? ⟨gb131, 0, none⟩ = some (.int .i64 a0_0) := (blk_cell BK131.out 0).trans rfl
                have hcz31_1 : wc.cell? ⟨gb131, 1, none⟩ = some (.int .i64 a0_1) := (blk_cell BK131.out 1).trans rfl
                have hcz31_2 : wc.cell? ⟨gb131, 2, none⟩ = some (.int .i64 a0_2) := (blk_cell BK131.out 2).trans rfl
                have hcz31_3 : wc.cell? ⟨gb131, 3, none⟩ = some (.int .i64 a0_3) := (blk_cell BK131.out 3).trans rfl
                have hfz31_0 := blk_frozen BK131.out 0
                have hfz31_1 := blk_frozen BK131.out 1
                have hfz31_2 := blk_frozen BK131.out 2
                have hfz31_3 := blk_frozen BK131.out 3
                go_wp2
                go_ret
                exact ⟨by first | rfl | (simp [errW_none, errW_some] <;> rfl) | (simp [*, errW_none, errW_some] <;> rfl), by repeat (first | (with_reducible first | exact HB.out | apply below_alloc | apply pw_below_drewN | apply below_drew1 | refine below_set ?_ GE131.out) | exact HB.out)⟩
              · rw [if_neg c30] at H
                have c30b0 : (a0_2 == 0) = false := beq_eq_false_iff_ne.mpr c30
                have c30b1 : (a0_2 != 0) = true := bne_iff_ne.mpr c30
                obtain rfl := Option.some.inj H
                have hcz32_0 : wc.cell? ⟨gb131, 0, none⟩ = some (.int .i64 a0_0) := (blk_cell BK131.out 0).trans rfl
                have hcz32_1 : wc.cell? ⟨gb131, 1, none⟩ = some (.int .i64 a0_1) := (blk_cell BK131.out 1).trans rfl
                have hcz32_2 : wc.cell? ⟨gb131, 2, none⟩ = some (.int .i64 a0_2) := (blk_cell BK131.out 2).trans rfl
                have hcz32_3 : wc.cell? ⟨gb131, 3, none⟩ = some (.int .i64 a0_3) := (blk_cell BK131.out 3).trans rfl
                have hfz32_0 := blk_frozen BK131.out 0
                have hfz32_1 := blk_frozen BK131.out 1
                have hfz32_2 := blk_frozen BK131.out 2
                have hfz32_3 := blk_frozen BK131.out 3
                go_wp2
                go_ret
                exact ⟨by first | rfl | (simp [errW_none, errW_some] <;> rfl) | (simp [*, errW_none, errW_some] <;> rfl), by repeat (first | (with_reducible first | exact HB.out | apply below_alloc | apply pw_below_drewN | apply below_drew1 | refine below_set ?_ GE131.out) | exact HB.out)⟩
            · rw [if_neg c29] at H
              have c29b0 : (a0_1 == 0) = false := beq_eq_false_iff_ne.mpr c29
              have c29b1 : (a0_1 != 0) = true := bne_iff_ne.mpr c29
              obtain rfl := Option.some.inj H
              have hcz33_0 : wc.cell? ⟨gb131, 0, none⟩ = some (.int .i64 a0_0) := (blk_cell BK131.out 0).trans rfl
              have hcz33_1 : wc.cell? ⟨gb131, 1, none⟩ = some (.int .i64 a0_1) := (blk_cell BK131.out 1).trans rfl
              have hcz33_2 : wc.cell? ⟨gb131, 2, none⟩ = some (.int .i64 a0_2) := (blk_cell BK131.out 2).trans rfl
              have hcz33_3 : wc.cell? ⟨gb131, 3, none⟩ = some (.int .i64 a0_3) := (blk_cell BK131.out 3).trans rfl
              have hfz33_0 := blk_frozen BK131.out 0
              have hfz33_1 := blk_frozen BK131.out 1
              have hfz33_2 := blk_frozen BK131.out 2
              have hfz33_3 := blk_frozen BK131.out 3
              go_wp2
              go_ret
              exact ⟨by first | rfl | (simp [errW_none, errW_some] <;> rfl) | (simp [*, errW_none, errW_some] <;> rfl), by repeat (first | (with_reducible first | exact HB.out | apply below_alloc | apply pw_below_drewN | apply below_drew1 | refine below_set ?_ GE131.out) | exact HB.out)⟩
          · rw [if_neg c28] at H
            have c28b0 : decide (18 ≤ a0_0) = false := decide_eq_false c28
            clear c28
            have HC34 := Aside0.mk H
            clear H
            have hcz35_0 : wc.cell? ⟨gb131, 0, none⟩ = some (.int .i64 a0_0) := (blk_cell BK131.out 0).trans rfl
            have hcz35_1 : wc.cell? ⟨gb131, 1, none⟩ = some (.int .i64 a0_1) := (blk_cell BK131.out 1).trans rfl
            have hcz35_2 : wc.cell? ⟨gb131, 2, none⟩ = some (.int .i64 a0_2) := (blk_cell BK131.out 2).trans rfl
            have hcz35_3 : wc.cell? ⟨gb131, 3, none⟩ = some (.int .i64 a0_3) := (blk_cell BK131.out 3).trans rfl
            have hfz35_0 := blk_frozen BK131.out 0
            have hfz35_1 := blk_frozen BK131.out 1
            have hfz35_2 := blk_frozen BK131.out 2
            have hfz35_3 := blk_frozen BK131.out 3
            go_upto_region 10 with (fail)
            go_cut [114] (fun v114 wc => ∃ (kq : Nat) (x114_33 : Bool), v114 = .bool x114_33 ∧ Aside0 (posthorseref17_Right.j1 kq x114_33 a0_0 a0_1 a0_2 a0_3 = some r) ∧ Aside0 (kq ≤ kj1) ∧ Aside0 (wc.heap[gb131]? = some (.cells #[.int .i64 a0_0, .int .i64 a0_1, .int .i64 a0_2, .int .i64 a0_3] 37 (0, 0))) ∧ Aside0 (Below w.heap.size w wc))
            case first =>
              have H := HC34.out
              clear HC34
              by_cases c36 : 0 ≤ a0_0
              · rw [if_pos c36] at H
                have c36b0 : decide (0 ≤ a0_0) = true := decide_eq_true c36
                clear c36
                (first | rw [c36b0] | (simp only [i64_w, i32_w]; rw [c36b0]) | skip)
                by_cases c37 : a0_0 < ((⟨#[49, 49, 49, 49, 49, 49, 49, 49, 49, 49, 49, 49, 48, 49, 49, 49, 49, 48, 48, 48, 48, 49]⟩ : ByteArray).size : Int)
                · rw [if_pos c37] at H
                  have c37b0 : decide (a0_0 < ((⟨#[49, 49, 49, 49, 49, 49, 49, 49, 49, 49, 49, 49, 48, 49, 49, 49, 49, 48, 48, 48, 48, 49]⟩ : ByteArray).size : Int)) = true := decide_eq_true c37
                  clear c37
                  by_cases c39 : (bt (⟨#[49, 49, 49, 49, 49, 49, 49, 49, 49, 49, 49, 49, 48, 49, 49, 49, 49, 48, 48, 48, 48, 49]⟩ : ByteArray) a0_0) = 48
                  · rw [if_pos c39] at H
                    have c39b0 : ((bt (⟨#[49, 49, 49, 49, 49, 49, 49, 49, 49, 49, 49, 49, 48, 49, 49, 49, 49, 48, 48, 48, 48, 49]⟩ : ByteArray) a0_0) == 48) = true := beq_iff_eq.mpr c39
                    have c39b1 : ((bt (⟨#[49, 49, 49, 49, 49, 49, 49, 49, 49, 49, 49, 49, 48, 49, 49, 49, 49, 48, 48, 48, 48, 49]⟩ : ByteArray) a0_0) != 48) = false := bne_eq_false_iff_eq.mpr c39
                    clear c39
                    by_cases c40 : a0_1 = 0
                    · rw [if_pos c40] at H
                      have c40b0 : (a0_1 == 0) = true := beq_iff_eq.mpr c40
                      have c40b1 : (a0_1 != 0) = false := bne_eq_false_iff_eq.mpr c40
                      clear c40
                      by_cases c41 : a0_0 < ((⟨#[48, 49, 49, 49, 48, 48, 48, 49, 49, 49, 49, 49, 48, 49, 49, 49, 49, 48, 48, 48, 48, 49]⟩ : ByteArray).size : Int)
                      · rw [if_pos c41] at H
                        have c41b0 : decide (a0_0 < ((⟨#[48, 49, 49, 49, 48, 48, 48, 49, 49, 49, 49, 49, 48, 49, 49, 49, 49, 48, 48, 48, 48, 49]⟩ : ByteArray).size : Int)) = true := decide_eq_true c41
                        clear c41
                        by_cases c43 : (bt (⟨#[48, 49, 49, 49, 48, 48, 48, 49, 49, 49, 49, 49, 48, 49, 49, 49, 49, 48, 48, 48, 48, 49]⟩ : ByteArray) a0_0) = 48
                        · rw [if_pos c43] at H
                          have c43b0 : ((bt (⟨#[48, 49, 49, 49, 48, 48, 48, 49, 49, 49, 49, 49, 48, 49, 49, 49, 49, 48, 48, 48, 48, 49]⟩ : ByteArray) a0_0) == 48) = true := beq_iff_eq.mpr c43
                          have c43b1 : ((bt (⟨#[48, 49, 49, 49, 48, 48, 48, 49, 49, 49, 49, 49, 48, 49, 49, 49, 49, 48, 48, 48, 48, 49]⟩ : ByteArray) a0_0) != 48) = false := bne_eq_false_iff_eq.mpr c43
                          clear c43
                          by_cases c44 : a0_2 = 0
                          · rw [if_pos c44] at H
                            have c44b0 : (a0_2 == 0) = true := beq_iff_eq.mpr c44
                            have c44b1 : (a0_2 != 0) = false := bne_eq_false_iff_eq.mpr c44
                            clear c44
                            by_cases c45 : a0_0 < ((⟨#[49, 48, 48, 48, 49, 49, 49, 49, 49, 49, 49, 49, 49, 49, 49, 49, 49, 49, 48, 49, 48, 48]⟩ : ByteArray).size : Int)
                            · rw [if_pos c45] at H
                              have c45b0 : decide (a0_0 < ((⟨#[49, 48, 48, 48, 49, 49, 49, 49, 49, 49, 49, 49, 49, 49, 49, 49, 49, 49, 48, 49, 48, 48]⟩ : ByteArray).size : Int)) = true := decide_eq_true c45
                              clear c45
                              by_cases c47 : (bt (⟨#[49, 48, 48, 48, 49, 49, 49, 49, 49, 49, 49, 49, 49, 49, 49, 49, 49, 49, 48, 49, 48, 48]⟩ : ByteArray) a0_0) = 48
                              · rw [if_pos c47] at H
                                have c47b0 : ((bt (⟨#[49, 48, 48, 48, 49, 49, 49, 49, 49, 49, 49, 49, 49, 49, 49, 49, 49, 49, 48, 49, 48, 48]⟩ : ByteArray) a0_0) == 48) = true := beq_iff_eq.mpr c47
                                have c47b1 : ((bt (⟨#[49, 48, 48, 48, 49, 49, 49, 49, 49, 49, 49, 49, 49, 49, 49, 49, 49, 49, 48, 49, 48, 48]⟩ : ByteArray) a0_0) != 48) = false := bne_eq_false_iff_eq.mpr c47
                                clear c47
                                have H' := Aside0.mk H
                                clear H
                                have hcz48_0 : wc.cell? ⟨gb131, 0, none⟩ = some (.int .i64 a0_0) := (blk_cell BK131.out 0).trans rfl
                                have hcz48_1 : wc.cell? ⟨gb131, 1, none⟩ = some (.int .i64 a0_1) := (blk_cell BK131.out 1).trans rfl
                                have hcz48_2 : wc.cell? ⟨gb131, 2, none⟩ = some (.int .i64 a0_2) := (blk_cell BK131.out 2).trans rfl
                                have hcz48_3 : wc.cell? ⟨gb131, 3, none⟩ = some (.int .i64 a0_3) := (blk_cell BK131.out 3).trans rfl
                                have hfz48_0 := blk_frozen BK131.out 0
                                have hfz48_1 := blk_frozen BK131.out 1
                                have hfz48_2 := blk_frozen BK131.out 2
                                have hfz48_3 := blk_frozen BK131.out 3
                                have p38 : 0 ≤ (a0_0 : Int) := of_decide_eq_true (by first | (with_reducible assumption) | assumption)
                                have q38 : a0_0 < (22 : Int) := of_decide_eq_true (by first | (with_reducible assumption) | assumption)
                                have hx38 := bt_at (⟨#[49, 49, 49, 49, 49, 49, 49, 49, 49, 49, 49, 49, 48, 49, 49, 49, 49, 48, 48, 48, 48, 49]⟩ : ByteArray) a0_0
                                replace p38 := eq_true p38
                                replace q38 := eq_true q38
                                have p42 : 0 ≤ (a0_0 : Int) := of_decide_eq_true (by first | (with_reducible assumption) | assumption)
                                have q42 : a0_0 < (22 : Int) := of_decide_eq_true (by first | (with_reducible assumption) | assumption)
                                have hx42 := bt_at (⟨#[48, 49, 49, 49, 48, 48, 48, 49, 49, 49, 49, 49, 48, 49, 49, 49, 49, 48, 48, 48, 48, 49]⟩ : ByteArray) a0_0
                                replace p42 := eq_true p42
                                replace q42 := eq_true q42
                                have p46 : 0 ≤ (a0_0 : Int) := of_decide_eq_true (by first | (with_reducible assumption) | assumption)
                                have q46 : a0_0 < (22 : Int) := of_decide_eq_true (by first | (with_reducible assumption) | assumption)
                                have hx46 := bt_at (⟨#[49, 48, 48, 48, 49, 49, 49, 49, 49, 49, 49, 49, 49, 49, 49, 49, 49, 49, 48, 49, 48, 48]⟩ : ByteArray) a0_0
                                replace p46 := eq_true p46
                                replace q46 := eq_true q46
                                go_wp2
                                go_meet
                                case rel => exact ⟨_, ((a0_3 != 0)), (by first | rfl | (simp; done) | (simp [*]; done)), H', ⟨by have := HJ1.out; first | omega | exact Nat.le_refl _⟩, ⟨by (with_reducible repeat (first | refine blk_drewN ?_ _ | refine blk_drew ?_ | refine blk_alloc ?_ _)); exact BK131.out⟩, ⟨by repeat (first | (with_reducible first | exact HB.out | apply below_alloc | apply pw_below_drewN | apply below_drew1 | refine below_set ?_ GE131.out) | exact HB.out)⟩⟩
                              · rw [if_neg c47] at H
                                have c47b0 : ((bt (⟨#[49, 48, 48, 48, 49, 49, 49, 49, 49, 49, 49, 49, 49, 49, 49, 49, 49, 49, 48, 49, 48, 48]⟩ : ByteArray) a0_0) == 48) = false := beq_eq_false_iff_ne.mpr c47
                                have c47b1 : ((bt (⟨#[49, 48, 48, 48, 49, 49, 49, 49, 49, 49, 49, 49, 49, 49, 49, 49, 49, 49, 48, 49, 48, 48]⟩ : ByteArray) a0_0) != 48) = true := bne_iff_ne.mpr c47
                                have H' := Aside0.mk H
                                clear H
                                have hcz49_0 : wc.cell? ⟨gb131, 0, none⟩ = some (.int .i64 a0_0) := (blk_cell BK131.out 0).trans rfl
                                have hcz49_1 : wc.cell? ⟨gb131, 1, none⟩ = some (.int .i64 a0_1) := (blk_cell BK131.out 1).trans rfl
                                have hcz49_2 : wc.cell? ⟨gb131, 2, none⟩ = some (.int .i64 a0_2) := (blk_cell BK131.out 2).trans rfl
                                have hcz49_3 : wc.cell? ⟨gb131, 3, none⟩ = some (.int .i64 a0_3) := (blk_cell BK131.out 3).trans rfl
                                have hfz49_0 := blk_frozen BK131.out 0
                                have hfz49_1 := blk_frozen BK131.out 1
                                have hfz49_2 := blk_frozen BK131.out 2
                                have hfz49_3 := blk_frozen BK131.out 3
                                have p38 : 0 ≤ (a0_0 : Int) := of_decide_eq_true (by first | (with_reducible assumption) | assumption)
                                have q38 : a0_0 < (22 : Int) := of_decide_eq_true (by first | (with_reducible assumption) | assumption)
                                have hx38 := bt_at (⟨#[49, 49, 49, 49, 49, 49, 49, 49, 49, 49, 49, 49, 48, 49, 49, 49, 49, 48, 48, 48, 48, 49]⟩ : ByteArray) a0_0
                                replace p38 := eq_true p38
                                replace q38 := eq_true q38
                                have p42 : 0 ≤ (a0_0 : Int) := of_decide_eq_true (by first | (with_reducible assumption) | assumption)
                                have q42 : a0_0 < (22 : Int) := of_decide_eq_true (by first | (with_reducible assumption) | assumption)
                                have hx42 := bt_at (⟨#[48, 49, 49, 49, 48, 48, 48, 49, 49, 49, 49, 49, 48, 49, 49, 49, 49, 48, 48, 48, 48, 49]⟩ : ByteArray) a0_0
                                replace p42 := eq_true p42
                                replace q42 := eq_true q42
                                have p46 : 0 ≤ (a0_0 : Int) := of_decide_eq_true (by first | (with_reducible assumption) | assumption)
                                have q46 : a0_0 < (22 : Int) := of_decide_eq_true (by first | (with_reducible assumption) | assumption)
                                have hx46 := bt_at (⟨#[49, 48, 48, 48, 49, 49, 49, 49, 49, 49, 49, 49, 49, 49, 49, 49, 49, 49, 48, 49, 48, 48]⟩ : ByteArray) a0_0
                                replace p46 := eq_true p46
                                replace q46 := eq_true q46
                                go_wp2
                                go_meet
                                case rel => exact ⟨_, (false), (by first | rfl | (simp; done) | (simp [*]; done)), H', ⟨by have := HJ1.out; first | omega | exact Nat.le_refl _⟩, ⟨by (with_reducible repeat (first | refine blk_drewN ?_ _ | refine blk_drew ?_ | refine blk_alloc ?_ _)); exact BK131.out⟩, ⟨by repeat (first | (with_reducible first | exact HB.out | apply below_alloc | apply pw_below_drewN | apply below_drew1 | refine below_set ?_ GE131.out) | exact HB.out)⟩⟩
                            · rw [if_neg c45] at H
                              exact absurd H (by simp)
                          · rw [if_neg c44] at H
                            have c44b0 : (a0_2 == 0) = false := beq_eq_false_iff_ne.mpr c44
                            have c44b1 : (a0_2 != 0) = true := bne_iff_ne.mpr c44
                            have H' := Aside0.mk H
                            clear H
                            have hcz50_0 : wc.cell? ⟨gb131, 0, none⟩ = some (.int .i64 a0_0) := (blk_cell BK131.out 0).trans rfl
                            have hcz50_1 : wc.cell? ⟨gb131, 1, none⟩ = some (.int .i64 a0_1) := (blk_cell BK131.out 1).trans rfl
                            have hcz50_2 : wc.cell? ⟨gb131, 2, none⟩ = some (.int .i64 a0_2) := (blk_cell BK131.out 2).trans rfl
                            have hcz50_3 : wc.cell? ⟨gb131, 3, none⟩ = some (.int .i64 a0_3) := (blk_cell BK131.out 3).trans rfl
                            have hfz50_0 := blk_frozen BK131.out 0
                            have hfz50_1 := blk_frozen BK131.out 1
                            have hfz50_2 := blk_frozen BK131.out 2
                            have hfz50_3 := blk_frozen BK131.out 3
                            have p38 : 0 ≤ (a0_0 : Int) := of_decide_eq_true (by first | (with_reducible assumption) | assumption)
                            have q38 : a0_0 < (22 : Int) := of_decide_eq_true (by first | (with_reducible assumption) | assumption)
                            have hx38 := bt_at (⟨#[49, 49, 49, 49, 49, 49, 49, 49, 49, 49, 49, 49, 48, 49, 49, 49, 49, 48, 48, 48, 48, 49]⟩ : ByteArray) a0_0
                            replace p38 := eq_true p38
                            replace q38 := eq_true q38
                            have p42 : 0 ≤ (a0_0 : Int) := of_decide_eq_true (by first | (with_reducible assumption) | assumption)
                            have q42 : a0_0 < (22 : Int) := of_decide_eq_true (by first | (with_reducible assumption) | assumption)
                            have hx42 := bt_at (⟨#[48, 49, 49, 49, 48, 48, 48, 49, 49, 49, 49, 49, 48, 49, 49, 49, 49, 48, 48, 48, 48, 49]⟩ : ByteArray) a0_0
                            replace p42 := eq_true p42
                            replace q42 := eq_true q42
                            go_wp2
                            go_meet
                            case rel => exact ⟨_, (true), (by first | rfl | (simp; done) | (simp [*]; done)), H', ⟨by have := HJ1.out; first | omega | exact Nat.le_refl _⟩, ⟨by (with_reducible repeat (first | refine blk_drewN ?_ _ | refine blk_drew ?_ | refine blk_alloc ?_ _)); exact BK131.out⟩, ⟨by repeat (first | (with_reducible first | exact HB.out | apply below_alloc | apply pw_below_drewN | apply below_drew1 | refine below_set ?_ GE131.out) | exact HB.out)⟩⟩
                        · rw [if_neg c43] at H
                          have c43b0 : ((bt (⟨#[48, 49, 49, 49, 48, 48, 48, 49, 49, 49, 49, 49, 48, 49, 49, 49, 49, 48, 48, 48, 48, 49]⟩ : ByteArray) a0_0) == 48) = false := beq_eq_false_iff_ne.mpr c43
                          have c43b1 : ((bt (⟨#[48, 49, 49, 49, 48, 48, 48, 49, 49, 49, 49, 49, 48, 49, 49, 49, 49, 48, 48, 48, 48, 49]⟩ : ByteArray) a0_0) != 48) = true := bne_iff_ne.mpr c43
                          by_cases c51 : a0_0 < ((⟨#[49, 48, 48, 48, 49, 49, 49, 49, 49, 49, 49, 49, 49, 49, 49, 49, 49, 49, 48, 49, 48, 48]⟩ : ByteArray).size : Int)
                          · rw [if_pos c51] at H
                            have c51b0 : decide (a0_0 < ((⟨#[49, 48, 48, 48, 49, 49, 49, 49, 49, 49, 49, 49, 49, 49, 49, 49, 49, 49, 48, 49, 48, 48]⟩ : ByteArray).size : Int)) = true := decide_eq_true c51
                            clear c51
                            by_cases c53 : (bt (⟨#[49, 48, 48, 48, 49, 49, 49, 49, 49, 49, 49, 49, 49, 49, 49, 49, 49, 49, 48, 49, 48, 48]⟩ : ByteArray) a0_0) = 48
                            · rw [if_pos c53] at H
                              have c53b0 : ((bt (⟨#[49, 48, 48, 48, 49, 49, 49, 49, 49, 49, 49, 49, 49, 49, 49, 49, 49, 49, 48, 49, 48, 48]⟩ : ByteArray) a0_0) == 48) = true := beq_iff_eq.mpr c53
                              have c53b1 : ((bt (⟨#[49, 48, 48, 48, 49, 49, 49, 49, 49, 49, 49, 49, 49, 49, 49, 49, 49, 49, 48, 49, 48, 48]⟩ : ByteArray) a0_0) != 48) = false := bne_eq_false_iff_eq.mpr c53
                              clear c53
                              have H' := Aside0.mk H
                              clear H
                              have hcz54_0 : wc.cell? ⟨gb131, 0, none⟩ = some (.int .i64 a0_0) := (blk_cell BK131.out 0).trans rfl
                              have hcz54_1 : wc.cell? ⟨gb131, 1, none⟩ = some (.int .i64 a0_1) := (blk_cell BK131.out 1).trans rfl
                              have hcz54_2 : wc.cell? ⟨gb131, 2, none⟩ = some (.int .i64 a0_2) := (blk_cell BK131.out 2).trans rfl
                              have hcz54_3 : wc.cell? ⟨gb131, 3, none⟩ = some (.int .i64 a0_3) := (blk_cell BK131.out 3).trans rfl
                              have hfz54_0 := blk_frozen BK131.out 0
                              have hfz54_1 := blk_frozen BK131.out 1
                              have hfz54_2 := blk_frozen BK131.out 2
                              have hfz54_3 := blk_frozen BK131.out 3
                              have p38 : 0 ≤ (a0_0 : Int) := of_decide_eq_true (by first | (with_reducible assumption) | assumption)
                              have q38 : a0_0 < (22 : Int) := of_decide_eq_true (by first | (with_reducible assumption) | assumption)
                              have hx38 := bt_at (⟨#[49, 49, 49, 49, 49, 49, 49, 49, 49, 49, 49, 49, 48, 49, 49, 49, 49, 48, 48, 48, 48, 49]⟩ : ByteArray) a0_0
                              replace p38 := eq_true p38
                              replace q38 := eq_true q38
                              have p42 : 0 ≤ (a0_0 : Int) := of_decide_eq_true (by first | (with_reducible assumption) | assumption)
                              have q42 : a0_0 < (22 : Int) := of_decide_eq_true (by first | (with_reducible assumption) | assumption)
                              have hx42 := bt_at (⟨#[48, 49, 49, 49, 48, 48, 48, 49, 49, 49, 49, 49, 48, 49, 49, 49, 49, 48, 48, 48, 48, 49]⟩ : ByteArray) a0_0
                              replace p42 := eq_true p42
                              replace q42 := eq_true q42
                              have p52 : 0 ≤ (a0_0 : Int) := of_decide_eq_true (by first | (with_reducible assumption) | assumption)
                              have q52 : a0_0 < (22 : Int) := of_decide_eq_true (by first | (with_reducible assumption) | assumption)
                              have hx52 := bt_at (⟨#[49, 48, 48, 48, 49, 49, 49, 49, 49, 49, 49, 49, 49, 49, 49, 49, 49, 49, 48, 49, 48, 48]⟩ : ByteArray) a0_0
                              replace p52 := eq_true p52
                              replace q52 := eq_true q52
                              go_wp2
                              go_meet
                              case rel => exact ⟨_, ((a0_3 != 0)), (by first | rfl | (simp; done) | (simp [*]; done)), H', ⟨by have := HJ1.out; first | omega | exact Nat.le_refl _⟩, ⟨by (with_reducible repeat (first | refine blk_drewN ?_ _ | refine blk_drew ?_ | refine blk_alloc ?_ _)); exact BK131.out⟩, ⟨by repeat (first | (with_reducible first | exact HB.out | apply below_alloc | apply pw_below_drewN | apply below_drew1 | refine below_set ?_ GE131.out) | exact HB.out)⟩⟩
                            · rw [if_neg c53] at H
                              have c53b0 : ((bt (⟨#[49, 48, 48, 48, 49, 49, 49, 49, 49, 49, 49, 49, 49, 49, 49, 49, 49, 49, 48, 49, 48, 48]⟩ : ByteArray) a0_0) == 48) = false := beq_eq_false_iff_ne.mpr c53
                              have c53b1 : ((bt (⟨#[49, 48, 48, 48, 49, 49, 49, 49, 49, 49, 49, 49, 49, 49, 49, 49, 49, 49, 48, 49, 48, 48]⟩ : ByteArray) a0_0) != 48) = true := bne_iff_ne.mpr c53
                              have H' := Aside0.mk H
                              clear H
                              have hcz55_0 : wc.cell? ⟨gb131, 0, none⟩ = some (.int .i64 a0_0) := (blk_cell BK131.out 0).trans rfl
                              have hcz55_1 : wc.cell? ⟨gb131, 1, none⟩ = some (.int .i64 a0_1) := (blk_cell BK131.out 1).trans rfl
                              have hcz55_2 : wc.cell? ⟨gb131, 2, none⟩ = some (.int .i64 a0_2) := (blk_cell BK131.out 2).trans rfl
                              have hcz55_3 : wc.cell? ⟨gb131, 3, none⟩ = some (.int .i64 a0_3) := (blk_cell BK131.out 3).trans rfl
                              have hfz55_0 := blk_frozen BK131.out 0
                              have hfz55_1 := blk_frozen BK131.out 1
                              have hfz55_2 := blk_frozen BK131.out 2
                              have hfz55_3 := blk_frozen BK131.out 3
                              have p38 : 0 ≤ (a0_0 : Int) := of_decide_eq_true (by first | (with_reducible assumption) | assumption)
                              have q38 : a0_0 < (22 : Int) := of_decide_eq_true (by first | (with_reducible assumption) | assumption)
                              have hx38 := bt_at (⟨#[49, 49, 49, 49, 49, 49, 49, 49, 49, 49, 49, 49, 48, 49, 49, 49, 49, 48, 48, 48, 48, 49]⟩ : ByteArray) a0_0
                              replace p38 := eq_true p38
                              replace q38 := eq_true q38
                              have p42 : 0 ≤ (a0_0 : Int) := of_decide_eq_true (by first | (with_reducible assumption) | assumption)
                              have q42 : a0_0 < (22 : Int) := of_decide_eq_true (by first | (with_reducible assumption) | assumption)
                              have hx42 := bt_at (⟨#[48, 49, 49, 49, 48, 48, 48, 49, 49, 49, 49, 49, 48, 49, 49, 49, 49, 48, 48, 48, 48, 49]⟩ : ByteArray) a0_0
                              replace p42 := eq_true p42
                              replace q42 := eq_true q42
                              have p52 : 0 ≤ (a0_0 : Int) := of_decide_eq_true (by first | (with_reducible assumption) | assumption)
                              have q52 : a0_0 < (22 : Int) := of_decide_eq_true (by first | (with_reducible assumption) | assumption)
                              have hx52 := bt_at (⟨#[49, 48, 48, 48, 49, 49, 49, 49, 49, 49, 49, 49, 49, 49, 49, 49, 49, 49, 48, 49, 48, 48]⟩ : ByteArray) a0_0
                              replace p52 := eq_true p52
                              replace q52 := eq_true q52
                              go_wp2
                              go_meet
                              case rel => exact ⟨_, (false), (by first | rfl | (simp; done) | (simp [*]; done)), H', ⟨by have := HJ1.out; first | omega | exact Nat.le_refl _⟩, ⟨by (with_reducible repeat (first | refine blk_drewN ?_ _ | refine blk_drew ?_ | refine blk_alloc ?_ _)); exact BK131.out⟩, ⟨by repeat (first | (with_reducible first | exact HB.out | apply below_alloc | apply pw_below_drewN | apply below_drew1 | refine below_set ?_ GE131.out) | exact HB.out)⟩⟩
                          · rw [if_neg c51] at H
                            exact absurd H (by simp)
                      · rw [if_neg c41] at H
                        exact absurd H (by simp)
                    · rw [if_neg c40] at H
                      have c40b0 : (a0_1 == 0) = false := beq_eq_false_iff_ne.mpr c40
                      have c40b1 : (a0_1 != 0) = true := bne_iff_ne.mpr c40
                      have H' := Aside0.mk H
                      clear H
                      have hcz56_0 : wc.cell? ⟨gb131, 0, none⟩ = some (.int .i64 a0_0) := (blk_cell BK131.out 0).trans rfl
                      have hcz56_1 : wc.cell? ⟨gb131, 1, none⟩ = some (.int .i64 a0_1) := (blk_cell BK131.out 1).trans rfl
                      have hcz56_2 : wc.cell? ⟨gb131, 2, none⟩ = some (.int .i64 a0_2) := (blk_cell BK131.out 2).trans rfl
                      have hcz56_3 : wc.cell? ⟨gb131, 3, none⟩ = some (.int .i64 a0_3) := (blk_cell BK131.out 3).trans rfl
                      have hfz56_0 := blk_frozen BK131.out 0
                      have hfz56_1 := blk_frozen BK131.out 1
                      have hfz56_2 := blk_frozen BK131.out 2
                      have hfz56_3 := blk_frozen BK131.out 3
                      have p38 : 0 ≤ (a0_0 : Int) := of_decide_eq_true (by first | (with_reducible assumption) | assumption)
                      have q38 : a0_0 < (22 : Int) := of_decide_eq_true (by first | (with_reducible assumption) | assumption)
                      have hx38 := bt_at (⟨#[49, 49, 49, 49, 49, 49, 49, 49, 49, 49, 49, 49, 48, 49, 49, 49, 49, 48, 48, 48, 48, 49]⟩ : ByteArray) a0_0
                      replace p38 := eq_true p38
                      replace q38 := eq_true q38
                      go_wp2
                      go_meet
                      case rel => exact ⟨_, (true), (by first | rfl | (simp; done) | (simp [*]; done)), H', ⟨by have := HJ1.out; first | omega | exact Nat.le_refl _⟩, ⟨by (with_reducible repeat (first | refine blk_drewN ?_ _ | refine blk_drew ?_ | refine blk_alloc ?_ _)); exact BK131.out⟩, ⟨by repeat (first | (with_reducible first | exact HB.out | apply below_alloc | apply pw_below_drewN | apply below_drew1 | refine below_set ?_ GE131.out) | exact HB.out)⟩⟩
                  · rw [if_neg c39] at H
                    have c39b0 : ((bt (⟨#[49, 49, 49, 49, 49, 49, 49, 49, 49, 49, 49, 49, 48, 49, 49, 49, 49, 48, 48, 48, 48, 49]⟩ : ByteArray) a0_0) == 48) = false := beq_eq_false_iff_ne.mpr c39
                    have c39b1 : ((bt (⟨#[49, 49, 49, 49, 49, 49, 49, 49, 49, 49, 49, 49, 48, 49, 49, 49, 49, 48, 48, 48, 48, 49]⟩ : ByteArray) a0_0) != 48) = true := bne_iff_ne.mpr c39
                    by_cases c57 : a0_0 < ((⟨#[48, 49, 49, 49, 48, 48, 48, 49, 49, 49, 49, 49, 48, 49, 49, 49, 49, 48, 48, 48, 48, 49]⟩ : ByteArray).size : Int)
                    · rw [if_pos c57] at H
                      have c57b0 : decide (a0_0 < ((⟨#[48, 49, 49, 49, 48, 48, 48, 49, 49, 49, 49, 49, 48, 49, 49, 49, 49, 48, 48, 48, 48, 49]⟩ : ByteArray).size : Int)) = true := decide_eq_true c57
                      clear c57
                      by_cases c59 : (bt (⟨#[48, 49, 49, 49, 48, 48, 48, 49, 49, 49, 49, 49, 48, 49, 49, 49, 49, 48, 48, 48, 48, 49]⟩ : ByteArray) a0_0) = 48
                      · rw [if_pos c59] at H
                        have c59b0 : ((bt (⟨#[48, 49, 49, 49, 48, 48, 48, 49, 49, 49, 49, 49, 48, 49, 49, 49, 49, 48, 48, 48, 48, 49]⟩ : ByteArray) a0_0) == 48) = true := beq_iff_eq.mpr c59
                        have c59b1 : ((bt (⟨#[48, 49, 49, 49, 48, 48, 48, 49, 49, 49, 49, 49, 48, 49, 49, 49, 49, 48, 48, 48, 48, 49]⟩ : ByteArray) a0_0) != 48) = false := bne_eq_false_iff_eq.mpr c59
                        clear c59
                        by_cases c60 : a0_2 = 0
                        · rw [if_pos c60] at H
                          have c60b0 : (a0_2 == 0) = true := beq_iff_eq.mpr c60
                          have c60b1 : (a0_2 != 0) = false := bne_eq_false_iff_eq.mpr c60
                          clear c60
                          by_cases c61 : a0_0 < ((⟨#[49, 48, 48, 48, 49, 49, 49, 49, 49, 49, 49, 49, 49, 49, 49, 49, 49, 49, 48, 49, 48, 48]⟩ : ByteArray).size : Int)
                          · rw [if_pos c61] at H
                            have c61b0 : decide (a0_0 < ((⟨#[49, 48, 48, 48, 49, 49, 49, 49, 49, 49, 49, 49, 49, 49, 49, 49, 49, 49, 48, 49, 48, 48]⟩ : ByteArray).size : Int)) = true := decide_eq_true c61
                            clear c61
                            by_cases c63 : (bt (⟨#[49, 48, 48, 48, 49, 49, 49, 49, 49, 49, 49, 49, 49, 49, 49, 49, 49, 49, 48, 49, 48, 48]⟩ : ByteArray) a0_0) = 48
                            · rw [if_pos c63] at H
                              have c63b0 : ((bt (⟨#[49, 48, 48, 48, 49, 49, 49, 49, 49, 49, 49, 49, 49, 49, 49, 49, 49, 49, 48, 49, 48, 48]⟩ : ByteArray) a0_0) == 48) = true := beq_iff_eq.mpr c63
                              have c63b1 : ((bt (⟨#[49, 48, 48, 48, 49, 49, 49, 49, 49, 49, 49, 49, 49, 49, 49, 49, 49, 49, 48, 49, 48, 48]⟩ : ByteArray) a0_0) != 48) = false := bne_eq_false_iff_eq.mpr c63
                              clear c63
                              have H' := Aside0.mk H
                              clear H
                              have hcz64_0 : wc.cell? ⟨gb131, 0, none⟩ = some (.int .i64 a0_0) := (blk_cell BK131.out 0).trans rfl
                              have hcz64_1 : wc.cell? ⟨gb131, 1, none⟩ = some (.int .i64 a0_1) := (blk_cell BK131.out 1).trans rfl
                              have hcz64_2 : wc.cell? ⟨gb131, 2, none⟩ = some (.int .i64 a0_2) := (blk_cell BK131.out 2).trans rfl
                              have hcz64_3 : wc.cell? ⟨gb131, 3, none⟩ = some (.int .i64 a0_3) := (blk_cell BK131.out 3).trans rfl
                              have hfz64_0 := blk_frozen BK131.out 0
                              have hfz64_1 := blk_frozen BK131.out 1
                              have hfz64_2 := blk_frozen BK131.out 2
                              have hfz64_3 := blk_frozen BK131.out 3
                              have p38 : 0 ≤ (a0_0 : Int) := of_decide_eq_true (by first | (with_reducible assumption) | assumption)
                              have q38 : a0_0 < (22 : Int) := of_decide_eq_true (by first | (with_reducible assumption) | assumption)
                              have hx38 := bt_at (⟨#[49, 49, 49, 49, 49, 49, 49, 49, 49, 49, 49, 49, 48, 49, 49, 49, 49, 48, 48, 48, 48, 49]⟩ : ByteArray) a0_0
                              replace p38 := eq_true p38
                              replace q38 := eq_true q38
                              have p58 : 0 ≤ (a0_0 : Int) := of_decide_eq_true (by first | (with_reducible assumption) | assumption)
                              have q58 : a0_0 < (22 : Int) := of_decide_eq_true (by first | (with_reducible assumption) | assumption)
                              have hx58 := bt_at (⟨#[48, 49, 49, 49, 48, 48, 48, 49, 49, 49, 49, 49, 48, 49, 49, 49, 49, 48, 48, 48, 48, 49]⟩ : ByteArray) a0_0
                              replace p58 := eq_true p58
                              replace q58 := eq_true q58
                              have p62 : 0 ≤ (a0_0 : Int) := of_decide_eq_true (by first | (with_reducible assumption) | assumption)
                              have q62 : a0_0 < (22 : Int) := of_decide_eq_true (by first | (with_reducible assumption) | assumption)
                              have hx62 := bt_at (⟨#[49, 48, 48, 48, 49, 49, 49, 49, 49, 49, 49, 49, 49, 49, 49, 49, 49, 49, 48, 49, 48, 48]⟩ : ByteArray) a0_0
                              replace p62 := eq_true p62
                              replace q62 := eq_true q62
                              go_wp2
                              go_meet
                              case rel => exact ⟨_, ((a0_3 != 0)), (by first | rfl | (simp; done) | (simp [*]; done)), H', ⟨by have := HJ1.out; first | omega | exact Nat.le_refl _⟩, ⟨by (with_reducible repeat (first | refine blk_drewN ?_ _ | refine blk_drew ?_ | refine blk_alloc ?_ _)); exact BK131.out⟩, ⟨by repeat (first | (with_reducible first | exact HB.out | apply below_alloc | apply pw_below_drewN | apply below_drew1 | refine below_set ?_ GE131.out) | exact HB.out)⟩⟩
                            · rw [if_neg c63] at H
                              have c63b0 : ((bt (⟨#[49, 48, 48, 48, 49, 49, 49, 49, 49, 49, 49, 49, 49, 49, 49, 49, 49, 49, 48, 49, 48, 48]⟩ : ByteArray) a0_0) == 48) = false := beq_eq_false_iff_ne.mpr c63
                              have c63b1 : ((bt (⟨#[49, 48, 48, 48, 49, 49, 49, 49, 49, 49, 49, 49, 49, 49, 49, 49, 49, 49, 48, 49, 48, 48]⟩ : ByteArray) a0_0) != 48) = true := bne_iff_ne.mpr c63
                              have H' := Aside0.mk H
                              clear H
                              have hcz65_0 : wc.cell? ⟨gb131, 0, none⟩ = some (.int .i64 a0_0) := (blk_cell BK131.out 0).trans rfl
                              have hcz65_1 : wc.cell? ⟨gb131, 1, none⟩ = some (.int .i64 a0_1) := (blk_cell BK131.out 1).trans rfl
                              have hcz65_2 : wc.cell? ⟨gb131, 2, none⟩ = some (.int .i64 a0_2) := (blk_cell BK131.out 2).trans rfl
                              have hcz65_3 : wc.cell? ⟨gb131, 3, none⟩ = some (.int .i64 a0_3) := (blk_cell BK131.out 3).trans rfl
                              have hfz65_0 := blk_frozen BK131.out 0
                              have hfz65_1 := blk_frozen BK131.out 1
                              have hfz65_2 := blk_frozen BK131.out 2
                              have hfz65_3 := blk_frozen BK131.out 3
                              have p38 : 0 ≤ (a0_0 : Int) := of_decide_eq_true (by first | (with_reducible assumption) | assumption)
                              have q38 : a0_0 < (22 : Int) := of_decide_eq_true (by first | (with_reducible assumption) | assumption)
                              have hx38 := bt_at (⟨#[49, 49, 49, 49, 49, 49, 49, 49, 49, 49, 49, 49, 48, 49, 49, 49, 49, 48, 48, 48, 48, 49]⟩ : ByteArray) a0_0
                              replace p38 := eq_true p38
                              replace q38 := eq_true q38
                              have p58 : 0 ≤ (a0_0 : Int) := of_decide_eq_true (by first | (with_reducible assumption) | assumption)
                              have q58 : a0_0 < (22 : Int) := of_decide_eq_true (by first | (with_reducible assumption) | assumption)
                              have hx58 := bt_at (⟨#[48, 49, 49, 49, 48, 48, 48, 49, 49, 49, 49, 49, 48, 49, 49, 49, 49, 48, 48, 48, 48, 49]⟩ : ByteArray) a0_0
                              replace p58 := eq_true p58
                              replace q58 := eq_true q58
                              have p62 : 0 ≤ (a0_0 : Int) := of_decide_eq_true (by first | (with_reducible assumption) | assumption)
                              have q62 : a0_0 < (22 : Int) := of_decide_eq_true (by first | (with_reducible assumption) | assumption)
                              have hx62 := bt_at (⟨#[49, 48, 48, 48, 49, 49, 49, 49, 49, 49, 49, 49, 49, 49, 49, 49, 49, 49, 48, 49, 48, 48]⟩ : ByteArray) a0_0
                              replace p62 := eq_true p62
                              replace q62 := eq_true q62
                              go_wp2
                              go_meet
                              case rel => exact ⟨_, (false), (by first | rfl | (simp; done) | (simp [*]; done)), H', ⟨by have := HJ1.out; first | omega | exact Nat.le_refl _⟩, ⟨by (with_reducible repeat (first | refine blk_drewN ?_ _ | refine blk_drew ?_ | refine blk_alloc ?_ _)); exact BK131.out⟩, ⟨by repeat (first | (with_reducible first | exact HB.out | apply below_alloc | apply pw_below_drewN | apply below_drew1 | refine below_set ?_ GE131.out) | exact HB.out)⟩⟩
                          · rw [if_neg c61] at H
                            exact absurd H (by simp)
                        · rw [if_neg c60] at H
                          have c60b0 : (a0_2 == 0) = false := beq_eq_false_iff_ne.mpr c60
                          have c60b1 : (a0_2 != 0) = true := bne_iff_ne.mpr c60
                          have H' := Aside0.mk H
                          clear H
                          have hcz66_0 : wc.cell? ⟨gb131, 0, none⟩ = some (.int .i64 a0_0) := (blk_cell BK131.out 0).trans rfl
                          have hcz66_1 : wc.cell? ⟨gb131, 1, none⟩ = some (.int .i64 a0_1) := (blk_cell BK131.out 1).trans rfl
                          have hcz66_2 : wc.cell? ⟨gb131, 2, none⟩ = some (.int .i64 a0_2) := (blk_cell BK131.out 2).trans rfl
                          have hcz66_3 : wc.cell? ⟨gb131, 3, none⟩ = some (.int .i64 a0_3) := (blk_cell BK131.out 3).trans rfl
                          have hfz66_0 := blk_frozen BK131.out 0
                          have hfz66_1 := blk_frozen BK131.out 1
                          have hfz66_2 := blk_frozen BK131.out 2
                          have hfz66_3 := blk_frozen BK131.out 3
                          have p38 : 0 ≤ (a0_0 : Int) := of_decide_eq_true (by first | (with_reducible assumption) | assumption)
                          have q38 : a0_0 < (22 : Int) := of_decide_eq_true (by first | (with_reducible assumption) | assumption)
                          have hx38 := bt_at (⟨#[49, 49, 49, 49, 49, 49, 49, 49, 49, 49, 49, 49, 48, 49, 49, 49, 49, 48, 48, 48, 48, 49]⟩ : ByteArray) a0_0
                          replace p38 := eq_true p38
                          replace q38 := eq_true q38
                          have p58 : 0 ≤ (a0_0 : Int) := of_decide_eq_true (by first | (with_reducible assumption) | assumption)
                          have q58 : a0_0 < (22 : Int) := of_decide_eq_true (by first | (with_reducible assumption) | assumption)
                          have hx58 := bt_at (⟨#[48, 49, 49, 49, 48, 48, 48, 49, 49, 49, 49, 49, 48, 49, 49, 49, 49, 48, 48, 48, 48, 49]⟩ : ByteArray) a0_0
                          replace p58 := eq_true p58
                          replace q58 := eq_true q58
                          go_wp2
                          go_meet
                          case rel => exact ⟨_, (true), (by first | rfl | (simp; done) | (simp [*]; done)), H', ⟨by have := HJ1.out; first | omega | exact Nat.le_refl _⟩, ⟨by (with_reducible repeat (first | refine blk_drewN ?_ _ | refine blk_drew ?_ | refine blk_alloc ?_ _)); exact BK131.out⟩, ⟨by repeat (first | (with_reducible first | exact HB.out | apply below_alloc | apply pw_below_drewN | apply below_drew1 | refine below_set ?_ GE131.out) | exact HB.out)⟩⟩
                      · rw [if_neg c59] at H
                        have c59b0 : ((bt (⟨#[48, 49, 49, 49, 48, 48, 48, 49, 49, 49, 49, 49, 48, 49, 49, 49, 49, 48, 48, 48, 48, 49]⟩ : ByteArray) a0_0) == 48) = false := beq_eq_false_iff_ne.mpr c59
                        have c59b1 : ((bt (⟨#[48, 49, 49, 49, 48, 48, 48, 49, 49, 49, 49, 49, 48, 49, 49, 49, 49, 48, 48, 48, 48, 49]⟩ : ByteArray) a0_0) != 48) = true := bne_iff_ne.mpr c59
                        by_cases c67 : a0_0 < ((⟨#[49, 48, 48, 48, 49, 49, 49, 49, 49, 49, 49, 49, 49, 49, 49, 49, 49, 49, 48, 49, 48, 48]⟩ : ByteArray).size : Int)
                        · rw [if_pos c67] at H
                          have c67b0 : decide (a0_0 < ((⟨#[49, 48, 48, 48, 49, 49, 49, 49, 49, 49, 49, 49, 49, 49, 49, 49, 49, 49, 48, 49, 48, 48]⟩ : ByteArray).size : Int)) = true := decide_eq_true c67
                          clear c67
                          by_cases c69 : (bt (⟨#[49, 48, 48, 48, 49, 49, 49, 49, 49, 49, 49, 49, 49, 49, 49, 49, 49, 49, 48, 49, 48, 48]⟩ : ByteArray) a0_0) = 48
                          · rw [if_pos c69] at H
                            have c69b0 : ((bt (⟨#[49, 48, 48, 48, 49, 49, 49, 49, 49, 49, 49, 49, 49, 49, 49, 49, 49, 49, 48, 49, 48, 48]⟩ : ByteArray) a0_0) == 48) = true := beq_iff_eq.mpr c69
                            have c69b1 : ((bt (⟨#[49, 48, 48, 48, 49, 49, 49, 49, 49, 49, 49, 49, 49, 49, 49, 49, 49, 49, 48, 49, 48, 48]⟩ : ByteArray) a0_0) != 48) = false := bne_eq_false_iff_eq.mpr c69
                            clear c69
                            have H' := Aside0.mk H
                            clear H
                            have hcz70_0 : wc.cell? ⟨gb131, 0, none⟩ = some (.int .i64 a0_0) := (blk_cell BK131.out 0).trans rfl
                            have hcz70_1 : wc.cell? ⟨gb131, 1, none⟩ = some (.int .i64 a0_1) := (blk_cell BK131.out 1).trans rfl
                            have hcz70_2 : wc.cell? ⟨gb131, 2, none⟩ = some (.int .i64 a0_2) := (blk_cell BK131.out 2).trans rfl
                            have hcz70_3 : wc.cell? ⟨gb131, 3, none⟩ = some (.int .i64 a0_3) := (blk_cell BK131.out 3).trans rfl
                            have hfz70_0 := blk_frozen BK131.out 0
                            have hfz70_1 := blk_frozen BK131.out 1
                            have hfz70_2 := blk_frozen BK131.out 2
                            have hfz70_3 := blk_frozen BK131.out 3
                            have p38 : 0 ≤ (a0_0 : Int) := of_decide_eq_true (by first | (with_reducible assumption) | assumption)
                            have q38 : a0_0 < (22 : Int) := of_decide_eq_true (by first | (with_reducible assumption) | assumption)
                            have hx38 := bt_at (⟨#[49, 49, 49, 49, 49, 49, 49, 49, 49, 49, 49, 49, 48, 49, 49, 49, 49, 48, 48, 48, 48, 49]⟩ : ByteArray) a0_0
                            replace p38 := eq_true p38
                            replace q38 := eq_true q38
                            have p58 : 0 ≤ (a0_0 : Int) := of_decide_eq_true (by first | (with_reducible assumption) | assumption)
                            have q58 : a0_0 < (22 : Int) := of_decide_eq_true (by first | (with_reducible assumption) | assumption)
                            have hx58 := bt_at (⟨#[48, 49, 49, 49, 48, 48, 48, 49, 49, 49, 49, 49, 48, 49, 49, 49, 49, 48, 48, 48, 48, 49]⟩ : ByteArray) a0_0
                            replace p58 := eq_true p58
                            replace q58 := eq_true q58
                            have p68 : 0 ≤ (a0_0 : Int) := of_decide_eq_true (by first | (with_reducible assumption) | assumption)
                            have q68 : a0_0 < (22 : Int) := of_decide_eq_true (by first | (with_reducible assumption) | assumption)
                            have hx68 := bt_at (⟨#[49, 48, 48, 48, 49, 49, 49, 49, 49, 49, 49, 49, 49, 49, 49, 49, 49, 49, 48, 49, 48, 48]⟩ : ByteArray) a0_0
                            replace p68 := eq_true p68
                            replace q68 := eq_true q68
                            go_wp2
                            go_meet
                            case rel => exact ⟨_, ((a0_3 != 0)), (by first | rfl | (simp; done) | (simp [*]; done)), H', ⟨by have := HJ1.out; first | omega | exact Nat.le_refl _⟩, ⟨by (with_reducible repeat (first | refine blk_drewN ?_ _ | refine blk_drew ?_ | refine blk_alloc ?_ _)); exact BK131.out⟩, ⟨by repeat (first | (with_reducible first | exact HB.out | apply below_alloc | apply pw_below_drewN | apply below_drew1 | refine below_set ?_ GE131.out) | exact HB.out)⟩⟩
                          · rw [if_neg c69] at H
                            have c69b0 : ((bt (⟨#[49, 48, 48, 48, 49, 49, 49, 49, 49, 49, 49, 49, 49, 49, 49, 49, 49, 49, 48, 49, 48, 48]⟩ : ByteArray) a0_0) == 48) = false := beq_eq_false_iff_ne.mpr c69
                            have c69b1 : ((bt (⟨#[49, 48, 48, 48, 49, 49, 49, 49, 49, 49, 49, 49, 49, 49, 49, 49, 49, 49, 48, 49, 48, 48]⟩ : ByteArray) a0_0) != 48) = true := bne_iff_ne.mpr c69
                            have H' := Aside0.mk H
                            clear H
                            have hcz71_0 : wc.cell? ⟨gb131, 0, none⟩ = some (.int .i64 a0_0) := (blk_cell BK131.out 0).trans rfl
                            have hcz71_1 : wc.cell? ⟨gb131, 1, none⟩ = some (.int .i64 a0_1) := (blk_cell BK131.out 1).trans rfl
                            have hcz71_2 : wc.cell? ⟨gb131, 2, none⟩ = some (.int .i64 a0_2) := (blk_cell BK131.out 2).trans rfl
                            have hcz71_3 : wc.cell? ⟨gb131, 3, none⟩ = some (.int .i64 a0_3) := (blk_cell BK131.out 3).trans rfl
                            have hfz71_0 := blk_frozen BK131.out 0
                            have hfz71_1 := blk_frozen BK131.out 1
                            have hfz71_2 := blk_frozen BK131.out 2
                            have hfz71_3 := blk_frozen BK131.out 3
                            have p38 : 0 ≤ (a0_0 : Int) := of_decide_eq_true (by first | (with_reducible assumption) | assumption)
                            have q38 : a0_0 < (22 : Int) := of_decide_eq_true (by first | (with_reducible assumption) | assumption)
                            have hx38 := bt_at (⟨#[49, 49, 49, 49, 49, 49, 49, 49, 49, 49, 49, 49, 48, 49, 49, 49, 49, 48, 48, 48, 48, 49]⟩ : ByteArray) a0_0
                            replace p38 := eq_true p38
                            replace q38 := eq_true q38
                            have p58 : 0 ≤ (a0_0 : Int) := of_decide_eq_true (by first | (with_reducible assumption) | assumption)
                            have q58 : a0_0 < (22 : Int) := of_decide_eq_true (by first | (with_reducible assumption) | assumption)
                            have hx58 := bt_at (⟨#[48, 49, 49, 49, 48, 48, 48, 49, 49, 49, 49, 49, 48, 49, 49, 49, 49, 48, 48, 48, 48, 49]⟩ : ByteArray) a0_0
                            replace p58 := eq_true p58
                            replace q58 := eq_true q58
                            have p68 : 0 ≤ (a0_0 : Int) := of_decide_eq_true (by first | (with_reducible assumption) | assumption)
                            have q68 : a0_0 < (22 : Int) := of_decide_eq_true (by first | (with_reducible assumption) | assumption)
                            have hx68 := bt_at (⟨#[49, 48, 48, 48, 49, 49, 49, 49, 49, 49, 49, 49, 49, 49, 49, 49, 49, 49, 48, 49, 48, 48]⟩ : ByteArray) a0_0
                            replace p68 := eq_true p68
                            replace q68 := eq_true q68
                            go_wp2
                            go_meet
                            case rel => exact ⟨_, (false), (by first | rfl | (simp; done) | (simp [*]; done)), H', ⟨by have := HJ1.out; first | omega | exact Nat.le_refl _⟩, ⟨by (with_reducible repeat (first | refine blk_drewN ?_ _ | refine blk_drew ?_ | refine blk_alloc ?_ _)); exact BK131.out⟩, ⟨by repeat (first | (with_reducible first | exact HB.out | apply below_alloc | apply pw_below_drewN | apply below_drew1 | refine below_set ?_ GE131.out) | exact HB.out)⟩⟩
                        · rw [if_neg c67] at H
                          exact absurd H (by simp)
                    · rw [if_neg c57] at H
                      exact absurd H (by simp)
                · rw [if_neg c37] at H
                  exact absurd H (by simp)
              · rw [if_neg c36] at H
                exact absurd H (by simp)
            case rest =>
              clear HC34
              try clear c1
              try clear c2
              try clear p2
              try clear c3
              try clear p3
              try clear q3
              try clear hx3
              try clear c4
              try clear p4
              try clear q4
              try clear hx4
              try clear c5
              try clear p5
              try clear q5
              try clear hx5
              try clear c6
              try clear p6
              try clear q6
              try clear hx6
              try clear c19
              try clear c20
              try clear c20b0
              try clear c20b1
              try clear c21
              try clear c21b0
              try clear c21b1
              try clear c22
              try clear c22b0
              try clear c22b1
              try clear c23
              try clear c23b0
              try clear c28
              try clear c28b0
              try clear c29
              try clear c29b0
              try clear c29b1
              try clear c30
              try clear c30b0
              try clear c30b1
              try clear c36
              try clear c36b0
              try clear c37
              try clear c37b0
              try clear p38
              try clear q38
              try clear hx38
              try clear c39
              try clear c39b0
              try clear c39b1
              try clear c40
              try clear c40b0
              try clear c40b1
              try clear c41
              try clear c41b0
              try clear p42
              try clear q42
              try clear hx42
              try clear c43
              try clear c43b0
              try clear c43b1
              try clear c44
              try clear c44b0
              try clear c44b1
              try clear c45
              try clear c45b0
              try clear p46
              try clear q46
              try clear hx46
              try clear c47
              try clear c47b0
              try clear c47b1
              try clear c51
              try clear c51b0
              try clear p52
              try clear q52
              try clear hx52
              try clear c53
              try clear c53b0
              try clear c53b1
              try clear c57
              try clear c57b0
              try clear p58
              try clear q58
              try clear hx58
              try clear c59
              try clear c59b0
              try clear c59b1
              try clear c60
              try clear c60b0
              try clear c60b1
              try clear c61
              try clear c61b0
              try clear p62
              try clear q62
              try clear hx62
              try clear c63
              try clear c63b0
              try clear c63b1
              try clear c67
              try clear c67b0
              try clear p68
              try clear q68
              try clear hx68
              try clear c69
              try clear c69b0
              try clear c69b1
              try clear hcz24_0
              try clear hcz24_1
              try clear hcz24_2
              try clear hcz24_3
              try clear hcz25_0
              try clear hcz25_1
              try clear hcz25_2
              try clear hcz25_3
              try clear hcz26_0
              try clear hcz26_1
              try clear hcz26_2
              try clear hcz26_3
              try clear hcz27_0
              try clear hcz27_1
              try clear hcz27_2
              try clear hcz27_3
              try clear hcz31_0
              try clear hcz31_1
              try clear hcz31_2
              try clear hcz31_3
              try clear hcz32_0
              try clear hcz32_1
              try clear hcz32_2
              try clear hcz32_3
              try clear hcz33_0
              try clear hcz33_1
              try clear hcz33_2
              try clear hcz33_3
              try clear hcz35_0
              try clear hcz35_1
              try clear hcz35_2
              try clear hcz35_3
              try clear hcz48_0
              try clear hcz48_1
              try clear hcz48_2
              try clear hcz48_3
              try clear hcz49_0
              try clear hcz49_1
              try clear hcz49_2
              try clear hcz49_3
              try clear hcz50_0
              try clear hcz50_1
              try clear hcz50_2
              try clear hcz50_3
              try clear hcz54_0
              try clear hcz54_1
              try clear hcz54_2
              try clear hcz54_3
              try clear hcz55_0
              try clear hcz55_1
              try clear hcz55_2
              try clear hcz55_3
              try clear hcz56_0
              try clear hcz56_1
              try clear hcz56_2
              try clear hcz56_3
              try clear hcz64_0
              try clear hcz64_1
              try clear hcz64_2
              try clear hcz64_3
              try clear hcz65_0
              try clear hcz65_1
              try clear hcz65_2
              try clear hcz65_3
              try clear hcz66_0
              try clear hcz66_1
              try clear hcz66_2
              try clear hcz66_3
              try clear hcz70_0
              try clear hcz70_1
              try clear hcz70_2
              try clear hcz70_3
              try clear hcz71_0
              try clear hcz71_1
              try clear hcz71_2
              try clear hcz71_3
              try clear hfz24_0
              try clear hfz24_1
              try clear hfz24_2
              try clear hfz24_3
              try clear hfz25_0
              try clear hfz25_1
              try clear hfz25_2
              try clear hfz25_3
              try clear hfz26_0
              try clear hfz26_1
              try clear hfz26_2
              try clear hfz26_3
              try clear hfz27_0
              try clear hfz27_1
              try clear hfz27_2
              try clear hfz27_3
              try clear hfz31_0
              try clear hfz31_1
              try clear hfz31_2
              try clear hfz31_3
              try clear hfz32_0
              try clear hfz32_1
              try clear hfz32_2
              try clear hfz32_3
              try clear hfz33_0
              try clear hfz33_1
              try clear hfz33_2
              try clear hfz33_3
              try clear hfz35_0
              try clear hfz35_1
              try clear hfz35_2
              try clear hfz35_3
              try clear hfz48_0
              try clear hfz48_1
              try clear hfz48_2
              try clear hfz48_3
              try clear hfz49_0
              try clear hfz49_1
              try clear hfz49_2
              try clear hfz49_3
              try clear hfz50_0
              try clear hfz50_1
              try clear hfz50_2
              try clear hfz50_3
              try clear hfz54_0
              try clear hfz54_1
              try clear hfz54_2
              try clear hfz54_3
              try clear hfz55_0
              try clear hfz55_1
              try clear hfz55_2
              try clear hfz55_3
              try clear hfz56_0
              try clear hfz56_1
              try clear hfz56_2
              try clear hfz56_3
              try clear hfz64_0
              try clear hfz64_1
              try clear hfz64_2
              try clear hfz64_3
              try clear hfz65_0
              try clear hfz65_1
              try clear hfz65_2
              try clear hfz65_3
              try clear hfz66_0
              try clear hfz66_1
              try clear hfz66_2
              try clear hfz66_3
              try clear hfz70_0
              try clear hfz70_1
              try clear hfz70_2
              try clear hfz70_3
              try clear hfz71_0
              try clear hfz71_1
              try clear hfz71_2
              try clear hfz71_3
              try clear hfz7_3
              try clear hfz9_0
              try clear hfz9_1
              try clear hfz9_2
              try clear hfz9_3
              try clear p38
              try clear p42
              try clear p46
              try clear p52
              try clear p58
              try clear p62
              try clear p68
              try clear q38
              try clear q42
              try clear q46
              try clear q52
              try clear q58
              try clear q62
              try clear q68
              obtain ⟨kq, x114_33, rfl, HA, HJ33, BK131, HB⟩ := hcut
              cases kq with
              | zero => exact absurd HA.out (by simp [posthorseref17_Right.j1])
              | succ kj33 =>
                have H := HA.out
                clear HA
                simp only [posthorseref17_Right.j1] at H
                by_cases c72 : x114_33 = true
                · subst c72
                  have H1 : (some false) = some r := by rw [if_pos rfl] at H; exact H
                  clear H
                  have H := H1
                  clear H1
                  obtain rfl := Option.some.inj H
                  go_wp2
                  go_ret
                  exact ⟨by first | rfl | (simp [errW_none, errW_some] <;> rfl) | (simp [*, errW_none, errW_some] <;> rfl), by repeat (first | (with_reducible first | exact HB.out | apply below_alloc | apply pw_below_drewN | apply below_drew1 | refine below_set ?_ GE131.out) | exact HB.out)⟩
                · replace c72 := Bool.eq_false_iff.mpr c72
                  subst c72
                  have H1 : (if a0_0 = 6 then (if a0_3 < 0 then (some false) else (if a0_0 ≥ 12 then (if a0_0 ≤ 16 then (if a0_3 > 127 then (some false) else (if a0_0 = 17 then (if a0_3 ≥ 1 then (some (decide (a0_3 ≤ 64))) else (some false)) else (some true))) else (if a0_0 = 17 then (if a0_3 ≥ 1 then (some (decide (a0_3 ≤ 64))) else (some false)) else (some true))) else (if a0_0 = 17 then (if a0_3 ≥ 1 then (some (decide (a0_3 ≤ 64))) else (some false)) else (some true)))) else (if a0_0 ≥ 12 then (if a0_0 ≤ 16 then (if a0_3 < 0 then (some false) else (if a0_3 > 127 then (some false) else (if a0_0 = 17 then (if a0_3 ≥ 1 then (some (decide (a0_3 ≤ 64))) else (some false)) else (some true)))) else (if a0_0 = 17 then (if a0_3 ≥ 1 then (some (decide (a0_3 ≤ 64))) else (some false)) else (some true))) else (if a0_0 = 17 then (if a0_3 ≥ 1 then (some (decide (a0_3 ≤ 64))) else (some false)) else (some true)))) = some r := by rw [if_neg (show ¬ (false = true) by decide)] at H; exact H
                  clear H
                  have H := H1
                  clear H1
                  by_cases c73 : a0_0 = 6
                  · rw [if_pos c73] at H
                    have c73b0 : (a0_0 == 6) = true := beq_iff_eq.mpr c73
                    have c73b1 : (a0_0 != 6) = false := bne_eq_false_iff_eq.mpr c73
                    clear c73
                    by_cases c74 : a0_3 < 0
                    · rw [if_pos c74] at H
                      have c74b0 : decide (a0_3 < 0) = true := decide_eq_true c74
                      clear c74
                      obtain rfl := Option.some.inj H
                      have hcz75_0 : wc.cell? ⟨gb131, 0, none⟩ = some (.int .i64 a0_0) := (blk_cell BK131.out 0).trans rfl
                      have hcz75_1 : wc.cell? ⟨gb131, 1, none⟩ = some (.int .i64 a0_1) := (blk_cell BK131.out 1).trans rfl
                      have hcz75_2 : wc.cell? ⟨gb131, 2, none⟩ = some (.int .i64 a0_2) := (blk_cell BK131.out 2).trans rfl
                      have hcz75_3 : wc.cell? ⟨gb131, 3, none⟩ = some (.int .i64 a0_3) := (blk_cell BK131.out 3).trans rfl
                      have hfz75_0 := blk_frozen BK131.out 0
                      have hfz75_1 := blk_frozen BK131.out 1
                      have hfz75_2 := blk_frozen BK131.out 2
                      have hfz75_3 := blk_frozen BK131.out 3
                      go_wp2
                      go_ret
                      exact ⟨by first | rfl | (simp [errW_none, errW_some] <;> rfl) | (simp [*, errW_none, errW_some] <;> rfl), by repeat (first | (with_reducible first | exact HB.out | apply below_alloc | apply pw_below_drewN | apply below_drew1 | refine below_set ?_ GE131.out) | exact HB.out)⟩
                    · rw [if_neg c74] at H
                      have c74b0 : decide (a0_3 < 0) = false := decide_eq_false c74
                      clear c74
                      by_cases c76 : a0_0 ≥ 12
                      · rw [if_pos c76] at H
                        have c76b0 : decide (12 ≤ a0_0) = true := decide_eq_true c76
                        clear c76
                        by_cases c77 : a0_0 ≤ 16
                        · rw [if_pos c77] at H
                          have c77b0 : decide (a0_0 ≤ 16) = true := decide_eq_true c77
                          clear c77
                          by_cases c78 : a0_3 > 127
                          · rw [if_pos c78] at H
                            have c78b0 : decide (127 < a0_3) = true := decide_eq_true c78
                            clear c78
                            obtain rfl := Option.some.inj H
                            have hcz79_0 : wc.cell? ⟨gb131, 0, none⟩ = some (.int .i64 a0_0) := (blk_cell BK131.out 0).trans rfl
                            have hcz79_1 : wc.cell? ⟨gb131, 1, none⟩ = some (.int .i64 a0_1) := (blk_cell BK131.out 1).trans rfl
                            have hcz79_2 : wc.cell? ⟨gb131, 2, none⟩ = some (.int .i64 a0_2) := (blk_cell BK131.out 2).trans rfl
                            have hcz79_3 : wc.cell? ⟨gb131, 3, none⟩ = some (.int .i64 a0_3) := (blk_cell BK131.out 3).trans rfl
                            have hfz79_0 := blk_frozen BK131.out 0
                            have hfz79_1 := blk_frozen BK131.out 1
                            have hfz79_2 := blk_frozen BK131.out 2
                            have hfz79_3 := blk_frozen BK131.out 3
                            go_wp2
                            go_ret
                            exact ⟨by first | rfl | (simp [errW_none, errW_some] <;> rfl) | (simp [*, errW_none, errW_some] <;> rfl), by repeat (first | (with_reducible first | exact HB.out | apply below_alloc | apply pw_below_drewN | apply below_drew1 | refine below_set ?_ GE131.out) | exact HB.out)⟩
                          · rw [if_neg c78] at H
                            have c78b0 : decide (127 < a0_3) = false := decide_eq_false c78
                            clear c78
                            by_cases c80 : a0_0 = 17
                            · rw [if_pos c80] at H
                              have c80b0 : (a0_0 == 17) = true := beq_iff_eq.mpr c80
                              have c80b1 : (a0_0 != 17) = false := bne_eq_false_iff_eq.mpr c80
                              clear c80
                              by_cases c81 : a0_3 ≥ 1
                              · rw [if_pos c81] at H
                                have c81b0 : decide (1 ≤ a0_3) = true := decide_eq_true c81
                                clear c81
                                obtain rfl := Option.some.inj H
                                have hcz82_0 : wc.cell? ⟨gb131, 0, none⟩ = some (.int .i64 a0_0) := (blk_cell BK131.out 0).trans rfl
                                have hcz82_1 : wc.cell? ⟨gb131, 1, none⟩ = some (.int .i64 a0_1) := (blk_cell BK131.out 1).trans rfl
                                have hcz82_2 : wc.cell? ⟨gb131, 2, none⟩ = some (.int .i64 a0_2) := (blk_cell BK131.out 2).trans rfl
                                have hcz82_3 : wc.cell? ⟨gb131, 3, none⟩ = some (.int .i64 a0_3) := (blk_cell BK131.out 3).trans rfl
                                have hfz82_0 := blk_frozen BK131.out 0
                                have hfz82_1 := blk_frozen BK131.out 1
                                have hfz82_2 := blk_frozen BK131.out 2
                                have hfz82_3 := blk_frozen BK131.out 3
                                go_wp2
                                go_ret
                                exact ⟨by first | rfl | (simp [errW_none, errW_some] <;> rfl) | (simp [*, errW_none, errW_some] <;> rfl), by repeat (first | (with_reducible first | exact HB.out | apply below_alloc | apply pw_below_drewN | apply below_drew1 | refine below_set ?_ GE131.out) | exact HB.out)⟩
                              · rw [if_neg c81] at H
                                have c81b0 : decide (1 ≤ a0_3) = false := decide_eq_false c81
                                clear c81
                                obtain rfl := Option.some.inj H
                                have hcz83_0 : wc.cell? ⟨gb131, 0, none⟩ = some (.int .i64 a0_0) := (blk_cell BK131.out 0).trans rfl
                                have hcz83_1 : wc.cell? ⟨gb131, 1, none⟩ = some (.int .i64 a0_1) := (blk_cell BK131.out 1).trans rfl
                                have hcz83_2 : wc.cell? ⟨gb131, 2, none⟩ = some (.int .i64 a0_2) := (blk_cell BK131.out 2).trans rfl
                                have hcz83_3 : wc.cell? ⟨gb131, 3, none⟩ = some (.int .i64 a0_3) := (blk_cell BK131.out 3).trans rfl
                                have hfz83_0 := blk_frozen BK131.out 0
                                have hfz83_1 := blk_frozen BK131.out 1
                                have hfz83_2 := blk_frozen BK131.out 2
                                have hfz83_3 := blk_frozen BK131.out 3
                                go_wp2
                                go_ret
                                exact ⟨by first | rfl | (simp [errW_none, errW_some] <;> rfl) | (simp [*, errW_none, errW_some] <;> rfl), by repeat (first | (with_reducible first | exact HB.out | apply below_alloc | apply pw_below_drewN | apply below_drew1 | refine below_set ?_ GE131.out) | exact HB.out)⟩
                            · rw [if_neg c80] at H
                              have c80b0 : (a0_0 == 17) = false := beq_eq_false_iff_ne.mpr c80
                              have c80b1 : (a0_0 != 17) = true := bne_iff_ne.mpr c80
                              obtain rfl := Option.some.inj H
                              have hcz84_0 : wc.cell? ⟨gb131, 0, none⟩ = some (.int .i64 a0_0) := (blk_cell BK131.out 0).trans rfl
                              have hcz84_1 : wc.cell? ⟨gb131, 1, none⟩ = some (.int .i64 a0_1) := (blk_cell BK131.out 1).trans rfl
                              have hcz84_2 : wc.cell? ⟨gb131, 2, none⟩ = some (.int .i64 a0_2) := (blk_cell BK131.out 2).trans rfl
                              have hcz84_3 : wc.cell? ⟨gb131, 3, none⟩ = some (.int .i64 a0_3) := (blk_cell BK131.out 3).trans rfl
                              have hfz84_0 := blk_frozen BK131.out 0
                              have hfz84_1 := blk_frozen BK131.out 1
                              have hfz84_2 := blk_frozen BK131.out 2
                              have hfz84_3 := blk_frozen BK131.out 3
                              go_wp2
                              go_ret
                              exact ⟨by first | rfl | (simp [errW_none, errW_some] <;> rfl) | (simp [*, errW_none, errW_some] <;> rfl), by repeat (first | (with_reducible first | exact HB.out | apply below_alloc | apply pw_below_drewN | apply below_drew1 | refine below_set ?_ GE131.out) | exact HB.out)⟩
                        · rw [if_neg c77] at H
                          have c77b0 : decide (a0_0 ≤ 16) = false := decide_eq_false c77
                          clear c77
                          by_cases c85 : a0_0 = 17
                          · rw [if_pos c85] at H
                            have c85b0 : (a0_0 == 17) = true := beq_iff_eq.mpr c85
                            have c85b1 : (a0_0 != 17) = false := bne_eq_false_iff_eq.mpr c85
                            clear c85
                            by_cases c86 : a0_3 ≥ 1
                            · rw [if_pos c86] at H
                              have c86b0 : decide (1 ≤ a0_3) = true := decide_eq_true c86
                              clear c86
                              obtain rfl := Option.some.inj H
                              have hcz87_0 : wc.cell? ⟨gb131, 0, none⟩ = some (.int .i64 a0_0) := (blk_cell BK131.out 0).trans rfl
                              have hcz87_1 : wc.cell? ⟨gb131, 1, none⟩ = some (.int .i64 a0_1) := (blk_cell BK131.out 1).trans rfl
                              have hcz87_2 : wc.cell? ⟨gb131, 2, none⟩ = some (.int .i64 a0_2) := (blk_cell BK131.out 2).trans rfl
                              have hcz87_3 : wc.cell? ⟨gb131, 3, none⟩ = some (.int .i64 a0_3) := (blk_cell BK131.out 3).trans rfl
                              have hfz87_0 := blk_frozen BK131.out 0
                              have hfz87_1 := blk_frozen BK131.out 1
                              have hfz87_2 := blk_frozen BK131.out 2
                              have hfz87_3 := blk_frozen BK131.out 3
                              go_wp2
                              go_ret
                              exact ⟨by first | rfl | (simp [errW_none, errW_some] <;> rfl) | (simp [*, errW_none, errW_some] <;> rfl), by repeat (first | (with_reducible first | exact HB.out | apply below_alloc | apply pw_below_drewN | apply below_drew1 | refine below_set ?_ GE131.out) | exact HB.out)⟩
                            · rw [if_neg c86] at H
                              have c86b0 : decide (1 ≤ a0_3) = false := decide_eq_false c86
                              clear c86
                              obtain rfl := Option.some.inj H
                              have hcz88_0 : wc.cell? ⟨gb131, 0, none⟩ = some (.int .i64 a0_0) := (blk_cell BK131.out 0).trans rfl
                              have hcz88_1 : wc.cell? ⟨gb131, 1, none⟩ = some (.int .i64 a0_1) := (blk_cell BK131.out 1).trans rfl
                              have hcz88_2 : wc.cell? ⟨gb131, 2, none⟩ = some (.int .i64 a0_2) := (blk_cell BK131.out 2).trans rfl
                              have hcz88_3 : wc.cell? ⟨gb131, 3, none⟩ = some (.int .i64 a0_3) := (blk_cell BK131.out 3).trans rfl
                              have hfz88_0 := blk_frozen BK131.out 0
                              have hfz88_1 := blk_frozen BK131.out 1
                              have hfz88_2 := blk_frozen BK131.out 2
                              have hfz88_3 := blk_frozen BK131.out 3
                              go_wp2
                              go_ret
                              exact ⟨by first | rfl | (simp [errW_none, errW_some] <;> rfl) | (simp [*, errW_none, errW_some] <;> rfl), by repeat (first | (with_reducible first | exact HB.out | apply below_alloc | apply pw_below_drewN | apply below_drew1 | refine below_set ?_ GE131.out) | exact HB.out)⟩
                          · rw [if_neg c85] at H
                            have c85b0 : (a0_0 == 17) = false := beq_eq_false_iff_ne.mpr c85
                            have c85b1 : (a0_0 != 17) = true := bne_iff_ne.mpr c85
                            obtain rfl := Option.some.inj H
                            have hcz89_0 : wc.cell? ⟨gb131, 0, none⟩ = some (.int .i64 a0_0) := (blk_cell BK131.out 0).trans rfl
                            have hcz89_1 : wc.cell? ⟨gb131, 1, none⟩ = some (.int .i64 a0_1) := (blk_cell BK131.out 1).trans rfl
                            have hcz89_2 : wc.cell? ⟨gb131, 2, none⟩ = some (.int .i64 a0_2) := (blk_cell BK131.out 2).trans rfl
                            have hcz89_3 : wc.cell? ⟨gb131, 3, none⟩ = some (.int .i64 a0_3) := (blk_cell BK131.out 3).trans rfl
                            have hfz89_0 := blk_frozen BK131.out 0
                            have hfz89_1 := blk_frozen BK131.out 1
                            have hfz89_2 := blk_frozen BK131.out 2
                            have hfz89_3 := blk_frozen BK131.out 3
                            go_wp2
                            go_ret
                            exact ⟨by first | rfl | (simp [errW_none, errW_some] <;> rfl) | (simp [*, errW_none, errW_some] <;> rfl), by repeat (first | (with_reducible first | exact HB.out | apply below_alloc | apply pw_below_drewN | apply below_drew1 | refine below_set ?_ GE131.out) | exact HB.out)⟩
                      · rw [if_neg c76] at H
                        have c76b0 : decide (12 ≤ a0_0) = false := decide_eq_false c76
                        clear c76
                        by_cases c90 : a0_0 = 17
                        · rw [if_pos c90] at H
                          have c90b0 : (a0_0 == 17) = true := beq_iff_eq.mpr c90
                          have c90b1 : (a0_0 != 17) = false := bne_eq_false_iff_eq.mpr c90
                          clear c90
                          by_cases c91 : a0_3 ≥ 1
                          · rw [if_pos c91] at H
                            have c91b0 : decide (1 ≤ a0_3) = true := decide_eq_true c91
                            clear c91
                            obtain rfl := Option.some.inj H
                            have hcz92_0 : wc.cell? ⟨gb131, 0, none⟩ = some (.int .i64 a0_0) := (blk_cell BK131.out 0).trans rfl
                            have hcz92_1 : wc.cell? ⟨gb131, 1, none⟩ = some (.int .i64 a0_1) := (blk_cell BK131.out 1).trans rfl
                            have hcz92_2 : wc.cell? ⟨gb131, 2, none⟩ = some (.int .i64 a0_2) := (blk_cell BK131.out 2).trans rfl
                            have hcz92_3 : wc.cell? ⟨gb131, 3, none⟩ = some (.int .i64 a0_3) := (blk_cell BK131.out 3).trans rfl
                            have hfz92_0 := blk_frozen BK131.out 0
                            have hfz92_1 := blk_frozen BK131.out 1
                            have hfz92_2 := blk_frozen BK131.out 2
                            have hfz92_3 := blk_frozen BK131.out 3
                            go_wp2
                            go_ret
                            exact ⟨by first | rfl | (simp [errW_none, errW_some] <;> rfl) | (simp [*, errW_none, errW_some] <;> rfl), by repeat (first | (with_reducible first | exact HB.out | apply below_alloc | apply pw_below_drewN | apply below_drew1 | refine below_set ?_ GE131.out) | exact HB.out)⟩
                          · rw [if_neg c91] at H
                            have c91b0 : decide (1 ≤ a0_3) = false := decide_eq_false c91
                            clear c91
                            obtain rfl := Option.some.inj H
                            have hcz93_0 : wc.cell? ⟨gb131, 0, none⟩ = some (.int .i64 a0_0) := (blk_cell BK131.out 0).trans rfl
                            have hcz93_1 : wc.cell? ⟨gb131, 1, none⟩ = some (.int .i64 a0_1) := (blk_cell BK131.out 1).trans rfl
                            have hcz93_2 : wc.cell? ⟨gb131, 2, none⟩ = some (.int .i64 a0_2) := (blk_cell BK131.out 2).trans rfl
                            have hcz93_3 : wc.cell? ⟨gb131, 3, none⟩ = some (.int .i64 a0_3) := (blk_cell BK131.out 3).trans rfl
                            have hfz93_0 := blk_frozen BK131.out 0
                            have hfz93_1 := blk_frozen BK131.out 1
                            have hfz93_2 := blk_frozen BK131.out 2
                            have hfz93_3 := blk_frozen BK131.out 3
                            go_wp2
                            go_ret
                            exact ⟨by first | rfl | (simp [errW_none, errW_some] <;> rfl) | (simp [*, errW_none, errW_some] <;> rfl), by repeat (first | (with_reducible first | exact HB.out | apply below_alloc | apply pw_below_drewN | apply below_drew1 | refine below_set ?_ GE131.out) | exact HB.out)⟩
                        · rw [if_neg c90] at H
                          have c90b0 : (a0_0 == 17) = false := beq_eq_false_iff_ne.mpr c90
                          have c90b1 : (a0_0 != 17) = true := bne_iff_ne.mpr c90
                          obtain rfl := Option.some.inj H
                          have hcz94_0 : wc.cell? ⟨gb131, 0, none⟩ = some (.int .i64 a0_0) := (blk_cell BK131.out 0).trans rfl
                          have hcz94_1 : wc.cell? ⟨gb131, 1, none⟩ = some (.int .i64 a0_1) := (blk_cell BK131.out 1).trans rfl
                          have hcz94_2 : wc.cell? ⟨gb131, 2, none⟩ = some (.int .i64 a0_2) := (blk_cell BK131.out 2).trans rfl
                          have hcz94_3 : wc.cell? ⟨gb131, 3, none⟩ = some (.int .i64 a0_3) := (blk_cell BK131.out 3).trans rfl
                          have hfz94_0 := blk_frozen BK131.out 0
                          have hfz94_1 := blk_frozen BK131.out 1
                          have hfz94_2 := blk_frozen BK131.out 2
                          have hfz94_3 := blk_frozen BK131.out 3
                          go_wp2
                          go_ret
                          exact ⟨by first | rfl | (simp [errW_none, errW_some] <;> rfl) | (simp [*, errW_none, errW_some] <;> rfl), by repeat (first | (with_reducible first | exact HB.out | apply below_alloc | apply pw_below_drewN | apply below_drew1 | refine below_set ?_ GE131.out) | exact HB.out)⟩
                  · rw [if_neg c73] at H
                    have c73b0 : (a0_0 == 6) = false := beq_eq_false_iff_ne.mpr c73
                    have c73b1 : (a0_0 != 6) = true := bne_iff_ne.mpr c73
                    by_cases c95 : a0_0 ≥ 12
                    · rw [if_pos c95] at H
                      have c95b0 : decide (12 ≤ a0_0) = true := decide_eq_true c95
                      clear c95
                      by_cases c96 : a0_0 ≤ 16
                      · rw [if_pos c96] at H
                        have c96b0 : decide (a0_0 ≤ 16) = true := decide_eq_true c96
                        clear c96
                        by_cases c97 : a0_3 < 0
                        · rw [if_pos c97] at H
                          have c97b0 : decide (a0_3 < 0) = true := decide_eq_true c97
                          clear c97
                          obtain rfl := Option.some.inj H
                          have hcz98_0 : wc.cell? ⟨gb131, 0, none⟩ = some (.int .i64 a0_0) := (blk_cell BK131.out 0).trans rfl
                          have hcz98_1 : wc.cell? ⟨gb131, 1, none⟩ = some (.int .i64 a0_1) := (blk_cell BK131.out 1).trans rfl
                          have hcz98_2 : wc.cell? ⟨gb131, 2, none⟩ = some (.int .i64 a0_2) := (blk_cell BK131.out 2).trans rfl
                          have hcz98_3 : wc.cell? ⟨gb131, 3, none⟩ = some (.int .i64 a0_3) := (blk_cell BK131.out 3).trans rfl
                          have hfz98_0 := blk_frozen BK131.out 0
                          have hfz98_1 := blk_frozen BK131.out 1
                          have hfz98_2 := blk_frozen BK131.out 2
                          have hfz98_3 := blk_frozen BK131.out 3
                          go_wp2
                          go_ret
                          exact ⟨by first | rfl | (simp [errW_none, errW_some] <;> rfl) | (simp [*, errW_none, errW_some] <;> rfl), by repeat (first | (with_reducible first | exact HB.out | apply below_alloc | apply pw_below_drewN | apply below_drew1 | refine below_set ?_ GE131.out) | exact HB.out)⟩
                        · rw [if_neg c97] at H
                          have c97b0 : decide (a0_3 < 0) = false := decide_eq_false c97
                          clear c97
                          by_cases c99 : a0_3 > 127
                          · rw [if_pos c99] at H
                            have c99b0 : decide (127 < a0_3) = true := decide_eq_true c99
                            clear c99
                            obtain rfl := Option.some.inj H
                            have hcz100_0 : wc.cell? ⟨gb131, 0, none⟩ = some (.int .i64 a0_0) := (blk_cell BK131.out 0).trans rfl
                            have hcz100_1 : wc.cell? ⟨gb131, 1, none⟩ = some (.int .i64 a0_1) := (blk_cell BK131.out 1).trans rfl
                            have hcz100_2 : wc.cell? ⟨gb131, 2, none⟩ = some (.int .i64 a0_2) := (blk_cell BK131.out 2).trans rfl
                            have hcz100_3 : wc.cell? ⟨gb131, 3, none⟩ = some (.int .i64 a0_3) := (blk_cell BK131.out 3).trans rfl
                            have hfz100_0 := blk_frozen BK131.out 0
                            have hfz100_1 := blk_frozen BK131.out 1
                            have hfz100_2 := blk_frozen BK131.out 2
                            have hfz100_3 := blk_frozen BK131.out 3
                            go_wp2
                            go_ret
                            exact ⟨by first | rfl | (simp [errW_none, errW_some] <;> rfl) | (simp [*, errW_none, errW_some] <;> rfl), by repeat (first | (with_reducible first | exact HB.out | apply below_alloc | apply pw_below_drewN | apply below_drew1 | refine below_set ?_ GE131.out) | exact HB.out)⟩
                          · rw [if_neg c99] at H
                            have c99b0 : decide (127 < a0_3) = false := decide_eq_false c99
                            clear c99
                            by_cases c101 : a0_0 = 17
                            · rw [if_pos c101] at H
                              have c101b0 : (a0_0 == 17) = true := beq_iff_eq.mpr c101
                              have c101b1 : (a0_0 != 17) = false := bne_eq_false_iff_eq.mpr c101
                              clear c101
                              by_cases c102 : a0_3 ≥ 1
                              · rw [if_pos c102] at H
                                have c102b0 : decide (1 ≤ a0_3) = true := decide_eq_true c102
                                clear c102
                                obtain rfl := Option.some.inj H
                                have hcz103_0 : wc.cell? ⟨gb131, 0, none⟩ = some (.int .i64 a0_0) := (blk_cell BK131.out 0).trans rfl
                                have hcz103_1 : wc.cell? ⟨gb131, 1, none⟩ = some (.int .i64 a0_1) := (blk_cell BK131.out 1).trans rfl
                                have hcz103_2 : wc.cell? ⟨gb131, 2, none⟩ = some (.int .i64 a0_2) := (blk_cell BK131.out 2).trans rfl
                                have hcz103_3 : wc.cell? ⟨gb131, 3, none⟩ = some (.int .i64 a0_3) := (blk_cell BK131.out 3).trans rfl
                                have hfz103_0 := blk_frozen BK131.out 0
                                have hfz103_1 := blk_frozen BK131.out 1
                                have hfz103_2 := blk_frozen BK131.out 2
                                have hfz103_3 := blk_frozen BK131.out 3
                                go_wp2
                                go_ret
                                exact ⟨by first | rfl | (simp [errW_none, errW_some] <;> rfl) | (simp [*, errW_none, errW_some] <;> rfl), by repeat (first | (with_reducible first | exact HB.out | apply below_alloc | apply pw_below_drewN | apply below_drew1 | refine below_set ?_ GE131.out) | exact HB.out)⟩
                              · rw [if_neg c102] at H
                                have c102b0 : decide (1 ≤ a0_3) = false := decide_eq_false c102
                                clear c102
                                obtain rfl := Option.some.inj H
                                have hcz104_0 : wc.cell? ⟨gb131, 0, none⟩ = some (.int .i64 a0_0) := (blk_cell BK131.out 0).trans rfl
                                have hcz104_1 : wc.cell? ⟨gb131, 1, none⟩ = some (.int .i64 a0_1) := (blk_cell BK131.out 1).trans rfl
                                have hcz104_2 : wc.cell? ⟨gb131, 2, none⟩ = some (.int .i64 a0_2) := (blk_cell BK131.out 2).trans rfl
                                have hcz104_3 : wc.cell? ⟨gb131, 3, none⟩ = some (.int .i64 a0_3) := (blk_cell BK131.out 3).trans rfl
                                have hfz104_0 := blk_frozen BK131.out 0
                                have hfz104_1 := blk_frozen BK131.out 1
                                have hfz104_2 := blk_frozen BK131.out 2
                                have hfz104_3 := blk_frozen BK131.out 3
                                go_wp2
                                go_ret
                                exact ⟨by first | rfl | (simp [errW_none, errW_some] <;> rfl) | (simp [*, errW_none, errW_some] <;> rfl), by repeat (first | (with_reducible first | exact HB.out | apply below_alloc | apply pw_below_drewN | apply below_drew1 | refine below_set ?_ GE131.out) | exact HB.out)⟩
                            · rw [if_neg c101] at H
                              have c101b0 : (a0_0 == 17) = false := beq_eq_false_iff_ne.mpr c101
                              have c101b1 : (a0_0 != 17) = true := bne_iff_ne.mpr c101
                              obtain rfl := Option.some.inj H
                              have hcz105_0 : wc.cell? ⟨gb131, 0, none⟩ = some (.int .i64 a0_0) := (blk_cell BK131.out 0).trans rfl
                              have hcz105_1 : wc.cell? ⟨gb131, 1, none⟩ = some (.int .i64 a0_1) := (blk_cell BK131.out 1).trans rfl
                              have hcz105_2 : wc.cell? ⟨gb131, 2, none⟩ = some (.int .i64 a0_2) := (blk_cell BK131.out 2).trans rfl
                              have hcz105_3 : wc.cell? ⟨gb131, 3, none⟩ = some (.int .i64 a0_3) := (blk_cell BK131.out 3).trans rfl
                              have hfz105_0 := blk_frozen BK131.out 0
                              have hfz105_1 := blk_frozen BK131.out 1
                              have hfz105_2 := blk_frozen BK131.out 2
                              have hfz105_3 := blk_frozen BK131.out 3
                              go_wp2
                              go_ret
                              exact ⟨by first | rfl | (simp [errW_none, errW_some] <;> rfl) | (simp [*, errW_none, errW_some] <;> rfl), by repeat (first | (with_reducible first | exact HB.out | apply below_alloc | apply pw_below_drewN | apply below_drew1 | refine below_set ?_ GE131.out) | exact HB.out)⟩
                      · rw [if_neg c96] at H
                        have c96b0 : decide (a0_0 ≤ 16) = false := decide_eq_false c96
                        clear c96
                        by_cases c106 : a0_0 = 17
                        · rw [if_pos c106] at H
                          have c106b0 : (a0_0 == 17) = true := beq_iff_eq.mpr c106
                          have c106b1 : (a0_0 != 17) = false := bne_eq_false_iff_eq.mpr c106
                          clear c106
                          by_cases c107 : a0_3 ≥ 1
                          · rw [if_pos c107] at H
                            have c107b0 : decide (1 ≤ a0_3) = true := decide_eq_true c107
                            clear c107
                            obtain rfl := Option.some.inj H
                            have hcz108_0 : wc.cell? ⟨gb131, 0, none⟩ = some (.int .i64 a0_0) := (blk_cell BK131.out 0).trans rfl
                            have hcz108_1 : wc.cell? ⟨gb131, 1, none⟩ = some (.int .i64 a0_1) := (blk_cell BK131.out 1).trans rfl
                            have hcz108_2 : wc.cell? ⟨gb131, 2, none⟩ = some (.int .i64 a0_2) := (blk_cell BK131.out 2).trans rfl
                            have hcz108_3 : wc.cell? ⟨gb131, 3, none⟩ = some (.int .i64 a0_3) := (blk_cell BK131.out 3).trans rfl
                            have hfz108_0 := blk_frozen BK131.out 0
                            have hfz108_1 := blk_frozen BK131.out 1
                            have hfz108_2 := blk_frozen BK131.out 2
                            have hfz108_3 := blk_frozen BK131.out 3
                            go_wp2
                            go_ret
                            exact ⟨by first | rfl | (simp [errW_none, errW_some] <;> rfl) | (simp [*, errW_none, errW_some] <;> rfl), by repeat (first | (with_reducible first | exact HB.out | apply below_alloc | apply pw_below_drewN | apply below_drew1 | refine below_set ?_ GE131.out) | exact HB.out)⟩
                          · rw [if_neg c107] at H
                            have c107b0 : decide (1 ≤ a0_3) = false := decide_eq_false c107
                            clear c107
                            obtain rfl := Option.some.inj H
                            have hcz109_0 : wc.cell? ⟨gb131, 0, none⟩ = some (.int .i64 a0_0) := (blk_cell BK131.out 0).trans rfl
                            have hcz109_1 : wc.cell? ⟨gb131, 1, none⟩ = some (.int .i64 a0_1) := (blk_cell BK131.out 1).trans rfl
                            have hcz109_2 : wc.cell? ⟨gb131, 2, none⟩ = some (.int .i64 a0_2) := (blk_cell BK131.out 2).trans rfl
                            have hcz109_3 : wc.cell? ⟨gb131, 3, none⟩ = some (.int .i64 a0_3) := (blk_cell BK131.out 3).trans rfl
                            have hfz109_0 := blk_frozen BK131.out 0
                            have hfz109_1 := blk_frozen BK131.out 1
                            have hfz109_2 := blk_frozen BK131.out 2
                            have hfz109_3 := blk_frozen BK131.out 3
                            go_wp2
                            go_ret
                            exact ⟨by first | rfl | (simp [errW_none, errW_some] <;> rfl) | (simp [*, errW_none, errW_some] <;> rfl), by repeat (first | (with_reducible first | exact HB.out | apply below_alloc | apply pw_below_drewN | apply below_drew1 | refine below_set ?_ GE131.out) | exact HB.out)⟩
                        · rw [if_neg c106] at H
                          have c106b0 : (a0_0 == 17) = false := beq_eq_false_iff_ne.mpr c106
                          have c106b1 : (a0_0 != 17) = true := bne_iff_ne.mpr c106
                          obtain rfl := Option.some.inj H
                          have hcz110_0 : wc.cell? ⟨gb131, 0, none⟩ = some (.int .i64 a0_0) := (blk_cell BK131.out 0).trans rfl
                          have hcz110_1 : wc.cell? ⟨gb131, 1, none⟩ = some (.int .i64 a0_1) := (blk_cell BK131.out 1).trans rfl
                          have hcz110_2 : wc.cell? ⟨gb131, 2, none⟩ = some (.int .i64 a0_2) := (blk_cell BK131.out 2).trans rfl
                          have hcz110_3 : wc.cell? ⟨gb131, 3, none⟩ = some (.int .i64 a0_3) := (blk_cell BK131.out 3).trans rfl
                          have hfz110_0 := blk_frozen BK131.out 0
                          have hfz110_1 := blk_frozen BK131.out 1
                          have hfz110_2 := blk_frozen BK131.out 2
                          have hfz110_3 := blk_frozen BK131.out 3
                          go_wp2
                          go_ret
                          exact ⟨by first | rfl | (simp [errW_none, errW_some] <;> rfl) | (simp [*, errW_none, errW_some] <;> rfl), by repeat (first | (with_reducible first | exact HB.out | apply below_alloc | apply pw_below_drewN | apply below_drew1 | refine below_set ?_ GE131.out) | exact HB.out)⟩
                    · rw [if_neg c95] at H
                      have c95b0 : decide (12 ≤ a0_0) = false := decide_eq_false c95
                      clear c95
                      by_cases c111 : a0_0 = 17
                      · rw [if_pos c111] at H
                        have c111b0 : (a0_0 == 17) = true := beq_iff_eq.mpr c111
                        have c111b1 : (a0_0 != 17) = false := bne_eq_false_iff_eq.mpr c111
                        clear c111
                        by_cases c112 : a0_3 ≥ 1
                        · rw [if_pos c112] at H
                          have c112b0 : decide (1 ≤ a0_3) = true := decide_eq_true c112
                          clear c112
                          obtain rfl := Option.some.inj H
                          have hcz113_0 : wc.cell? ⟨gb131, 0, none⟩ = some (.int .i64 a0_0) := (blk_cell BK131.out 0).trans rfl
                          have hcz113_1 : wc.cell? ⟨gb131, 1, none⟩ = some (.int .i64 a0_1) := (blk_cell BK131.out 1).trans rfl
                          have hcz113_2 : wc.cell? ⟨gb131, 2, none⟩ = some (.int .i64 a0_2) := (blk_cell BK131.out 2).trans rfl
                          have hcz113_3 : wc.cell? ⟨gb131, 3, none⟩ = some (.int .i64 a0_3) := (blk_cell BK131.out 3).trans rfl
                          have hfz113_0 := blk_frozen BK131.out 0
                          have hfz113_1 := blk_frozen BK131.out 1
                          have hfz113_2 := blk_frozen BK131.out 2
                          have hfz113_3 := blk_frozen BK131.out 3
                          go_wp2
                          go_ret
                          exact ⟨by first | rfl | (simp [errW_none, errW_some] <;> rfl) | (simp [*, errW_none, errW_some] <;> rfl), by repeat (first | (with_reducible first | exact HB.out | apply below_alloc | apply pw_below_drewN | apply below_drew1 | refine below_set ?_ GE131.out) | exact HB.out)⟩
                        · rw [if_neg c112] at H
                          have c112b0 : decide (1 ≤ a0_3) = false := decide_eq_false c112
                          clear c112
                          obtain rfl := Option.some.inj H
                          have hcz114_0 : wc.cell? ⟨gb131, 0, none⟩ = some (.int .i64 a0_0) := (blk_cell BK131.out 0).trans rfl
                          have hcz114_1 : wc.cell? ⟨gb131, 1, none⟩ = some (.int .i64 a0_1) := (blk_cell BK131.out 1).trans rfl
                          have hcz114_2 : wc.cell? ⟨gb131, 2, none⟩ = some (.int .i64 a0_2) := (blk_cell BK131.out 2).trans rfl
                          have hcz114_3 : wc.cell? ⟨gb131, 3, none⟩ = some (.int .i64 a0_3) := (blk_cell BK131.out 3).trans rfl
                          have hfz114_0 := blk_frozen BK131.out 0
                          have hfz114_1 := blk_frozen BK131.out 1
                          have hfz114_2 := blk_frozen BK131.out 2
                          have hfz114_3 := blk_frozen BK131.out 3
                          go_wp2
                          go_ret
                          exact ⟨by first | rfl | (simp [errW_none, errW_some] <;> rfl) | (simp [*, errW_none, errW_some] <;> rfl), by repeat (first | (with_reducible first | exact HB.out | apply below_alloc | apply pw_below_drewN | apply below_drew1 | refine below_set ?_ GE131.out) | exact HB.out)⟩
                      · rw [if_neg c111] at H
                        have c111b0 : (a0_0 == 17) = false := beq_eq_false_iff_ne.mpr c111
                        have c111b1 : (a0_0 != 17) = true := bne_iff_ne.mpr c111
                        obtain rfl := Option.some.inj H
                        have hcz115_0 : wc.cell? ⟨gb131, 0, none⟩ = some (.int .i64 a0_0) := (blk_cell BK131.out 0).trans rfl
                        have hcz115_1 : wc.cell? ⟨gb131, 1, none⟩ = some (.int .i64 a0_1) := (blk_cell BK131.out 1).trans rfl
                        have hcz115_2 : wc.cell? ⟨gb131, 2, none⟩ = some (.int .i64 a0_2) := (blk_cell BK131.out 2).trans rfl
                        have hcz115_3 : wc.cell? ⟨gb131, 3, none⟩ = some (.int .i64 a0_3) := (blk_cell BK131.out 3).trans rfl
                        have hfz115_0 := blk_frozen BK131.out 0
                        have hfz115_1 := blk_frozen BK131.out 1
                        have hfz115_2 := blk_frozen BK131.out 2
                        have hfz115_3 := blk_frozen BK131.out 3
                        go_wp2
                        go_ret
                        exact ⟨by first | rfl | (simp [errW_none, errW_some] <;> rfl) | (simp [*, errW_none, errW_some] <;> rfl), by repeat (first | (with_reducible first | exact HB.out | apply below_alloc | apply pw_below_drewN | apply below_drew1 | refine below_set ?_ GE131.out) | exact HB.out)⟩

end Go.Proofs.YtekjkbocblonmaaDoor.VCodeGets
