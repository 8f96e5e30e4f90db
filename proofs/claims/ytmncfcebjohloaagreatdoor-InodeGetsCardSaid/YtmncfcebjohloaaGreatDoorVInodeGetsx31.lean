/- Contracts of functions of this seat: each call comes to what its Lean function computes; no condition beyond what each theorem states. Printed by a program of this session's own laid over the kit's printer. -/
import Derived.Test.YtmncfcebjohloaaGreatDoorVInodeGetsx0
import Derived.Test.YtmncfcebjohloaaGreatDoorVInodeGetsx1
import Derived.Test.YtmncfcebjohloaaGreatDoorVInodeGetsx7
import Derived.Test.YtmncfcebjohloaaGreatDoorVInodeGetsx15
import Derived.Test.YtmncfcebjohloaaGreatDoorVInodeGetsx18
import Derived.Test.YtmncfcebjohloaaGreatDoorVInodeGetsx21
import Derived.Test.YtmncfcebjohloaaGreatDoorVInodeGetsx26
import Derived.Test.YtmncfcebjohloaaGreatDoorVInodeGetsx28
import Derived.Test.YtmncfcebjohloaaGreatDoorVInodeGetsx30
namespace Go.Proofs.YtmncfcebjohloaaGreatDoor.VInodeGets
open Go.RowKit Go.Proofs.YtmncfcebjohloaaGreatDoorW.PrintWords Go.Proofs.YtmncfcebjohloaaGreatDoorW.PrintLast Go.Proofs.YtmncfcebjohloaaGreatDoorW.PrintMore
attribute [local go_sem] max2_int min2_int max_two min_two max_three min_three max_four min_four   -- for this text's walks alone
set_option linter.unusedVariables false
set_option linter.unusedSimpArgs false

attribute [local go_sem high] eqA56
/-! ### posthorselaw08_same: function 14 -/
mutual
def posthorselaw08_same.j0 : Nat → Bool → Int → List (S51) → Int → List (S56) → Option (Bool)
 | 0, _, _, _, _, _ => none
 | k + 1, x19, x255000, x255001, x256000, x256001 => if x19 = true then (some false) else (posthorselaw08_same.l0 k 0 x255000 x255001 x256000 x256001)
def posthorselaw08_same.l0 : Nat → Int → Int → List (S51) → Int → List (S56) → Option (Bool)
 | 0, _, _, _, _, _ => none
 | k + 1, x5, x255000, x255001, x256000, x256001 => if x5 < (x256001.length : Int) then (if 0 ≤ x5 then (if x5 < (x255001.length : Int) then (if (!(((rd_T51 x255001 x5).f0) == ((rd_T56 x256001 x5).f0)) || (!(((rd_T51 x255001 x5).f1) == ((rd_T56 x256001 x5).f1)))) = true then (some false) else (posthorselaw08_same.l0 k (wrap64 (x5 + 1)) x255000 x255001 x256000 x256001)) else (none)) else (none)) else (some true)
end
def posthorselaw08_same.f (k : Nat) (a0_0 : Int) (l0_1 : List (S51)) (a1_0 : Int) (l1_1 : List (S56)) : Option (Bool) := if a0_0 = a1_0 then (posthorselaw08_same.j0 k ((l0_1.length : Int) != (l1_1.length : Int)) a0_0 l0_1 a1_0 l1_1) else (posthorselaw08_same.j0 k true a0_0 l0_1 a1_0 l1_1)
set_option maxRecDepth 100000 in
theorem posthorselaw08_same.mono_l : ∀ k, (∀ y0 y1 y2 y3 y4, LeO (posthorselaw08_same.j0 k y0 y1 y2 y3 y4) (posthorselaw08_same.j0 (k + 1) y0 y1 y2 y3 y4)) ∧ (∀ y0 y1 y2 y3 y4, LeO (posthorselaw08_same.l0 k y0 y1 y2 y3 y4) (posthorselaw08_same.l0 (k + 1) y0 y1 y2 y3 y4))
 | 0 => ⟨fun _ _ _ _ _ r h => by first | (rw [posthorselaw08_same.j0] at h; cases h) | simp [posthorselaw08_same.j0] at h, fun _ _ _ _ _ r h => by first | (rw [posthorselaw08_same.l0] at h; cases h) | simp [posthorselaw08_same.l0] at h⟩
 | k + 1 => by
  obtain ⟨ih0, ih1⟩ := posthorselaw08_same.mono_l k
  refine ⟨?_, ?_⟩
  ·intro y0 y1 y2 y3 y4
   unfold posthorselaw08_same.j0
   repeat' first
   | (with_reducible exact ih0 _ _ _ _ _)
   | (with_reducible exact ih1 _ _ _ _ _)
   | (with_reducible exact LeO.refl _)
   | (with_reducible exact LeO.none _)
   | (with_reducible refine LeO.ite ?_ ?_)
   | (with_reducible refine LeO.bind ?_ (fun _ => ?_))
   | exact ih0 _ _ _ _ _
   | exact ih1 _ _ _ _ _
   | exact LeO.none _
   | refine LeO.ite ?_ ?_
   | refine LeO.bind ?_ (fun _ => ?_)
  ·intro y0 y1 y2 y3 y4
   unfold posthorselaw08_same.l0
   repeat' first
   | (with_reducible exact ih0 _ _ _ _ _)
   | (with_reducible exact ih1 _ _ _ _ _)
   | (with_reducible exact LeO.refl _)
   | (with_reducible exact LeO.none _)
   | (with_reducible refine LeO.ite ?_ ?_)
   | (with_reducible refine LeO.bind ?_ (fun _ => ?_))
   | exact ih0 _ _ _ _ _
   | exact ih1 _ _ _ _ _
   | exact LeO.none _
   | refine LeO.ite ?_ ?_
   | refine LeO.bind ?_ (fun _ => ?_)
theorem posthorselaw08_same.mono : ∀ a0 a1 a2 a3 k, LeO (posthorselaw08_same.f k a0 a1 a2 a3) (posthorselaw08_same.f (k + 1) a0 a1 a2 a3) := by
 intro a0 a1 a2 a3 k
 obtain ⟨ih0, ih1⟩ := posthorselaw08_same.mono_l k
 unfold posthorselaw08_same.f
 repeat' first
   | (with_reducible exact ih0 _ _ _ _ _)
   | (with_reducible exact ih1 _ _ _ _ _)
   | (with_reducible exact LeO.refl _)
   | (with_reducible exact LeO.none _)
   | (with_reducible refine LeO.ite ?_ ?_)
   | (with_reducible refine LeO.bind ?_ (fun _ => ?_))
   | exact ih0 _ _ _ _ _
   | exact ih1 _ _ _ _ _
   | exact LeO.none _
   | refine LeO.ite ?_ ?_
   | refine LeO.bind ?_ (fun _ => ?_)
set_option maxHeartbeats 8000000 in
set_option maxRecDepth 100000 in
theorem posthorselaw08_same.calls (k : Nat) (a0_0 : Int) (A0_1 : Option Addr) (c0_1 : Nat) (l0_1 : List (S51)) (a1_0 : Int) (A1_1 : Option Addr) (c1_1 : Nat) (l1_1 : List (S56)) (r : Bool) (w : World) (hr0_1 : Kd.C k51 w A0_1 l0_1.length l0_1) (hc0_1 : l0_1.length ≤ c0_1) (hr1_1 : Kd.C k56 w A1_1 l1_1.length l1_1) (hc1_1 : l1_1.length ≤ c1_1) (h : posthorselaw08_same.f k a0_0 l0_1 a1_0 l1_1 = some r) :
  Calls Tryz.prog 14 #[.agg #[.int .i64 a0_0, .slice A0_1 l0_1.length c0_1], .agg #[.int .i64 a1_0, .slice A1_1 l1_1.length c1_1]] w fun e w' => e = .returned (.bool r) ∧ Below w.heap.size w w' := by
 have hu26 := Tryz.underlying26
 have hu29 := Tryz.underlying29
 have hu51 := Tryz.underlying51
 have hu56 := Tryz.underlying56
 have HR0_1 := Aside0.mk hr0_1
 have HC0_1 := Aside0.mk hc0_1
 clear hr0_1 hc0_1
 have HR1_1 := Aside0.mk hr1_1
 have HC1_1 := Aside0.mk hc1_1
 clear hr1_1 hc1_1
 have HB := Aside0.mk (Below.refl w.heap.size w)
 have H : (if a0_0 = a1_0 then (posthorselaw08_same.j0 k ((l0_1.length : Int) != (l1_1.length : Int)) a0_0 l0_1 a1_0 l1_1) else (posthorselaw08_same.j0 k true a0_0 l0_1 a1_0 l1_1)) = some r := h
 clear h
 have HC3 := Aside0.mk H
 clear H
 go_enter Tryz.func14, Tryz.ntmps14
 go_upto_region 1 with (first | ((with_reducible refine gate_dst (N := 2) rfl ?_); (try (refine gate_guard (by rfl) ?_; dsimp only)); refine box_event ?hg (N := 2) ?hd (cs := #[.int .i64 a0_0, .slice A0_1 l0_1.length c0_1]) (t := 26) ?hr ?_; (case hd => rfl); (case hg => rfl); (case hr => first | (go_simp; done) | (go_simp; rfl)); intro gb254 hg w4 hbox hb; have n0_ := Aside0.mk (below_step (by repeat (first | (with_reducible first | exact HB.out | apply below_alloc | apply pw_below_drewN | apply below_drew1) | exact HB.out)) hb); have n1_ := Aside0.mk (hbox); have n2_ := Aside0.mk ((by rw [hg]; exact (below_size (by repeat (first | (with_reducible first | exact HB.out | apply below_alloc | apply pw_below_drewN | apply below_drew1) | exact HB.out))) : w.heap.size ≤ gb254)); have n3_ := Aside0.mk ((by rw [hg]; exact (below_size (by repeat (first | (with_reducible first | exact HB.out | apply below_alloc | apply pw_below_drewN | apply below_drew1) | exact HB.out))) : w.heap.size ≤ gb254)); clear HB; have HB := n0_; have BK254 := n1_; have GW254 := n2_; have GE254 := n3_; clear n0_ n1_ n2_ n3_; clear hb hbox hg) | ((with_reducible refine gate_dst (N := 3) rfl ?_); (try (refine gate_guard (by rfl) ?_; dsimp only)); refine box_event ?hg (N := 3) ?hd (cs := #[.int .i64 a1_0, .slice A1_1 l1_1.length c1_1]) (t := 29) ?hr ?_; (case hd => rfl); (case hg => rfl); (case hr => first | (go_simp; done) | (go_simp; rfl)); intro gb255 hg w5 hbox hb; have n0_ := Aside0.mk (blk_below (g := gb254) (o := .cells #[.int .i64 a0_0, .slice A0_1 l0_1.length c0_1] 26 (0, 0)) (by (with_reducible repeat (first | refine blk_drewN ?_ _ | refine blk_drew ?_ | refine blk_alloc ?_ _)); exact BK254.out) hb); have n1_ := Aside0.mk (below_step (by repeat (first | (with_reducible first | exact HB.out | apply below_alloc | apply pw_below_drewN | apply below_drew1 | refine below_set ?_ GE254.out) | exact HB.out)) hb); have n2_ := Aside0.mk (hbox); have n3_ := Aside0.mk ((by rw [hg]; exact (below_size (by repeat (first | (with_reducible first | exact HB.out | apply below_alloc | apply pw_below_drewN | apply below_drew1 | refine below_set ?_ GE254.out) | exact HB.out))) : w.heap.size ≤ gb255)); have n4_ := Aside0.mk ((by rw [hg]; exact (below_size (by repeat (first | (with_reducible first | exact HB.out | apply below_alloc | apply pw_below_drewN | apply below_drew1 | refine below_set ?_ GE254.out) | exact HB.out))) : w.heap.size ≤ gb255)); have n5_ := Aside0.mk ((by rw [hg]; exact Nat.ne_of_lt (blk_lt (g := gb254) (o := .cells #[.int .i64 a0_0, .slice A0_1 l0_1.length c0_1] 26 (0, 0)) (by (with_reducible repeat (first | refine blk_drewN ?_ _ | refine blk_drew ?_ | refine blk_alloc ?_ _)); exact BK254.out)) : gb254 ≠ gb255)); have n6_ := Aside0.mk ((by rw [hg]; exact Nat.ne_of_gt (blk_lt (g := gb254) (o := .cells #[.int .i64 a0_0, .slice A0_1 l0_1.length c0_1] 26 (0, 0)) (by (with_reducible repeat (first | refine blk_drewN ?_ _ | refine blk_drew ?_ | refine blk_alloc ?_ _)); exact BK254.out)) : gb255 ≠ gb254)); clear BK254; clear HB; have BK254 := n0_; have HB := n1_; have BK255 := n2_; have GW255 := n3_; have GE255 := n4_; have NB254_255 := n5_; have NB255_254 := n6_; clear n0_ n1_ n2_ n3_ n4_ n5_ n6_; clear hb hbox hg))
 repeat (go_quiet (first | ((with_reducible refine gate_dst (N := 2) rfl ?_); (try (refine gate_guard (by rfl) ?_; dsimp only)); refine box_event ?hg (N := 2) ?hd (cs := #[.int .i64 a0_0, .slice A0_1 l0_1.length c0_1]) (t := 26) ?hr ?_; (case hd => rfl); (case hg => rfl); (case hr => first | (go_simp; done) | (go_simp; rfl)); intro gb254 hg w4 hbox hb; have n0_ := Aside0.mk (below_step (by repeat (first | (with_reducible first | exact HB.out | apply below_alloc | apply pw_below_drewN | apply below_drew1) | exact HB.out)) hb); have n1_ := Aside0.mk (hbox); have n2_ := Aside0.mk ((by rw [hg]; exact (below_size (by repeat (first | (with_reducible first | exact HB.out | apply below_alloc | apply pw_below_drewN | apply below_drew1) | exact HB.out))) : w.heap.size ≤ gb254)); have n3_ := Aside0.mk ((by rw [hg]; exact (below_size (by repeat (first | (with_reducible first | exact HB.out | apply below_alloc | apply pw_below_drewN | apply below_drew1) | exact HB.out))) : w.heap.size ≤ gb254)); clear HB; have HB := n0_; have BK254 := n1_; have GW254 := n2_; have GE254 := n3_; clear n0_ n1_ n2_ n3_; clear hb hbox hg) | ((with_reducible refine gate_dst (N := 3) rfl ?_); (try (refine gate_guard (by rfl) ?_; dsimp only)); refine box_event ?hg (N := 3) ?hd (cs := #[.int .i64 a1_0, .slice A1_1 l1_1.length c1_1]) (t := 29) ?hr ?_; (case hd => rfl); (case hg => rfl); (case hr => first | (go_simp; done) | (go_simp; rfl)); intro gb255 hg w5 hbox hb; have n0_ := Aside0.mk (blk_below (g := gb254) (o := .cells #[.int .i64 a0_0, .slice A0_1 l0_1.length c0_1] 26 (0, 0)) (by (with_reducible repeat (first | refine blk_drewN ?_ _ | refine blk_drew ?_ | refine blk_alloc ?_ _)); exact BK254.out) hb); have n1_ := Aside0.mk (below_step (by repeat (first | (with_reducible first | exact HB.out | apply below_alloc | apply pw_below_drewN | apply below_drew1 | refine below_set ?_ GE254.out) | exact HB.out)) hb); have n2_ := Aside0.mk (hbox); have n3_ := Aside0.mk ((by rw [hg]; exact (below_size (by repeat (first | (with_reducible first | exact HB.out | apply below_alloc | apply pw_below_drewN | apply below_drew1 | refine below_set ?_ GE254.out) | exact HB.out))) : w.heap.size ≤ gb255)); have n4_ := Aside0.mk ((by rw [hg]; exact (below_size (by repeat (first | (with_reducible first | exact HB.out | apply below_alloc | apply pw_below_drewN | apply below_drew1 | refine below_set ?_ GE254.out) | exact HB.out))) : w.heap.size ≤ gb255)); have n5_ := Aside0.mk ((by rw [hg]; exact Nat.ne_of_lt (blk_lt (g := gb254) (o := .cells #[.int .i64 a0_0, .slice A0_1 l0_1.length c0_1] 26 (0, 0)) (by (with_reducible repeat (first | refine blk_drewN ?_ _ | refine blk_drew ?_ | refine blk_alloc ?_ _)); exact BK254.out)) : gb254 ≠ gb255)); have n6_ := Aside0.mk ((by rw [hg]; exact Nat.ne_of_gt (blk_lt (g := gb254) (o := .cells #[.int .i64 a0_0, .slice A0_1 l0_1.length c0_1] 26 (0, 0)) (by (with_reducible repeat (first | refine blk_drewN ?_ _ | refine blk_drew ?_ | refine blk_alloc ?_ _)); exact BK254.out)) : gb255 ≠ gb254)); clear BK254; clear HB; have BK254 := n0_; have HB := n1_; have BK255 := n2_; have GW255 := n3_; have GE255 := n4_; have NB254_255 := n5_; have NB255_254 := n6_; clear n0_ n1_ n2_ n3_ n4_ n5_ n6_; clear hb hbox hg)); go_upto_region 1 with (first | ((with_reducible refine gate_dst (N := 2) rfl ?_); (try (refine gate_guard (by rfl) ?_; dsimp only)); refine box_event ?hg (N := 2) ?hd (cs := #[.int .i64 a0_0, .slice A0_1 l0_1.length c0_1]) (t := 26) ?hr ?_; (case hd => rfl); (case hg => rfl); (case hr => first | (go_simp; done) | (go_simp; rfl)); intro gb254 hg w4 hbox hb; have n0_ := Aside0.mk (below_step (by repeat (first | (with_reducible first | exact HB.out | apply below_alloc | apply pw_below_drewN | apply below_drew1) | exact HB.out)) hb); have n1_ := Aside0.mk (hbox); have n2_ := Aside0.mk ((by rw [hg]; exact (below_size (by repeat (first | (with_reducible first | exact HB.out | apply below_alloc | apply pw_below_drewN | apply below_drew1) | exact HB.out))) : w.heap.size ≤ gb254)); have n3_ := Aside0.mk ((by rw [hg]; exact (below_size (by repeat (first | (with_reducible first | exact HB.out | apply below_alloc | apply pw_below_drewN | apply below_drew1) | exact HB.out))) : w.heap.size ≤ gb254)); clear HB; have HB := n0_; have BK254 := n1_; have GW254 := n2_; have GE254 := n3_; clear n0_ n1_ n2_ n3_; clear hb hbox hg) | ((with_reducible refine gate_dst (N := 3) rfl ?_); (try (refine gate_guard (by rfl) ?_; dsimp only)); refine box_event ?hg (N := 3) ?hd (cs := #[.int .i64 a1_0, .slice A1_1 l1_1.length c1_1]) (t := 29) ?hr ?_; (case hd => rfl); (case hg => rfl); (case hr => first | (go_simp; done) | (go_simp; rfl)); intro gb255 hg w5 hbox hb; have n0_ := Aside0.mk (blk_below (g := gb254) (o := .cells #[.int .i64 a0_0, .slice A0_1 l0_1.length c0_1] 26 (0, 0)) (by (with_reducible repeat (first | refine blk_drewN ?_ _ | refine blk_drew ?_ | refine blk_alloc ?_ _)); exact BK254.out) hb); have n1_ := Aside0.mk (below_step (by repeat (first | (with_reducible first | exact HB.out | apply below_alloc | apply pw_below_drewN | apply below_drew1 | refine below_set ?_ GE254.out) | exact HB.out)) hb); have n2_ := Aside0.mk (hbox); have n3_ := Aside0.mk ((by rw [hg]; exact (below_size (by repeat (first | (with_reducible first | exact HB.out | apply below_alloc | apply pw_below_drewN | apply below_drew1 | refine below_set ?_ GE254.out) | exact HB.out))) : w.heap.size ≤ gb255)); have n4_ := Aside0.mk ((by rw [hg]; exact (below_size (by repeat (first | (with_reducible first | exact HB.out | apply below_alloc | apply pw_below_drewN | apply below_drew1 | refine below_set ?_ GE254.out) | exact HB.out))) : w.heap.size ≤ gb255)); have n5_ := Aside0.mk ((by rw [hg]; exact Nat.ne_of_lt (blk_lt (g := gb254) (o := .cells #[.int .i64 a0_0, .slice A0_1 l0_1.length c0_1] 26 (0, 0)) (by (with_reducible repeat (first | refine blk_drewN ?_ _ | refine blk_drew ?_ | refine blk_alloc ?_ _)); exact BK254.out)) : gb254 ≠ gb255)); have n6_ := Aside0.mk ((by rw [hg]; exact Nat.ne_of_gt (blk_lt (g := gb254) (o := .cells #[.int .i64 a0_0, .slice A0_1 l0_1.length c0_1] 26 (0, 0)) (by (with_reducible repeat (first | refine blk_drewN ?_ _ | refine blk_drew ?_ | refine blk_alloc ?_ _)); exact BK254.out)) : gb255 ≠ gb254)); clear BK254; clear HB; have BK254 := n0_; have HB := n1_; have BK255 := n2_; have GW255 := n3_; have GE255 := n4_; have NB254_255 := n5_; have NB255_254 := n6_; clear n0_ n1_ n2_ n3_ n4_ n5_ n6_; clear hb hbox hg)))
 (try simp only [Act.put, List.setIfInBounds_toArray, List.set_cons_zero, List.set_cons_succ])
 go_cut [19] (fun v19 wc => ∃ (kq : Nat) (x19_2 : Bool), v19 = .bool x19_2 ∧ Aside0 (posthorselaw08_same.j0 kq x19_2 a0_0 l0_1 a1_0 l1_1 = some r) ∧ Aside0 (kq ≤ k) ∧ Aside0 (wc.heap[gb254]? = some (.cells #[.int .i64 a0_0, (.slice A0_1 l0_1.length c0_1)] 26 (0, 0))) ∧ Aside0 (wc.heap[gb255]? = some (.cells #[.int .i64 a1_0, (.slice A1_1 l1_1.length c1_1)] 29 (0, 0))) ∧ Aside0 (Below w.heap.size w wc))
 case first =>
  have H := HC3.out
  clear HC3
  by_cases c6 : a0_0 = a1_0
  ·rw [if_pos c6] at H
   have c6b0 : (a0_0 == a1_0) = true := beq_iff_eq.mpr c6
   have c6b1 : (a0_0 != a1_0) = false := bne_eq_false_iff_eq.mpr c6
   clear c6
   (first | rw [c6b0] | (simp only [i64_w, i32_w]; rw [c6b0]) | skip)
   have H' := Aside0.mk H
   clear H
   have hnb7 := NB254_255.out
   have hnc7 := NB255_254.out
   have hcz8_0 : w5.cell? ⟨gb254, 0, none⟩ = some (.int .i64 a0_0) := (blk_cell BK254.out 0).trans rfl
   have hcz8_1 : w5.cell? ⟨gb254, 1, none⟩ = some (.slice A0_1 l0_1.length c0_1) := (blk_cell BK254.out 1).trans rfl
   have hfz8_0 := blk_frozen BK254.out 0
   have hfz8_1 := blk_frozen BK254.out 1
   have hcz9_0 : w5.cell? ⟨gb255, 0, none⟩ = some (.int .i64 a1_0) := (blk_cell BK255.out 0).trans rfl
   have hcz9_1 : w5.cell? ⟨gb255, 1, none⟩ = some (.slice A1_1 l1_1.length c1_1) := (blk_cell BK255.out 1).trans rfl
   have hfz9_0 := blk_frozen BK255.out 0
   have hfz9_1 := blk_frozen BK255.out 1
   go_wp2
   repeat (go_quiet (fail); try go_wp2)
   go_meet
   case rel => exact ⟨_, (((l0_1.length : Int) != (l1_1.length : Int))), (by first | rfl | (simp; done) | (simp [*]; done)), H', ⟨by first | omega | exact Nat.le_refl _⟩, ⟨by (with_reducible repeat (first | refine blk_drewN ?_ _ | refine blk_drew ?_ | refine blk_alloc ?_ _)); exact BK254.out⟩, ⟨by (with_reducible repeat (first | refine blk_drewN ?_ _ | refine blk_drew ?_ | refine blk_alloc ?_ _)); exact BK255.out⟩, ⟨by repeat (first | (with_reducible first | exact HB.out | apply below_alloc | apply pw_below_drewN | apply below_drew1 | refine below_set ?_ GE254.out | refine below_set ?_ GE255.out) | exact HB.out)⟩⟩
  ·rw [if_neg c6] at H
   have c6b0 : (a0_0 == a1_0) = false := beq_eq_false_iff_ne.mpr c6
   have c6b1 : (a0_0 != a1_0) = true := bne_iff_ne.mpr c6
   (first | rw [c6b0] | (simp only [i64_w, i32_w]; rw [c6b0]) | skip)
   have H' := Aside0.mk H
   clear H
   have hnb10 := NB254_255.out
   have hnc10 := NB255_254.out
   have hcz11_0 : w5.cell? ⟨gb254, 0, none⟩ = some (.int .i64 a0_0) := (blk_cell BK254.out 0).trans rfl
   have hcz11_1 : w5.cell? ⟨gb254, 1, none⟩ = some (.slice A0_1 l0_1.length c0_1) := (blk_cell BK254.out 1).trans rfl
   have hfz11_0 := blk_frozen BK254.out 0
   have hfz11_1 := blk_frozen BK254.out 1
   have hcz12_0 : w5.cell? ⟨gb255, 0, none⟩ = some (.int .i64 a1_0) := (blk_cell BK255.out 0).trans rfl
   have hcz12_1 : w5.cell? ⟨gb255, 1, none⟩ = some (.slice A1_1 l1_1.length c1_1) := (blk_cell BK255.out 1).trans rfl
   have hfz12_0 := blk_frozen BK255.out 0
   have hfz12_1 := blk_frozen BK255.out 1
   go_wp2
   repeat (go_quiet (fail); try go_wp2)
   go_meet
   case rel => exact ⟨_, (true), (by first | rfl | (simp; done) | (simp [*]; done)), H', ⟨by first | omega | exact Nat.le_refl _⟩, ⟨by (with_reducible repeat (first | refine blk_drewN ?_ _ | refine blk_drew ?_ | refine blk_alloc ?_ _)); exact BK254.out⟩, ⟨by (with_reducible repeat (first | refine blk_drewN ?_ _ | refine blk_drew ?_ | refine blk_alloc ?_ _)); exact BK255.out⟩, ⟨by repeat (first | (with_reducible first | exact HB.out | apply below_alloc | apply pw_below_drewN | apply below_drew1 | refine below_set ?_ GE254.out | refine below_set ?_ GE255.out) | exact HB.out)⟩⟩
 case rest =>
  clear HC3
  try clear c1
  try clear p2
  try clear c6
  try clear c6b0
  try clear c6b1
  try clear c7
  try clear c10
  try clear hcz11_0
  try clear hcz11_1
  try clear hcz12_0
  try clear hcz12_1
  try clear hcz8_0
  try clear hcz8_1
  try clear hcz9_0
  try clear hcz9_1
  try clear hfz11_0
  try clear hfz11_1
  try clear hfz12_0
  try clear hfz12_1
  try clear hfz8_0
  try clear hfz8_1
  try clear hfz9_0
  try clear hfz9_1
  obtain ⟨kq, x19_2, rfl, HA, HJ2, BK254, BK255, HB⟩ := hcut
  cases kq with
  | zero => exact absurd HA.out (by simp [posthorselaw08_same.j0])
  | succ kj2 =>
   have H := HA.out
   clear HA
   simp only [posthorselaw08_same.j0] at H
   by_cases c13 : x19_2 = true
   ·subst c13
    have H1 : (some false) = some r := by rw [if_pos rfl] at H; exact H
    clear H
    have H := H1
    clear H1
    obtain rfl := Option.some.inj H
    go_wp2
    repeat (go_quiet (fail); try go_wp2)
    go_ret
    exact ⟨by first | rfl | (simp [errW_none, errW_some] <;> rfl) | (simp [*, errW_none, errW_some] <;> rfl), by repeat (first | (with_reducible first | exact HB.out | apply below_alloc | apply pw_below_drewN | apply below_drew1 | refine below_set ?_ GE254.out | refine below_set ?_ GE255.out) | exact HB.out)⟩
   ·replace c13 := Bool.eq_false_iff.mpr c13
    subst c13
    have H1 : (posthorselaw08_same.l0 kj2 0 a0_0 l0_1 a1_0 l1_1) = some r := by rw [if_neg (show ¬ (false = true) by decide)] at H; exact H
    clear H
    have H := H1
    clear H1
    have H' := Aside0.mk H
    clear H
    go_wp2
    repeat (go_quiet (fail); try go_wp2)
    go_loopg [5] kj2 (fun kq v5 w' => ∃ (x5_2 : Int), v5 = .int .i64 x5_2 ∧ Aside0 (posthorselaw08_same.l0 kq x5_2 a0_0 l0_1 a1_0 l1_1 = some r) ∧ Aside0 (kq ≤ kj2) ∧ Aside0 (w'.heap[gb254]? = some (.cells #[.int .i64 a0_0, (.slice A0_1 l0_1.length c0_1)] 26 (0, 0))) ∧ Aside0 (w'.heap[gb255]? = some (.cells #[.int .i64 a1_0, (.slice A1_1 l1_1.length c1_1)] 29 (0, 0))) ∧ Aside0 (Below w.heap.size w w'))
    case atStart => exact ⟨(0), (by first | rfl | (simp; done) | (simp [*]; done)), H', ⟨Nat.le_refl _⟩, ⟨by (with_reducible repeat (first | refine blk_drewN ?_ _ | refine blk_drew ?_ | refine blk_alloc ?_ _)); exact BK254.out⟩, ⟨by (with_reducible repeat (first | refine blk_drewN ?_ _ | refine blk_drew ?_ | refine blk_alloc ?_ _)); exact BK255.out⟩, ⟨by repeat (first | (with_reducible first | exact HB.out | apply below_alloc | apply pw_below_drewN | apply below_drew1 | refine below_set ?_ GE254.out | refine below_set ?_ GE255.out) | exact HB.out)⟩⟩
    case round =>
     clear H'
     try clear c1
     try clear p2
     try clear c6
     try clear c6b0
     try clear c6b1
     try clear c7
     try clear c10
     try clear c13
     try clear hcz11_0
     try clear hcz11_1
     try clear hcz12_0
     try clear hcz12_1
     try clear hcz8_0
     try clear hcz8_1
     try clear hcz9_0
     try clear hcz9_1
     try clear hfz11_0
     try clear hfz11_1
     try clear hfz12_0
     try clear hfz12_1
     try clear hfz8_0
     try clear hfz8_1
     try clear hfz9_0
     try clear hfz9_1
     try clear p2
     obtain ⟨x5_2, rfl, HA, HK2, BK254, BK255, HB⟩ := hrel
     cases gk with
     | zero => exact absurd HA.out (by simp [posthorselaw08_same.l0])
     | succ k2 =>
      have H := HA.out
      clear HA
      simp only [posthorselaw08_same.l0] at H
      by_cases c14 : x5_2 < (l1_1.length : Int)
      ·rw [if_pos c14] at H
       have c14b0 : decide (x5_2 < (l1_1.length : Int)) = true := decide_eq_true c14
       clear c14
       by_cases c15 : 0 ≤ x5_2
       ·rw [if_pos c15] at H
        have c15b0 : decide (0 ≤ x5_2) = true := decide_eq_true c15
        clear c15
        by_cases c16 : x5_2 < (l0_1.length : Int)
        ·rw [if_pos c16] at H
         have c16b0 : decide (x5_2 < (l0_1.length : Int)) = true := decide_eq_true c16
         clear c16
         by_cases c17 : (!(((rd_T51 l0_1 x5_2).f0) == ((rd_T56 l1_1 x5_2).f0)) || (!(((rd_T51 l0_1 x5_2).f1) == ((rd_T56 l1_1 x5_2).f1)))) = true
         ·rw [if_pos c17] at H
          have c17b0 : (!(((rd_T51 l0_1 x5_2).f0) == ((rd_T56 l1_1 x5_2).f0)) || (!(((rd_T51 l0_1 x5_2).f1) == ((rd_T56 l1_1 x5_2).f1)))) = true := c17
          clear c17
          obtain rfl := Option.some.inj H
          have hnb18 := NB255_254.out
          have hnc18 := NB254_255.out
          have hcz19_0 : wr.cell? ⟨gb255, 0, none⟩ = some (.int .i64 a1_0) := (blk_cell BK255.out 0).trans rfl
          have hcz19_1 : wr.cell? ⟨gb255, 1, none⟩ = some (.slice A1_1 l1_1.length c1_1) := (blk_cell BK255.out 1).trans rfl
          have hfz19_0 := blk_frozen BK255.out 0
          have hfz19_1 := blk_frozen BK255.out 1
          have hcz20_0 : wr.cell? ⟨gb254, 0, none⟩ = some (.int .i64 a0_0) := (blk_cell BK254.out 0).trans rfl
          have hcz20_1 : wr.cell? ⟨gb254, 1, none⟩ = some (.slice A0_1 l0_1.length c0_1) := (blk_cell BK254.out 1).trans rfl
          have hfz20_0 := blk_frozen BK254.out 0
          have hfz20_1 := blk_frozen BK254.out 1
          have p256 : 0 ≤ (x5_2 : Int) := of_decide_eq_true (by first | (with_reducible assumption) | assumption)
          have q256 : x5_2 < (l0_1.length : Int) := of_decide_eq_true (by first | (with_reducible assumption) | assumption)
          obtain ⟨ad256, e256, hx256_0, hx256_1⟩ := at_T51 HR0_1.out x5_2 p256 q256
          cases e256
          replace hx256_0 := (HB.out.cell (World.block_lt_of_cell? w _ hx256_0)).trans hx256_0
          replace hx256_1 := (HB.out.cell (World.block_lt_of_cell? w _ hx256_1)).trans hx256_1
          replace p256 := eq_true p256
          replace q256 := eq_true q256
          have p257 : 0 ≤ (x5_2 : Int) := of_decide_eq_true (by first | (with_reducible assumption) | assumption)
          have q257 : x5_2 < (l1_1.length : Int) := of_decide_eq_true (by first | (with_reducible assumption) | assumption)
          obtain ⟨ad257, e257, hx257_0, hx257_1⟩ := at_T56 HR1_1.out x5_2 p257 q257
          cases e257
          replace hx257_0 := (HB.out.cell (World.block_lt_of_cell? w _ hx257_0)).trans hx257_0
          replace hx257_1 := (HB.out.cell (World.block_lt_of_cell? w _ hx257_1)).trans hx257_1
          replace p257 := eq_true p257
          replace q257 := eq_true q257
          go_wp2
          repeat (go_quiet (fail); try go_wp2)
          go_ret
          exact ⟨by first | rfl | (simp [errW_none, errW_some] <;> rfl) | (simp [*, errW_none, errW_some] <;> rfl), by repeat (first | (with_reducible first | exact HB.out | apply below_alloc | apply pw_below_drewN | apply below_drew1 | refine below_set ?_ GE254.out | refine below_set ?_ GE255.out) | exact HB.out)⟩
         ·rw [if_neg c17] at H
          have c17b0 : (!(((rd_T51 l0_1 x5_2).f0) == ((rd_T56 l1_1 x5_2).f0)) || (!(((rd_T51 l0_1 x5_2).f1) == ((rd_T56 l1_1 x5_2).f1)))) = false := by simpa using c17
          clear c17
          have H' := Aside0.mk H
          clear H
          have hnb21 := NB255_254.out
          have hnc21 := NB254_255.out
          have hcz22_0 : wr.cell? ⟨gb255, 0, none⟩ = some (.int .i64 a1_0) := (blk_cell BK255.out 0).trans rfl
          have hcz22_1 : wr.cell? ⟨gb255, 1, none⟩ = some (.slice A1_1 l1_1.length c1_1) := (blk_cell BK255.out 1).trans rfl
          have hfz22_0 := blk_frozen BK255.out 0
          have hfz22_1 := blk_frozen BK255.out 1
          have hcz23_0 : wr.cell? ⟨gb254, 0, none⟩ = some (.int .i64 a0_0) := (blk_cell BK254.out 0).trans rfl
          have hcz23_1 : wr.cell? ⟨gb254, 1, none⟩ = some (.slice A0_1 l0_1.length c0_1) := (blk_cell BK254.out 1).trans rfl
          have hfz23_0 := blk_frozen BK254.out 0
          have hfz23_1 := blk_frozen BK254.out 1
          have p256 : 0 ≤ (x5_2 : Int) := of_decide_eq_true (by first | (with_reducible assumption) | assumption)
          have q256 : x5_2 < (l0_1.length : Int) := of_decide_eq_true (by first | (with_reducible assumption) | assumption)
          obtain ⟨ad256, e256, hx256_0, hx256_1⟩ := at_T51 HR0_1.out x5_2 p256 q256
          cases e256
          replace hx256_0 := (HB.out.cell (World.block_lt_of_cell? w _ hx256_0)).trans hx256_0
          replace hx256_1 := (HB.out.cell (World.block_lt_of_cell? w _ hx256_1)).trans hx256_1
          replace p256 := eq_true p256
          replace q256 := eq_true q256
          have p257 : 0 ≤ (x5_2 : Int) := of_decide_eq_true (by first | (with_reducible assumption) | assumption)
          have q257 : x5_2 < (l1_1.length : Int) := of_decide_eq_true (by first | (with_reducible assumption) | assumption)
          obtain ⟨ad257, e257, hx257_0, hx257_1⟩ := at_T56 HR1_1.out x5_2 p257 q257
          cases e257
          replace hx257_0 := (HB.out.cell (World.block_lt_of_cell? w _ hx257_0)).trans hx257_0
          replace hx257_1 := (HB.out.cell (World.block_lt_of_cell? w _ hx257_1)).trans hx257_1
          replace p257 := eq_true p257
          replace q257 := eq_true q257
          go_wp2
          repeat (go_quiet (fail); try go_wp2)
          go_roundg k2
          case measure => have := HJ2.out; have := HK2.out; omega
          case rel => exact ⟨(wrap64 (x5_2 + 1)), (by first | rfl | (simp; done) | (simp [*]; done)), H', ⟨by have := HJ2.out; have := HK2.out; omega⟩, ⟨by (with_reducible repeat (first | refine blk_drewN ?_ _ | refine blk_drew ?_ | refine blk_alloc ?_ _)); exact BK254.out⟩, ⟨by (with_reducible repeat (first | refine blk_drewN ?_ _ | refine blk_drew ?_ | refine blk_alloc ?_ _)); exact BK255.out⟩, ⟨by repeat (first | (with_reducible first | exact HB.out | apply below_alloc | apply pw_below_drewN | apply below_drew1 | refine below_set ?_ GE254.out | refine below_set ?_ GE255.out) | exact HB.out)⟩⟩
        ·rw [if_neg c16] at H
         exact absurd H (by simp)
       ·rw [if_neg c15] at H
        exact absurd H (by simp)
      ·rw [if_neg c14] at H
       have c14b0 : decide (x5_2 < (l1_1.length : Int)) = false := decide_eq_false c14
       clear c14
       obtain rfl := Option.some.inj H
       have hnb24 := NB255_254.out
       have hnc24 := NB254_255.out
       have hcz25_0 : wr.cell? ⟨gb255, 0, none⟩ = some (.int .i64 a1_0) := (blk_cell BK255.out 0).trans rfl
       have hcz25_1 : wr.cell? ⟨gb255, 1, none⟩ = some (.slice A1_1 l1_1.length c1_1) := (blk_cell BK255.out 1).trans rfl
       have hfz25_0 := blk_frozen BK255.out 0
       have hfz25_1 := blk_frozen BK255.out 1
       go_wp2
       repeat (go_quiet (fail); try go_wp2)
       go_ret
       exact ⟨by first | rfl | (simp [errW_none, errW_some] <;> rfl) | (simp [*, errW_none, errW_some] <;> rfl), by repeat (first | (with_reducible first | exact HB.out | apply below_alloc | apply pw_below_drewN | apply below_drew1 | refine below_set ?_ GE254.out | refine below_set ?_ GE255.out) | exact HB.out)⟩

/-! ### posthorseref03_Seal: function 15 -/
mutual
def posthorseref03_Seal.j0 : Nat → Int → ByteArray → Bool → Option (ByteArray × Int)
 | 0, _, _, _ => none
 | k + 1, x0, x1, x12 => if x12 = true then (some ((⟨#[]⟩ : ByteArray), 1)) else (if (x1.size : Int) > 504 then (some ((⟨#[]⟩ : ByteArray), 10)) else ((some (([(x0) % 256, 0] : List Int) : List Int)).bind fun y258 => (if 2 + (strOfNums y258).size ≤ 9223372036854775807 then (if ((⟨#[80, 72]⟩ : ByteArray) ++ (strOfNums y258)).size + x1.size ≤ 9223372036854775807 then (posthorseref03_Seal.l0 k (((⟨#[80, 72]⟩ : ByteArray) ++ (strOfNums y258)) ++ x1)) else (none)) else (none))))
def posthorseref03_Seal.l0 : Nat → ByteArray → Option (ByteArray × Int)
 | 0, _ => none
 | k + 1, x6 => if (x6.size : Int) < 508 then (if x6.size + (⟨#[0]⟩ : ByteArray).size ≤ 9223372036854775807 then (posthorseref03_Seal.l0 k (x6 ++ (⟨#[0]⟩ : ByteArray))) else (none)) else ((posthorseref03_Sum.f k x6).bind fun t261 => ((posthorseref01_Put.f k (wrap64 (t261)) 4).bind fun t262 => (if x6.size + t262.size ≤ 9223372036854775807 then (some (x6 ++ t262, 0)) else (none))))
end
theorem posthorseref03_Seal.l0_z (x6 : ByteArray) : posthorseref03_Seal.l0 0 x6 = none := rfl
theorem posthorseref03_Seal.l0_s (k : Nat) (x6 : ByteArray) : posthorseref03_Seal.l0 (k + 1) x6 = (if (x6.size : Int) < 508 then (if x6.size + (⟨#[0]⟩ : ByteArray).size ≤ 9223372036854775807 then (posthorseref03_Seal.l0 k (x6 ++ (⟨#[0]⟩ : ByteArray))) else (none)) else ((posthorseref03_Sum.f k x6).bind fun t261 => ((posthorseref01_Put.f k (wrap64 (t261)) 4).bind fun t262 => (if x6.size + t262.size ≤ 9223372036854775807 then (some (x6 ++ t262, 0)) else (none))))) := rfl
def posthorseref03_Seal.f (k : Nat) (a0 : Int) (a1 : ByteArray) : Option (ByteArray × Int) := if a0 < 1 then (posthorseref03_Seal.j0 k a0 a1 true) else (posthorseref03_Seal.j0 k a0 a1 (decide (a0 > 255)))
set_option maxRecDepth 100000 in
theorem posthorseref03_Seal.mono_l : ∀ k, (∀ y0 y1 y2, LeO (posthorseref03_Seal.j0 k y0 y1 y2) (posthorseref03_Seal.j0 (k + 1) y0 y1 y2)) ∧ (∀ y0, LeO (posthorseref03_Seal.l0 k y0) (posthorseref03_Seal.l0 (k + 1) y0))
 | 0 => ⟨fun _ _ _ r h => by first | (rw [posthorseref03_Seal.j0] at h; cases h) | simp [posthorseref03_Seal.j0] at h, fun _ r h => by first | (rw [posthorseref03_Seal.l0_z] at h; cases h) | simp [posthorseref03_Seal.l0_z] at h⟩
 | k + 1 => by
  obtain ⟨ih0, ih1⟩ := posthorseref03_Seal.mono_l k
  refine ⟨?_, ?_⟩
  ·intro y0 y1 y2
   unfold posthorseref03_Seal.j0
   repeat' first
   | (with_reducible exact ih0 _ _ _)
   | (with_reducible exact ih1 _)
   | (with_reducible exact posthorseref01_Put.mono _ _ _)
   | (with_reducible exact posthorseref03_Sum.mono _ _)
   | (with_reducible exact LeO.refl _)
   | (with_reducible exact LeO.none _)
   | (with_reducible refine LeO.ite ?_ ?_)
   | (with_reducible refine LeO.bind ?_ (fun _ => ?_))
   | exact ih0 _ _ _
   | exact ih1 _
   | exact posthorseref01_Put.mono _ _ _
   | exact posthorseref03_Sum.mono _ _
   | exact LeO.none _
   | refine LeO.ite ?_ ?_
   | refine LeO.bind ?_ (fun _ => ?_)
  ·intro y0
   rw [posthorseref03_Seal.l0_s, posthorseref03_Seal.l0_s]
   repeat' first
   | (with_reducible exact ih0 _ _ _)
   | (with_reducible exact ih1 _)
   | (with_reducible exact posthorseref01_Put.mono _ _ _)
   | (with_reducible exact posthorseref03_Sum.mono _ _)
   | (with_reducible exact LeO.refl _)
   | (with_reducible exact LeO.none _)
   | (with_reducible refine LeO.ite ?_ ?_)
   | (with_reducible refine LeO.bind ?_ (fun _ => ?_))
   | exact ih0 _ _ _
   | exact ih1 _
   | exact posthorseref01_Put.mono _ _ _
   | exact posthorseref03_Sum.mono _ _
   | exact LeO.none _
   | refine LeO.ite ?_ ?_
   | refine LeO.bind ?_ (fun _ => ?_)
theorem posthorseref03_Seal.mono : ∀ a0 a1 k, LeO (posthorseref03_Seal.f k a0 a1) (posthorseref03_Seal.f (k + 1) a0 a1) := by
 intro a0 a1 k
 obtain ⟨ih0, ih1⟩ := posthorseref03_Seal.mono_l k
 unfold posthorseref03_Seal.f
 repeat' first
   | (with_reducible exact ih0 _ _ _)
   | (with_reducible exact ih1 _)
   | (with_reducible exact posthorseref01_Put.mono _ _ _)
   | (with_reducible exact posthorseref03_Sum.mono _ _)
   | (with_reducible exact LeO.refl _)
   | (with_reducible exact LeO.none _)
   | (with_reducible refine LeO.ite ?_ ?_)
   | (with_reducible refine LeO.bind ?_ (fun _ => ?_))
   | exact ih0 _ _ _
   | exact ih1 _
   | exact posthorseref01_Put.mono _ _ _
   | exact posthorseref03_Sum.mono _ _
   | exact LeO.none _
   | refine LeO.ite ?_ ?_
   | refine LeO.bind ?_ (fun _ => ?_)
set_option maxHeartbeats 8000000 in
set_option maxRecDepth 100000 in
theorem posthorseref03_Seal.calls (k : Nat) (a0 : Int) (a1 : ByteArray) (r1 : ByteArray) (r2 : Int) (w : World) (h : posthorseref03_Seal.f k a0 a1 = some (r1, r2)) :
  Calls Tryz.prog 15 #[.int .i64 a0, .string a1] w fun e w' => e = .returned (.tuple #[.string r1, .int .i64 r2]) ∧ Below w.heap.size w w' := by
 have HB := Aside0.mk (Below.refl w.heap.size w)
 have H : (if a0 < 1 then (posthorseref03_Seal.j0 k a0 a1 true) else (posthorseref03_Seal.j0 k a0 a1 (decide (a0 > 255)))) = some (r1, r2) := h
 clear h
 have HC3 := Aside0.mk H
 clear H
 go_enter Tryz.func15, Tryz.ntmps15
 go_upto_region 1 with (fail)
 go_cut [12] (fun v12 wc => ∃ (kq : Nat) (x12_2 : Bool), v12 = .bool x12_2 ∧ Aside0 (posthorseref03_Seal.j0 kq a0 a1 x12_2 = some (r1, r2)) ∧ Aside0 (kq ≤ k) ∧ Aside0 (Below w.heap.size w wc))
 case first =>
  have H := HC3.out
  clear HC3
  by_cases c4 : a0 < 1
  ·rw [if_pos c4] at H
   have c4b0 : decide (a0 < 1) = true := decide_eq_true c4
   clear c4
   (first | rw [c4b0] | (simp only [i64_w, i32_w]; rw [c4b0]) | skip)
   have H' := Aside0.mk H
   clear H
   go_wp2
   go_meet
   case rel => exact ⟨_, (true), (by first | rfl | (simp; done) | (simp [*]; done)), H', ⟨by first | omega | exact Nat.le_refl _⟩, ⟨by repeat (first | (with_reducible first | exact HB.out | apply below_alloc | apply pw_below_drewN | apply below_drew1) | exact HB.out)⟩⟩
  ·rw [if_neg c4] at H
   have c4b0 : decide (a0 < 1) = false := decide_eq_false c4
   clear c4
   (first | rw [c4b0] | (simp only [i64_w, i32_w]; rw [c4b0]) | skip)
   have H' := Aside0.mk H
   clear H
   go_wp2
   go_meet
   case rel => exact ⟨_, (decide (a0 > 255)), (by first | rfl | (simp; done) | (simp [*]; done)), H', ⟨by first | omega | exact Nat.le_refl _⟩, ⟨by repeat (first | (with_reducible first | exact HB.out | apply below_alloc | apply pw_below_drewN | apply below_drew1) | exact HB.out)⟩⟩
 case rest =>
  clear HC3
  try clear c1
  try clear p2
  try clear c4
  try clear c4b0
  obtain ⟨kq, x12_2, rfl, HA, HJ2, HB⟩ := hcut
  cases kq with
  | zero => exact absurd HA.out (by simp [posthorseref03_Seal.j0])
  | succ kj2 =>
   have H := HA.out
   clear HA
   simp only [posthorseref03_Seal.j0] at H
   by_cases c5 : x12_2 = true
   ·subst c5
    have H1 : (some ((⟨#[]⟩ : ByteArray), 1)) = some (r1, r2) := by rw [if_pos rfl] at H; exact H
    clear H
    have H := H1
    clear H1
    simp only [Option.some.injEq, Prod.mk.injEq] at H
    obtain ⟨rfl, rfl⟩ := H
    go_wp2
    go_ret2
    exact ⟨by first | rfl | (simp [errW_none, errW_some] <;> rfl) | (simp [*, errW_none, errW_some] <;> rfl), by repeat (first | (with_reducible first | exact HB.out | apply below_alloc | apply pw_below_drewN | apply below_drew1) | exact HB.out)⟩
   ·replace c5 := Bool.eq_false_iff.mpr c5
    subst c5
    have H1 : (if (a1.size : Int) > 504 then (some ((⟨#[]⟩ : ByteArray), 10)) else ((some (([(a0) % 256, 0] : List Int) : List Int)).bind fun y258 => (if 2 + (strOfNums y258).size ≤ 9223372036854775807 then (if ((⟨#[80, 72]⟩ : ByteArray) ++ (strOfNums y258)).size + a1.size ≤ 9223372036854775807 then (posthorseref03_Seal.l0 kj2 (((⟨#[80, 72]⟩ : ByteArray) ++ (strOfNums y258)) ++ a1)) else (none)) else (none)))) = some (r1, r2) := by rw [if_neg (show ¬ (false = true) by decide)] at H; exact H
    clear H
    have H := H1
    clear H1
    by_cases c6 : (a1.size : Int) > 504
    ·rw [if_pos c6] at H
     have c6b0 : decide (504 < (a1.size : Int)) = true := decide_eq_true c6
     have c6b1 : decide (504 < a1.size) = true := decide_eq_true (by omega)
     clear c6
     simp only [Option.some.injEq, Prod.mk.injEq] at H
     obtain ⟨rfl, rfl⟩ := H
     go_wp2
     go_ret2
     exact ⟨by first | rfl | (simp [errW_none, errW_some] <;> rfl) | (simp [*, errW_none, errW_some] <;> rfl), by repeat (first | (with_reducible first | exact HB.out | apply below_alloc | apply pw_below_drewN | apply below_drew1) | exact HB.out)⟩
    ·rw [if_neg c6] at H
     have c6b0 : decide (504 < (a1.size : Int)) = false := decide_eq_false c6
     have c6b1 : decide (504 < a1.size) = false := decide_eq_false (by omega)
     clear c6
     obtain ⟨y258, hy258⟩ : ∃ y_ : List Int, y_ = (([(a0) % 256, 0] : List Int)) := ⟨_, rfl⟩
     replace H : (if 2 + (strOfNums y258).size ≤ 9223372036854775807 then (if ((⟨#[80, 72]⟩ : ByteArray) ++ (strOfNums y258)).size + a1.size ≤ 9223372036854775807 then (posthorseref03_Seal.l0 kj2 (((⟨#[80, 72]⟩ : ByteArray) ++ (strOfNums y258)) ++ a1)) else (none)) else (none)) = some (r1, r2) := by first | (rw [hy258]; with_reducible exact H) | (have H2_ := (Option.bind_some _ _).symm.trans H; rw [hy258]; with_reducible exact H2_) | (have H2_ := (Option.bind_some _ _).symm.trans H; with_reducible exact H2_) | with_reducible exact H | (rw [hy258]; exact H) | exact H
     have Ny258 := Aside0.mk hy258
     clear hy258
     by_cases c7 : 2 + (strOfNums y258).size ≤ 9223372036854775807
     ·rw [if_pos c7] at H
      have c7b0 := eq_true c7
      try (have c7sa0 := c7b0; simp only [ByteArray.size_append, Int.natCast_add] at c7sa0)
      have c7b1 : decide (2 + (strOfNums y258).size ≤ 9223372036854775807) = true := decide_eq_true c7
      try have c7b2 : (9223372036854775807 < 2 + (strOfNums y258).size) = False := eq_false (Nat.not_lt.2 c7)
      by_cases c8 : ((⟨#[80, 72]⟩ : ByteArray) ++ (strOfNums y258)).size + a1.size ≤ 9223372036854775807
      ·rw [if_pos c8] at H
       have c8b0 := eq_true c8
       try (have c8sa0 := c8b0; simp only [ByteArray.size_append, Int.natCast_add] at c8sa0)
       have c8b1 : decide (((⟨#[80, 72]⟩ : ByteArray) ++ (strOfNums y258)).size + a1.size ≤ 9223372036854775807) = true := decide_eq_true c8
       try (have c8sa1 := c8b1; simp only [ByteArray.size_append, Int.natCast_add] at c8sa1)
       try have c8b2 : (9223372036854775807 < ((⟨#[80, 72]⟩ : ByteArray) ++ (strOfNums y258)).size + a1.size) = False := eq_false (Nat.not_lt.2 c8)
       try have c8sd0 := eq_true (show 2 + (strOfNums y258).size + a1.size ≤ 9223372036854775807 from by have h_ := c8; simp only [ByteArray.size_append] at h_; have e0_ : (⟨#[80, 72]⟩ : ByteArray).size = 2 := rfl; omega)
       try have c8sd1 : decide (2 + (strOfNums y258).size + a1.size ≤ 9223372036854775807) = true := decide_eq_true (by have h_ := c8; simp only [ByteArray.size_append] at h_; have e0_ : (⟨#[80, 72]⟩ : ByteArray).size = 2 := rfl; omega)
       try have c8sd2 : (9223372036854775807 < 2 + (strOfNums y258).size + a1.size) = False := eq_false (by have h_ := c8; simp only [ByteArray.size_append] at h_; have e0_ : (⟨#[80, 72]⟩ : ByteArray).size = 2 := rfl; omega)
       have H' := Aside0.mk H
       clear H
       go_wp2_with (first | ((with_reducible refine gate_dst (N := 18) rfl ?_); refine Kd.R_lit (Kd.int .u8) _ 5 ?hg (N := 18) ?hd (xs := ([(a0) % 256, 0] : List Int)) (inner := [.int .u8 ((a0) % 256), .int .u8 0]) (ok := fun _ => True) (okp := fun _ => True) ?hr ?hp (fun _ hk => hk) trivial (Below.refl _ _) (Nat.le_refl _) (by simp) ?_; (case hd => rfl); (case hg => rfl); (case hr => first | (go_simp; done) | (go_simp; rfl)); (case hp => exact (Reps.one (show Kd.M (Kd.int .u8) _ _ _ ((a0) % 256) [.int .u8 ((a0) % 256)] from rfl) (Reps.one (show Kd.M (Kd.int .u8) _ _ _ 0 [.int .u8 0] from rfl) (Reps.none _ _)))); intro v259 w9 ho10 hb hg_ hnew_; clear hg_ hnew_; (first | rw [← Ny258.out] at ho10 | (simp only [Int.reduceToNat] at ho10; rw [← Ny258.out] at ho10)); have n0_ := Aside0.mk (Kd.R_lower ho10 (below_size (by repeat (first | (with_reducible first | exact HB.out | apply below_alloc | apply pw_below_drewN | apply below_drew1) | exact HB.out)))); have n1_ := Aside0.mk (below_step (by repeat (first | (with_reducible first | exact HB.out | apply below_alloc | apply pw_below_drewN | apply below_drew1) | exact HB.out)) hb); clear HB; have HO260 := n0_; have HB := n1_; clear n0_ n1_; clear hb ho10; have hcv11 := own_string (P := Tryz.prog) Tryz.underlying59 Tryz.underlying5 Tryz.underlying9 (Kd.own_of_R HO260.out)))
       go_loopg [6] kj2 (fun kq v6 w' => ∃ (x6_2 : ByteArray), v6 = .string x6_2 ∧ Aside0 (posthorseref03_Seal.l0 kq x6_2 = some (r1, r2)) ∧ Aside0 (kq ≤ kj2) ∧ Aside0 (Below w.heap.size w w'))
       case atStart => exact ⟨(((⟨#[80, 72]⟩ : ByteArray) ++ (strOfNums y258)) ++ a1), (by first | rfl | (simp; done) | (simp [*]; done)), H', ⟨Nat.le_refl _⟩, ⟨by repeat (first | (with_reducible first | exact HB.out | apply below_alloc | apply pw_below_drewN | apply below_drew1) | exact HB.out)⟩⟩
       case round =>
        clear H'
        try clear c1
        try clear hcv1
        try clear p2
        try clear c4
        try clear c4b0
        try clear c5
        try clear c6
        try clear c6b0
        try clear c6b1
        try clear c7
        try clear c7b0
        try clear c7b1
        try clear c7b2
        try clear c8
        try clear c8b0
        try clear c8b1
        try clear c8b2
        try clear hcv11
        try clear p2
        obtain ⟨x6_2, rfl, HA, HK2, HB⟩ := hrel
        cases gk with
        | zero => exact absurd HA.out (by simp [posthorseref03_Seal.l0_z])
        | succ k2 =>
         have H := HA.out
         clear HA
         simp only [posthorseref03_Seal.l0_s] at H
         by_cases c12 : (x6_2.size : Int) < 508
         ·rw [if_pos c12] at H
          have c12b0 : decide ((x6_2.size : Int) < 508) = true := decide_eq_true c12
          have c12b1 : decide (x6_2.size < 508) = true := decide_eq_true (by omega)
          clear c12
          by_cases c13 : x6_2.size + (⟨#[0]⟩ : ByteArray).size ≤ 9223372036854775807
          ·rw [if_pos c13] at H
           have c13b0 := eq_true c13
           try (have c13sa0 := c13b0; simp only [ByteArray.size_append, Int.natCast_add] at c13sa0)
           have c13b1 : decide (x6_2.size + (⟨#[0]⟩ : ByteArray).size ≤ 9223372036854775807) = true := decide_eq_true c13
           try have c13b2 : (9223372036854775807 < x6_2.size + (⟨#[0]⟩ : ByteArray).size) = False := eq_false (Nat.not_lt.2 c13)
           try have c13sd0 := eq_true (show x6_2.size + 1 ≤ 9223372036854775807 from by have h_ := c13; simp only [ByteArray.size_append] at h_; have e0_ : (⟨#[0]⟩ : ByteArray).size = 1 := rfl; omega)
           try have c13sd1 : decide (x6_2.size + 1 ≤ 9223372036854775807) = true := decide_eq_true (by have h_ := c13; simp only [ByteArray.size_append] at h_; have e0_ : (⟨#[0]⟩ : ByteArray).size = 1 := rfl; omega)
           try have c13sd2 : (9223372036854775807 < x6_2.size + 1) = False := eq_false (by have h_ := c13; simp only [ByteArray.size_append] at h_; have e0_ : (⟨#[0]⟩ : ByteArray).size = 1 := rfl; omega)
           have H' := Aside0.mk H
           clear H
           go_wp2
           go_roundg k2
           case measure => have := HJ2.out; have := HK2.out; omega
           case rel => exact ⟨(x6_2 ++ (⟨#[0]⟩ : ByteArray)), (by first | rfl | (simp; done) | (simp [*]; done)), H', ⟨by have := HJ2.out; have := HK2.out; omega⟩, ⟨by repeat (first | (with_reducible first | exact HB.out | apply below_alloc | apply pw_below_drewN | apply below_drew1) | exact HB.out)⟩⟩
          ·rw [if_neg c13] at H
           exact absurd H (by simp)
         ·rw [if_neg c12] at H
          have c12b0 : decide ((x6_2.size : Int) < 508) = false := decide_eq_false c12
          have c12b1 : decide (x6_2.size < 508) = false := decide_eq_false (by omega)
          clear c12
          replace H := Option.bind_eq_some_iff.mp H
          obtain ⟨t261, A140, H⟩ := H
          replace H : ((posthorseref01_Put.f k2 (wrap64 (t261)) 4).bind fun t262 => (if x6_2.size + t262.size ≤ 9223372036854775807 then (some (x6_2 ++ t262, 0)) else (none))) = some (r1, r2) := H
          have A14 := Aside0.mk A140
          clear A140
          replace H := Option.bind_eq_some_iff.mp H
          obtain ⟨t262, A150, H⟩ := H
          replace H : (if x6_2.size + t262.size ≤ 9223372036854775807 then (some (x6_2 ++ t262, 0)) else (none)) = some (r1, r2) := H
          have A15 := Aside0.mk A150
          clear A150
          by_cases c16 : x6_2.size + t262.size ≤ 9223372036854775807
          ·rw [if_pos c16] at H
           have c16b0 := eq_true c16
           try (have c16sa0 := c16b0; simp only [ByteArray.size_append, Int.natCast_add] at c16sa0)
           have c16b1 : decide (x6_2.size + t262.size ≤ 9223372036854775807) = true := decide_eq_true c16
           try have c16b2 : (9223372036854775807 < x6_2.size + t262.size) = False := eq_false (Nat.not_lt.2 c16)
           simp only [Option.some.injEq, Prod.mk.injEq] at H
           obtain ⟨rfl, rfl⟩ := H
           go_wp2_with (first | ((with_reducible refine gate_callee (f := 35) rfl ?_); refine goesL_ (some 30) rfl rfl Tryz.func35 (by kernel_rfl) rfl #[.string x6_2] rfl (by (try simp only [List.map_toArray, List.map_cons, List.map_nil]); first | done | rfl | (simp only [List.length_drop, List.length_take]; rfl) | (simp only [decide_eq_true_eq, decide_eq_false_iff_not, eq_iff_iff, iff_true, iff_false] at *; have w_id : ∀ {n : Int}, -9223372036854775808 ≤ n → n ≤ 9223372036854775807 → wrap64 n = n := fun h0 h1 => (by unfold wrap64; omega); rw [w_id (by omega) (by omega)]; rfl)) ?_; (with_reducible refine (posthorseref03_Sum.calls k2 x6_2 t261 _ A14.out).mono ?_); rintro e w' ⟨rfl, ⟨nd, rfl⟩⟩; refine ⟨_, rfl, ?_⟩) | ((with_reducible refine gate_callee (f := 23) rfl ?_); refine goesL_ (some 32) rfl rfl Tryz.func23 (by kernel_rfl) rfl #[.int .i64 (wrap64 (t261)), .int .i64 4] rfl (by (try simp only [List.map_toArray, List.map_cons, List.map_nil]); first | done | rfl | (simp only [List.length_drop, List.length_take]; rfl) | (simp only [decide_eq_true_eq, decide_eq_false_iff_not, eq_iff_iff, iff_true, iff_false] at *; have w_id : ∀ {n : Int}, -9223372036854775808 ≤ n → n ≤ 9223372036854775807 → wrap64 n = n := fun h0 h1 => (by unfold wrap64; omega); rw [w_id (by omega) (by omega)]; rfl)) ?_; (with_reducible refine (posthorseref01_Put.calls k2 (wrap64 (t261)) 4 t262 _ A15.out).mono ?_); rintro e w17 ⟨rfl, hb⟩; refine ⟨_, rfl, ?_⟩; have n0_ := Aside0.mk (below_step (by repeat (first | (with_reducible first | exact HB.out | apply below_alloc | apply pw_below_drewN | apply below_drew1) | exact HB.out)) hb); clear HB; have HB := n0_; clear n0_; (try clear hb); (try clear hb2); (try clear hk); (try clear hi)))
           go_ret2
           exact ⟨by first | rfl | (simp [errW_none, errW_some] <;> rfl) | (simp [*, errW_none, errW_some] <;> rfl), by repeat (first | (with_reducible first | exact HB.out | apply below_alloc | apply pw_below_drewN | apply below_drew1) | exact HB.out)⟩
          ·rw [if_neg c16] at H
           exact absurd H (by simp)
      ·rw [if_neg c8] at H
       exact absurd H (by simp)
     ·rw [if_neg c7] at H
      exact absurd H (by simp)

/-! ### posthorselaw08_InodeGets: function 4 -/
def posthorselaw08_InodeGets.j0 : Nat → ByteArray → Int → Bool → Int → List (S51) → Option (Bool)
 | 0, _, _, _, _, _ => none
 | k + 1, x5, x10, x45, x272000, x272001 => if x45 = true then (none) else (if x10 = 0 then ((inode_Put.f k x272000 x272001).bind fun bt280 => (if bt280.2.isNone = true then (some (bt280.1.toList == x5.toList)) else (none))) else (some true))
def posthorselaw08_InodeGets.f (k : Nat) (a0 : ByteArray) (a1 : Int) : Option (Bool) := (posthorselaw08_speaks.f k).bind fun t263 => (if t263 = true then (if 0 ≤ (mn (a0.size : Int) 504) then (if (mn (a0.size : Int) 504) ≤ (a0.size : Int) then ((posthorseref03_Seal.f k 6 (a0.extract 0 ((mn (a0.size : Int) 504) : Int).toNat)).bind fun bt264 => ((inode_Get.f k bt264.1 a1).bind fun bt266 => ((posthorseref08_Get.f k bt264.1 a1).bind fun bt272 => ((posthorselaw08_same.f k bt266.1 bt266.2.1 bt272.1 bt272.2.1).bind fun t278 => (if t278 = true then ((posthorselaw08_code.f bt266.2.2).bind fun t279 => (posthorselaw08_InodeGets.j0 k bt264.1 bt272.2.2 (t279 != bt272.2.2) bt266.1 bt266.2.1)) else (posthorselaw08_InodeGets.j0 k bt264.1 bt272.2.2 true bt266.1 bt266.2.1)))))) else (none)) else (none)) else (none))
set_option maxRecDepth 100000 in
theorem posthorselaw08_InodeGets.mono_l : ∀ k, (∀ y0 y1 y2 y3 y4, LeO (posthorselaw08_InodeGets.j0 k y0 y1 y2 y3 y4) (posthorselaw08_InodeGets.j0 (k + 1) y0 y1 y2 y3 y4))
 | 0 => fun _ _ _ _ _ r h => by first | (rw [posthorselaw08_InodeGets.j0] at h; cases h) | simp [posthorselaw08_InodeGets.j0] at h
 | k + 1 => by
  have ih0 := posthorselaw08_InodeGets.mono_l k
  ·intro y0 y1 y2 y3 y4
   unfold posthorselaw08_InodeGets.j0
   repeat' first
   | (with_reducible exact ih0 _ _ _ _ _)
   | (with_reducible exact inode_Get.mono _ _ _)
   | (with_reducible exact inode_Put.mono _ _ _)
   | (with_reducible exact posthorselaw08_same.mono _ _ _ _ _)
   | (with_reducible exact posthorselaw08_speaks.mono _)
   | (with_reducible exact posthorseref03_Seal.mono _ _ _)
   | (with_reducible exact posthorseref08_Get.mono _ _ _)
   | (with_reducible exact LeO.refl _)
   | (with_reducible exact LeO.none _)
   | (with_reducible refine LeO.ite ?_ ?_)
   | (with_reducible refine LeO.bind ?_ (fun _ => ?_))
   | exact ih0 _ _ _ _ _
   | exact inode_Get.mono _ _ _
   | exact inode_Put.mono _ _ _
   | exact posthorselaw08_same.mono _ _ _ _ _
   | exact posthorselaw08_speaks.mono _
   | exact posthorseref03_Seal.mono _ _ _
   | exact posthorseref08_Get.mono _ _ _
   | exact LeO.none _
   | refine LeO.ite ?_ ?_
   | refine LeO.bind ?_ (fun _ => ?_)
theorem posthorselaw08_InodeGets.mono : ∀ a0 a1 k, LeO (posthorselaw08_InodeGets.f k a0 a1) (posthorselaw08_InodeGets.f (k + 1) a0 a1) := by
 intro a0 a1 k
 have ih0 := posthorselaw08_InodeGets.mono_l k
 unfold posthorselaw08_InodeGets.f
 repeat' first
   | (with_reducible exact ih0 _ _ _ _ _)
   | (with_reducible exact inode_Get.mono _ _ _)
   | (with_reducible exact inode_Put.mono _ _ _)
   | (with_reducible exact posthorselaw08_same.mono _ _ _ _ _)
   | (with_reducible exact posthorselaw08_speaks.mono _)
   | (with_reducible exact posthorseref03_Seal.mono _ _ _)
   | (with_reducible exact posthorseref08_Get.mono _ _ _)
   | (with_reducible exact LeO.refl _)
   | (with_reducible exact LeO.none _)
   | (with_reducible refine LeO.ite ?_ ?_)
   | (with_reducible refine LeO.bind ?_ (fun _ => ?_))
   | exact ih0 _ _ _ _ _
   | exact inode_Get.mono _ _ _
   | exact inode_Put.mono _ _ _
   | exact posthorselaw08_same.mono _ _ _ _ _
   | exact posthorselaw08_speaks.mono _
   | exact posthorseref03_Seal.mono _ _ _
   | exact posthorseref08_Get.mono _ _ _
   | exact LeO.none _
   | refine LeO.ite ?_ ?_
   | refine LeO.bind ?_ (fun _ => ?_)
set_option maxHeartbeats 8000000 in
set_option maxRecDepth 100000 in
theorem posthorselaw08_InodeGets.calls (k : Nat) (a0 : ByteArray) (a1 : Int) (r : Bool) (w : World) (hL_ : Laid w) (h : posthorselaw08_InodeGets.f k a0 a1 = some r) :
  Calls Tryz.prog 4 #[.string a0, .int .i64 a1] w fun e w' => e = .returned (.bool r) ∧ Below w.heap.size w w' := by
 have HL_ := Aside0.mk hL_
 clear hL_
 have hu26 := Tryz.underlying26
 have hu29 := Tryz.underlying29
 have hu33 := Tryz.underlying33
 have hu57 := Tryz.underlying57
 have HB := Aside0.mk (Below.refl w.heap.size w)
 have H : ((posthorselaw08_speaks.f k).bind fun t263 => (if t263 = true then (if 0 ≤ (mn (a0.size : Int) 504) then (if (mn (a0.size : Int) 504) ≤ (a0.size : Int) then ((posthorseref03_Seal.f k 6 (a0.extract 0 ((mn (a0.size : Int) 504) : Int).toNat)).bind fun bt264 => ((inode_Get.f k bt264.1 a1).bind fun bt266 => ((posthorseref08_Get.f k bt264.1 a1).bind fun bt272 => ((posthorselaw08_same.f k bt266.1 bt266.2.1 bt272.1 bt272.2.1).bind fun t278 => (if t278 = true then ((posthorselaw08_code.f bt266.2.2).bind fun t279 => (posthorselaw08_InodeGets.j0 k bt264.1 bt272.2.2 (t279 != bt272.2.2) bt266.1 bt266.2.1)) else (posthorselaw08_InodeGets.j0 k bt264.1 bt272.2.2 true bt266.1 bt266.2.1)))))) else (none)) else (none)) else (none))) = some r := h
 clear h
 replace H := Option.bind_eq_some_iff.mp H
 obtain ⟨t263, A30, H⟩ := H
 replace H : (if t263 = true then (if 0 ≤ (mn (a0.size : Int) 504) then (if (mn (a0.size : Int) 504) ≤ (a0.size : Int) then ((posthorseref03_Seal.f k 6 (a0.extract 0 ((mn (a0.size : Int) 504) : Int).toNat)).bind fun bt264 => ((inode_Get.f k bt264.1 a1).bind fun bt266 => ((posthorseref08_Get.f k bt264.1 a1).bind fun bt272 => ((posthorselaw08_same.f k bt266.1 bt266.2.1 bt272.1 bt272.2.1).bind fun t278 => (if t278 = true then ((posthorselaw08_code.f bt266.2.2).bind fun t279 => (posthorselaw08_InodeGets.j0 k bt264.1 bt272.2.2 (t279 != bt272.2.2) bt266.1 bt266.2.1)) else (posthorselaw08_InodeGets.j0 k bt264.1 bt272.2.2 true bt266.1 bt266.2.1)))))) else (none)) else (none)) else (none)) = some r := H
 have A3 := Aside0.mk A30
 clear A30
 by_cases c4 : t263 = true
 ·subst c4
  have H1 : (if 0 ≤ (mn (a0.size : Int) 504) then (if (mn (a0.size : Int) 504) ≤ (a0.size : Int) then ((posthorseref03_Seal.f k 6 (a0.extract 0 ((mn (a0.size : Int) 504) : Int).toNat)).bind fun bt264 => ((inode_Get.f k bt264.1 a1).bind fun bt266 => ((posthorseref08_Get.f k bt264.1 a1).bind fun bt272 => ((posthorselaw08_same.f k bt266.1 bt266.2.1 bt272.1 bt272.2.1).bind fun t278 => (if t278 = true then ((posthorselaw08_code.f bt266.2.2).bind fun t279 => (posthorselaw08_InodeGets.j0 k bt264.1 bt272.2.2 (t279 != bt272.2.2) bt266.1 bt266.2.1)) else (posthorselaw08_InodeGets.j0 k bt264.1 bt272.2.2 true bt266.1 bt266.2.1)))))) else (none)) else (none)) = some r := by rw [if_pos rfl] at H; exact H
  clear H
  have H := H1
  clear H1
  obtain ⟨ji5, hji5⟩ : ∃ j_ : Int, (mn (a0.size : Int) 504) = j_ := ⟨_, rfl⟩
  replace H : (if 0 ≤ (ji5) then (if (ji5) ≤ (a0.size : Int) then ((posthorseref03_Seal.f k 6 (a0.extract 0 ((ji5) : Int).toNat)).bind fun bt264 => ((inode_Get.f k bt264.1 a1).bind fun bt266 => ((posthorseref08_Get.f k bt264.1 a1).bind fun bt272 => ((posthorselaw08_same.f k bt266.1 bt266.2.1 bt272.1 bt272.2.1).bind fun t278 => (if t278 = true then ((posthorselaw08_code.f bt266.2.2).bind fun t279 => (posthorselaw08_InodeGets.j0 k bt264.1 bt272.2.2 (t279 != bt272.2.2) bt266.1 bt266.2.1)) else (posthorselaw08_InodeGets.j0 k bt264.1 bt272.2.2 true bt266.1 bt266.2.1)))))) else (none)) else (none)) = some r := by first | (rw [hji5] at H; exact H) | (simp only [hji5] at H ⊢; exact H)
  (try rw [hji5] at A3)
  (try (have hji5h : ji5 ≤ 504 := by (rw [← hji5]; unfold mn; (repeat' split) <;> omega)))
  (try (have hji5g : ji5 ≤ 64 := by omega))
  (try (have hji5l : 0 ≤ ji5 := by (rw [← hji5]; unfold mn; (repeat' split) <;> omega)))
  (try (have hji5m : 0 ≤ ji5 := by omega))
  have hji5_ : (if 504 < (a0.size : Int) then 504 else (a0.size : Int)) = ji5 := hji5
  by_cases c6 : 0 ≤ (ji5)
  ·rw [if_pos c6] at H
   have c6b0 := eq_true c6
   try (have c6sa0 := c6b0; simp only [ByteArray.size_append, Int.natCast_add] at c6sa0)
   have c6b1 : decide (0 ≤ (ji5)) = true := decide_eq_true c6
   clear c6
   by_cases c7 : (ji5) ≤ (a0.size : Int)
   ·rw [if_pos c7] at H
    have c7b0 := eq_true c7
    try (have c7sa0 := c7b0; simp only [ByteArray.size_append, Int.natCast_add] at c7sa0)
    have c7b1 : decide ((ji5) ≤ (a0.size : Int)) = true := decide_eq_true c7
    clear c7
    replace H := Option.bind_eq_some_iff.mp H
    obtain ⟨⟨t264, t265⟩, A80, H⟩ := H
    replace H : ((inode_Get.f k t264 a1).bind fun bt266 => ((posthorseref08_Get.f k t264 a1).bind fun bt272 => ((posthorselaw08_same.f k bt266.1 bt266.2.1 bt272.1 bt272.2.1).bind fun t278 => (if t278 = true then ((posthorselaw08_code.f bt266.2.2).bind fun t279 => (posthorselaw08_InodeGets.j0 k t264 bt272.2.2 (t279 != bt272.2.2) bt266.1 bt266.2.1)) else (posthorselaw08_InodeGets.j0 k t264 bt272.2.2 true bt266.1 bt266.2.1))))) = some r := H
    have A8 := Aside0.mk A80
    clear A80
    replace H := Option.bind_eq_some_iff.mp H
    obtain ⟨⟨t266, t267, t270⟩, A90, H⟩ := H
    replace H : ((posthorseref08_Get.f k t264 a1).bind fun bt272 => ((posthorselaw08_same.f k t266 t267 bt272.1 bt272.2.1).bind fun t278 => (if t278 = true then ((posthorselaw08_code.f t270).bind fun t279 => (posthorselaw08_InodeGets.j0 k t264 bt272.2.2 (t279 != bt272.2.2) t266 t267)) else (posthorselaw08_InodeGets.j0 k t264 bt272.2.2 true t266 t267)))) = some r := H
    have A9 := Aside0.mk A90
    clear A90
    replace H := Option.bind_eq_some_iff.mp H
    obtain ⟨⟨t272, t273, t276⟩, A100, H⟩ := H
    replace H : ((posthorselaw08_same.f k t266 t267 t272 t273).bind fun t278 => (if t278 = true then ((posthorselaw08_code.f t270).bind fun t279 => (posthorselaw08_InodeGets.j0 k t264 t276 (t279 != t276) t266 t267)) else (posthorselaw08_InodeGets.j0 k t264 t276 true t266 t267))) = some r := H
    have A10 := Aside0.mk A100
    clear A100
    have HC11 := Aside0.mk H
    clear H
    go_enter Tryz.func4, Tryz.ntmps4
    go_upto_region 6 with (first | ((with_reducible refine gate_callee (f := 5) rfl ?_); refine goesL_ (some 13) rfl rfl Tryz.func5 (by kernel_rfl) rfl #[] rfl (by (try simp only [List.map_toArray, List.map_cons, List.map_nil]); first | done | rfl | (simp only [List.length_drop, List.length_take]; rfl) | (simp only [decide_eq_true_eq, decide_eq_false_iff_not, eq_iff_iff, iff_true, iff_false] at *; have w_id : ∀ {n : Int}, -9223372036854775808 ≤ n → n ≤ 9223372036854775807 → wrap64 n = n := fun h0 h1 => (by unfold wrap64; omega); rw [w_id (by omega) (by omega)]; rfl)) ?_; (with_reducible refine (posthorselaw08_speaks.calls k  true _ A3.out).mono ?_); rintro e w12 ⟨rfl, hb⟩; refine ⟨_, rfl, ?_⟩; have n0_ := Aside0.mk (below_step (by repeat (first | (with_reducible first | exact HB.out | apply below_alloc | apply pw_below_drewN | apply below_drew1) | exact HB.out)) hb); clear HB; have HB := n0_; clear n0_; (try clear hb); (try clear hb2); (try clear hk); (try clear hi)) | ((with_reducible refine gate_callee (f := 15) rfl ?_); refine goesL_ (some 21) rfl rfl Tryz.func15 (by kernel_rfl) rfl #[.int .i64 6, .string (a0.extract 0 ((ji5) : Int).toNat)] rfl (by (try simp only [List.map_toArray, List.map_cons, List.map_nil]); first | done | (simp only [hji5]; rfl) | rfl | (simp only [List.length_drop, List.length_take]; rfl)) ?_; (with_reducible refine (posthorseref03_Seal.calls k 6 (a0.extract 0 ((ji5) : Int).toNat) t264 t265 _ A8.out).mono ?_); rintro e w13 ⟨rfl, hb⟩; refine ⟨_, rfl, ?_⟩; have n0_ := Aside0.mk (below_step (by repeat (first | (with_reducible first | exact HB.out | apply below_alloc | apply pw_below_drewN | apply below_drew1) | exact HB.out)) hb); clear HB; have HB := n0_; clear n0_; (try clear hb); (try clear hb2); (try clear hk); (try clear hi)) | ((with_reducible refine gate_callee (f := 12) rfl ?_); refine goesL_ (some 27) rfl rfl Tryz.func12 (by kernel_rfl) rfl #[.string t264, .int .i64 a1] rfl (by (try simp only [List.map_toArray, List.map_cons, List.map_nil]); first | done | rfl | (simp only [List.length_drop, List.length_take]; rfl) | (simp only [decide_eq_true_eq, decide_eq_false_iff_not, eq_iff_iff, iff_true, iff_false] at *; have w_id : ∀ {n : Int}, -9223372036854775808 ≤ n → n ≤ 9223372036854775807 → wrap64 n = n := fun h0 h1 => (by unfold wrap64; omega); rw [w_id (by omega) (by omega)]; rfl)) ?_; (with_reducible refine (inode_Get.calls k t264 a1 t266 t267 t270 _ (Laid.below HL_.out (by repeat (first | (with_reducible first | exact HB.out | apply below_alloc | apply pw_below_drewN | apply below_drew1) | exact HB.out))) A9.out).mono ?_); rintro e w14 ⟨v268, rfl, ho0, hb⟩; refine ⟨_, rfl, ?_⟩; have n0_ := Aside0.mk (Kd.R_lower ho0 (below_size (by repeat (first | (with_reducible first | exact HB.out | apply below_alloc | apply pw_below_drewN | apply below_drew1) | exact HB.out)))); have n1_ := Aside0.mk (below_step (by repeat (first | (with_reducible first | exact HB.out | apply below_alloc | apply pw_below_drewN | apply below_drew1) | exact HB.out)) hb); clear HB; have HO269 := n0_; have HB := n1_; clear n0_ n1_; (try clear hb); (try clear hb2); (try clear hk); (try clear hi); (try clear ho0); (try simp only [errW_none, errW_some])) | ((with_reducible refine gate_dst (N := 7) rfl ?_); refine box_event ?hg (N := 7) ?hd (cs := #[.int .i64 0, .slice none 0 0]) (t := 26) ?hr ?_; (case hd => rfl); (case hg => rfl); (case hr => first | (go_simp; done) | (go_simp; rfl)); intro gb271 hg w15 hbox hb; have n0_ := Aside0.mk (Kd.R_below (by (with_reducible repeat (first | apply Kd.R_alloc | apply Kd.R_drewN | apply Kd.R_drew)); exact HO269.out) hb); have n1_ := Aside0.mk (below_step (by repeat (first | (with_reducible first | exact HB.out | apply below_alloc | apply pw_below_drewN | apply below_drew1) | exact HB.out)) hb); have n2_ := Aside0.mk (hbox); have n3_ := Aside0.mk ((by rw [hg]; exact (below_size (by repeat (first | (with_reducible first | exact HB.out | apply below_alloc | apply pw_below_drewN | apply below_drew1) | exact HB.out))) : w.heap.size ≤ gb271)); have n4_ := Aside0.mk ((by rw [hg]; exact (below_size (by repeat (first | (with_reducible first | exact HB.out | apply below_alloc | apply pw_below_drewN | apply below_drew1) | exact HB.out))) : w.heap.size ≤ gb271)); clear HO269; clear HB; have HO269 := n0_; have HB := n1_; have BK271 := n2_; have GW271 := n3_; have GE271 := n4_; clear n0_ n1_ n2_ n3_ n4_; clear hb hbox hg; have hcz16_0 : w15.cell? ⟨gb271, 0, none⟩ = some (.int .i64 0) := (blk_cell BK271.out 0).trans rfl; have hcz16_1 : w15.cell? ⟨gb271, 1, none⟩ = some (.slice none 0 0) := (blk_cell BK271.out 1).trans rfl; have hfz16_0 := blk_frozen BK271.out 0; have hfz16_1 := blk_frozen BK271.out 1; obtain ⟨Ao17, co17, eo17⟩ := Kd.R_slice HO269.out; subst eo17) | ((with_reducible refine gate_callee (f := 13) rfl ?_); refine goesL_ (some 33) rfl rfl Tryz.func13 (by kernel_rfl) rfl #[.string t264, .int .i64 a1] rfl (by (try simp only [List.map_toArray, List.map_cons, List.map_nil]); first | done | rfl | (simp only [List.length_drop, List.length_take]; rfl) | (simp only [decide_eq_true_eq, decide_eq_false_iff_not, eq_iff_iff, iff_true, iff_false] at *; have w_id : ∀ {n : Int}, -9223372036854775808 ≤ n → n ≤ 9223372036854775807 → wrap64 n = n := fun h0 h1 => (by unfold wrap64; omega); rw [w_id (by omega) (by omega)]; rfl)) ?_; (with_reducible refine (posthorseref08_Get.calls k t264 a1 t272 t273 t276 _ A10.out).mono ?_); rintro e w18 ⟨v274, rfl, ho0, hb⟩; refine ⟨_, rfl, ?_⟩; have n0_ := Aside0.mk (Kd.R_below (by (with_reducible repeat (first | apply Kd.R_alloc | apply Kd.R_drewN | apply Kd.R_drew)); exact (Kd.R_mono (Kd.R_far (p := ⟨gb271, 1, none⟩) (Kd.R_far (p := ⟨gb271, 0, none⟩) (Kd.R_types HO269.out BK271.out (by decide)) (fun _ hk => hk.2) (.int .i64 t266)) (fun _ hk => hk.2) (.slice Ao17 t267.length co17)) (fun _ h_ => h_.1))) hb); have n1_ := Aside0.mk (Kd.R_lower ho0 (below_size (by repeat (first | (with_reducible first | exact HB.out | apply below_alloc | apply pw_below_drewN | apply below_drew1 | refine below_set ?_ GE271.out) | exact HB.out)))); have n2_ := Aside0.mk (blk_below (g := gb271) (o := .cells #[.int .i64 t266, .slice Ao17 t267.length co17] 26 (0, 0)) (by (with_reducible repeat (first | refine blk_drewN ?_ _ | refine blk_drew ?_ | refine blk_alloc ?_ _)); refine blk_put (cs := #[.int .i64 t266, .slice none 0 0]) ?_ 1 _ rfl; (with_reducible repeat (first | refine blk_drewN ?_ _ | refine blk_drew ?_ | refine blk_alloc ?_ _)); refine blk_put (cs := #[.int .i64 0, .slice none 0 0]) ?_ 0 _ rfl; (with_reducible repeat (first | refine blk_drewN ?_ _ | refine blk_drew ?_ | refine blk_alloc ?_ _)); exact BK271.out) hb); have n3_ := Aside0.mk (below_step (by repeat (first | (with_reducible first | exact HB.out | apply below_alloc | apply pw_below_drewN | apply below_drew1 | refine below_set ?_ GE271.out) | exact HB.out)) hb); clear HO269; clear BK271; clear HB; have HO269 := n0_; have HO275 := n1_; have BK271 := n2_; have HB := n3_; clear n0_ n1_ n2_ n3_; (try clear hb); (try clear hb2); (try clear hk); (try clear hi); (try clear ho0)) | ((with_reducible refine gate_dst (N := 9) rfl ?_); refine box_event ?hg (N := 9) ?hd (cs := #[.int .i64 0, .slice none 0 0]) (t := 29) ?hr ?_; (case hd => rfl); (case hg => rfl); (case hr => first | (go_simp; done) | (go_simp; rfl)); intro gb277 hg w19 hbox hb; have n0_ := Aside0.mk (Kd.R_below (by (with_reducible repeat (first | apply Kd.R_alloc | apply Kd.R_drewN | apply Kd.R_drew)); exact HO269.out) hb); have n1_ := Aside0.mk (Kd.R_below (by (with_reducible repeat (first | apply Kd.R_alloc | apply Kd.R_drewN | apply Kd.R_drew)); exact HO275.out) hb); have n2_ := Aside0.mk (blk_below (g := gb271) (o := .cells #[.int .i64 t266, .slice Ao17 t267.length co17] 26 (0, 0)) (by (with_reducible repeat (first | refine blk_drewN ?_ _ | refine blk_drew ?_ | refine blk_alloc ?_ _)); exact BK271.out) hb); have n3_ := Aside0.mk (below_step (by repeat (first | (with_reducible first | exact HB.out | apply below_alloc | apply pw_below_drewN | apply below_drew1 | refine below_set ?_ GE271.out) | exact HB.out)) hb); have n4_ := Aside0.mk (hbox); have n5_ := Aside0.mk ((by rw [hg]; exact (below_size (by repeat (first | (with_reducible first | exact HB.out | apply below_alloc | apply pw_below_drewN | apply below_drew1 | refine below_set ?_ GE271.out) | exact HB.out))) : w.heap.size ≤ gb277)); have n6_ := Aside0.mk ((by rw [hg]; exact (below_size (by repeat (first | (with_reducible first | exact HB.out | apply below_alloc | apply pw_below_drewN | apply below_drew1 | refine below_set ?_ GE271.out) | exact HB.out))) : w.heap.size ≤ gb277)); have n7_ := Aside0.mk ((by rw [hg]; exact Nat.ne_of_lt (blk_lt (g := gb271) (o := .cells #[.int .i64 t266, .slice Ao17 t267.length co17] 26 (0, 0)) (by (with_reducible repeat (first | refine blk_drewN ?_ _ | refine blk_drew ?_ | refine blk_alloc ?_ _)); exact BK271.out)) : gb271 ≠ gb277)); have n8_ := Aside0.mk ((by rw [hg]; exact Nat.ne_of_gt (blk_lt (g := gb271) (o := .cells #[.int .i64 t266, .slice Ao17 t267.length co17] 26 (0, 0)) (by (with_reducible repeat (first | refine blk_drewN ?_ _ | refine blk_drew ?_ | refine blk_alloc ?_ _)); exact BK271.out)) : gb277 ≠ gb271)); clear HO269; clear HO275; clear BK271; clear HB; have HO269 := n0_; have HO275 := n1_; have BK271 := n2_; have HB := n3_; have BK277 := n4_; have GW277 := n5_; have GE277 := n6_; have NB271_277 := n7_; have NB277_271 := n8_; clear n0_ n1_ n2_ n3_ n4_ n5_ n6_ n7_ n8_; clear hb hbox hg; have hnb20 := NB277_271.out; have hnc20 := NB271_277.out; have hcz21_0 : w19.cell? ⟨gb277, 0, none⟩ = some (.int .i64 0) := (blk_cell BK277.out 0).trans rfl; have hcz21_1 : w19.cell? ⟨gb277, 1, none⟩ = some (.slice none 0 0) := (blk_cell BK277.out 1).trans rfl; have hfz21_0 := blk_frozen BK277.out 0; have hfz21_1 := blk_frozen BK277.out 1; obtain ⟨Ao22, co22, eo22⟩ := Kd.R_slice HO275.out; subst eo22))
    (try simp only [Act.put, List.setIfInBounds_toArray, List.set_cons_zero, List.set_cons_succ])
    go_cut [45] (fun v45 wc => ∃ (kq : Nat) (x45_10 : Bool), v45 = .bool x45_10 ∧ Aside0 (posthorselaw08_InodeGets.j0 kq t264 t276 x45_10 t266 t267 = some r) ∧ Aside0 (kq ≤ k) ∧ Aside0 (Kd.R k51 51 wc w.heap.size (fun _ => True) (.slice Ao17 t267.length co17) t267) ∧ Aside0 (Kd.R k56 56 wc w.heap.size (fun _ => True) (.slice Ao22 t273.length co22) t273) ∧ Aside0 (wc.heap[gb271]? = some (.cells #[.int .i64 t266, (.slice Ao17 t267.length co17)] 26 (0, 0))) ∧ Aside0 (wc.heap[gb277]? = some (.cells #[.int .i64 t272, (.slice Ao22 t273.length co22)] 29 (0, 0))) ∧ Aside0 (Below w.heap.size w wc))
    case first =>
     have H := HC11.out
     clear HC11
     replace H := Option.bind_eq_some_iff.mp H
     obtain ⟨t278, A230, H⟩ := H
     replace H : (if t278 = true then ((posthorselaw08_code.f t270).bind fun t279 => (posthorselaw08_InodeGets.j0 k t264 t276 (t279 != t276) t266 t267)) else (posthorselaw08_InodeGets.j0 k t264 t276 true t266 t267)) = some r := H
     have A23 := Aside0.mk A230
     clear A230
     by_cases c24 : t278 = true
     ·subst c24
      have H1 : ((posthorselaw08_code.f t270).bind fun t279 => (posthorselaw08_InodeGets.j0 k t264 t276 (t279 != t276) t266 t267)) = some r := by rw [if_pos rfl] at H; exact H
      clear H
      have H := H1
      clear H1
      replace H := Option.bind_eq_some_iff.mp H
      obtain ⟨t279, A250, H⟩ := H
      replace H : (posthorselaw08_InodeGets.j0 k t264 t276 (t279 != t276) t266 t267) = some r := H
      have A25 := Aside0.mk A250
      clear A250
      have H' := Aside0.mk H
      clear H
      have hnb26 := NB271_277.out
      have hnc26 := NB277_271.out
      have hcz27_0 : w19.cell? ⟨gb271, 0, none⟩ = some (.int .i64 t266) := (blk_cell BK271.out 0).trans rfl
      have hcz27_1 : w19.cell? ⟨gb271, 1, none⟩ = some (.slice Ao17 t267.length co17) := (blk_cell BK271.out 1).trans rfl
      have hfz27_0 := blk_frozen BK271.out 0
      have hfz27_1 := blk_frozen BK271.out 1
      have hcz28_0 : w19.cell? ⟨gb277, 0, none⟩ = some (.int .i64 0) := (blk_cell BK277.out 0).trans rfl
      have hcz28_1 : w19.cell? ⟨gb277, 1, none⟩ = some (.slice none 0 0) := (blk_cell BK277.out 1).trans rfl
      have hfz28_0 := blk_frozen BK277.out 0
      have hfz28_1 := blk_frozen BK277.out 1
      go_wp2_with (first | ((with_reducible refine gate_callee (f := 14) rfl ?_); refine goesL_ (some 38) rfl rfl Tryz.func14 (by kernel_rfl) rfl #[.agg #[.int .i64 t266, .slice Ao17 t267.length co17], .agg #[.int .i64 t272, .slice Ao22 t273.length co22]] rfl (by (try simp only [List.map_toArray, List.map_cons, List.map_nil]); first | done | rfl | (simp only [List.length_drop, List.length_take]; rfl) | (simp only [decide_eq_true_eq, decide_eq_false_iff_not, eq_iff_iff, iff_true, iff_false] at *; have w_id : ∀ {n : Int}, -9223372036854775808 ≤ n → n ≤ 9223372036854775807 → wrap64 n = n := fun h0 h1 => (by unfold wrap64; omega); rw [w_id (by omega) (by omega)]; rfl)) ?_; (with_reducible refine (posthorselaw08_same.calls k t266 _ _ t267 t272 _ _ t273 true _ ?side1 ?side2 ?side3 ?side4 A23.out).mono ?_); (case side1 => refine (Kd.R_reads' (e := 51) (base := w.heap.size) (ok := fun k_ => True) (n := t267.length) (c := co17) ?_).2.2; exact (by (with_reducible repeat (first | apply Kd.R_alloc | apply Kd.R_drewN | apply Kd.R_drew)); exact (Kd.R_mono (Kd.R_far (p := ⟨gb277, 1, none⟩) (Kd.R_far (p := ⟨gb277, 0, none⟩) (Kd.R_types HO269.out BK277.out (by decide)) (fun _ hk => hk.2) (.int .i64 t272)) (fun _ hk => hk.2) (.slice Ao22 t273.length co22)) (fun _ h_ => h_.1)))); (case side2 => exact (Kd.R_reads' HO269.out).2.1); (case side3 => refine (Kd.R_reads' (e := 56) (base := w.heap.size) (ok := fun k_ => True) (n := t273.length) (c := co22) ?_).2.2; exact (by (with_reducible repeat (first | apply Kd.R_alloc | apply Kd.R_drewN | apply Kd.R_drew)); exact (Kd.R_mono (Kd.R_far (p := ⟨gb277, 1, none⟩) (Kd.R_far (p := ⟨gb277, 0, none⟩) (Kd.R_types HO275.out BK277.out (by decide)) (fun _ hk => hk.2) (.int .i64 t272)) (fun _ hk => hk.2) (.slice Ao22 t273.length co22)) (fun _ h_ => h_.1)))); (case side4 => exact (Kd.R_reads' HO275.out).2.1); rintro e w29 ⟨rfl, hb⟩; refine ⟨_, rfl, ?_⟩; have n0_ := Aside0.mk (Kd.R_below (by (with_reducible repeat (first | apply Kd.R_alloc | apply Kd.R_drewN | apply Kd.R_drew)); exact (Kd.R_mono (Kd.R_far (p := ⟨gb277, 1, none⟩) (Kd.R_far (p := ⟨gb277, 0, none⟩) (Kd.R_types HO269.out BK277.out (by decide)) (fun _ hk => hk.2) (.int .i64 t272)) (fun _ hk => hk.2) (.slice Ao22 t273.length co22)) (fun _ h_ => h_.1))) hb); have n1_ := Aside0.mk (Kd.R_below (by (with_reducible repeat (first | apply Kd.R_alloc | apply Kd.R_drewN | apply Kd.R_drew)); exact (Kd.R_mono (Kd.R_far (p := ⟨gb277, 1, none⟩) (Kd.R_far (p := ⟨gb277, 0, none⟩) (Kd.R_types HO275.out BK277.out (by decide)) (fun _ hk => hk.2) (.int .i64 t272)) (fun _ hk => hk.2) (.slice Ao22 t273.length co22)) (fun _ h_ => h_.1))) hb); have n2_ := Aside0.mk (blk_below (g := gb271) (o := .cells #[.int .i64 t266, .slice Ao17 t267.length co17] 26 (0, 0)) (by (with_reducible repeat (first | refine blk_drewN ?_ _ | refine blk_drew ?_ | refine blk_alloc ?_ _)); refine blk_far ?_ NB271_277.out _; (with_reducible repeat (first | refine blk_drewN ?_ _ | refine blk_drew ?_ | refine blk_alloc ?_ _)); refine blk_far ?_ NB271_277.out _; (with_reducible repeat (first | refine blk_drewN ?_ _ | refine blk_drew ?_ | refine blk_alloc ?_ _)); exact BK271.out) hb); have n3_ := Aside0.mk (blk_below (g := gb277) (o := .cells #[.int .i64 t272, .slice Ao22 t273.length co22] 29 (0, 0)) (by (with_reducible repeat (first | refine blk_drewN ?_ _ | refine blk_drew ?_ | refine blk_alloc ?_ _)); refine blk_put (cs := #[.int .i64 t272, .slice none 0 0]) ?_ 1 _ rfl; (with_reducible repeat (first | refine blk_drewN ?_ _ | refine blk_drew ?_ | refine blk_alloc ?_ _)); refine blk_put (cs := #[.int .i64 0, .slice none 0 0]) ?_ 0 _ rfl; (with_reducible repeat (first | refine blk_drewN ?_ _ | refine blk_drew ?_ | refine blk_alloc ?_ _)); exact BK277.out) hb); have n4_ := Aside0.mk (below_step (by repeat (first | (with_reducible first | exact HB.out | apply below_alloc | apply pw_below_drewN | apply below_drew1 | refine below_set ?_ GE271.out | refine below_set ?_ GE277.out) | exact HB.out)) hb); clear HO269; clear HO275; clear BK271; clear BK277; clear HB; have HO269 := n0_; have HO275 := n1_; have BK271 := n2_; have BK277 := n3_; have HB := n4_; clear n0_ n1_ n2_ n3_ n4_; (try clear hb); (try clear hb2); (try clear hk); (try clear hi); have CA25 := fun W hL_ => posthorselaw08_code.calls t270 t279 W hL_ A25.out; try simp only [errW_none, errW_some] at CA25) | (go_at_call 9; (with_reducible refine (CA25 _ (Laid.below HL_.out (by repeat (first | (with_reducible first | exact HB.out | apply below_alloc | apply pw_below_drewN | apply below_drew1 | refine below_set ?_ GE271.out | refine below_set ?_ GE277.out) | exact HB.out)))).mono ?_); rintro e w30 ⟨rfl, hb⟩; have n0_ := Aside0.mk (Kd.R_below (by (with_reducible repeat (first | apply Kd.R_alloc | apply Kd.R_drewN | apply Kd.R_drew)); exact HO269.out) hb); have n1_ := Aside0.mk (Kd.R_below (by (with_reducible repeat (first | apply Kd.R_alloc | apply Kd.R_drewN | apply Kd.R_drew)); exact HO275.out) hb); have n2_ := Aside0.mk (blk_below (g := gb271) (o := .cells #[.int .i64 t266, .slice Ao17 t267.length co17] 26 (0, 0)) (by (with_reducible repeat (first | refine blk_drewN ?_ _ | refine blk_drew ?_ | refine blk_alloc ?_ _)); exact BK271.out) hb); have n3_ := Aside0.mk (blk_below (g := gb277) (o := .cells #[.int .i64 t272, .slice Ao22 t273.length co22] 29 (0, 0)) (by (with_reducible repeat (first | refine blk_drewN ?_ _ | refine blk_drew ?_ | refine blk_alloc ?_ _)); exact BK277.out) hb); have n4_ := Aside0.mk (below_step (by repeat (first | (with_reducible first | exact HB.out | apply below_alloc | apply pw_below_drewN | apply below_drew1 | refine below_set ?_ GE271.out | refine below_set ?_ GE277.out) | exact HB.out)) hb); clear HO269; clear HO275; clear BK271; clear BK277; clear HB; have HO269 := n0_; have HO275 := n1_; have BK271 := n2_; have BK277 := n3_; have HB := n4_; clear n0_ n1_ n2_ n3_ n4_; (try clear hb); (try clear hb2); (try clear hk); (try clear hi)))
      go_meet
      case rel => exact ⟨_, ((t279 != t276)), (by first | rfl | (simp; done) | (simp [*]; done)), H', ⟨by first | omega | exact Nat.le_refl _⟩, ⟨by (with_reducible repeat (first | apply Kd.R_alloc | apply Kd.R_drewN | apply Kd.R_drew)); exact HO269.out⟩, ⟨by (with_reducible repeat (first | apply Kd.R_alloc | apply Kd.R_drewN | apply Kd.R_drew)); exact HO275.out⟩, ⟨by (with_reducible repeat (first | refine blk_drewN ?_ _ | refine blk_drew ?_ | refine blk_alloc ?_ _)); exact BK271.out⟩, ⟨by (with_reducible repeat (first | refine blk_drewN ?_ _ | refine blk_drew ?_ | refine blk_alloc ?_ _)); exact BK277.out⟩, ⟨by repeat (first | (with_reducible first | exact HB.out | apply below_alloc | apply pw_below_drewN | apply below_drew1 | refine below_set ?_ GE271.out | refine below_set ?_ GE277.out) | exact HB.out)⟩⟩
     ·replace c24 := Bool.eq_false_iff.mpr c24
      subst c24
      have H1 : (posthorselaw08_InodeGets.j0 k t264 t276 true t266 t267) = some r := by rw [if_neg (show ¬ (false = true) by decide)] at H; exact H
      clear H
      have H := H1
      clear H1
      have H' := Aside0.mk H
      clear H
      have hnb31 := NB271_277.out
      have hnc31 := NB277_271.out
      have hcz32_0 : w19.cell? ⟨gb271, 0, none⟩ = some (.int .i64 t266) := (blk_cell BK271.out 0).trans rfl
      have hcz32_1 : w19.cell? ⟨gb271, 1, none⟩ = some (.slice Ao17 t267.length co17) := (blk_cell BK271.out 1).trans rfl
      have hfz32_0 := blk_frozen BK271.out 0
      have hfz32_1 := blk_frozen BK271.out 1
      have hcz33_0 : w19.cell? ⟨gb277, 0, none⟩ = some (.int .i64 0) := (blk_cell BK277.out 0).trans rfl
      have hcz33_1 : w19.cell? ⟨gb277, 1, none⟩ = some (.slice none 0 0) := (blk_cell BK277.out 1).trans rfl
      have hfz33_0 := blk_frozen BK277.out 0
      have hfz33_1 := blk_frozen BK277.out 1
      go_wp2_with (first | ((with_reducible refine gate_callee (f := 14) rfl ?_); refine goesL_ (some 38) rfl rfl Tryz.func14 (by kernel_rfl) rfl #[.agg #[.int .i64 t266, .slice Ao17 t267.length co17], .agg #[.int .i64 t272, .slice Ao22 t273.length co22]] rfl (by (try simp only [List.map_toArray, List.map_cons, List.map_nil]); first | done | rfl | (simp only [List.length_drop, List.length_take]; rfl) | (simp only [decide_eq_true_eq, decide_eq_false_iff_not, eq_iff_iff, iff_true, iff_false] at *; have w_id : ∀ {n : Int}, -9223372036854775808 ≤ n → n ≤ 9223372036854775807 → wrap64 n = n := fun h0 h1 => (by unfold wrap64; omega); rw [w_id (by omega) (by omega)]; rfl)) ?_; (with_reducible refine (posthorselaw08_same.calls k t266 _ _ t267 t272 _ _ t273 false _ ?side1 ?side2 ?side3 ?side4 A23.out).mono ?_); (case side1 => refine (Kd.R_reads' (e := 51) (base := w.heap.size) (ok := fun k_ => True) (n := t267.length) (c := co17) ?_).2.2; exact (by (with_reducible repeat (first | apply Kd.R_alloc | apply Kd.R_drewN | apply Kd.R_drew)); exact (Kd.R_mono (Kd.R_far (p := ⟨gb277, 1, none⟩) (Kd.R_far (p := ⟨gb277, 0, none⟩) (Kd.R_types HO269.out BK277.out (by decide)) (fun _ hk => hk.2) (.int .i64 t272)) (fun _ hk => hk.2) (.slice Ao22 t273.length co22)) (fun _ h_ => h_.1)))); (case side2 => exact (Kd.R_reads' HO269.out).2.1); (case side3 => refine (Kd.R_reads' (e := 56) (base := w.heap.size) (ok := fun k_ => True) (n := t273.length) (c := co22) ?_).2.2; exact (by (with_reducible repeat (first | apply Kd.R_alloc | apply Kd.R_drewN | apply Kd.R_drew)); exact (Kd.R_mono (Kd.R_far (p := ⟨gb277, 1, none⟩) (Kd.R_far (p := ⟨gb277, 0, none⟩) (Kd.R_types HO275.out BK277.out (by decide)) (fun _ hk => hk.2) (.int .i64 t272)) (fun _ hk => hk.2) (.slice Ao22 t273.length co22)) (fun _ h_ => h_.1)))); (case side4 => exact (Kd.R_reads' HO275.out).2.1); rintro e w34 ⟨rfl, hb⟩; refine ⟨_, rfl, ?_⟩; have n0_ := Aside0.mk (Kd.R_below (by (with_reducible repeat (first | apply Kd.R_alloc | apply Kd.R_drewN | apply Kd.R_drew)); exact (Kd.R_mono (Kd.R_far (p := ⟨gb277, 1, none⟩) (Kd.R_far (p := ⟨gb277, 0, none⟩) (Kd.R_types HO269.out BK277.out (by decide)) (fun _ hk => hk.2) (.int .i64 t272)) (fun _ hk => hk.2) (.slice Ao22 t273.length co22)) (fun _ h_ => h_.1))) hb); have n1_ := Aside0.mk (Kd.R_below (by (with_reducible repeat (first | apply Kd.R_alloc | apply Kd.R_drewN | apply Kd.R_drew)); exact (Kd.R_mono (Kd.R_far (p := ⟨gb277, 1, none⟩) (Kd.R_far (p := ⟨gb277, 0, none⟩) (Kd.R_types HO275.out BK277.out (by decide)) (fun _ hk => hk.2) (.int .i64 t272)) (fun _ hk => hk.2) (.slice Ao22 t273.length co22)) (fun _ h_ => h_.1))) hb); have n2_ := Aside0.mk (blk_below (g := gb271) (o := .cells #[.int .i64 t266, .slice Ao17 t267.length co17] 26 (0, 0)) (by (with_reducible repeat (first | refine blk_drewN ?_ _ | refine blk_drew ?_ | refine blk_alloc ?_ _)); refine blk_far ?_ NB271_277.out _; (with_reducible repeat (first | refine blk_drewN ?_ _ | refine blk_drew ?_ | refine blk_alloc ?_ _)); refine blk_far ?_ NB271_277.out _; (with_reducible repeat (first | refine blk_drewN ?_ _ | refine blk_drew ?_ | refine blk_alloc ?_ _)); exact BK271.out) hb); have n3_ := Aside0.mk (blk_below (g := gb277) (o := .cells #[.int .i64 t272, .slice Ao22 t273.length co22] 29 (0, 0)) (by (with_reducible repeat (first | refine blk_drewN ?_ _ | refine blk_drew ?_ | refine blk_alloc ?_ _)); refine blk_put (cs := #[.int .i64 t272, .slice none 0 0]) ?_ 1 _ rfl; (with_reducible repeat (first | refine blk_drewN ?_ _ | refine blk_drew ?_ | refine blk_alloc ?_ _)); refine blk_put (cs := #[.int .i64 0, .slice none 0 0]) ?_ 0 _ rfl; (with_reducible repeat (first | refine blk_drewN ?_ _ | refine blk_drew ?_ | refine blk_alloc ?_ _)); exact BK277.out) hb); have n4_ := Aside0.mk (below_step (by repeat (first | (with_reducible first | exact HB.out | apply below_alloc | apply pw_below_drewN | apply below_drew1 | refine below_set ?_ GE271.out | refine below_set ?_ GE277.out) | exact HB.out)) hb); clear HO269; clear HO275; clear BK271; clear BK277; clear HB; have HO269 := n0_; have HO275 := n1_; have BK271 := n2_; have BK277 := n3_; have HB := n4_; clear n0_ n1_ n2_ n3_ n4_; (try clear hb); (try clear hb2); (try clear hk); (try clear hi)))
      go_meet
      case rel => exact ⟨_, (true), (by first | rfl | (simp; done) | (simp [*]; done)), H', ⟨by first | omega | exact Nat.le_refl _⟩, ⟨by (with_reducible repeat (first | apply Kd.R_alloc | apply Kd.R_drewN | apply Kd.R_drew)); exact HO269.out⟩, ⟨by (with_reducible repeat (first | apply Kd.R_alloc | apply Kd.R_drewN | apply Kd.R_drew)); exact HO275.out⟩, ⟨by (with_reducible repeat (first | refine blk_drewN ?_ _ | refine blk_drew ?_ | refine blk_alloc ?_ _)); exact BK271.out⟩, ⟨by (with_reducible repeat (first | refine blk_drewN ?_ _ | refine blk_drew ?_ | refine blk_alloc ?_ _)); exact BK277.out⟩, ⟨by repeat (first | (with_reducible first | exact HB.out | apply below_alloc | apply pw_below_drewN | apply below_drew1 | refine below_set ?_ GE271.out | refine below_set ?_ GE277.out) | exact HB.out)⟩⟩
    case rest =>
     clear HC11
     try clear c1
     try clear c2
     try clear p2
     try clear c3
     try clear c4
     try clear c5
     try clear c6
     try clear c6b0
     try clear c6b1
     try clear c7
     try clear c7b0
     try clear c7b1
     try clear c12
     try clear c13
     try clear c14
     try clear c15
     try clear c20
     try clear c24
     try clear c26
     try clear c31
     try clear hcz16_0
     try clear hcz16_1
     try clear hcz21_0
     try clear hcz21_1
     try clear hcz27_0
     try clear hcz27_1
     try clear hcz28_0
     try clear hcz28_1
     try clear hcz32_0
     try clear hcz32_1
     try clear hcz33_0
     try clear hcz33_1
     try clear hfz16_0
     try clear hfz16_1
     try clear hfz21_0
     try clear hfz21_1
     try clear hfz27_0
     try clear hfz27_1
     try clear hfz28_0
     try clear hfz28_1
     try clear hfz32_0
     try clear hfz32_1
     try clear hfz33_0
     try clear hfz33_1
     obtain ⟨kq, x45_10, rfl, HA, HJ10, HO_272001, HO_278001, BK271, BK277, HB⟩ := hcut
     cases kq with
     | zero => exact absurd HA.out (by simp [posthorselaw08_InodeGets.j0])
     | succ kj10 =>
      have H := HA.out
      clear HA
      simp only [posthorselaw08_InodeGets.j0] at H
      by_cases c35 : x45_10 = true
      ·subst c35
       have H1 : (none) = some r := by rw [if_pos rfl] at H; exact H
       clear H
       have H := H1
       clear H1
       exact absurd H (by simp)
      ·replace c35 := Bool.eq_false_iff.mpr c35
       subst c35
       have H1 : (if t276 = 0 then ((inode_Put.f kj10 t266 t267).bind fun bt280 => (if bt280.2.isNone = true then (some (bt280.1.toList == t264.toList)) else (none))) else (some true)) = some r := by rw [if_neg (show ¬ (false = true) by decide)] at H; exact H
       clear H
       have H := H1
       clear H1
       by_cases c36 : t276 = 0
       ·rw [if_pos c36] at H
        have c36b0 : (t276 == 0) = true := beq_iff_eq.mpr c36
        have c36b1 : (t276 != 0) = false := bne_eq_false_iff_eq.mpr c36
        clear c36
        replace H := Option.bind_eq_some_iff.mp H
        obtain ⟨⟨t280, t281⟩, A370, H⟩ := H
        replace H : (if t281.isNone = true then (some (t280.toList == t264.toList)) else (none)) = some r := H
        have A37 := Aside0.mk A370
        clear A370
        rcases t281 with _ | q282
        ·have H1 : (some (t280.toList == t264.toList)) = some r := by rw [if_pos (show (none : Option Int).isNone = true by rfl)] at H; exact H
         clear H
         have H := H1
         clear H1
         try simp only [errW_none, errW_some]
         obtain rfl := Option.some.inj H
         have hnb38 := NB271_277.out
         have hnc38 := NB277_271.out
         have hcz39_0 : wc.cell? ⟨gb271, 0, none⟩ = some (.int .i64 t266) := (blk_cell BK271.out 0).trans rfl
         have hcz39_1 : wc.cell? ⟨gb271, 1, none⟩ = some (.slice Ao17 t267.length co17) := (blk_cell BK271.out 1).trans rfl
         have hfz39_0 := blk_frozen BK271.out 0
         have hfz39_1 := blk_frozen BK271.out 1
         go_wp2_with (first | ((with_reducible refine gate_callee (f := 7) rfl ?_); refine goesL_ (some 50) rfl rfl Tryz.func7 (by kernel_rfl) rfl #[.agg #[.int .i64 t266, .slice Ao17 t267.length co17]] rfl (by (try simp only [List.map_toArray, List.map_cons, List.map_nil]); first | done | rfl | (simp only [List.length_drop, List.length_take]; rfl) | (simp only [decide_eq_true_eq, decide_eq_false_iff_not, eq_iff_iff, iff_true, iff_false] at *; have w_id : ∀ {n : Int}, -9223372036854775808 ≤ n → n ≤ 9223372036854775807 → wrap64 n = n := fun h0 h1 => (by unfold wrap64; omega); rw [w_id (by omega) (by omega)]; rfl)) ?_; (with_reducible refine (inode_Put.calls kj10 t266 _ _ t267 t280 none _ (Laid.below HL_.out (by repeat (first | (with_reducible first | exact HB.out | apply below_alloc | apply pw_below_drewN | apply below_drew1 | refine below_set ?_ GE271.out | refine below_set ?_ GE277.out) | exact HB.out))) ?side1 ?side2 A37.out).mono ?_); (case side1 => repeat (first | exact (Kd.R_reads' HO_272001.out).2.2 | (with_reducible refine Kd.C_alloc ?_ _) | (with_reducible refine Kd.C_drewN ?_ _) | (with_reducible refine Kd.C_drew ?_))); (case side2 => exact (Kd.R_reads' HO_272001.out).2.1); rintro e w40 ⟨rfl, hb⟩; refine ⟨_, rfl, ?_⟩; have n0_ := Aside0.mk (Kd.R_below (by (with_reducible repeat (first | apply Kd.R_alloc | apply Kd.R_drewN | apply Kd.R_drew)); exact HO_272001.out) hb); have n1_ := Aside0.mk (Kd.R_below (by (with_reducible repeat (first | apply Kd.R_alloc | apply Kd.R_drewN | apply Kd.R_drew)); exact HO_278001.out) hb); have n2_ := Aside0.mk (blk_below (g := gb271) (o := .cells #[.int .i64 t266, .slice Ao17 t267.length co17] 26 (0, 0)) (by (with_reducible repeat (first | refine blk_drewN ?_ _ | refine blk_drew ?_ | refine blk_alloc ?_ _)); exact BK271.out) hb); have n3_ := Aside0.mk (blk_below (g := gb277) (o := .cells #[.int .i64 t272, .slice Ao22 t273.length co22] 29 (0, 0)) (by (with_reducible repeat (first | refine blk_drewN ?_ _ | refine blk_drew ?_ | refine blk_alloc ?_ _)); exact BK277.out) hb); have n4_ := Aside0.mk (below_step (by repeat (first | (with_reducible first | exact HB.out | apply below_alloc | apply pw_below_drewN | apply below_drew1 | refine below_set ?_ GE271.out | refine below_set ?_ GE277.out) | exact HB.out)) hb); clear HO_272001; clear HO_278001; clear BK271; clear BK277; clear HB; have HO_272001 := n0_; have HO_278001 := n1_; have BK271 := n2_; have BK277 := n3_; have HB := n4_; clear n0_ n1_ n2_ n3_ n4_; (try clear hb); (try clear hb2); (try clear hk); (try clear hi); (try simp only [errW_none, errW_some])))
         go_ret
         exact ⟨by first | rfl | (simp [errW_none, errW_some] <;> rfl) | (simp only [← hji5]; first | rfl | (simp [errW_none, errW_some] <;> rfl)) | (simp [*, errW_none, errW_some] <;> rfl), by repeat (first | (with_reducible first | exact HB.out | apply below_alloc | apply pw_below_drewN | apply below_drew1 | refine below_set ?_ GE271.out | refine below_set ?_ GE277.out) | exact HB.out)⟩
        ·have H1 : (none) = some r := by rw [if_neg (show ¬ (some q282).isNone = true by simp)] at H; exact H
         clear H
         have H := H1
         clear H1
         try simp only [errW_none, errW_some]
         exact absurd H (by simp)
       ·rw [if_neg c36] at H
        have c36b0 : (t276 == 0) = false := beq_eq_false_iff_ne.mpr c36
        have c36b1 : (t276 != 0) = true := bne_iff_ne.mpr c36
        obtain rfl := Option.some.inj H
        go_wp2
        go_ret
        exact ⟨by first | rfl | (simp [errW_none, errW_some] <;> rfl) | (simp only [← hji5]; first | rfl | (simp [errW_none, errW_some] <;> rfl)) | (simp [*, errW_none, errW_some] <;> rfl), by repeat (first | (with_reducible first | exact HB.out | apply below_alloc | apply pw_below_drewN | apply below_drew1 | refine below_set ?_ GE271.out | refine below_set ?_ GE277.out) | exact HB.out)⟩
   ·rw [if_neg c7] at H
    exact absurd H (by simp)
  ·rw [if_neg c6] at H
   exact absurd H (by simp)
 ·replace c4 := Bool.eq_false_iff.mpr c4
  subst c4
  have H1 : (none) = some r := by rw [if_neg (show ¬ (false = true) by decide)] at H; exact H
  clear H
  have H := H1
  clear H1
  exact absurd H (by simp)

end Go.Proofs.YtmncfcebjohloaaGreatDoor.VInodeGets
