/- Contracts of functions of this seat: each call comes to what its Lean function computes; no condition beyond what each theorem states. Printed by a program of this session's own laid over the kit's printer. -/
import Derived.Test.YtngokgliagkohaaDoorVXlatOthersx0
namespace Go.Proofs.YtngokgliagkohaaDoor.VXlatOthers
open Go.RowKit Go.Proofs.YtngokgliagkohaaDoorW.PrintWords Go.Proofs.YtngokgliagkohaaDoorW.PrintLast Go.Proofs.YtngokgliagkohaaDoorW.PrintMore
attribute [local go_sem] max2_int min2_int max_two min_two max_three min_three max_four min_four   -- for this text's walks alone
set_option linter.unusedVariables false
set_option linter.unusedSimpArgs false

/-! ### posthorselaw23_made: function 21 -/
def posthorselaw23_made.l0 : Nat → List (S88) → Int → Int → List (S63) → Int → List (S89) → Option (Int × (List (S63)) × Int × (List (S89)))
  | 0, _, _, _, _, _, _ => none
  | k + 1, x1, x8, x108000, x108001, x109000, x109001 => if x8 < (x1.length : Int) then (if x8 < 10 then (if 0 ≤ x8 then ((some (([(⟨Go.bits .and .i64 ((rd_T88 x1 x8).f0) 1023, wrap64 (1 + (Go.bits .and .i64 ((rd_T88 x1 x8).f1) 15))⟩ : S63)] : List (S63)) : List (S63))).bind fun y112 => (if x108001.length + y112.length < 8796093022208 then ((some (([(⟨Go.bits .and .i64 ((rd_T88 x1 x8).f0) 1023, wrap64 (1 + (Go.bits .and .i64 ((rd_T88 x1 x8).f1) 15))⟩ : S89)] : List (S89)) : List (S89))).bind fun y118 => (if x109001.length + y118.length < 8796093022208 then (posthorselaw23_made.l0 k x1 (wrap64 (x8 + 1)) x108000 (x108001 ++ y112) x109000 (x109001 ++ y118)) else (none))) else (none))) else (none)) else (some (x108000, x108001, x109000, x109001))) else (some (x108000, x108001, x109000, x109001))
def posthorselaw23_made.f (k : Nat) (a0 : Int) (l1 : List (S88)) : Option (Int × (List (S63)) × Int × (List (S89))) := posthorselaw23_made.l0 k l1 0 a0 ([] : List (S63)) a0 ([] : List (S89))
set_option maxRecDepth 100000 in
theorem posthorselaw23_made.mono_l : ∀ k, (∀ y0 y1 y2 y3 y4 y5, LeO (posthorselaw23_made.l0 k y0 y1 y2 y3 y4 y5) (posthorselaw23_made.l0 (k + 1) y0 y1 y2 y3 y4 y5))
  | 0 => fun _ _ _ _ _ _ r h => by first | (rw [posthorselaw23_made.l0] at h; cases h) | simp [posthorselaw23_made.l0] at h
  | k + 1 => by
    have ih0 := posthorselaw23_made.mono_l k
    · intro y0 y1 y2 y3 y4 y5
      unfold posthorselaw23_made.l0
      repeat' first
      | (with_reducible exact ih0 _ _ _ _ _ _)
      | (with_reducible exact LeO.refl _)
      | (with_reducible exact LeO.none _)
      | (with_reducible refine LeO.ite ?_ ?_)
      | (with_reducible refine LeO.bind ?_ (fun _ => ?_))
      | exact ih0 _ _ _ _ _ _
      | exact LeO.none _
      | refine LeO.ite ?_ ?_
      | refine LeO.bind ?_ (fun _ => ?_)
theorem posthorselaw23_made.mono : ∀ a0 a1 k, LeO (posthorselaw23_made.f k a0 a1) (posthorselaw23_made.f (k + 1) a0 a1) := by
  intro a0 a1 k
  have ih0 := posthorselaw23_made.mono_l k
  unfold posthorselaw23_made.f
  repeat' first
      | (with_reducible exact ih0 _ _ _ _ _ _)
      | (with_reducible exact LeO.refl _)
      | (with_reducible exact LeO.none _)
      | (with_reducible refine LeO.ite ?_ ?_)
      | (with_reducible refine LeO.bind ?_ (fun _ => ?_))
      | exact ih0 _ _ _ _ _ _
      | exact LeO.none _
      | refine LeO.ite ?_ ?_
      | refine LeO.bind ?_ (fun _ => ?_)
def posthorselaw23_made.T5 : Bool × List (List Nat × List Nat) := (true, [([], []), ([], []), ([0, 1], [0, 1]), ([2], [2]), ([3], [3]), ([4], [4]), ([], []), ([], []), ([6, 7], [6, 7]), ([8], [8]), ([9], [9]), ([10], [10]), ([11], [11]), ([5, 12], [5, 12]), ([], []), ([14, 13, 0, 1, 2, 3, 4, 5, 6, 7, 8, 9, 10, 11, 12, 13, 14], [13, 14])])
def posthorselaw23_made.B5 : List Nat := [0, 0, 3, 7, 15, 31, 0, 0, 192, 448, 960, 1984, 4032, 8191, 0, 32767]
theorem posthorselaw23_made.tab5 : rtab .any (opsOf Tryd.f21 5) = posthorselaw23_made.T5 := by kernel_rfl
theorem posthorselaw23_made.bits5 : waitsOk posthorselaw23_made.T5.2 posthorselaw23_made.B5 = true := by kernel_rfl
def posthorselaw23_made.T6 : Bool × List (List Nat × List Nat) := (true, [([], []), ([0], [0]), ([], []), ([2], [2]), ([1, 3], [1, 3]), ([], []), ([5], [5]), ([], []), ([7], [7]), ([6, 8, 4], [6, 8]), ([0, 1, 2, 3, 4], []), ([10, 4, 9, 0, 1, 2, 3, 4], [4, 10]), ([0, 1, 2, 3, 4, 5, 6, 7, 8, 9, 10, 11], []), ([12, 9, 11, 0, 1, 2, 3, 4, 5, 6, 7, 8, 9, 10, 11], [9, 12])])
def posthorselaw23_made.B6 : List Nat := [0, 1, 0, 4, 15, 0, 32, 0, 128, 511, 31, 2047, 4095, 8191]
theorem posthorselaw23_made.tab6 : rtab .any (opsOf Tryd.f21 6) = posthorselaw23_made.T6 := by kernel_rfl
theorem posthorselaw23_made.bits6 : waitsOk posthorselaw23_made.T6.2 posthorselaw23_made.B6 = true := by kernel_rfl
set_option maxHeartbeats 8000000 in
set_option maxRecDepth 100000 in
theorem posthorselaw23_made.calls (k : Nat) (a0 : Int) (A1 : Option Addr) (c1 : Nat) (l1 : List (S88)) (r1 : Int) (r2 : List (S63)) (r3 : Int) (r4 : List (S89)) (w : World) (hr1 : Kd.C k88 w A1 l1.length l1) (hc1 : l1.length ≤ c1) (h : posthorselaw23_made.f k a0 l1 = some (r1, r2, r3, r4)) :
    Calls Tryd.prog 21 #[.int .i64 a0, .slice A1 l1.length c1] w fun e w' => ∃ v1_ v3_ : Value, e = .returned (.tuple #[.agg #[.int .i64 r1, v1_], .agg #[.int .i64 r3, v3_]]) ∧ Kd.R k63 63 w' w.heap.size (fun _ => True) v1_ r2 ∧ Kd.R k89 89 w' w.heap.size (fun _ => True) v3_ r4 ∧ Below w.heap.size w w' := by
  have hu46 := Tryd.underlying46
  have hu49 := Tryd.underlying49
  have hu88 := Tryd.underlying88
  have HR1 := Aside0.mk hr1
  have HC1 := Aside0.mk hc1
  clear hr1 hc1
  have HB := Aside0.mk (Below.refl w.heap.size w)
  have H : (posthorselaw23_made.l0 k l1 0 a0 ([] : List (S63)) a0 ([] : List (S89))) = some (r1, r2, r3, r4) := h
  clear h
  have H' := Aside0.mk H
  clear H
  go_enter Tryd.func21, Tryd.ntmps21
  go_wp2_with (first | ((with_reducible refine gate_dst (N := 4) rfl ?_); refine box_event ?hg (N := 4) ?hd (cs := #[.int .i64 0, .slice none 0 0]) (t := 46) ?hr ?_; (case hd => rfl); (case hg => rfl); (case hr => first | (go_simp; done) | (go_simp; rfl)); intro gb105 hg w3 hbox hb; have n0_ := Aside0.mk (below_step (by repeat (first | (with_reducible first | exact HB.out | apply below_alloc | apply pw_below_drewN | apply below_drew1) | exact HB.out)) hb); have n1_ := Aside0.mk (hbox); have n2_ := Aside0.mk ((by rw [hg]; exact (below_size (by repeat (first | (with_reducible first | exact HB.out | apply below_alloc | apply pw_below_drewN | apply below_drew1) | exact HB.out))) : w.heap.size ≤ gb105)); have n3_ := Aside0.mk ((by rw [hg]; exact (below_size (by repeat (first | (with_reducible first | exact HB.out | apply below_alloc | apply pw_below_drewN | apply below_drew1) | exact HB.out))) : w.heap.size ≤ gb105)); clear HB; have HB := n0_; have BK105 := n1_; have GW105 := n2_; have GE105 := n3_; clear n0_ n1_ n2_ n3_; clear hb hbox hg) | ((with_reducible refine gate_dst (N := 5) rfl ?_); refine box_event ?hg (N := 5) ?hd (cs := #[.int .i64 0, .slice none 0 0]) (t := 49) ?hr ?_; (case hd => rfl); (case hg => rfl); (case hr => first | (go_simp; done) | (go_simp; rfl)); intro gb106 hg w4 hbox hb; have n0_ := Aside0.mk (blk_below (g := gb105) (o := .cells #[.int .i64 0, .slice none 0 0] 46 (0, 0)) (by (with_reducible repeat (first | refine blk_drewN ?_ _ | refine blk_drew ?_ | refine blk_alloc ?_ _)); exact BK105.out) hb); have n1_ := Aside0.mk (below_step (by repeat (first | (with_reducible first | exact HB.out | apply below_alloc | apply pw_below_drewN | apply below_drew1 | refine below_set ?_ GE105.out) | exact HB.out)) hb); have n2_ := Aside0.mk (hbox); have n3_ := Aside0.mk ((by rw [hg]; exact (below_size (by repeat (first | (with_reducible first | exact HB.out | apply below_alloc | apply pw_below_drewN | apply below_drew1 | refine below_set ?_ GE105.out) | exact HB.out))) : w.heap.size ≤ gb106)); have n4_ := Aside0.mk ((by rw [hg]; exact (below_size (by repeat (first | (with_reducible first | exact HB.out | apply below_alloc | apply pw_below_drewN | apply below_drew1 | refine below_set ?_ GE105.out) | exact HB.out))) : w.heap.size ≤ gb106)); have n5_ := Aside0.mk ((by rw [hg]; exact Nat.ne_of_lt (blk_lt (g := gb105) (o := .cells #[.int .i64 0, .slice none 0 0] 46 (0, 0)) (by (with_reducible repeat (first | refine blk_drewN ?_ _ | refine blk_drew ?_ | refine blk_alloc ?_ _)); exact BK105.out)) : gb105 ≠ gb106)); have n6_ := Aside0.mk ((by rw [hg]; exact Nat.ne_of_gt (blk_lt (g := gb105) (o := .cells #[.int .i64 0, .slice none 0 0] 46 (0, 0)) (by (with_reducible repeat (first | refine blk_drewN ?_ _ | refine blk_drew ?_ | refine blk_alloc ?_ _)); exact BK105.out)) : gb106 ≠ gb105)); clear BK105; clear HB; have BK105 := n0_; have HB := n1_; have BK106 := n2_; have GW106 := n3_; have GE106 := n4_; have NB105_106 := n5_; have NB106_105 := n6_; clear n0_ n1_ n2_ n3_ n4_ n5_ n6_; clear hb hbox hg) | ((with_reducible refine gate_dst (N := 6) rfl ?_); refine box_event ?hg (N := 6) ?hd (cs := #[.int .i64 0, .slice none 0 0]) (t := 46) ?hr ?_; (case hd => rfl); (case hg => rfl); (case hr => first | (go_simp; done) | (go_simp; rfl)); intro gb107 hg w5 hbox hb; have n0_ := Aside0.mk (blk_below (g := gb105) (o := .cells #[.int .i64 0, .slice none 0 0] 46 (0, 0)) (by (with_reducible repeat (first | refine blk_drewN ?_ _ | refine blk_drew ?_ | refine blk_alloc ?_ _)); exact BK105.out) hb); have n1_ := Aside0.mk (blk_below (g := gb106) (o := .cells #[.int .i64 0, .slice none 0 0] 49 (0, 0)) (by (with_reducible repeat (first | refine blk_drewN ?_ _ | refine blk_drew ?_ | refine blk_alloc ?_ _)); exact BK106.out) hb); have n2_ := Aside0.mk (below_step (by repeat (first | (with_reducible first | exact HB.out | apply below_alloc | apply pw_below_drewN | apply below_drew1 | refine below_set ?_ GE105.out | refine below_set ?_ GE106.out) | exact HB.out)) hb); have n3_ := Aside0.mk (hbox); have n4_ := Aside0.mk ((by rw [hg]; exact (below_size (by repeat (first | (with_reducible first | exact HB.out | apply below_alloc | apply pw_below_drewN | apply below_drew1 | refine below_set ?_ GE105.out | refine below_set ?_ GE106.out) | exact HB.out))) : w.heap.size ≤ gb107)); have n5_ := Aside0.mk ((by rw [hg]; exact (below_size (by repeat (first | (with_reducible first | exact HB.out | apply below_alloc | apply pw_below_drewN | apply below_drew1 | refine below_set ?_ GE105.out | refine below_set ?_ GE106.out) | exact HB.out))) : w.heap.size ≤ gb107)); have n6_ := Aside0.mk ((by rw [hg]; exact Nat.ne_of_lt (blk_lt (g := gb105) (o := .cells #[.int .i64 0, .slice none 0 0] 46 (0, 0)) (by (with_reducible repeat (first | refine blk_drewN ?_ _ | refine blk_drew ?_ | refine blk_alloc ?_ _)); exact BK105.out)) : gb105 ≠ gb107)); have n7_ := Aside0.mk ((by rw [hg]; exact Nat.ne_of_gt (blk_lt (g := gb105) (o := .cells #[.int .i64 0, .slice none 0 0] 46 (0, 0)) (by (with_reducible repeat (first | refine blk_drewN ?_ _ | refine blk_drew ?_ | refine blk_alloc ?_ _)); exact BK105.out)) : gb107 ≠ gb105)); have n8_ := Aside0.mk ((by rw [hg]; exact Nat.ne_of_lt (blk_lt (g := gb106) (o := .cells #[.int .i64 0, .slice none 0 0] 49 (0, 0)) (by (with_reducible repeat (first | refine blk_drewN ?_ _ | refine blk_drew ?_ | refine blk_alloc ?_ _)); exact BK106.out)) : gb106 ≠ gb107)); have n9_ := Aside0.mk ((by rw [hg]; exact Nat.ne_of_gt (blk_lt (g := gb106) (o := .cells #[.int .i64 0, .slice none 0 0] 49 (0, 0)) (by (with_reducible repeat (first | refine blk_drewN ?_ _ | refine blk_drew ?_ | refine blk_alloc ?_ _)); exact BK106.out)) : gb107 ≠ gb106)); clear BK105; clear BK106; clear HB; have BK105 := n0_; have BK106 := n1_; have HB := n2_; have BK107 := n3_; have GW107 := n4_; have GE107 := n5_; have NB105_107 := n6_; have NB107_105 := n7_; have NB106_107 := n8_; have NB107_106 := n9_; clear n0_ n1_ n2_ n3_ n4_ n5_ n6_ n7_ n8_ n9_; clear hb hbox hg) | ((with_reducible refine gate_dst (N := 7) rfl ?_); refine box_event ?hg (N := 7) ?hd (cs := #[.int .i64 0, .slice none 0 0]) (t := 49) ?hr ?_; (case hd => rfl); (case hg => rfl); (case hr => first | (go_simp; done) | (go_simp; rfl)); intro gb108 hg w6 hbox hb; have n0_ := Aside0.mk (blk_below (g := gb105) (o := .cells #[.int .i64 0, .slice none 0 0] 46 (0, 0)) (by (with_reducible repeat (first | refine blk_drewN ?_ _ | refine blk_drew ?_ | refine blk_alloc ?_ _)); exact BK105.out) hb); have n1_ := Aside0.mk (blk_below (g := gb106) (o := .cells #[.int .i64 0, .slice none 0 0] 49 (0, 0)) (by (with_reducible repeat (first | refine blk_drewN ?_ _ | refine blk_drew ?_ | refine blk_alloc ?_ _)); exact BK106.out) hb); have n2_ := Aside0.mk (blk_below (g := gb107) (o := .cells #[.int .i64 0, .slice none 0 0] 46 (0, 0)) (by (with_reducible repeat (first | refine blk_drewN ?_ _ | refine blk_drew ?_ | refine blk_alloc ?_ _)); exact BK107.out) hb); have n3_ := Aside0.mk (below_step (by repeat (first | (with_reducible first | exact HB.out | apply below_alloc | apply pw_below_drewN | apply below_drew1 | refine below_set ?_ GE105.out | refine below_set ?_ GE106.out | refine below_set ?_ GE107.out) | exact HB.out)) hb); have n4_ := Aside0.mk (hbox); have n5_ := Aside0.mk ((by rw [hg]; exact (below_size (by repeat (first | (with_reducible first | exact HB.out | apply below_alloc | apply pw_below_drewN | apply below_drew1 | refine below_set ?_ GE105.out | refine below_set ?_ GE106.out | refine below_set ?_ GE107.out) | exact HB.out))) : w.heap.size ≤ gb108)); have n6_ := Aside0.mk ((by rw [hg]; exact (below_size (by repeat (first | (with_reducible first | exact HB.out | apply below_alloc | apply pw_below_drewN | apply below_drew1 | refine below_set ?_ GE105.out | refine below_set ?_ GE106.out | refine below_set ?_ GE107.out) | exact HB.out))) : w.heap.size ≤ gb108)); have n7_ := Aside0.mk ((by rw [hg]; exact Nat.ne_of_lt (blk_lt (g := gb105) (o := .cells #[.int .i64 0, .slice none 0 0] 46 (0, 0)) (by (with_reducible repeat (first | refine blk_drewN ?_ _ | refine blk_drew ?_ | refine blk_alloc ?_ _)); exact BK105.out)) : gb105 ≠ gb108)); have n8_ := Aside0.mk ((by rw [hg]; exact Nat.ne_of_gt (blk_lt (g := gb105) (o := .cells #[.int .i64 0, .slice none 0 0] 46 (0, 0)) (by (with_reducible repeat (first | refine blk_drewN ?_ _ | refine blk_drew ?_ | refine blk_alloc ?_ _)); exact BK105.out)) : gb108 ≠ gb105)); have n9_ := Aside0.mk ((by rw [hg]; exact Nat.ne_of_lt (blk_lt (g := gb106) (o := .cells #[.int .i64 0, .slice none 0 0] 49 (0, 0)) (by (with_reducible repeat (first | refine blk_drewN ?_ _ | refine blk_drew ?_ | refine blk_alloc ?_ _)); exact BK106.out)) : gb106 ≠ gb108)); have n10_ := Aside0.mk ((by rw [hg]; exact Nat.ne_of_gt (blk_lt (g := gb106) (o := .cells #[.int .i64 0, .slice none 0 0] 49 (0, 0)) (by (with_reducible repeat (first | refine blk_drewN ?_ _ | refine blk_drew ?_ | refine blk_alloc ?_ _)); exact BK106.out)) : gb108 ≠ gb106)); have n11_ := Aside0.mk ((by rw [hg]; exact Nat.ne_of_lt (blk_lt (g := gb107) (o := .cells #[.int .i64 0, .slice none 0 0] 46 (0, 0)) (by (with_reducible repeat (first | refine blk_drewN ?_ _ | refine blk_drew ?_ | refine blk_alloc ?_ _)); exact BK107.out)) : gb107 ≠ gb108)); have n12_ := Aside0.mk ((by rw [hg]; exact Nat.ne_of_gt (blk_lt (g := gb107) (o := .cells #[.int .i64 0, .slice none 0 0] 46 (0, 0)) (by (with_reducible repeat (first | refine blk_drewN ?_ _ | refine blk_drew ?_ | refine blk_alloc ?_ _)); exact BK107.out)) : gb108 ≠ gb107)); clear BK105; clear BK106; clear BK107; clear HB; have BK105 := n0_; have BK106 := n1_; have BK107 := n2_; have HB := n3_; have BK108 := n4_; have GW108 := n5_; have GE108 := n6_; have NB105_108 := n7_; have NB108_105 := n8_; have NB106_108 := n9_; have NB108_106 := n10_; have NB107_108 := n11_; have NB108_107 := n12_; clear n0_ n1_ n2_ n3_ n4_ n5_ n6_ n7_ n8_ n9_ n10_ n11_ n12_; clear hb hbox hg; have hnb7 := NB107_105.out; have hnc7 := NB105_107.out; have hnb8 := NB107_106.out; have hnc8 := NB106_107.out; have hnb9 := NB107_108.out; have hnc9 := NB108_107.out; have hcz10_0 : w6.cell? ⟨gb107, 0, none⟩ = some (.int .i64 0) := (blk_cell BK107.out 0).trans rfl; have hcz10_1 : w6.cell? ⟨gb107, 1, none⟩ = some (.slice none 0 0) := (blk_cell BK107.out 1).trans rfl; have hfz10_0 := blk_frozen BK107.out 0; have hfz10_1 := blk_frozen BK107.out 1; have hnb11 := NB108_105.out; have hnc11 := NB105_108.out; have hnb12 := NB108_106.out; have hnc12 := NB106_108.out; have hcz13_0 : w6.cell? ⟨gb108, 0, none⟩ = some (.int .i64 0) := (blk_cell BK108.out 0).trans rfl; have hcz13_1 : w6.cell? ⟨gb108, 1, none⟩ = some (.slice none 0 0) := (blk_cell BK108.out 1).trans rfl; have hfz13_0 := blk_frozen BK108.out 0; have hfz13_1 := blk_frozen BK108.out 1))
  go_loopg [8] k (fun kq v8 w' => ∃ (x8_1 : Int) (x108001_1 : List (S63)) (x109001_1 : List (S89)) (u108001 : Value) (u109001 : Value), v8 = .int .i64 x8_1 ∧ Aside0 (posthorselaw23_made.l0 kq l1 x8_1 a0 x108001_1 a0 x109001_1 = some (r1, r2, r3, r4)) ∧ Aside0 (kq ≤ k) ∧ Aside0 (Kd.R k63 63 w' w.heap.size (fun _ => True) u108001 x108001_1) ∧ Aside0 (Kd.R k89 89 w' w.heap.size (fun _ => True) u109001 x109001_1) ∧ Aside0 (w'.heap[gb105]? = some (.cells #[.int .i64 0, (.slice none 0 0)] 46 (0, 0))) ∧ Aside0 (w'.heap[gb106]? = some (.cells #[.int .i64 0, (.slice none 0 0)] 49 (0, 0))) ∧ Aside0 (w'.heap[gb107]? = some (.cells #[.int .i64 a0, u108001] 46 (0, 0))) ∧ Aside0 (w'.heap[gb108]? = some (.cells #[.int .i64 a0, u109001] 49 (0, 0))) ∧ Aside0 (Below w.heap.size w w'))
  case atStart => exact ⟨(0), (([] : List (S63))), (([] : List (S89))), (.slice none 0 0), (.slice none 0 0), (by first | rfl | (simp; done) | (simp [*]; done)), H', ⟨Nat.le_refl _⟩, ⟨by first | exact Kd.R_nil _ _ _ _ _ | exact Kd.N_nil _ _ _ _ _ | exact Kd.V_nil _ _ _ _ _ | exact Kd.Q_nil _ _ _ _ _ | exact Kd.S_nil _ _ _ _ _⟩, ⟨by first | exact Kd.R_nil _ _ _ _ _ | exact Kd.N_nil _ _ _ _ _ | exact Kd.V_nil _ _ _ _ _ | exact Kd.Q_nil _ _ _ _ _ | exact Kd.S_nil _ _ _ _ _⟩, ⟨by (with_reducible repeat (first | refine blk_drewN ?_ _ | refine blk_drew ?_ | refine blk_alloc ?_ _)); refine blk_far ?_ NB105_108.out _; (with_reducible repeat (first | refine blk_drewN ?_ _ | refine blk_drew ?_ | refine blk_alloc ?_ _)); refine blk_far ?_ NB105_108.out _; (with_reducible repeat (first | refine blk_drewN ?_ _ | refine blk_drew ?_ | refine blk_alloc ?_ _)); refine blk_far ?_ NB105_107.out _; (with_reducible repeat (first | refine blk_drewN ?_ _ | refine blk_drew ?_ | refine blk_alloc ?_ _)); refine blk_far ?_ NB105_107.out _; (with_reducible repeat (first | refine blk_drewN ?_ _ | refine blk_drew ?_ | refine blk_alloc ?_ _)); exact BK105.out⟩, ⟨by (with_reducible repeat (first | refine blk_drewN ?_ _ | refine blk_drew ?_ | refine blk_alloc ?_ _)); refine blk_far ?_ NB106_108.out _; (with_reducible repeat (first | refine blk_drewN ?_ _ | refine blk_drew ?_ | refine blk_alloc ?_ _)); refine blk_far ?_ NB106_108.out _; (with_reducible repeat (first | refine blk_drewN ?_ _ | refine blk_drew ?_ | refine blk_alloc ?_ _)); refine blk_far ?_ NB106_107.out _; (with_reducible repeat (first | refine blk_drewN ?_ _ | refine blk_drew ?_ | refine blk_alloc ?_ _)); refine blk_far ?_ NB106_107.out _; (with_reducible repeat (first | refine blk_drewN ?_ _ | refine blk_drew ?_ | refine blk_alloc ?_ _)); exact BK106.out⟩, ⟨by (with_reducible repeat (first | refine blk_drewN ?_ _ | refine blk_drew ?_ | refine blk_alloc ?_ _)); refine blk_far ?_ NB107_108.out _; (with_reducible repeat (first | refine blk_drewN ?_ _ | refine blk_drew ?_ | refine blk_alloc ?_ _)); refine blk_far ?_ NB107_108.out _; (with_reducible repeat (first | refine blk_drewN ?_ _ | refine blk_drew ?_ | refine blk_alloc ?_ _)); refine blk_put (cs := #[.int .i64 a0, .slice none 0 0]) ?_ 1 _ rfl; (with_reducible repeat (first | refine blk_drewN ?_ _ | refine blk_drew ?_ | refine blk_alloc ?_ _)); refine blk_put (cs := #[.int .i64 0, .slice none 0 0]) ?_ 0 _ rfl; (with_reducible repeat (first | refine blk_drewN ?_ _ | refine blk_drew ?_ | refine blk_alloc ?_ _)); exact BK107.out⟩, ⟨by (with_reducible repeat (first | refine blk_drewN ?_ _ | refine blk_drew ?_ | refine blk_alloc ?_ _)); refine blk_put (cs := #[.int .i64 a0, .slice none 0 0]) ?_ 1 _ rfl; (with_reducible repeat (first | refine blk_drewN ?_ _ | refine blk_drew ?_ | refine blk_alloc ?_ _)); refine blk_put (cs := #[.int .i64 0, .slice none 0 0]) ?_ 0 _ rfl; (with_reducible repeat (first | refine blk_drewN ?_ _ | refine blk_drew ?_ | refine blk_alloc ?_ _)); refine blk_far ?_ NB108_107.out _; (with_reducible repeat (first | refine blk_drewN ?_ _ | refine blk_drew ?_ | refine blk_alloc ?_ _)); refine blk_far ?_ NB108_107.out _; (with_reducible repeat (first | refine blk_drewN ?_ _ | refine blk_drew ?_ | refine blk_alloc ?_ _)); exact BK108.out⟩, ⟨by repeat (first | (with_reducible first | exact HB.out | apply below_alloc | apply pw_below_drewN | apply below_drew1 | refine below_set ?_ GE105.out | refine below_set ?_ GE106.out | refine below_set ?_ GE107.out | refine below_set ?_ GE108.out) | exact HB.out)⟩⟩
  case round =>
    clear H'
    try clear c1
    try clear c2
    try clear p2
    try clear c7
    try clear c8
    try clear c9
    try clear c11
    try clear c12
    try clear hcz10_0
    try clear hcz10_1
    try clear hcz13_0
    try clear hcz13_1
    try clear hfz10_0
    try clear hfz10_1
    try clear hfz13_0
    try clear hfz13_1
    obtain ⟨x8_1, x108001_1, x109001_1, u108001, u109001, rfl, HA, HK1, HO_108001, HO_109001, BK105, BK106, BK107, BK108, HB⟩ := hrel
    cases gk with
    | zero => exact absurd HA.out (by simp [posthorselaw23_made.l0])
    | succ k1 =>
      have H := HA.out
      clear HA
      simp only [posthorselaw23_made.l0] at H
      by_cases c14 : x8_1 < (l1.length : Int)
      · rw [if_pos c14] at H
        have c14b0 : decide (x8_1 < (l1.length : Int)) = true := decide_eq_true c14
        clear c14
        by_cases c15 : x8_1 < 10
        · rw [if_pos c15] at H
          have c15b0 : decide (x8_1 < 10) = true := decide_eq_true c15
          clear c15
          by_cases c16 : 0 ≤ x8_1
          · rw [if_pos c16] at H
            have c16b0 : decide (0 ≤ x8_1) = true := decide_eq_true c16
            clear c16
            obtain ⟨y112, hy112⟩ : ∃ y_ : List (S63), y_ = (([(⟨Go.bits .and .i64 ((rd_T88 l1 x8_1).f0) 1023, wrap64 (1 + (Go.bits .and .i64 ((rd_T88 l1 x8_1).f1) 15))⟩ : S63)] : List (S63))) := ⟨_, rfl⟩
            replace H : (if x108001_1.length + y112.length < 8796093022208 then ((some (([(⟨Go.bits .and .i64 ((rd_T88 l1 x8_1).f0) 1023, wrap64 (1 + (Go.bits .and .i64 ((rd_T88 l1 x8_1).f1) 15))⟩ : S89)] : List (S89)) : List (S89))).bind fun y118 => (if x109001_1.length + y118.length < 8796093022208 then (posthorselaw23_made.l0 k1 l1 (wrap64 (x8_1 + 1)) a0 (x108001_1 ++ y112) a0 (x109001_1 ++ y118)) else (none))) else (none)) = some (r1, r2, r3, r4) := by first | (rw [hy112]; with_reducible exact H) | (have H2_ := (Option.bind_some _ _).symm.trans H; rw [hy112]; with_reducible exact H2_) | (have H2_ := (Option.bind_some _ _).symm.trans H; with_reducible exact H2_) | with_reducible exact H | (rw [hy112]; exact H) | exact H
            have Ny112 := Aside0.mk hy112
            clear hy112
            by_cases c17 : x108001_1.length + y112.length < 8796093022208
            · rw [if_pos c17] at H
              have LMc17 := Aside0.mk c17
              clear c17
              obtain ⟨y115, hy115⟩ : ∃ y_ : List (S63), y_ = (x108001_1 ++ y112) := ⟨_, rfl⟩
              replace H : ((some (([(⟨Go.bits .and .i64 ((rd_T88 l1 x8_1).f0) 1023, wrap64 (1 + (Go.bits .and .i64 ((rd_T88 l1 x8_1).f1) 15))⟩ : S89)] : List (S89)) : List (S89))).bind fun y118 => (if x109001_1.length + y118.length < 8796093022208 then (posthorselaw23_made.l0 k1 l1 (wrap64 (x8_1 + 1)) a0 y115 a0 (x109001_1 ++ y118)) else (none))) = some (r1, r2, r3, r4) := by first | (rw [hy115]; with_reducible exact H) | (have H2_ := (Option.bind_some _ _).symm.trans H; rw [hy115]; with_reducible exact H2_) | (have H2_ := (Option.bind_some _ _).symm.trans H; with_reducible exact H2_) | with_reducible exact H | (rw [hy115]; exact H) | exact H
              have Ny115 := Aside0.mk hy115
              clear hy115
              obtain ⟨y118, hy118⟩ : ∃ y_ : List (S89), y_ = (([(⟨Go.bits .and .i64 ((rd_T88 l1 x8_1).f0) 1023, wrap64 (1 + (Go.bits .and .i64 ((rd_T88 l1 x8_1).f1) 15))⟩ : S89)] : List (S89))) := ⟨_, rfl⟩
              replace H : (if x109001_1.length + y118.length < 8796093022208 then (posthorselaw23_made.l0 k1 l1 (wrap64 (x8_1 + 1)) a0 y115 a0 (x109001_1 ++ y118)) else (none)) = some (r1, r2, r3, r4) := by first | (rw [hy118]; with_reducible exact H) | (have H2_ := (Option.bind_some _ _).symm.trans H; rw [hy118]; with_reducible exact H2_) | (have H2_ := (Option.bind_some _ _).symm.trans H; with_reducible exact H2_) | with_reducible exact H | (rw [hy118]; exact H) | exact H
              have Ny118 := Aside0.mk hy118
              clear hy118
              by_cases c18 : x109001_1.length + y118.length < 8796093022208
              · rw [if_pos c18] at H
                have LMc18 := Aside0.mk c18
                clear c18
                obtain ⟨y121, hy121⟩ : ∃ y_ : List (S89), y_ = (x109001_1 ++ y118) := ⟨_, rfl⟩
                replace H : (posthorselaw23_made.l0 k1 l1 (wrap64 (x8_1 + 1)) a0 y115 a0 y121) = some (r1, r2, r3, r4) := by first | (rw [hy121]; with_reducible exact H) | (have H2_ := (Option.bind_some _ _).symm.trans H; rw [hy121]; with_reducible exact H2_) | (have H2_ := (Option.bind_some _ _).symm.trans H; with_reducible exact H2_) | with_reducible exact H | (rw [hy121]; exact H) | exact H
                have Ny121 := Aside0.mk hy121
                clear hy121
                have H' := Aside0.mk H
                clear H
                try go_wp2
                have n0_ := Aside0.mk (Kd.R_drew HO_108001.out)
                have n1_ := Aside0.mk (Kd.R_drew HO_109001.out)
                have n2_ := Aside0.mk (blk_drew BK105.out)
                have n3_ := Aside0.mk (blk_drew BK106.out)
                have n4_ := Aside0.mk (blk_drew BK107.out)
                have n5_ := Aside0.mk (blk_drew BK108.out)
                have n6_ := Aside0.mk (below_drew1 HB.out)
                clear HO_108001
                clear HO_109001
                clear BK105
                clear BK106
                clear BK107
                clear BK108
                clear HB
                have HO_108001 := n0_
                have HO_109001 := n1_
                have BK105 := n2_
                have BK106 := n3_
                have BK107 := n4_
                have BK108 := n5_
                have HB := n6_
                clear n0_ n1_ n2_ n3_ n4_ n5_ n6_
                have p109 : 0 ≤ (x8_1 : Int) := of_decide_eq_true (by first | (with_reducible assumption) | assumption)
                have q109 : x8_1 < (l1.length : Int) := of_decide_eq_true (by first | (with_reducible assumption) | assumption)
                obtain ⟨ad109, e109, hx109_0, hx109_1⟩ := at_T88 HR1.out x8_1 p109 q109
                have hw109_1 := hx109_1
                have hw109_0 := hx109_0
                cases e109
                replace hx109_0 := (HB.out.cell (World.block_lt_of_cell? w _ hx109_0)).trans hx109_0
                replace hx109_1 := (HB.out.cell (World.block_lt_of_cell? w _ hx109_1)).trans hx109_1
                replace p109 := eq_true p109
                replace q109 := eq_true q109
                have p110 : 0 ≤ (x8_1 : Int) := of_decide_eq_true (by first | (with_reducible assumption) | assumption)
                have q110 : x8_1 < (l1.length : Int) := of_decide_eq_true (by first | (with_reducible assumption) | assumption)
                obtain ⟨ad110, e110, hx110_0, hx110_1⟩ := at_T88 HR1.out x8_1 p110 q110
                have hw110_1 := hx110_1
                have hw110_0 := hx110_0
                obtain rfl : ad109 = ad110 := (by injection e110)
                replace hx110_0 := (HB.out.cell (World.block_lt_of_cell? w _ hx110_0)).trans hx110_0
                replace hx110_1 := (HB.out.cell (World.block_lt_of_cell? w _ hx110_1)).trans hx110_1
                replace p110 := eq_true p110
                replace q110 := eq_true q110
                refine start_ (n := 16) (S := fun w' => w'.cell? (ad109.add ((x8_1).toNat * 2)) = some (.int .i64 ((rd_T88 l1 x8_1).f0)) ∧ w'.cell? ⟨(ad109.add ((x8_1).toNat * 2)).block, (ad109.add ((x8_1).toNat * 2)).off + 1, none⟩ = some (.int .i64 ((rd_T88 l1 x8_1).f1)) ∧ w'.cell? (ad109.add ((x8_1).toNat * 2)) = some (.int .i64 ((rd_T88 l1 x8_1).f0)) ∧ w'.cell? ⟨(ad109.add ((x8_1).toNat * 2)).block, (ad109.add ((x8_1).toNat * 2)).off + 1, none⟩ = some (.int .i64 ((rd_T88 l1 x8_1).f1))) (ds := []) #[false, false, false, false, false, false, false, false, false, false, false, false, false, false, false, false] (by kernel_rfl) rfl rfl ⟨((HB.out.cell (World.block_lt_of_cell? w _ hw109_0)).trans hw109_0), ((HB.out.cell (World.block_lt_of_cell? w _ hw109_1)).trans hw109_1), ((HB.out.cell (World.block_lt_of_cell? w _ hw110_0)).trans hw110_0), ((HB.out.cell (World.block_lt_of_cell? w _ hw110_1)).trans hw110_1)⟩ (fun hHeld => ?_); refine with_tabW posthorselaw23_made.tab5 posthorselaw23_made.bits5 (fun HT_ HW_ => ?_)
                generalize wr.drew = w19 at HO_108001 HO_109001 BK105 BK106 BK107 BK108 HB hx109_0 hx109_1 hx110_0 hx110_1 hHeld ⊢
                refine pure_ (i := 0) (N := some 24) (v := ?_) (a' := ?_) #[true, false, false, false, false, false, false, false, false, false, false, false, false, false, false, false] rfl rfl (any_of HT_.out (by kernel_rfl)) (fun _ _ _ h => h) (Or.inl ⟨by rfl, ?_⟩) ?_ ?_
                rotate_left
                · intro w'
                  go_simp
                  with_reducible rfl
                rotate_left
                · simp only [Act.put, List.setIfInBounds_toArray, List.set_cons_zero, List.set_cons_succ, i64_w, i32_w]
                  rfl
                refine pure_ (i := 1) (N := some 25) (v := ?_) (a' := ?_) #[true, true, false, false, false, false, false, false, false, false, false, false, false, false, false, false] rfl rfl (any_of HT_.out (by kernel_rfl)) (fun _ _ _ h => h) (Or.inl ⟨by rfl, ?_⟩) ?_ ?_
                rotate_left
                · intro w'
                  go_simp
                  with_reducible rfl
                rotate_left
                · simp only [Act.put, List.setIfInBounds_toArray, List.set_cons_zero, List.set_cons_succ, i64_w, i32_w]
                  rfl
                refine pure_ (i := 2) (N := some 26) (v := ?_) (a' := ?_) #[true, true, true, false, false, false, false, false, false, false, false, false, false, false, false, false] rfl rfl (any_of HT_.out (by kernel_rfl)) (fun _ _ _ h => h) (Or.inl ⟨by rfl, ?_⟩) ?_ ?_
                rotate_left
                · intro w'
                  go_simp
                  with_reducible rfl
                rotate_left
                · simp only [Act.put, List.setIfInBounds_toArray, List.set_cons_zero, List.set_cons_succ, i64_w, i32_w]
                  rfl
                refine pure_ (i := 3) (N := some 27) (v := ?_) (a' := ?_) #[true, true, true, true, false, false, false, false, false, false, false, false, false, false, false, false] rfl rfl (any_of HT_.out (by kernel_rfl)) (fun _ _ _ h => h) (Or.inl ⟨by rfl, ?_⟩) ?_ ?_
                rotate_left
                · intro w'
                  go_simp
                  with_reducible rfl
                rotate_left
                · simp only [Act.put, List.setIfInBounds_toArray, List.set_cons_zero, List.set_cons_succ, i64_w, i32_w]
                  rfl
                refine pure_ (i := 6) (N := some 30) (v := ?_) (a' := ?_) #[true, true, true, true, false, false, true, false, false, false, false, false, false, false, false, false] rfl rfl (any_of HT_.out (by kernel_rfl)) (fun _ _ _ h => h) (Or.inl ⟨by rfl, ?_⟩) ?_ ?_
                rotate_left
                · intro w'
                  go_simp
                  with_reducible rfl
                rotate_left
                · simp only [Act.put, List.setIfInBounds_toArray, List.set_cons_zero, List.set_cons_succ, i64_w, i32_w]
                  rfl
                refine pure_ (i := 7) (N := some 31) (v := ?_) (a' := ?_) #[true, true, true, true, false, false, true, true, false, false, false, false, false, false, false, false] rfl rfl (any_of HT_.out (by kernel_rfl)) (fun _ _ _ h => h) (Or.inl ⟨by rfl, ?_⟩) ?_ ?_
                rotate_left
                · intro w'
                  go_simp
                  with_reducible rfl
                rotate_left
                · simp only [Act.put, List.setIfInBounds_toArray, List.set_cons_zero, List.set_cons_succ, i64_w, i32_w]
                  rfl
                refine pure_ (i := 8) (N := some 32) (v := ?_) (a' := ?_) #[true, true, true, true, false, false, true, true, true, false, false, false, false, false, false, false] rfl rfl (any_of HT_.out (by kernel_rfl)) (fun _ _ _ h => h) (Or.inl ⟨by rfl, ?_⟩) ?_ ?_
                rotate_left
                · intro w'
                  go_simp
                  with_reducible rfl
                rotate_left
                · simp only [Act.put, List.setIfInBounds_toArray, List.set_cons_zero, List.set_cons_succ, i64_w, i32_w]
                  rfl
                refine pure_ (i := 9) (N := some 33) (v := ?_) (a' := ?_) #[true, true, true, true, false, false, true, true, true, true, false, false, false, false, false, false] rfl rfl (any_of HT_.out (by kernel_rfl)) (fun _ _ _ h => h) (Or.inl ⟨by rfl, ?_⟩) ?_ ?_
                rotate_left
                · intro w'
                  go_simp
                  with_reducible rfl
                rotate_left
                · simp only [Act.put, List.setIfInBounds_toArray, List.set_cons_zero, List.set_cons_succ, i64_w, i32_w]
                  rfl
                refine take_ (i := 4) (N := some 28) (v := ?_) (a' := ?_) #[true, true, true, true, true, false, true, true, true, true, false, false, false, false, false, false] rfl rfl (take_ofW HT_.out HW_.out (by kernel_rfl)) (fun _ _ _ h => h) (Or.inl ⟨by rfl, ?_⟩) hHeld ?_ ?_
                rotate_left
                · rintro w' ⟨s0, s1, s2, s3⟩
                  go_simp
                  with_reducible rfl
                rotate_left
                · simp only [Act.put, List.setIfInBounds_toArray, List.set_cons_zero, List.set_cons_succ, i64_w, i32_w]
                  rfl
                refine pure_ (i := 5) (N := some 29) (v := ?_) (a' := ?_) #[true, true, true, true, true, true, true, true, true, true, false, false, false, false, false, false] rfl rfl (any_of HT_.out (by kernel_rfl)) (fun _ _ _ h => h) (Or.inl ⟨by rfl, ?_⟩) ?_ ?_
                rotate_left
                · intro w'
                  go_simp
                  with_reducible rfl
                rotate_left
                · simp only [Act.put, List.setIfInBounds_toArray, List.set_cons_zero, List.set_cons_succ, i64_w, i32_w]
                  rfl
                refine take_ (i := 10) (N := some 34) (v := ?_) (a' := ?_) #[true, true, true, true, true, true, true, true, true, true, true, false, false, false, false, false] rfl rfl (take_ofW HT_.out HW_.out (by kernel_rfl)) (fun _ _ _ h => h) (Or.inl ⟨by rfl, ?_⟩) hHeld ?_ ?_
                rotate_left
                · rintro w' ⟨s0, s1, s2, s3⟩
                  go_simp
                  with_reducible rfl
                rotate_left
                · simp only [Act.put, List.setIfInBounds_toArray, List.set_cons_zero, List.set_cons_succ, i64_w, i32_w]
                  rfl
                refine pure_ (i := 11) (N := some 35) (v := ?_) (a' := ?_) #[true, true, true, true, true, true, true, true, true, true, true, true, false, false, false, false] rfl rfl (any_of HT_.out (by kernel_rfl)) (fun _ _ _ h => h) (Or.inl ⟨by rfl, ?_⟩) ?_ ?_
                rotate_left
                · intro w'
                  go_simp
                  with_reducible rfl
                rotate_left
                · simp only [Act.put, List.setIfInBounds_toArray, List.set_cons_zero, List.set_cons_succ, i64_w, i32_w]
                  rfl
                refine pure_ (i := 12) (N := some 36) (v := ?_) (a' := ?_) #[true, true, true, true, true, true, true, true, true, true, true, true, true, false, false, false] rfl rfl (any_of HT_.out (by kernel_rfl)) (fun _ _ _ h => h) (Or.inl ⟨by rfl, ?_⟩) ?_ ?_
                rotate_left
                · intro w'
                  go_simp
                  with_reducible rfl
                rotate_left
                · simp only [Act.put, List.setIfInBounds_toArray, List.set_cons_zero, List.set_cons_succ, i64_w, i32_w]
                  rfl
                refine pure_ (i := 13) (N := some 37) (v := ?_) (a' := ?_) #[true, true, true, true, true, true, true, true, true, true, true, true, true, true, false, false] rfl rfl (any_of HT_.out (by kernel_rfl)) (fun _ _ _ h => h) (Or.inl ⟨by rfl, ?_⟩) ?_ ?_
                rotate_left
                · intro w'
                  go_simp
                  with_reducible rfl
                rotate_left
                · simp only [Act.put, List.setIfInBounds_toArray, List.set_cons_zero, List.set_cons_succ, i64_w, i32_w]
                  rfl
                refine one_ (i := 14) (N := some 9) #[true, true, true, true, true, true, true, true, true, true, true, true, true, true, true, false] rfl rfl (one_of HT_.out (by kernel_rfl)) (by decide) (fun K hK => ?_)
                refine box_step ?hg (N := 9) ?hd (cs := #[.int .i64 0, .int .i64 0]) (t := 88) ?hr ?_; (case hd => rfl); (case hg => rfl); (case hr => first | (go_simp; done) | (go_simp; rfl))
                intro gb111 hg w20 hbox hb
                have n0_ := Aside0.mk (Kd.R_below (by (with_reducible repeat (first | apply Kd.R_alloc | apply Kd.R_drewN | apply Kd.R_drew)); exact HO_108001.out) hb)
                have n1_ := Aside0.mk (Kd.R_below (by (with_reducible repeat (first | apply Kd.R_alloc | apply Kd.R_drewN | apply Kd.R_drew)); exact HO_109001.out) hb)
                have n2_ := Aside0.mk (blk_below (g := gb105) (o := .cells #[.int .i64 0, .slice none 0 0] 46 (0, 0)) (by (with_reducible repeat (first | refine blk_drewN ?_ _ | refine blk_drew ?_ | refine blk_alloc ?_ _)); exact BK105.out) hb)
                have n3_ := Aside0.mk (blk_below (g := gb106) (o := .cells #[.int .i64 0, .slice none 0 0] 49 (0, 0)) (by (with_reducible repeat (first | refine blk_drewN ?_ _ | refine blk_drew ?_ | refine blk_alloc ?_ _)); exact BK106.out) hb)
                have n4_ := Aside0.mk (blk_below (g := gb107) (o := .cells #[.int .i64 a0, u108001] 46 (0, 0)) (by (with_reducible repeat (first | refine blk_drewN ?_ _ | refine blk_drew ?_ | refine blk_alloc ?_ _)); exact BK107.out) hb)
                have n5_ := Aside0.mk (blk_below (g := gb108) (o := .cells #[.int .i64 a0, u109001] 49 (0, 0)) (by (with_reducible repeat (first | refine blk_drewN ?_ _ | refine blk_drew ?_ | refine blk_alloc ?_ _)); exact BK108.out) hb)
                have n6_ := Aside0.mk (below_step (by repeat (first | (with_reducible first | exact HB.out | apply below_alloc | apply pw_below_drewN | apply below_drew1 | refine below_set ?_ GE105.out | refine below_set ?_ GE106.out | refine below_set ?_ GE107.out | refine below_set ?_ GE108.out) | exact HB.out)) hb)
                have n7_ := Aside0.mk (hbox)
                have n8_ := Aside0.mk ((by rw [hg]; exact (below_size (by repeat (first | (with_reducible first | exact HB.out | apply below_alloc | apply pw_below_drewN | apply below_drew1 | refine below_set ?_ GE105.out | refine below_set ?_ GE106.out | refine below_set ?_ GE107.out | refine below_set ?_ GE108.out) | exact HB.out))) : w.heap.size ≤ gb111))
                have n9_ := Aside0.mk ((by rw [hg]; exact (below_size (by repeat (first | (with_reducible first | exact HB.out | apply below_alloc | apply pw_below_drewN | apply below_drew1 | refine below_set ?_ GE105.out | refine below_set ?_ GE106.out | refine below_set ?_ GE107.out | refine below_set ?_ GE108.out) | exact HB.out))) : w.heap.size ≤ gb111))
                have n10_ := Aside0.mk ((by rw [hg]; exact Nat.ne_of_lt (blk_lt (g := gb105) (o := .cells #[.int .i64 0, .slice none 0 0] 46 (0, 0)) (by (with_reducible repeat (first | refine blk_drewN ?_ _ | refine blk_drew ?_ | refine blk_alloc ?_ _)); exact BK105.out)) : gb105 ≠ gb111))
                have n11_ := Aside0.mk ((by rw [hg]; exact Nat.ne_of_gt (blk_lt (g := gb105) (o := .cells #[.int .i64 0, .slice none 0 0] 46 (0, 0)) (by (with_reducible repeat (first | refine blk_drewN ?_ _ | refine blk_drew ?_ | refine blk_alloc ?_ _)); exact BK105.out)) : gb111 ≠ gb105))
                have n12_ := Aside0.mk ((by rw [hg]; exact Nat.ne_of_lt (blk_lt (g := gb106) (o := .cells #[.int .i64 0, .slice none 0 0] 49 (0, 0)) (by (with_reducible repeat (first | refine blk_drewN ?_ _ | refine blk_drew ?_ | refine blk_alloc ?_ _)); exact BK106.out)) : gb106 ≠ gb111))
                have n13_ := Aside0.mk ((by rw [hg]; exact Nat.ne_of_gt (blk_lt (g := gb106) (o := .cells #[.int .i64 0, .slice none 0 0] 49 (0, 0)) (by (with_reducible repeat (first | refine blk_drewN ?_ _ | refine blk_drew ?_ | refine blk_alloc ?_ _)); exact BK106.out)) : gb111 ≠ gb106))
                have n14_ := Aside0.mk ((by rw [hg]; exact Nat.ne_of_lt (blk_lt (g := gb107) (o := .cells #[.int .i64 a0, u108001] 46 (0, 0)) (by (with_reducible repeat (first | refine blk_drewN ?_ _ | refine blk_drew ?_ | refine blk_alloc ?_ _)); exact BK107.out)) : gb107 ≠ gb111))
                have n15_ := Aside0.mk ((by rw [hg]; exact Nat.ne_of_gt (blk_lt (g := gb107) (o := .cells #[.int .i64 a0, u108001] 46 (0, 0)) (by (with_reducible repeat (first | refine blk_drewN ?_ _ | refine blk_drew ?_ | refine blk_alloc ?_ _)); exact BK107.out)) : gb111 ≠ gb107))
                have n16_ := Aside0.mk ((by rw [hg]; exact Nat.ne_of_lt (blk_lt (g := gb108) (o := .cells #[.int .i64 a0, u109001] 49 (0, 0)) (by (with_reducible repeat (first | refine blk_drewN ?_ _ | refine blk_drew ?_ | refine blk_alloc ?_ _)); exact BK108.out)) : gb108 ≠ gb111))
                have n17_ := Aside0.mk ((by rw [hg]; exact Nat.ne_of_gt (blk_lt (g := gb108) (o := .cells #[.int .i64 a0, u109001] 49 (0, 0)) (by (with_reducible repeat (first | refine blk_drewN ?_ _ | refine blk_drew ?_ | refine blk_alloc ?_ _)); exact BK108.out)) : gb111 ≠ gb108))
                clear HO_108001
                clear HO_109001
                clear BK105
                clear BK106
                clear BK107
                clear BK108
                clear HB
                have HO_108001 := n0_
                have HO_109001 := n1_
                have BK105 := n2_
                have BK106 := n3_
                have BK107 := n4_
                have BK108 := n5_
                have HB := n6_
                have BK111 := n7_
                have GW111 := n8_
                have GE111 := n9_
                have NB105_111 := n10_
                have NB111_105 := n11_
                have NB106_111 := n12_
                have NB111_106 := n13_
                have NB107_111 := n14_
                have NB111_107 := n15_
                have NB108_111 := n16_
                have NB111_108 := n17_
                clear n0_ n1_ n2_ n3_ n4_ n5_ n6_ n7_ n8_ n9_ n10_ n11_ n12_ n13_ n14_ n15_ n16_ n17_
                clear hb hbox hg
                refine hK.out _ _ ⟨((HB.out.cell (World.block_lt_of_cell? w _ hw109_0)).trans hw109_0), ((HB.out.cell (World.block_lt_of_cell? w _ hw109_1)).trans hw109_1), ((HB.out.cell (World.block_lt_of_cell? w _ hw110_0)).trans hw110_0), ((HB.out.cell (World.block_lt_of_cell? w _ hw110_1)).trans hw110_1)⟩ (fun hHeld => ?_)
                clear hK K
                refine norm_ (a' := ?_) ?_ ?_
                rotate_left
                · show Act.put _ (some 9) _ = _
                  simp only [Act.put, List.setIfInBounds_toArray, List.set_cons_zero, List.set_cons_succ, i64_w, i32_w]
                  rfl
                refine one_ (i := 15) (N := none) #[true, true, true, true, true, true, true, true, true, true, true, true, true, true, true, true] rfl rfl (one_of HT_.out (by kernel_rfl)) (by decide) (fun K hK => ?_)
                have hs21 : w20.cell? ⟨gb111, 0, none⟩ = some (.int .i64 0) := (blk_cell BK111.out 0).trans rfl
                have hfs21 := blk_frozen BK111.out 0
                have hns21_0 := NB105_111.out
                have hns21_1 := NB106_111.out
                have hns21_2 := NB107_111.out
                have hns21_3 := NB108_111.out
                have hms21_0 := NB111_105.out
                have hms21_1 := NB111_106.out
                have hms21_2 := NB111_107.out
                have hms21_3 := NB111_108.out
                have hs22 : w20.cell? ⟨gb111, 1, none⟩ = some (.int .i64 0) := (blk_cell BK111.out 1).trans rfl
                have hfs22 := blk_frozen BK111.out 1
                have hns22_0 := NB105_111.out
                have hns22_1 := NB106_111.out
                have hns22_2 := NB107_111.out
                have hns22_3 := NB108_111.out
                have hms22_0 := NB111_105.out
                have hms22_1 := NB111_106.out
                have hms22_2 := NB111_107.out
                have hms22_3 := NB111_108.out
                refine skip_ (w1 := ?_) (by rfl) rfl ?_ ?_
                rotate_left
                · go_simp
                  rfl
                refine hK.out _ _ ⟨((cell_far (p := ⟨gb111, _, none⟩) (by first | exact Nat.ne_of_lt (Nat.lt_of_lt_of_le (by have := World.block_lt_of_cell? _ _ hw109_0; first | rwa [add_block] at this | exact this) GW111.out) | (rw [add_block]; exact Nat.ne_of_lt (Nat.lt_of_lt_of_le (by have := World.block_lt_of_cell? _ _ hw109_0; first | rwa [add_block] at this | exact this) GW111.out)) | (show (Addr.add _ _).block ≠ _; rw [add_block]; exact Nat.ne_of_lt (Nat.lt_of_lt_of_le (by have := World.block_lt_of_cell? _ _ hw109_0; first | rwa [add_block] at this | exact this) GW111.out)) | (dsimp only; exact Nat.ne_of_lt (Nat.lt_of_lt_of_le (by have := World.block_lt_of_cell? _ _ hw109_0; first | rwa [add_block] at this | exact this) GW111.out))) _).trans (((cell_far (p := ⟨gb111, _, none⟩) (by first | exact Nat.ne_of_lt (Nat.lt_of_lt_of_le (by have := World.block_lt_of_cell? _ _ hw109_0; first | rwa [add_block] at this | exact this) GW111.out) | (rw [add_block]; exact Nat.ne_of_lt (Nat.lt_of_lt_of_le (by have := World.block_lt_of_cell? _ _ hw109_0; first | rwa [add_block] at this | exact this) GW111.out)) | (show (Addr.add _ _).block ≠ _; rw [add_block]; exact Nat.ne_of_lt (Nat.lt_of_lt_of_le (by have := World.block_lt_of_cell? _ _ hw109_0; first | rwa [add_block] at this | exact this) GW111.out)) | (dsimp only; exact Nat.ne_of_lt (Nat.lt_of_lt_of_le (by have := World.block_lt_of_cell? _ _ hw109_0; first | rwa [add_block] at this | exact this) GW111.out))) _).trans (hHeld.1)))), ((cell_far (p := ⟨gb111, _, none⟩) (by first | exact Nat.ne_of_lt (Nat.lt_of_lt_of_le (by have := World.block_lt_of_cell? _ _ hw109_1; first | rwa [add_block] at this | exact this) GW111.out) | (rw [add_block]; exact Nat.ne_of_lt (Nat.lt_of_lt_of_le (by have := World.block_lt_of_cell? _ _ hw109_1; first | rwa [add_block] at this | exact this) GW111.out)) | (show (Addr.add _ _).block ≠ _; rw [add_block]; exact Nat.ne_of_lt (Nat.lt_of_lt_of_le (by have := World.block_lt_of_cell? _ _ hw109_1; first | rwa [add_block] at this | exact this) GW111.out)) | (dsimp only; exact Nat.ne_of_lt (Nat.lt_of_lt_of_le (by have := World.block_lt_of_cell? _ _ hw109_1; first | rwa [add_block] at this | exact this) GW111.out))) _).trans (((cell_far (p := ⟨gb111, _, none⟩) (by first | exact Nat.ne_of_lt (Nat.lt_of_lt_of_le (by have := World.block_lt_of_cell? _ _ hw109_1; first | rwa [add_block] at this | exact this) GW111.out) | (rw [add_block]; exact Nat.ne_of_lt (Nat.lt_of_lt_of_le (by have := World.block_lt_of_cell? _ _ hw109_1; first | rwa [add_block] at this | exact this) GW111.out)) | (show (Addr.add _ _).block ≠ _; rw [add_block]; exact Nat.ne_of_lt (Nat.lt_of_lt_of_le (by have := World.block_lt_of_cell? _ _ hw109_1; first | rwa [add_block] at this | exact this) GW111.out)) | (dsimp only; exact Nat.ne_of_lt (Nat.lt_of_lt_of_le (by have := World.block_lt_of_cell? _ _ hw109_1; first | rwa [add_block] at this | exact this) GW111.out))) _).trans (hHeld.2.1)))), ((cell_far (p := ⟨gb111, _, none⟩) (by first | exact Nat.ne_of_lt (Nat.lt_of_lt_of_le (by have := World.block_lt_of_cell? _ _ hw110_0; first | rwa [add_block] at this | exact this) GW111.out) | (rw [add_block]; exact Nat.ne_of_lt (Nat.lt_of_lt_of_le (by have := World.block_lt_of_cell? _ _ hw110_0; first | rwa [add_block] at this | exact this) GW111.out)) | (show (Addr.add _ _).block ≠ _; rw [add_block]; exact Nat.ne_of_lt (Nat.lt_of_lt_of_le (by have := World.block_lt_of_cell? _ _ hw110_0; first | rwa [add_block] at this | exact this) GW111.out)) | (dsimp only; exact Nat.ne_of_lt (Nat.lt_of_lt_of_le (by have := World.block_lt_of_cell? _ _ hw110_0; first | rwa [add_block] at this | exact this) GW111.out))) _).trans (((cell_far (p := ⟨gb111, _, none⟩) (by first | exact Nat.ne_of_lt (Nat.lt_of_lt_of_le (by have := World.block_lt_of_cell? _ _ hw110_0; first | rwa [add_block] at this | exact this) GW111.out) | (rw [add_block]; exact Nat.ne_of_lt (Nat.lt_of_lt_of_le (by have := World.block_lt_of_cell? _ _ hw110_0; first | rwa [add_block] at this | exact this) GW111.out)) | (show (Addr.add _ _).block ≠ _; rw [add_block]; exact Nat.ne_of_lt (Nat.lt_of_lt_of_le (by have := World.block_lt_of_cell? _ _ hw110_0; first | rwa [add_block] at this | exact this) GW111.out)) | (dsimp only; exact Nat.ne_of_lt (Nat.lt_of_lt_of_le (by have := World.block_lt_of_cell? _ _ hw110_0; first | rwa [add_block] at this | exact this) GW111.out))) _).trans (hHeld.2.2.1)))), ((cell_far (p := ⟨gb111, _, none⟩) (by first | exact Nat.ne_of_lt (Nat.lt_of_lt_of_le (by have := World.block_lt_of_cell? _ _ hw110_1; first | rwa [add_block] at this | exact this) GW111.out) | (rw [add_block]; exact Nat.ne_of_lt (Nat.lt_of_lt_of_le (by have := World.block_lt_of_cell? _ _ hw110_1; first | rwa [add_block] at this | exact this) GW111.out)) | (show (Addr.add _ _).block ≠ _; rw [add_block]; exact Nat.ne_of_lt (Nat.lt_of_lt_of_le (by have := World.block_lt_of_cell? _ _ hw110_1; first | rwa [add_block] at this | exact this) GW111.out)) | (dsimp only; exact Nat.ne_of_lt (Nat.lt_of_lt_of_le (by have := World.block_lt_of_cell? _ _ hw110_1; first | rwa [add_block] at this | exact this) GW111.out))) _).trans (((cell_far (p := ⟨gb111, _, none⟩) (by first | exact Nat.ne_of_lt (Nat.lt_of_lt_of_le (by have := World.block_lt_of_cell? _ _ hw110_1; first | rwa [add_block] at this | exact this) GW111.out) | (rw [add_block]; exact Nat.ne_of_lt (Nat.lt_of_lt_of_le (by have := World.block_lt_of_cell? _ _ hw110_1; first | rwa [add_block] at this | exact this) GW111.out)) | (show (Addr.add _ _).block ≠ _; rw [add_block]; exact Nat.ne_of_lt (Nat.lt_of_lt_of_le (by have := World.block_lt_of_cell? _ _ hw110_1; first | rwa [add_block] at this | exact this) GW111.out)) | (dsimp only; exact Nat.ne_of_lt (Nat.lt_of_lt_of_le (by have := World.block_lt_of_cell? _ _ hw110_1; first | rwa [add_block] at this | exact this) GW111.out))) _).trans (hHeld.2.2.2))))⟩ (fun hHeld => ?_)
                clear hK K
                refine done_ (done_of HT_.out (by kernel_rfl)) ?_
                obtain ⟨Ao23, co23, eo23⟩ := Kd.R_slice HO_108001.out
                subst eo23
                obtain ⟨Ao24, co24, eo24⟩ := Kd.R_slice HO_109001.out
                subst eo24
                try go_wp2
                have n0_ : Aside0 (Kd.R k63 63 ((w20.setCell ⟨gb111, 0, none⟩ (.int .i64 (Go.bits .and .i64 ((rd_T88 l1 x8_1).f0) 1023))).setCell ⟨gb111, 1, none⟩ (.int .i64 (wrap64 (1 + (Go.bits .and .i64 ((rd_T88 l1 x8_1).f1) 15))))) w.heap.size (fun _ => True) (.slice Ao23 x108001_1.length co23) x108001_1) := ⟨by (with_reducible repeat (first | apply Kd.R_alloc | apply Kd.R_drewN | apply Kd.R_drew)); exact Kd.R_mono (Kd.R_far (p := ⟨gb111, 1, none⟩) (Kd.R_far (p := ⟨gb111, 0, none⟩) (Kd.R_types HO_108001.out BK111.out (by decide)) (fun _ hk => hk.2) (.int .i64 (Go.bits .and .i64 ((rd_T88 l1 x8_1).f0) 1023))) (fun _ hk => hk.2) (.int .i64 (wrap64 (1 + (Go.bits .and .i64 ((rd_T88 l1 x8_1).f1) 15))))) (fun _ hk => trivial)⟩
                have n1_ : Aside0 (Kd.R k89 89 ((w20.setCell ⟨gb111, 0, none⟩ (.int .i64 (Go.bits .and .i64 ((rd_T88 l1 x8_1).f0) 1023))).setCell ⟨gb111, 1, none⟩ (.int .i64 (wrap64 (1 + (Go.bits .and .i64 ((rd_T88 l1 x8_1).f1) 15))))) w.heap.size (fun _ => True) (.slice Ao24 x109001_1.length co24) x109001_1) := ⟨by (with_reducible repeat (first | apply Kd.R_alloc | apply Kd.R_drewN | apply Kd.R_drew)); exact Kd.R_mono (Kd.R_far (p := ⟨gb111, 1, none⟩) (Kd.R_far (p := ⟨gb111, 0, none⟩) (Kd.R_types HO_109001.out BK111.out (by decide)) (fun _ hk => hk.2) (.int .i64 (Go.bits .and .i64 ((rd_T88 l1 x8_1).f0) 1023))) (fun _ hk => hk.2) (.int .i64 (wrap64 (1 + (Go.bits .and .i64 ((rd_T88 l1 x8_1).f1) 15))))) (fun _ hk => trivial)⟩
                have n2_ : Aside0 (((w20.setCell ⟨gb111, 0, none⟩ (.int .i64 (Go.bits .and .i64 ((rd_T88 l1 x8_1).f0) 1023))).setCell ⟨gb111, 1, none⟩ (.int .i64 (wrap64 (1 + (Go.bits .and .i64 ((rd_T88 l1 x8_1).f1) 15))))).heap[gb105]? = some (.cells #[.int .i64 0, .slice none 0 0] 46 (0, 0))) := ⟨by (with_reducible repeat (first | refine blk_drewN ?_ _ | refine blk_drew ?_ | refine blk_alloc ?_ _)); refine blk_far ?_ NB105_111.out _; (with_reducible repeat (first | refine blk_drewN ?_ _ | refine blk_drew ?_ | refine blk_alloc ?_ _)); refine blk_far ?_ NB105_111.out _; (with_reducible repeat (first | refine blk_drewN ?_ _ | refine blk_drew ?_ | refine blk_alloc ?_ _)); exact BK105.out⟩
                have n3_ : Aside0 (((w20.setCell ⟨gb111, 0, none⟩ (.int .i64 (Go.bits .and .i64 ((rd_T88 l1 x8_1).f0) 1023))).setCell ⟨gb111, 1, none⟩ (.int .i64 (wrap64 (1 + (Go.bits .and .i64 ((rd_T88 l1 x8_1).f1) 15))))).heap[gb106]? = some (.cells #[.int .i64 0, .slice none 0 0] 49 (0, 0))) := ⟨by (with_reducible repeat (first | refine blk_drewN ?_ _ | refine blk_drew ?_ | refine blk_alloc ?_ _)); refine blk_far ?_ NB106_111.out _; (with_reducible repeat (first | refine blk_drewN ?_ _ | refine blk_drew ?_ | refine blk_alloc ?_ _)); refine blk_far ?_ NB106_111.out _; (with_reducible repeat (first | refine blk_drewN ?_ _ | refine blk_drew ?_ | refine blk_alloc ?_ _)); exact BK106.out⟩
                have n4_ : Aside0 (((w20.setCell ⟨gb111, 0, none⟩ (.int .i64 (Go.bits .and .i64 ((rd_T88 l1 x8_1).f0) 1023))).setCell ⟨gb111, 1, none⟩ (.int .i64 (wrap64 (1 + (Go.bits .and .i64 ((rd_T88 l1 x8_1).f1) 15))))).heap[gb107]? = some (.cells #[.int .i64 a0, .slice Ao23 x108001_1.length co23] 46 (0, 0))) := ⟨by (with_reducible repeat (first | refine blk_drewN ?_ _ | refine blk_drew ?_ | refine blk_alloc ?_ _)); refine blk_far ?_ NB107_111.out _; (with_reducible repeat (first | refine blk_drewN ?_ _ | refine blk_drew ?_ | refine blk_alloc ?_ _)); refine blk_far ?_ NB107_111.out _; (with_reducible repeat (first | refine blk_drewN ?_ _ | refine blk_drew ?_ | refine blk_alloc ?_ _)); exact BK107.out⟩
                have n5_ : Aside0 (((w20.setCell ⟨gb111, 0, none⟩ (.int .i64 (Go.bits .and .i64 ((rd_T88 l1 x8_1).f0) 1023))).setCell ⟨gb111, 1, none⟩ (.int .i64 (wrap64 (1 + (Go.bits .and .i64 ((rd_T88 l1 x8_1).f1) 15))))).heap[gb108]? = some (.cells #[.int .i64 a0, .slice Ao24 x109001_1.length co24] 49 (0, 0))) := ⟨by (with_reducible repeat (first | refine blk_drewN ?_ _ | refine blk_drew ?_ | refine blk_alloc ?_ _)); refine blk_far ?_ NB108_111.out _; (with_reducible repeat (first | refine blk_drewN ?_ _ | refine blk_drew ?_ | refine blk_alloc ?_ _)); refine blk_far ?_ NB108_111.out _; (with_reducible repeat (first | refine blk_drewN ?_ _ | refine blk_drew ?_ | refine blk_alloc ?_ _)); exact BK108.out⟩
                have n6_ : Aside0 (((w20.setCell ⟨gb111, 0, none⟩ (.int .i64 (Go.bits .and .i64 ((rd_T88 l1 x8_1).f0) 1023))).setCell ⟨gb111, 1, none⟩ (.int .i64 (wrap64 (1 + (Go.bits .and .i64 ((rd_T88 l1 x8_1).f1) 15))))).heap[gb111]? = some (.cells #[.int .i64 (Go.bits .and .i64 ((rd_T88 l1 x8_1).f0) 1023), .int .i64 (wrap64 (1 + (Go.bits .and .i64 ((rd_T88 l1 x8_1).f1) 15)))] 88 (0, 0))) := ⟨by (with_reducible repeat (first | refine blk_drewN ?_ _ | refine blk_drew ?_ | refine blk_alloc ?_ _)); refine blk_put (cs := #[.int .i64 (Go.bits .and .i64 ((rd_T88 l1 x8_1).f0) 1023), .int .i64 0]) ?_ 1 _ rfl; (with_reducible repeat (first | refine blk_drewN ?_ _ | refine blk_drew ?_ | refine blk_alloc ?_ _)); refine blk_put (cs := #[.int .i64 0, .int .i64 0]) ?_ 0 _ rfl; (with_reducible repeat (first | refine blk_drewN ?_ _ | refine blk_drew ?_ | refine blk_alloc ?_ _)); exact BK111.out⟩
                have n7_ : Aside0 (Below w.heap.size w ((w20.setCell ⟨gb111, 0, none⟩ (.int .i64 (Go.bits .and .i64 ((rd_T88 l1 x8_1).f0) 1023))).setCell ⟨gb111, 1, none⟩ (.int .i64 (wrap64 (1 + (Go.bits .and .i64 ((rd_T88 l1 x8_1).f1) 15)))))) := ⟨by repeat (first | (with_reducible first | exact HB.out | apply below_alloc | apply pw_below_drewN | apply below_drew1 | refine below_set ?_ GE105.out | refine below_set ?_ GE106.out | refine below_set ?_ GE107.out | refine below_set ?_ GE108.out | refine below_set ?_ GE111.out) | exact HB.out)⟩
                (try clear HO_108001)
                (try clear HO_109001)
                (try clear BK105)
                (try clear BK106)
                (try clear BK107)
                (try clear BK108)
                (try clear BK111)
                (try clear HB)
                generalize ((w20.setCell ⟨gb111, 0, none⟩ (.int .i64 (Go.bits .and .i64 ((rd_T88 l1 x8_1).f0) 1023))).setCell ⟨gb111, 1, none⟩ (.int .i64 (wrap64 (1 + (Go.bits .and .i64 ((rd_T88 l1 x8_1).f1) 15))))) = w25 at n0_ n1_ n2_ n3_ n4_ n5_ n6_ n7_ ⊢
                have HO_108001 := n0_
                have HO_109001 := n1_
                have BK105 := n2_
                have BK106 := n3_
                have BK107 := n4_
                have BK108 := n5_
                have BK111 := n6_
                have HB := n7_
                clear n0_ n1_ n2_ n3_ n4_ n5_ n6_ n7_
                have n0_ := Aside0.mk (Kd.R_drew HO_108001.out)
                have n1_ := Aside0.mk (Kd.R_drew HO_109001.out)
                have n2_ := Aside0.mk (blk_drew BK105.out)
                have n3_ := Aside0.mk (blk_drew BK106.out)
                have n4_ := Aside0.mk (blk_drew BK107.out)
                have n5_ := Aside0.mk (blk_drew BK108.out)
                have n6_ := Aside0.mk (blk_drew BK111.out)
                have n7_ := Aside0.mk (below_drew1 HB.out)
                clear HO_108001
                clear HO_109001
                clear BK105
                clear BK106
                clear BK107
                clear BK108
                clear BK111
                clear HB
                have HO_108001 := n0_
                have HO_109001 := n1_
                have BK105 := n2_
                have BK106 := n3_
                have BK107 := n4_
                have BK108 := n5_
                have BK111 := n6_
                have HB := n7_
                clear n0_ n1_ n2_ n3_ n4_ n5_ n6_ n7_
                refine start_ (n := 14) (S := fun w' => w'.cell? ⟨gb107, 0, none⟩ = some (.int .i64 a0) ∧ w'.cell? ⟨gb107, 1, none⟩ = some (.slice Ao23 x108001_1.length co23) ∧ w'.cell? ⟨gb111, 0, none⟩ = some (.int .i64 (Go.bits .and .i64 ((rd_T88 l1 x8_1).f0) 1023)) ∧ w'.cell? ⟨gb111, 1, none⟩ = some (.int .i64 (wrap64 (1 + (Go.bits .and .i64 ((rd_T88 l1 x8_1).f1) 15)))) ∧ w'.cell? ⟨gb108, 0, none⟩ = some (.int .i64 a0) ∧ w'.cell? ⟨gb108, 1, none⟩ = some (.slice Ao24 x109001_1.length co24)) (ds := [11, 13]) #[false, false, false, false, false, false, false, false, false, false, false, false, false, false] (by kernel_rfl) rfl rfl ⟨(blk_cell BK107.out 0).trans rfl, (blk_cell BK107.out 1).trans rfl, (blk_cell BK111.out 0).trans rfl, (blk_cell BK111.out 1).trans rfl, (blk_cell BK108.out 0).trans rfl, (blk_cell BK108.out 1).trans rfl⟩ (fun hHeld => ?_); refine with_tabW posthorselaw23_made.tab6 posthorselaw23_made.bits6 (fun HT_ HW_ => ?_)
                generalize w25.drew = w26 at HO_108001 HO_109001 BK105 BK106 BK107 BK108 BK111 HB hHeld ⊢
                refine pure_ (i := 0) (N := some 38) (v := ?_) (a' := ?_) #[true, false, false, false, false, false, false, false, false, false, false, false, false, false] rfl rfl (any_of HT_.out (by kernel_rfl)) (fun _ _ _ h => h) (Or.inl ⟨by rfl, ?_⟩) ?_ ?_
                rotate_left
                · intro w'
                  go_simp
                  with_reducible rfl
                rotate_left
                · simp only [Act.put, List.setIfInBounds_toArray, List.set_cons_zero, List.set_cons_succ, i64_w, i32_w]
                  rfl
                refine pure_ (i := 5) (N := some 43) (v := ?_) (a' := ?_) #[true, false, false, false, false, true, false, false, false, false, false, false, false, false] rfl rfl (any_of HT_.out (by kernel_rfl)) (fun _ _ _ h => h) (Or.inl ⟨by rfl, ?_⟩) ?_ ?_
                rotate_left
                · intro w'
                  go_simp
                  with_reducible rfl
                rotate_left
                · simp only [Act.put, List.setIfInBounds_toArray, List.set_cons_zero, List.set_cons_succ, i64_w, i32_w]
                  rfl
                refine take_ (i := 1) (N := some 39) (v := ?_) (a' := ?_) #[true, true, false, false, false, true, false, false, false, false, false, false, false, false] rfl rfl (take_ofW HT_.out HW_.out (by kernel_rfl)) (fun _ _ _ h => h) (Or.inl ⟨by rfl, ?_⟩) hHeld ?_ ?_
                rotate_left
                · rintro w' ⟨s0, s1, s2, s3, s4, s5⟩
                  go_simp
                  with_reducible rfl
                rotate_left
                · simp only [Act.put, List.setIfInBounds_toArray, List.set_cons_zero, List.set_cons_succ, i64_w, i32_w]
                  rfl
                refine take_ (i := 2) (N := some 40) (v := ?_) (a' := ?_) #[true, true, true, false, false, true, false, false, false, false, false, false, false, false] rfl rfl (take_ofW HT_.out HW_.out (by kernel_rfl)) (fun _ _ _ h => h) (Or.inl ⟨by rfl, ?_⟩) hHeld ?_ ?_
                rotate_left
                · rintro w' ⟨s0, s1, s2, s3, s4, s5⟩
                  go_simp
                  with_reducible rfl
                rotate_left
                · simp only [Act.put, List.setIfInBounds_toArray, List.set_cons_zero, List.set_cons_succ, i64_w, i32_w]
                  rfl
                refine take_ (i := 6) (N := some 44) (v := ?_) (a' := ?_) #[true, true, true, false, false, true, true, false, false, false, false, false, false, false] rfl rfl (take_ofW HT_.out HW_.out (by kernel_rfl)) (fun _ _ _ h => h) (Or.inl ⟨by rfl, ?_⟩) hHeld ?_ ?_
                rotate_left
                · rintro w' ⟨s0, s1, s2, s3, s4, s5⟩
                  go_simp
                  with_reducible rfl
                rotate_left
                · simp only [Act.put, List.setIfInBounds_toArray, List.set_cons_zero, List.set_cons_succ, i64_w, i32_w]
                  rfl
                refine take_ (i := 7) (N := some 45) (v := ?_) (a' := ?_) #[true, true, true, false, false, true, true, true, false, false, false, false, false, false] rfl rfl (take_ofW HT_.out HW_.out (by kernel_rfl)) (fun _ _ _ h => h) (Or.inl ⟨by rfl, ?_⟩) hHeld ?_ ?_
                rotate_left
                · rintro w' ⟨s0, s1, s2, s3, s4, s5⟩
                  go_simp
                  with_reducible rfl
                rotate_left
                · simp only [Act.put, List.setIfInBounds_toArray, List.set_cons_zero, List.set_cons_succ, i64_w, i32_w]
                  rfl
                refine join_ (σ := Value × Value × Value) 4 #[true, true, true, true, true, true, true, true, true, false, true, false, false, false] (fun s_ => [(41, s_.1), (42, s_.2.1), (46, s_.2.2), (48, .pointer (some ⟨gb107, 1, none⟩))]) (fun s_ w' => (w'.cell? ⟨gb107, 0, none⟩ = some (.int .i64 a0) ∧ w'.cell? ⟨gb107, 1, none⟩ = some (.slice Ao23 x108001_1.length co23) ∧ w'.cell? ⟨gb111, 0, none⟩ = some (.int .i64 (Go.bits .and .i64 ((rd_T88 l1 x8_1).f0) 1023)) ∧ w'.cell? ⟨gb111, 1, none⟩ = some (.int .i64 (wrap64 (1 + (Go.bits .and .i64 ((rd_T88 l1 x8_1).f1) 15)))) ∧ w'.cell? ⟨gb108, 0, none⟩ = some (.int .i64 a0) ∧ w'.cell? ⟨gb108, 1, none⟩ = some (.slice Ao24 x109001_1.length co24)) ∧ (Kd.R k63 63 w' w.heap.size (fun k_ => some k_ ≠ (s_.2.1 : Value).ownBlock) s_.1 y112) ∧ (Kd.R k63 63 w' w.heap.size (fun k_ => some k_ ≠ (s_.1 : Value).ownBlock) s_.2.1 y115) ∧ (Kd.R k89 89 w' w.heap.size (fun k_ => some k_ ≠ (.slice Ao24 x109001_1.length co24 : Value).ownBlock) s_.2.2 y118) ∧ (Kd.R k89 89 w' w.heap.size (fun k_ => some k_ ≠ (s_.2.2 : Value).ownBlock) (.slice Ao24 x109001_1.length co24) x109001_1) ∧ (w'.heap[gb105]? = some (.cells #[.int .i64 0, .slice none 0 0] 46 (0, 0))) ∧ (w'.heap[gb106]? = some (.cells #[.int .i64 0, .slice none 0 0] 49 (0, 0))) ∧ (w'.heap[gb107]? = some (.cells #[.int .i64 a0, .slice Ao23 x108001_1.length co23] 46 (0, 0))) ∧ (w'.heap[gb108]? = some (.cells #[.int .i64 a0, .slice Ao24 x109001_1.length co24] 49 (0, 0))) ∧ (w'.heap[gb111]? = some (.cells #[.int .i64 (Go.bits .and .i64 ((rd_T88 l1 x8_1).f0) 1023), .int .i64 (wrap64 (1 + (Go.bits .and .i64 ((rd_T88 l1 x8_1).f1) 15)))] 88 (0, 0))) ∧ (Below w.heap.size w w')) ?_ ?_
                rotate_left
                · intro hCont
                  refine two_ (i := 3) (j := 8) (Ni := some 41) (Nj := some 46) #[true, true, true, true, false, true, true, true, false, false, false, false, false, false] #[true, true, true, false, false, true, true, true, true, false, false, false, false, false] rfl rfl rfl rfl (two_of HT_.out (by kernel_rfl)) (by decide) (by decide) (fun K hK => ?_) (fun K hK => ?_)
                  · skip
                    refine Kd.R_lit_step k63 _ 63 ?hg (N := 41) ?hd (xs := ([(⟨Go.bits .and .i64 ((rd_T88 l1 x8_1).f0) 1023, wrap64 (1 + (Go.bits .and .i64 ((rd_T88 l1 x8_1).f1) 15))⟩ : S63)] : List (S63))) (inner := [.int .i64 (Go.bits .and .i64 ((rd_T88 l1 x8_1).f0) 1023), .int .i64 (wrap64 (1 + (Go.bits .and .i64 ((rd_T88 l1 x8_1).f1) 15)))]) (ok := fun _ => True) (okp := fun _ => True) ?hr ?hp (fun _ hk => hk) trivial (Below.refl _ _) (Nat.le_refl _) (by simp) ?_; (case hd => rfl); (case hg => rfl); (case hr => first | (go_simp; done) | (go_simp; rfl)); (case hp => exact (Reps.c2 (show Kd.M k63 _ _ _ (⟨Go.bits .and .i64 ((rd_T88 l1 x8_1).f0) 1023, wrap64 (1 + (Go.bits .and .i64 ((rd_T88 l1 x8_1).f1) 15))⟩ : S63) [.int .i64 (Go.bits .and .i64 ((rd_T88 l1 x8_1).f0) 1023), .int .i64 (wrap64 (1 + (Go.bits .and .i64 ((rd_T88 l1 x8_1).f1) 15)))] from (k63_mkM _ _ _ (⟨Go.bits .and .i64 ((rd_T88 l1 x8_1).f0) 1023, wrap64 (1 + (Go.bits .and .i64 ((rd_T88 l1 x8_1).f1) 15))⟩ : S63) )) (Reps.none _ _)))
                    intro v113 w27 ho28 hb hg_ hnew_
                    clear hg_ hnew_
                    (first | rw [← Ny112.out] at ho28 | (simp only [Int.reduceToNat] at ho28; rw [← Ny112.out] at ho28))
                    have n0_ := Aside0.mk (Kd.R_elder' (by (with_reducible repeat (first | apply Kd.R_alloc | apply Kd.R_drewN | apply Kd.R_drew)); exact HO_108001.out) (Kd.R_base ho28) hb)
                    have n1_ := Aside0.mk (Kd.R_below (by (with_reducible repeat (first | apply Kd.R_alloc | apply Kd.R_drewN | apply Kd.R_drew)); exact HO_109001.out) hb)
                    have n2_ := Aside0.mk (Kd.R_lower (Kd.R_new' ho28 (Kd.R_lt (by (with_reducible repeat (first | apply Kd.R_alloc | apply Kd.R_drewN | apply Kd.R_drew)); exact HO_108001.out))) (below_size (by repeat (first | (with_reducible first | exact HB.out | apply below_alloc | apply pw_below_drewN | apply below_drew1 | refine below_set ?_ GE105.out | refine below_set ?_ GE106.out | refine below_set ?_ GE107.out | refine below_set ?_ GE108.out | refine below_set ?_ GE111.out) | exact HB.out))))
                    have n3_ := Aside0.mk (blk_below (g := gb105) (o := .cells #[.int .i64 0, .slice none 0 0] 46 (0, 0)) (by (with_reducible repeat (first | refine blk_drewN ?_ _ | refine blk_drew ?_ | refine blk_alloc ?_ _)); exact BK105.out) hb)
                    have n4_ := Aside0.mk (blk_below (g := gb106) (o := .cells #[.int .i64 0, .slice none 0 0] 49 (0, 0)) (by (with_reducible repeat (first | refine blk_drewN ?_ _ | refine blk_drew ?_ | refine blk_alloc ?_ _)); exact BK106.out) hb)
                    have n5_ := Aside0.mk (blk_below (g := gb107) (o := .cells #[.int .i64 a0, .slice Ao23 x108001_1.length co23] 46 (0, 0)) (by (with_reducible repeat (first | refine blk_drewN ?_ _ | refine blk_drew ?_ | refine blk_alloc ?_ _)); exact BK107.out) hb)
                    have n6_ := Aside0.mk (blk_below (g := gb108) (o := .cells #[.int .i64 a0, .slice Ao24 x109001_1.length co24] 49 (0, 0)) (by (with_reducible repeat (first | refine blk_drewN ?_ _ | refine blk_drew ?_ | refine blk_alloc ?_ _)); exact BK108.out) hb)
                    have n7_ := Aside0.mk (blk_below (g := gb111) (o := .cells #[.int .i64 (Go.bits .and .i64 ((rd_T88 l1 x8_1).f0) 1023), .int .i64 (wrap64 (1 + (Go.bits .and .i64 ((rd_T88 l1 x8_1).f1) 15)))] 88 (0, 0)) (by (with_reducible repeat (first | refine blk_drewN ?_ _ | refine blk_drew ?_ | refine blk_alloc ?_ _)); exact BK111.out) hb)
                    have n8_ := Aside0.mk (below_step (by repeat (first | (with_reducible first | exact HB.out | apply below_alloc | apply pw_below_drewN | apply below_drew1 | refine below_set ?_ GE105.out | refine below_set ?_ GE106.out | refine below_set ?_ GE107.out | refine below_set ?_ GE108.out | refine below_set ?_ GE111.out) | exact HB.out)) hb)
                    clear HO_108001
                    clear HO_109001
                    clear BK105
                    clear BK106
                    clear BK107
                    clear BK108
                    clear BK111
                    clear HB
                    have HO_108001 := n0_
                    have HO_109001 := n1_
                    have HO114 := n2_
                    have BK105 := n3_
                    have BK106 := n4_
                    have BK107 := n5_
                    have BK108 := n6_
                    have BK111 := n7_
                    have HB := n8_
                    clear n0_ n1_ n2_ n3_ n4_ n5_ n6_ n7_ n8_
                    clear hb ho28
                    obtain ⟨Ao30, co30, eo30⟩ := Kd.R_slice HO114.out
                    (first | subst eo30 | (injection eo30 with f1_ f2_ f3_; have f4_ := f1_.symm; have f5_ := f3_.symm; clear f1_ f2_ f3_; subst f4_; subst f5_))
                    refine hK.out _ _ ⟨(blk_cell BK107.out 0).trans rfl, (blk_cell BK107.out 1).trans rfl, (blk_cell BK111.out 0).trans rfl, (blk_cell BK111.out 1).trans rfl, (blk_cell BK108.out 0).trans rfl, (blk_cell BK108.out 1).trans rfl⟩ (fun hHeld => ?_)
                    clear hK K
                    refine norm_ (a' := ?_) ?_ ?_
                    rotate_left
                    · show Act.put _ (some 41) _ = _
                      simp only [Act.put, List.setIfInBounds_toArray, List.set_cons_zero, List.set_cons_succ, i64_w, i32_w]
                      rfl
                    refine two_ (i := 4) (j := 8) (Ni := some 42) (Nj := some 46) #[true, true, true, true, true, true, true, true, false, false, false, false, false, false] #[true, true, true, true, false, true, true, true, true, false, false, false, false, false] rfl rfl rfl rfl (two_of HT_.out (by kernel_rfl)) (by decide) (by decide) (fun K hK => ?_) (fun K hK => ?_)
                    · skip
                      refine Kd.R_append_rows_step k63 (w0 := w) w.heap.size (by rfl) (.tmp 39) (.tmp 41) 44 63 (.agg #[(.int .i64 0), (.int .i64 0)]) 16 rfl Tryd.underlying44 info63 rfl (by decide) (by omega) (.slice Ao23 x108001_1.length co23) x108001_1 y112 _ _ _ (fun k_ => some k_ ≠ (.slice Ao30 y112.length co30 : Value).ownBlock) (fun _ => False) rfl rfl ?aO ?aR (fun _ _ h => h) (fun _ h => h.elim) ?aF ?aB ?aS ?aL ?_
                      (case aR => repeat (first | exact (Kd.R_reads' HO114.out).2.2 | (with_reducible refine Kd.C_alloc ?_ _) | (with_reducible refine Kd.C_drewN ?_ _) | (with_reducible refine Kd.C_drew ?_)))
                      (case aB => exact (by repeat (first | (with_reducible first | exact HB.out | apply below_alloc | apply pw_below_drewN | apply below_drew1 | refine below_set ?_ GE105.out | refine below_set ?_ GE106.out | refine below_set ?_ GE107.out | refine below_set ?_ GE108.out | refine below_set ?_ GE111.out) | exact HB.out)))
                      (case aF => exact (fun k_ hk => Kd.fresh' (Kd.R_lt (by (with_reducible repeat (first | apply Kd.R_alloc | apply Kd.R_drewN | apply Kd.R_drew)); exact HO114.out)) k_ hk))
                      (case aO => exact (by (with_reducible repeat (first | apply Kd.R_alloc | apply Kd.R_drewN | apply Kd.R_drew)); exact Kd.R_mono HO_108001.out (fun _ hk => hk.2)))
                      (case aS => exact (below_size (by repeat (first | (with_reducible first | exact HB.out | apply below_alloc | apply pw_below_drewN | apply below_drew1 | refine below_set ?_ GE105.out | refine below_set ?_ GE106.out | refine below_set ?_ GE107.out | refine below_set ?_ GE108.out | refine below_set ?_ GE111.out) | exact HB.out))))
                      (case aL => have := LMc17.out; omega)
                      intro v116 w29 ho hb hg hat
                      rw [← Ny115.out] at ho
                      have n0_ := Aside0.mk (Kd.R_over' (by (with_reducible repeat (first | apply Kd.R_alloc | apply Kd.R_drewN | apply Kd.R_drew)); exact HO_109001.out) (Kd.R_typed (by (with_reducible repeat (first | apply Kd.R_alloc | apply Kd.R_drewN | apply Kd.R_drew)); exact HO_108001.out)) (by decide) hg)
                      have n1_ := Aside0.mk (blk_grown (g := gb105) (o := .cells #[.int .i64 0, .slice none 0 0] 46 (0, 0)) (by (with_reducible repeat (first | refine blk_drewN ?_ _ | refine blk_drew ?_ | refine blk_alloc ?_ _)); exact BK105.out) hg (Kd.R_ne HO_108001.out BK105.out (by decide)))
                      have n2_ := Aside0.mk (blk_grown (g := gb106) (o := .cells #[.int .i64 0, .slice none 0 0] 49 (0, 0)) (by (with_reducible repeat (first | refine blk_drewN ?_ _ | refine blk_drew ?_ | refine blk_alloc ?_ _)); exact BK106.out) hg (Kd.R_ne HO_108001.out BK106.out (by decide)))
                      have n3_ := Aside0.mk (blk_grown (g := gb107) (o := .cells #[.int .i64 a0, .slice Ao23 x108001_1.length co23] 46 (0, 0)) (by (with_reducible repeat (first | refine blk_drewN ?_ _ | refine blk_drew ?_ | refine blk_alloc ?_ _)); exact BK107.out) hg (Kd.R_ne HO_108001.out BK107.out (by decide)))
                      have n4_ := Aside0.mk (blk_grown (g := gb108) (o := .cells #[.int .i64 a0, .slice Ao24 x109001_1.length co24] 49 (0, 0)) (by (with_reducible repeat (first | refine blk_drewN ?_ _ | refine blk_drew ?_ | refine blk_alloc ?_ _)); exact BK108.out) hg (Kd.R_ne HO_108001.out BK108.out (by decide)))
                      have n5_ := Aside0.mk (blk_grown (g := gb111) (o := .cells #[.int .i64 (Go.bits .and .i64 ((rd_T88 l1 x8_1).f0) 1023), .int .i64 (wrap64 (1 + (Go.bits .and .i64 ((rd_T88 l1 x8_1).f1) 15)))] 88 (0, 0)) (by (with_reducible repeat (first | refine blk_drewN ?_ _ | refine blk_drew ?_ | refine blk_alloc ?_ _)); exact BK111.out) hg (Kd.R_ne HO_108001.out BK111.out (by decide)))
                      have n6_ := Aside0.mk (Kd.R_after (ok := (fun _ => True)) (by (with_reducible repeat (first | apply Kd.R_alloc | apply Kd.R_drewN | apply Kd.R_drew)); exact HO114.out) hg hat)
                      have n7_ := Aside0.mk (hb)
                      have n8_ := Aside0.mk (ho)
                      clear HO_109001
                      clear BK105
                      clear BK106
                      clear BK107
                      clear BK108
                      clear BK111
                      clear HO114
                      clear HB
                      clear HO_108001
                      have HO_109001 := n0_
                      have BK105 := n1_
                      have BK106 := n2_
                      have BK107 := n3_
                      have BK108 := n4_
                      have BK111 := n5_
                      have HO114 := n6_
                      have HB := n7_
                      have HO117 := n8_
                      clear n0_ n1_ n2_ n3_ n4_ n5_ n6_ n7_ n8_
                      clear ho hb hg hat
                      refine hK.out _ _ ⟨(blk_cell BK107.out 0).trans rfl, (blk_cell BK107.out 1).trans rfl, (blk_cell BK111.out 0).trans rfl, (blk_cell BK111.out 1).trans rfl, (blk_cell BK108.out 0).trans rfl, (blk_cell BK108.out 1).trans rfl⟩ (fun hHeld => ?_)
                      clear hK K
                      refine norm_ (a' := ?_) ?_ ?_
                      rotate_left
                      · show Act.put _ (some 42) _ = _
                        simp only [Act.put, List.setIfInBounds_toArray, List.set_cons_zero, List.set_cons_succ, i64_w, i32_w]
                        rfl
                      refine pure_ (i := 10) (N := some 48) (v := ?_) (a' := ?_) #[true, true, true, true, true, true, true, true, false, false, true, false, false, false] rfl rfl (any_of HT_.out (by kernel_rfl)) (fun _ _ _ h => h) (Or.inl ⟨by rfl, ?_⟩) ?_ ?_
                      rotate_left
                      · intro w'
                        go_simp
                        with_reducible rfl
                      rotate_left
                      · simp only [Act.put, List.setIfInBounds_toArray, List.set_cons_zero, List.set_cons_succ, i64_w, i32_w]
                        rfl
                      refine one_ (i := 8) (N := some 46) #[true, true, true, true, true, true, true, true, true, false, true, false, false, false] rfl rfl (one_of HT_.out (by kernel_rfl)) (by decide) (fun K hK => ?_)
                      refine Kd.R_lit_step k89 _ 89 ?hg (N := 46) ?hd (xs := ([(⟨Go.bits .and .i64 ((rd_T88 l1 x8_1).f0) 1023, wrap64 (1 + (Go.bits .and .i64 ((rd_T88 l1 x8_1).f1) 15))⟩ : S89)] : List (S89))) (inner := [.int .i64 (Go.bits .and .i64 ((rd_T88 l1 x8_1).f0) 1023), .int .i64 (wrap64 (1 + (Go.bits .and .i64 ((rd_T88 l1 x8_1).f1) 15)))]) (ok := fun _ => True) (okp := fun _ => True) ?hr ?hp (fun _ hk => hk) trivial (Below.refl _ _) (Nat.le_refl _) (by simp) ?_; (case hd => rfl); (case hg => rfl); (case hr => first | (go_simp; done) | (go_simp; rfl)); (case hp => exact (Reps.c2 (show Kd.M k89 _ _ _ (⟨Go.bits .and .i64 ((rd_T88 l1 x8_1).f0) 1023, wrap64 (1 + (Go.bits .and .i64 ((rd_T88 l1 x8_1).f1) 15))⟩ : S89) [.int .i64 (Go.bits .and .i64 ((rd_T88 l1 x8_1).f0) 1023), .int .i64 (wrap64 (1 + (Go.bits .and .i64 ((rd_T88 l1 x8_1).f1) 15)))] from (k89_mkM _ _ _ (⟨Go.bits .and .i64 ((rd_T88 l1 x8_1).f0) 1023, wrap64 (1 + (Go.bits .and .i64 ((rd_T88 l1 x8_1).f1) 15))⟩ : S89) )) (Reps.none _ _)))
                      intro v119 w31 ho32 hb hg_ hnew_
                      clear hg_ hnew_
                      (first | rw [← Ny118.out] at ho32 | (simp only [Int.reduceToNat] at ho32; rw [← Ny118.out] at ho32))
                      have n0_ := Aside0.mk (Kd.R_elder' (by (with_reducible repeat (first | apply Kd.R_alloc | apply Kd.R_drewN | apply Kd.R_drew)); exact HO_109001.out) (Kd.R_base ho32) hb)
                      have n1_ := Aside0.mk (Kd.R_below (by (with_reducible repeat (first | apply Kd.R_alloc | apply Kd.R_drewN | apply Kd.R_drew)); exact HO114.out) hb)
                      have n2_ := Aside0.mk (Kd.R_below (by (with_reducible repeat (first | apply Kd.R_alloc | apply Kd.R_drewN | apply Kd.R_drew)); exact HO117.out) hb)
                      have n3_ := Aside0.mk (Kd.R_lower (Kd.R_new' ho32 (Kd.R_lt (by (with_reducible repeat (first | apply Kd.R_alloc | apply Kd.R_drewN | apply Kd.R_drew)); exact HO_109001.out))) (below_size (by repeat (first | (with_reducible first | exact HB.out | apply below_alloc | apply pw_below_drewN | apply below_drew1 | refine below_set ?_ GE105.out | refine below_set ?_ GE106.out | refine below_set ?_ GE107.out | refine below_set ?_ GE108.out | refine below_set ?_ GE111.out) | exact HB.out))))
                      have n4_ := Aside0.mk (blk_below (g := gb105) (o := .cells #[.int .i64 0, .slice none 0 0] 46 (0, 0)) (by (with_reducible repeat (first | refine blk_drewN ?_ _ | refine blk_drew ?_ | refine blk_alloc ?_ _)); exact BK105.out) hb)
                      have n5_ := Aside0.mk (blk_below (g := gb106) (o := .cells #[.int .i64 0, .slice none 0 0] 49 (0, 0)) (by (with_reducible repeat (first | refine blk_drewN ?_ _ | refine blk_drew ?_ | refine blk_alloc ?_ _)); exact BK106.out) hb)
                      have n6_ := Aside0.mk (blk_below (g := gb107) (o := .cells #[.int .i64 a0, .slice Ao23 x108001_1.length co23] 46 (0, 0)) (by (with_reducible repeat (first | refine blk_drewN ?_ _ | refine blk_drew ?_ | refine blk_alloc ?_ _)); exact BK107.out) hb)
                      have n7_ := Aside0.mk (blk_below (g := gb108) (o := .cells #[.int .i64 a0, .slice Ao24 x109001_1.length co24] 49 (0, 0)) (by (with_reducible repeat (first | refine blk_drewN ?_ _ | refine blk_drew ?_ | refine blk_alloc ?_ _)); exact BK108.out) hb)
                      have n8_ := Aside0.mk (blk_below (g := gb111) (o := .cells #[.int .i64 (Go.bits .and .i64 ((rd_T88 l1 x8_1).f0) 1023), .int .i64 (wrap64 (1 + (Go.bits .and .i64 ((rd_T88 l1 x8_1).f1) 15)))] 88 (0, 0)) (by (with_reducible repeat (first | refine blk_drewN ?_ _ | refine blk_drew ?_ | refine blk_alloc ?_ _)); exact BK111.out) hb)
                      have n9_ := Aside0.mk (below_step (by repeat (first | (with_reducible first | exact HB.out | apply below_alloc | apply pw_below_drewN | apply below_drew1 | refine below_set ?_ GE105.out | refine below_set ?_ GE106.out | refine below_set ?_ GE107.out | refine below_set ?_ GE108.out | refine below_set ?_ GE111.out) | exact HB.out)) hb)
                      clear HO_109001
                      clear HO114
                      clear HO117
                      clear BK105
                      clear BK106
                      clear BK107
                      clear BK108
                      clear BK111
                      clear HB
                      have HO_109001 := n0_
                      have HO114 := n1_
                      have HO117 := n2_
                      have HO120 := n3_
                      have BK105 := n4_
                      have BK106 := n5_
                      have BK107 := n6_
                      have BK108 := n7_
                      have BK111 := n8_
                      have HB := n9_
                      clear n0_ n1_ n2_ n3_ n4_ n5_ n6_ n7_ n8_ n9_
                      clear hb ho32
                      refine hK.out _ _ ⟨(blk_cell BK107.out 0).trans rfl, (blk_cell BK107.out 1).trans rfl, (blk_cell BK111.out 0).trans rfl, (blk_cell BK111.out 1).trans rfl, (blk_cell BK108.out 0).trans rfl, (blk_cell BK108.out 1).trans rfl⟩ (fun hHeld => ?_)
                      clear hK K
                      refine norm_ (a' := ?_) ?_ ?_
                      rotate_left
                      · show Act.put _ (some 46) _ = _
                        simp only [Act.put, List.setIfInBounds_toArray, List.set_cons_zero, List.set_cons_succ, i64_w, i32_w]
                        rfl
                      exact norm_ (by simp only [putAll, Act.put, List.setIfInBounds_toArray, List.set_cons_zero, List.set_cons_succ]) (hCont (.slice Ao30 y112.length co30, v116, v119) _ ⟨hHeld, (by (with_reducible repeat (first | apply Kd.R_alloc | apply Kd.R_drewN | apply Kd.R_drew)); exact Kd.R_mono HO114.out (fun _ hk => hk.2)), (by (with_reducible repeat (first | apply Kd.R_alloc | apply Kd.R_drewN | apply Kd.R_drew)); exact HO117.out), (by (with_reducible repeat (first | apply Kd.R_alloc | apply Kd.R_drewN | apply Kd.R_drew)); exact Kd.R_mono HO120.out (fun _ hk => hk.2)), (by (with_reducible repeat (first | apply Kd.R_alloc | apply Kd.R_drewN | apply Kd.R_drew)); exact Kd.R_mono HO_109001.out (fun _ hk => hk.2)), (by (with_reducible repeat (first | refine blk_drewN ?_ _ | refine blk_drew ?_ | refine blk_alloc ?_ _)); exact BK105.out), (by (with_reducible repeat (first | refine blk_drewN ?_ _ | refine blk_drew ?_ | refine blk_alloc ?_ _)); exact BK106.out), (by (with_reducible repeat (first | refine blk_drewN ?_ _ | refine blk_drew ?_ | refine blk_alloc ?_ _)); exact BK107.out), (by (with_reducible repeat (first | refine blk_drewN ?_ _ | refine blk_drew ?_ | refine blk_alloc ?_ _)); exact BK108.out), (by (with_reducible repeat (first | refine blk_drewN ?_ _ | refine blk_drew ?_ | refine blk_alloc ?_ _)); exact BK111.out), (by repeat (first | (with_reducible first | exact HB.out | apply below_alloc | apply pw_below_drewN | apply below_drew1 | refine below_set ?_ GE105.out | refine below_set ?_ GE106.out | refine below_set ?_ GE107.out | refine below_set ?_ GE108.out | refine below_set ?_ GE111.out) | exact HB.out))⟩)
                    · skip
                      refine Kd.R_lit_step k89 _ 89 ?hg (N := 46) ?hd (xs := ([(⟨Go.bits .and .i64 ((rd_T88 l1 x8_1).f0) 1023, wrap64 (1 + (Go.bits .and .i64 ((rd_T88 l1 x8_1).f1) 15))⟩ : S89)] : List (S89))) (inner := [.int .i64 (Go.bits .and .i64 ((rd_T88 l1 x8_1).f0) 1023), .int .i64 (wrap64 (1 + (Go.bits .and .i64 ((rd_T88 l1 x8_1).f1) 15)))]) (ok := fun _ => True) (okp := fun _ => True) ?hr ?hp (fun _ hk => hk) trivial (Below.refl _ _) (Nat.le_refl _) (by simp) ?_; (case hd => rfl); (case hg => rfl); (case hr => first | (go_simp; done) | (go_simp; rfl)); (case hp => exact (Reps.c2 (show Kd.M k89 _ _ _ (⟨Go.bits .and .i64 ((rd_T88 l1 x8_1).f0) 1023, wrap64 (1 + (Go.bits .and .i64 ((rd_T88 l1 x8_1).f1) 15))⟩ : S89) [.int .i64 (Go.bits .and .i64 ((rd_T88 l1 x8_1).f0) 1023), .int .i64 (wrap64 (1 + (Go.bits .and .i64 ((rd_T88 l1 x8_1).f1) 15)))] from (k89_mkM _ _ _ (⟨Go.bits .and .i64 ((rd_T88 l1 x8_1).f0) 1023, wrap64 (1 + (Go.bits .and .i64 ((rd_T88 l1 x8_1).f1) 15))⟩ : S89) )) (Reps.none _ _)))
                      intro v119 w29 ho30 hb hg_ hnew_
                      clear hg_ hnew_
                      (first | rw [← Ny118.out] at ho30 | (simp only [Int.reduceToNat] at ho30; rw [← Ny118.out] at ho30))
                      have n0_ := Aside0.mk (Kd.R_below (by (with_reducible repeat (first | apply Kd.R_alloc | apply Kd.R_drewN | apply Kd.R_drew)); exact HO_108001.out) hb)
                      have n1_ := Aside0.mk (Kd.R_elder' (by (with_reducible repeat (first | apply Kd.R_alloc | apply Kd.R_drewN | apply Kd.R_drew)); exact HO_109001.out) (Kd.R_base ho30) hb)
                      have n2_ := Aside0.mk (Kd.R_below (by (with_reducible repeat (first | apply Kd.R_alloc | apply Kd.R_drewN | apply Kd.R_drew)); exact HO114.out) hb)
                      have n3_ := Aside0.mk (Kd.R_lower (Kd.R_new' ho30 (Kd.R_lt (by (with_reducible repeat (first | apply Kd.R_alloc | apply Kd.R_drewN | apply Kd.R_drew)); exact HO_109001.out))) (below_size (by repeat (first | (with_reducible first | exact HB.out | apply below_alloc | apply pw_below_drewN | apply below_drew1 | refine below_set ?_ GE105.out | refine below_set ?_ GE106.out | refine below_set ?_ GE107.out | refine below_set ?_ GE108.out | refine below_set ?_ GE111.out) | exact HB.out))))
                      have n4_ := Aside0.mk (blk_below (g := gb105) (o := .cells #[.int .i64 0, .slice none 0 0] 46 (0, 0)) (by (with_reducible repeat (first | refine blk_drewN ?_ _ | refine blk_drew ?_ | refine blk_alloc ?_ _)); exact BK105.out) hb)
                      have n5_ := Aside0.mk (blk_below (g := gb106) (o := .cells #[.int .i64 0, .slice none 0 0] 49 (0, 0)) (by (with_reducible repeat (first | refine blk_drewN ?_ _ | refine blk_drew ?_ | refine blk_alloc ?_ _)); exact BK106.out) hb)
                      have n6_ := Aside0.mk (blk_below (g := gb107) (o := .cells #[.int .i64 a0, .slice Ao23 x108001_1.length co23] 46 (0, 0)) (by (with_reducible repeat (first | refine blk_drewN ?_ _ | refine blk_drew ?_ | refine blk_alloc ?_ _)); exact BK107.out) hb)
                      have n7_ := Aside0.mk (blk_below (g := gb108) (o := .cells #[.int .i64 a0, .slice Ao24 x109001_1.length co24] 49 (0, 0)) (by (with_reducible repeat (first | refine blk_drewN ?_ _ | refine blk_drew ?_ | refine blk_alloc ?_ _)); exact BK108.out) hb)
                      have n8_ := Aside0.mk (blk_below (g := gb111) (o := .cells #[.int .i64 (Go.bits .and .i64 ((rd_T88 l1 x8_1).f0) 1023), .int .i64 (wrap64 (1 + (Go.bits .and .i64 ((rd_T88 l1 x8_1).f1) 15)))] 88 (0, 0)) (by (with_reducible repeat (first | refine blk_drewN ?_ _ | refine blk_drew ?_ | refine blk_alloc ?_ _)); exact BK111.out) hb)
                      have n9_ := Aside0.mk (below_step (by repeat (first | (with_reducible first | exact HB.out | apply below_alloc | apply pw_below_drewN | apply below_drew1 | refine below_set ?_ GE105.out | refine below_set ?_ GE106.out | refine below_set ?_ GE107.out | refine below_set ?_ GE108.out | refine below_set ?_ GE111.out) | exact HB.out)) hb)
                      clear HO_108001
                      clear HO_109001
                      clear HO114
                      clear BK105
                      clear BK106
                      clear BK107
                      clear BK108
                      clear BK111
                      clear HB
                      have HO_108001 := n0_
                      have HO_109001 := n1_
                      have HO114 := n2_
                      have HO120 := n3_
                      have BK105 := n4_
                      have BK106 := n5_
                      have BK107 := n6_
                      have BK108 := n7_
                      have BK111 := n8_
                      have HB := n9_
                      clear n0_ n1_ n2_ n3_ n4_ n5_ n6_ n7_ n8_ n9_
                      clear hb ho30
                      obtain ⟨Ao32, co32, eo32⟩ := Kd.R_slice HO114.out
                      (first | subst eo32 | (injection eo32 with f1_ f2_ f3_; have f4_ := f1_.symm; have f5_ := f3_.symm; clear f1_ f2_ f3_; subst f4_; subst f5_))
                      refine hK.out _ _ ⟨(blk_cell BK107.out 0).trans rfl, (blk_cell BK107.out 1).trans rfl, (blk_cell BK111.out 0).trans rfl, (blk_cell BK111.out 1).trans rfl, (blk_cell BK108.out 0).trans rfl, (blk_cell BK108.out 1).trans rfl⟩ (fun hHeld => ?_)
                      clear hK K
                      refine norm_ (a' := ?_) ?_ ?_
                      rotate_left
                      · show Act.put _ (some 46) _ = _
                        simp only [Act.put, List.setIfInBounds_toArray, List.set_cons_zero, List.set_cons_succ, i64_w, i32_w]
                        rfl
                      refine one_ (i := 4) (N := some 42) #[true, true, true, true, true, true, true, true, true, false, false, false, false, false] rfl rfl (one_of HT_.out (by kernel_rfl)) (by decide) (fun K hK => ?_)
                      refine Kd.R_append_rows_step k63 (w0 := w) w.heap.size (by rfl) (.tmp 39) (.tmp 41) 44 63 (.agg #[(.int .i64 0), (.int .i64 0)]) 16 rfl Tryd.underlying44 info63 rfl (by decide) (by omega) (.slice Ao23 x108001_1.length co23) x108001_1 y112 _ _ _ (fun k_ => some k_ ≠ (.slice Ao32 y112.length co32 : Value).ownBlock) (fun _ => False) rfl rfl ?aO ?aR (fun _ _ h => h) (fun _ h => h.elim) ?aF ?aB ?aS ?aL ?_
                      (case aR => repeat (first | exact (Kd.R_reads' HO114.out).2.2 | (with_reducible refine Kd.C_alloc ?_ _) | (with_reducible refine Kd.C_drewN ?_ _) | (with_reducible refine Kd.C_drew ?_)))
                      (case aB => exact (by repeat (first | (with_reducible first | exact HB.out | apply below_alloc | apply pw_below_drewN | apply below_drew1 | refine below_set ?_ GE105.out | refine below_set ?_ GE106.out | refine below_set ?_ GE107.out | refine below_set ?_ GE108.out | refine below_set ?_ GE111.out) | exact HB.out)))
                      (case aF => exact (fun k_ hk => Kd.fresh' (Kd.R_lt (by (with_reducible repeat (first | apply Kd.R_alloc | apply Kd.R_drewN | apply Kd.R_drew)); exact HO114.out)) k_ hk))
                      (case aO => exact (by (with_reducible repeat (first | apply Kd.R_alloc | apply Kd.R_drewN | apply Kd.R_drew)); exact Kd.R_mono HO_108001.out (fun _ hk => hk.2)))
                      (case aS => exact (below_size (by repeat (first | (with_reducible first | exact HB.out | apply below_alloc | apply pw_below_drewN | apply below_drew1 | refine below_set ?_ GE105.out | refine below_set ?_ GE106.out | refine below_set ?_ GE107.out | refine below_set ?_ GE108.out | refine below_set ?_ GE111.out) | exact HB.out))))
                      (case aL => have := LMc17.out; omega)
                      intro v116 w31 ho hb hg hat
                      rw [← Ny115.out] at ho
                      have n0_ := Aside0.mk (Kd.R_over' (by (with_reducible repeat (first | apply Kd.R_alloc | apply Kd.R_drewN | apply Kd.R_drew)); exact HO_109001.out) (Kd.R_typed (by (with_reducible repeat (first | apply Kd.R_alloc | apply Kd.R_drewN | apply Kd.R_drew)); exact HO_108001.out)) (by decide) hg)
                      have n1_ := Aside0.mk (blk_grown (g := gb105) (o := .cells #[.int .i64 0, .slice none 0 0] 46 (0, 0)) (by (with_reducible repeat (first | refine blk_drewN ?_ _ | refine blk_drew ?_ | refine blk_alloc ?_ _)); exact BK105.out) hg (Kd.R_ne HO_108001.out BK105.out (by decide)))
                      have n2_ := Aside0.mk (blk_grown (g := gb106) (o := .cells #[.int .i64 0, .slice none 0 0] 49 (0, 0)) (by (with_reducible repeat (first | refine blk_drewN ?_ _ | refine blk_drew ?_ | refine blk_alloc ?_ _)); exact BK106.out) hg (Kd.R_ne HO_108001.out BK106.out (by decide)))
                      have n3_ := Aside0.mk (blk_grown (g := gb107) (o := .cells #[.int .i64 a0, .slice Ao23 x108001_1.length co23] 46 (0, 0)) (by (with_reducible repeat (first | refine blk_drewN ?_ _ | refine blk_drew ?_ | refine blk_alloc ?_ _)); exact BK107.out) hg (Kd.R_ne HO_108001.out BK107.out (by decide)))
                      have n4_ := Aside0.mk (blk_grown (g := gb108) (o := .cells #[.int .i64 a0, .slice Ao24 x109001_1.length co24] 49 (0, 0)) (by (with_reducible repeat (first | refine blk_drewN ?_ _ | refine blk_drew ?_ | refine blk_alloc ?_ _)); exact BK108.out) hg (Kd.R_ne HO_108001.out BK108.out (by decide)))
                      have n5_ := Aside0.mk (blk_grown (g := gb111) (o := .cells #[.int .i64 (Go.bits .and .i64 ((rd_T88 l1 x8_1).f0) 1023), .int .i64 (wrap64 (1 + (Go.bits .and .i64 ((rd_T88 l1 x8_1).f1) 15)))] 88 (0, 0)) (by (with_reducible repeat (first | refine blk_drewN ?_ _ | refine blk_drew ?_ | refine blk_alloc ?_ _)); exact BK111.out) hg (Kd.R_ne HO_108001.out BK111.out (by decide)))
                      have n6_ := Aside0.mk (Kd.R_after (ok := (fun _ => True)) (by (with_reducible repeat (first | apply Kd.R_alloc | apply Kd.R_drewN | apply Kd.R_drew)); exact HO114.out) hg hat)
                      have n7_ := Aside0.mk (Kd.R_over' (by (with_reducible repeat (first | apply Kd.R_alloc | apply Kd.R_drewN | apply Kd.R_drew)); exact HO120.out) (Kd.R_typed (by (with_reducible repeat (first | apply Kd.R_alloc | apply Kd.R_drewN | apply Kd.R_drew)); exact HO_108001.out)) (by decide) hg)
                      have n8_ := Aside0.mk (hb)
                      have n9_ := Aside0.mk (ho)
                      clear HO_109001
                      clear BK105
                      clear BK106
                      clear BK107
                      clear BK108
                      clear BK111
                      clear HO114
                      clear HO120
                      clear HB
                      clear HO_108001
                      have HO_109001 := n0_
                      have BK105 := n1_
                      have BK106 := n2_
                      have BK107 := n3_
                      have BK108 := n4_
                      have BK111 := n5_
                      have HO114 := n6_
                      have HO120 := n7_
                      have HB := n8_
                      have HO117 := n9_
                      clear n0_ n1_ n2_ n3_ n4_ n5_ n6_ n7_ n8_ n9_
                      clear ho hb hg hat
                      refine hK.out _ _ ⟨(blk_cell BK107.out 0).trans rfl, (blk_cell BK107.out 1).trans rfl, (blk_cell BK111.out 0).trans rfl, (blk_cell BK111.out 1).trans rfl, (blk_cell BK108.out 0).trans rfl, (blk_cell BK108.out 1).trans rfl⟩ (fun hHeld => ?_)
                      clear hK K
                      refine norm_ (a' := ?_) ?_ ?_
                      rotate_left
                      · show Act.put _ (some 42) _ = _
                        simp only [Act.put, List.setIfInBounds_toArray, List.set_cons_zero, List.set_cons_succ, i64_w, i32_w]
                        rfl
                      refine pure_ (i := 10) (N := some 48) (v := ?_) (a' := ?_) #[true, true, true, true, true, true, true, true, true, false, true, false, false, false] rfl rfl (any_of HT_.out (by kernel_rfl)) (fun _ _ _ h => h) (Or.inl ⟨by rfl, ?_⟩) ?_ ?_
                      rotate_left
                      · intro w'
                        go_simp
                        with_reducible rfl
                      rotate_left
                      · simp only [Act.put, List.setIfInBounds_toArray, List.set_cons_zero, List.set_cons_succ, i64_w, i32_w]
                        rfl
                      exact norm_ (by simp only [putAll, Act.put, List.setIfInBounds_toArray, List.set_cons_zero, List.set_cons_succ]) (hCont (.slice Ao32 y112.length co32, v116, v119) _ ⟨hHeld, (by (with_reducible repeat (first | apply Kd.R_alloc | apply Kd.R_drewN | apply Kd.R_drew)); exact Kd.R_mono HO114.out (fun _ hk => hk.2)), (by (with_reducible repeat (first | apply Kd.R_alloc | apply Kd.R_drewN | apply Kd.R_drew)); exact HO117.out), (by (with_reducible repeat (first | apply Kd.R_alloc | apply Kd.R_drewN | apply Kd.R_drew)); exact Kd.R_mono HO120.out (fun _ hk => hk.2)), (by (with_reducible repeat (first | apply Kd.R_alloc | apply Kd.R_drewN | apply Kd.R_drew)); exact Kd.R_mono HO_109001.out (fun _ hk => hk.2)), (by (with_reducible repeat (first | refine blk_drewN ?_ _ | refine blk_drew ?_ | refine blk_alloc ?_ _)); exact BK105.out), (by (with_reducible repeat (first | refine blk_drewN ?_ _ | refine blk_drew ?_ | refine blk_alloc ?_ _)); exact BK106.out), (by (with_reducible repeat (first | refine blk_drewN ?_ _ | refine blk_drew ?_ | refine blk_alloc ?_ _)); exact BK107.out), (by (with_reducible repeat (first | refine blk_drewN ?_ _ | refine blk_drew ?_ | refine blk_alloc ?_ _)); exact BK108.out), (by (with_reducible repeat (first | refine blk_drewN ?_ _ | refine blk_drew ?_ | refine blk_alloc ?_ _)); exact BK111.out), (by repeat (first | (with_reducible first | exact HB.out | apply below_alloc | apply pw_below_drewN | apply below_drew1 | refine below_set ?_ GE105.out | refine below_set ?_ GE106.out | refine below_set ?_ GE107.out | refine below_set ?_ GE108.out | refine below_set ?_ GE111.out) | exact HB.out))⟩)
                  · skip
                    refine Kd.R_lit_step k89 _ 89 ?hg (N := 46) ?hd (xs := ([(⟨Go.bits .and .i64 ((rd_T88 l1 x8_1).f0) 1023, wrap64 (1 + (Go.bits .and .i64 ((rd_T88 l1 x8_1).f1) 15))⟩ : S89)] : List (S89))) (inner := [.int .i64 (Go.bits .and .i64 ((rd_T88 l1 x8_1).f0) 1023), .int .i64 (wrap64 (1 + (Go.bits .and .i64 ((rd_T88 l1 x8_1).f1) 15)))]) (ok := fun _ => True) (okp := fun _ => True) ?hr ?hp (fun _ hk => hk) trivial (Below.refl _ _) (Nat.le_refl _) (by simp) ?_; (case hd => rfl); (case hg => rfl); (case hr => first | (go_simp; done) | (go_simp; rfl)); (case hp => exact (Reps.c2 (show Kd.M k89 _ _ _ (⟨Go.bits .and .i64 ((rd_T88 l1 x8_1).f0) 1023, wrap64 (1 + (Go.bits .and .i64 ((rd_T88 l1 x8_1).f1) 15))⟩ : S89) [.int .i64 (Go.bits .and .i64 ((rd_T88 l1 x8_1).f0) 1023), .int .i64 (wrap64 (1 + (Go.bits .and .i64 ((rd_T88 l1 x8_1).f1) 15)))] from (k89_mkM _ _ _ (⟨Go.bits .and .i64 ((rd_T88 l1 x8_1).f0) 1023, wrap64 (1 + (Go.bits .and .i64 ((rd_T88 l1 x8_1).f1) 15))⟩ : S89) )) (Reps.none _ _)))
                    intro v119 w27 ho28 hb hg_ hnew_
                    clear hg_ hnew_
                    (first | rw [← Ny118.out] at ho28 | (simp only [Int.reduceToNat] at ho28; rw [← Ny118.out] at ho28))
                    have n0_ := Aside0.mk (Kd.R_below (by (with_reducible repeat (first | apply Kd.R_alloc | apply Kd.R_drewN | apply Kd.R_drew)); exact HO_108001.out) hb)
                    have n1_ := Aside0.mk (Kd.R_elder' (by (with_reducible repeat (first | apply Kd.R_alloc | apply Kd.R_drewN | apply Kd.R_drew)); exact HO_109001.out) (Kd.R_base ho28) hb)
                    have n2_ := Aside0.mk (Kd.R_lower (Kd.R_new' ho28 (Kd.R_lt (by (with_reducible repeat (first | apply Kd.R_alloc | apply Kd.R_drewN | apply Kd.R_drew)); exact HO_109001.out))) (below_size (by repeat (first | (with_reducible first | exact HB.out | apply below_alloc | apply pw_below_drewN | apply below_drew1 | refine below_set ?_ GE105.out | refine below_set ?_ GE106.out | refine below_set ?_ GE107.out | refine below_set ?_ GE108.out | refine below_set ?_ GE111.out) | exact HB.out))))
                    have n3_ := Aside0.mk (blk_below (g := gb105) (o := .cells #[.int .i64 0, .slice none 0 0] 46 (0, 0)) (by (with_reducible repeat (first | refine blk_drewN ?_ _ | refine blk_drew ?_ | refine blk_alloc ?_ _)); exact BK105.out) hb)
                    have n4_ := Aside0.mk (blk_below (g := gb106) (o := .cells #[.int .i64 0, .slice none 0 0] 49 (0, 0)) (by (with_reducible repeat (first | refine blk_drewN ?_ _ | refine blk_drew ?_ | refine blk_alloc ?_ _)); exact BK106.out) hb)
                    have n5_ := Aside0.mk (blk_below (g := gb107) (o := .cells #[.int .i64 a0, .slice Ao23 x108001_1.length co23] 46 (0, 0)) (by (with_reducible repeat (first | refine blk_drewN ?_ _ | refine blk_drew ?_ | refine blk_alloc ?_ _)); exact BK107.out) hb)
                    have n6_ := Aside0.mk (blk_below (g := gb108) (o := .cells #[.int .i64 a0, .slice Ao24 x109001_1.length co24] 49 (0, 0)) (by (with_reducible repeat (first | refine blk_drewN ?_ _ | refine blk_drew ?_ | refine blk_alloc ?_ _)); exact BK108.out) hb)
                    have n7_ := Aside0.mk (blk_below (g := gb111) (o := .cells #[.int .i64 (Go.bits .and .i64 ((rd_T88 l1 x8_1).f0) 1023), .int .i64 (wrap64 (1 + (Go.bits .and .i64 ((rd_T88 l1 x8_1).f1) 15)))] 88 (0, 0)) (by (with_reducible repeat (first | refine blk_drewN ?_ _ | refine blk_drew ?_ | refine blk_alloc ?_ _)); exact BK111.out) hb)
                    have n8_ := Aside0.mk (below_step (by repeat (first | (with_reducible first | exact HB.out | apply below_alloc | apply pw_below_drewN | apply below_drew1 | refine below_set ?_ GE105.out | refine below_set ?_ GE106.out | refine below_set ?_ GE107.out | refine below_set ?_ GE108.out | refine below_set ?_ GE111.out) | exact HB.out)) hb)
                    clear HO_108001
                    clear HO_109001
                    clear BK105
                    clear BK106
                    clear BK107
                    clear BK108
                    clear BK111
                    clear HB
                    have HO_108001 := n0_
                    have HO_109001 := n1_
                    have HO120 := n2_
                    have BK105 := n3_
                    have BK106 := n4_
                    have BK107 := n5_
                    have BK108 := n6_
                    have BK111 := n7_
                    have HB := n8_
                    clear n0_ n1_ n2_ n3_ n4_ n5_ n6_ n7_ n8_
                    clear hb ho28
                    refine hK.out _ _ ⟨(blk_cell BK107.out 0).trans rfl, (blk_cell BK107.out 1).trans rfl, (blk_cell BK111.out 0).trans rfl, (blk_cell BK111.out 1).trans rfl, (blk_cell BK108.out 0).trans rfl, (blk_cell BK108.out 1).trans rfl⟩ (fun hHeld => ?_)
                    clear hK K
                    refine norm_ (a' := ?_) ?_ ?_
                    rotate_left
                    · show Act.put _ (some 46) _ = _
                      simp only [Act.put, List.setIfInBounds_toArray, List.set_cons_zero, List.set_cons_succ, i64_w, i32_w]
                      rfl
                    refine one_ (i := 3) (N := some 41) #[true, true, true, true, false, true, true, true, true, false, false, false, false, false] rfl rfl (one_of HT_.out (by kernel_rfl)) (by decide) (fun K hK => ?_)
                    refine Kd.R_lit_step k63 _ 63 ?hg (N := 41) ?hd (xs := ([(⟨Go.bits .and .i64 ((rd_T88 l1 x8_1).f0) 1023, wrap64 (1 + (Go.bits .and .i64 ((rd_T88 l1 x8_1).f1) 15))⟩ : S63)] : List (S63))) (inner := [.int .i64 (Go.bits .and .i64 ((rd_T88 l1 x8_1).f0) 1023), .int .i64 (wrap64 (1 + (Go.bits .and .i64 ((rd_T88 l1 x8_1).f1) 15)))]) (ok := fun _ => True) (okp := fun _ => True) ?hr ?hp (fun _ hk => hk) trivial (Below.refl _ _) (Nat.le_refl _) (by simp) ?_; (case hd => rfl); (case hg => rfl); (case hr => first | (go_simp; done) | (go_simp; rfl)); (case hp => exact (Reps.c2 (show Kd.M k63 _ _ _ (⟨Go.bits .and .i64 ((rd_T88 l1 x8_1).f0) 1023, wrap64 (1 + (Go.bits .and .i64 ((rd_T88 l1 x8_1).f1) 15))⟩ : S63) [.int .i64 (Go.bits .and .i64 ((rd_T88 l1 x8_1).f0) 1023), .int .i64 (wrap64 (1 + (Go.bits .and .i64 ((rd_T88 l1 x8_1).f1) 15)))] from (k63_mkM _ _ _ (⟨Go.bits .and .i64 ((rd_T88 l1 x8_1).f0) 1023, wrap64 (1 + (Go.bits .and .i64 ((rd_T88 l1 x8_1).f1) 15))⟩ : S63) )) (Reps.none _ _)))
                    intro v113 w29 ho30 hb hg_ hnew_
                    clear hg_ hnew_
                    (first | rw [← Ny112.out] at ho30 | (simp only [Int.reduceToNat] at ho30; rw [← Ny112.out] at ho30))
                    have n0_ := Aside0.mk (Kd.R_elder' (by (with_reducible repeat (first | apply Kd.R_alloc | apply Kd.R_drewN | apply Kd.R_drew)); exact HO_108001.out) (Kd.R_base ho30) hb)
                    have n1_ := Aside0.mk (Kd.R_below (by (with_reducible repeat (first | apply Kd.R_alloc | apply Kd.R_drewN | apply Kd.R_drew)); exact HO_109001.out) hb)
                    have n2_ := Aside0.mk (Kd.R_below (by (with_reducible repeat (first | apply Kd.R_alloc | apply Kd.R_drewN | apply Kd.R_drew)); exact HO120.out) hb)
                    have n3_ := Aside0.mk (Kd.R_lower (Kd.R_new' ho30 (Kd.R_lt (by (with_reducible repeat (first | apply Kd.R_alloc | apply Kd.R_drewN | apply Kd.R_drew)); exact HO_108001.out))) (below_size (by repeat (first | (with_reducible first | exact HB.out | apply below_alloc | apply pw_below_drewN | apply below_drew1 | refine below_set ?_ GE105.out | refine below_set ?_ GE106.out | refine below_set ?_ GE107.out | refine below_set ?_ GE108.out | refine below_set ?_ GE111.out) | exact HB.out))))
                    have n4_ := Aside0.mk (blk_below (g := gb105) (o := .cells #[.int .i64 0, .slice none 0 0] 46 (0, 0)) (by (with_reducible repeat (first | refine blk_drewN ?_ _ | refine blk_drew ?_ | refine blk_alloc ?_ _)); exact BK105.out) hb)
                    have n5_ := Aside0.mk (blk_below (g := gb106) (o := .cells #[.int .i64 0, .slice none 0 0] 49 (0, 0)) (by (with_reducible repeat (first | refine blk_drewN ?_ _ | refine blk_drew ?_ | refine blk_alloc ?_ _)); exact BK106.out) hb)
                    have n6_ := Aside0.mk (blk_below (g := gb107) (o := .cells #[.int .i64 a0, .slice Ao23 x108001_1.length co23] 46 (0, 0)) (by (with_reducible repeat (first | refine blk_drewN ?_ _ | refine blk_drew ?_ | refine blk_alloc ?_ _)); exact BK107.out) hb)
                    have n7_ := Aside0.mk (blk_below (g := gb108) (o := .cells #[.int .i64 a0, .slice Ao24 x109001_1.length co24] 49 (0, 0)) (by (with_reducible repeat (first | refine blk_drewN ?_ _ | refine blk_drew ?_ | refine blk_alloc ?_ _)); exact BK108.out) hb)
                    have n8_ := Aside0.mk (blk_below (g := gb111) (o := .cells #[.int .i64 (Go.bits .and .i64 ((rd_T88 l1 x8_1).f0) 1023), .int .i64 (wrap64 (1 + (Go.bits .and .i64 ((rd_T88 l1 x8_1).f1) 15)))] 88 (0, 0)) (by (with_reducible repeat (first | refine blk_drewN ?_ _ | refine blk_drew ?_ | refine blk_alloc ?_ _)); exact BK111.out) hb)
                    have n9_ := Aside0.mk (below_step (by repeat (first | (with_reducible first | exact HB.out | apply below_alloc | apply pw_below_drewN | apply below_drew1 | refine below_set ?_ GE105.out | refine below_set ?_ GE106.out | refine below_set ?_ GE107.out | refine below_set ?_ GE108.out | refine below_set ?_ GE111.out) | exact HB.out)) hb)
                    clear HO_108001
                    clear HO_109001
                    clear HO120
                    clear BK105
                    clear BK106
                    clear BK107
                    clear BK108
                    clear BK111
                    clear HB
                    have HO_108001 := n0_
                    have HO_109001 := n1_
                    have HO120 := n2_
                    have HO114 := n3_
                    have BK105 := n4_
                    have BK106 := n5_
                    have BK107 := n6_
                    have BK108 := n7_
                    have BK111 := n8_
                    have HB := n9_
                    clear n0_ n1_ n2_ n3_ n4_ n5_ n6_ n7_ n8_ n9_
                    clear hb ho30
                    obtain ⟨Ao32, co32, eo32⟩ := Kd.R_slice HO114.out
                    (first | subst eo32 | (injection eo32 with f1_ f2_ f3_; have f4_ := f1_.symm; have f5_ := f3_.symm; clear f1_ f2_ f3_; subst f4_; subst f5_))
                    refine hK.out _ _ ⟨(blk_cell BK107.out 0).trans rfl, (blk_cell BK107.out 1).trans rfl, (blk_cell BK111.out 0).trans rfl, (blk_cell BK111.out 1).trans rfl, (blk_cell BK108.out 0).trans rfl, (blk_cell BK108.out 1).trans rfl⟩ (fun hHeld => ?_)
                    clear hK K
                    refine norm_ (a' := ?_) ?_ ?_
                    rotate_left
                    · show Act.put _ (some 41) _ = _
                      simp only [Act.put, List.setIfInBounds_toArray, List.set_cons_zero, List.set_cons_succ, i64_w, i32_w]
                      rfl
                    refine one_ (i := 4) (N := some 42) #[true, true, true, true, true, true, true, true, true, false, false, false, false, false] rfl rfl (one_of HT_.out (by kernel_rfl)) (by decide) (fun K hK => ?_)
                    refine Kd.R_append_rows_step k63 (w0 := w) w.heap.size (by rfl) (.tmp 39) (.tmp 41) 44 63 (.agg #[(.int .i64 0), (.int .i64 0)]) 16 rfl Tryd.underlying44 info63 rfl (by decide) (by omega) (.slice Ao23 x108001_1.length co23) x108001_1 y112 _ _ _ (fun k_ => some k_ ≠ (.slice Ao32 y112.length co32 : Value).ownBlock) (fun _ => False) rfl rfl ?aO ?aR (fun _ _ h => h) (fun _ h => h.elim) ?aF ?aB ?aS ?aL ?_
                    (case aR => repeat (first | exact (Kd.R_reads' HO114.out).2.2 | (with_reducible refine Kd.C_alloc ?_ _) | (with_reducible refine Kd.C_drewN ?_ _) | (with_reducible refine Kd.C_drew ?_)))
                    (case aB => exact (by repeat (first | (with_reducible first | exact HB.out | apply below_alloc | apply pw_below_drewN | apply below_drew1 | refine below_set ?_ GE105.out | refine below_set ?_ GE106.out | refine below_set ?_ GE107.out | refine below_set ?_ GE108.out | refine below_set ?_ GE111.out) | exact HB.out)))
                    (case aF => exact (fun k_ hk => Kd.fresh' (Kd.R_lt (by (with_reducible repeat (first | apply Kd.R_alloc | apply Kd.R_drewN | apply Kd.R_drew)); exact HO114.out)) k_ hk))
                    (case aO => exact (by (with_reducible repeat (first | apply Kd.R_alloc | apply Kd.R_drewN | apply Kd.R_drew)); exact Kd.R_mono HO_108001.out (fun _ hk => hk.2)))
                    (case aS => exact (below_size (by repeat (first | (with_reducible first | exact HB.out | apply below_alloc | apply pw_below_drewN | apply below_drew1 | refine below_set ?_ GE105.out | refine below_set ?_ GE106.out | refine below_set ?_ GE107.out | refine below_set ?_ GE108.out | refine below_set ?_ GE111.out) | exact HB.out))))
                    (case aL => have := LMc17.out; omega)
                    intro v116 w31 ho hb hg hat
                    rw [← Ny115.out] at ho
                    have n0_ := Aside0.mk (Kd.R_over' (by (with_reducible repeat (first | apply Kd.R_alloc | apply Kd.R_drewN | apply Kd.R_drew)); exact HO_109001.out) (Kd.R_typed (by (with_reducible repeat (first | apply Kd.R_alloc | apply Kd.R_drewN | apply Kd.R_drew)); exact HO_108001.out)) (by decide) hg)
                    have n1_ := Aside0.mk (blk_grown (g := gb105) (o := .cells #[.int .i64 0, .slice none 0 0] 46 (0, 0)) (by (with_reducible repeat (first | refine blk_drewN ?_ _ | refine blk_drew ?_ | refine blk_alloc ?_ _)); exact BK105.out) hg (Kd.R_ne HO_108001.out BK105.out (by decide)))
                    have n2_ := Aside0.mk (blk_grown (g := gb106) (o := .cells #[.int .i64 0, .slice none 0 0] 49 (0, 0)) (by (with_reducible repeat (first | refine blk_drewN ?_ _ | refine blk_drew ?_ | refine blk_alloc ?_ _)); exact BK106.out) hg (Kd.R_ne HO_108001.out BK106.out (by decide)))
                    have n3_ := Aside0.mk (blk_grown (g := gb107) (o := .cells #[.int .i64 a0, .slice Ao23 x108001_1.length co23] 46 (0, 0)) (by (with_reducible repeat (first | refine blk_drewN ?_ _ | refine blk_drew ?_ | refine blk_alloc ?_ _)); exact BK107.out) hg (Kd.R_ne HO_108001.out BK107.out (by decide)))
                    have n4_ := Aside0.mk (blk_grown (g := gb108) (o := .cells #[.int .i64 a0, .slice Ao24 x109001_1.length co24] 49 (0, 0)) (by (with_reducible repeat (first | refine blk_drewN ?_ _ | refine blk_drew ?_ | refine blk_alloc ?_ _)); exact BK108.out) hg (Kd.R_ne HO_108001.out BK108.out (by decide)))
                    have n5_ := Aside0.mk (blk_grown (g := gb111) (o := .cells #[.int .i64 (Go.bits .and .i64 ((rd_T88 l1 x8_1).f0) 1023), .int .i64 (wrap64 (1 + (Go.bits .and .i64 ((rd_T88 l1 x8_1).f1) 15)))] 88 (0, 0)) (by (with_reducible repeat (first | refine blk_drewN ?_ _ | refine blk_drew ?_ | refine blk_alloc ?_ _)); exact BK111.out) hg (Kd.R_ne HO_108001.out BK111.out (by decide)))
                    have n6_ := Aside0.mk (Kd.R_over' (by (with_reducible repeat (first | apply Kd.R_alloc | apply Kd.R_drewN | apply Kd.R_drew)); exact HO120.out) (Kd.R_typed (by (with_reducible repeat (first | apply Kd.R_alloc | apply Kd.R_drewN | apply Kd.R_drew)); exact HO_108001.out)) (by decide) hg)
                    have n7_ := Aside0.mk (Kd.R_after (ok := (fun _ => True)) (by (with_reducible repeat (first | apply Kd.R_alloc | apply Kd.R_drewN | apply Kd.R_drew)); exact HO114.out) hg hat)
                    have n8_ := Aside0.mk (hb)
                    have n9_ := Aside0.mk (ho)
                    clear HO_109001
                    clear BK105
                    clear BK106
                    clear BK107
                    clear BK108
                    clear BK111
                    clear HO120
                    clear HO114
                    clear HB
                    clear HO_108001
                    have HO_109001 := n0_
                    have BK105 := n1_
                    have BK106 := n2_
                    have BK107 := n3_
                    have BK108 := n4_
                    have BK111 := n5_
                    have HO120 := n6_
                    have HO114 := n7_
                    have HB := n8_
                    have HO117 := n9_
                    clear n0_ n1_ n2_ n3_ n4_ n5_ n6_ n7_ n8_ n9_
                    clear ho hb hg hat
                    refine hK.out _ _ ⟨(blk_cell BK107.out 0).trans rfl, (blk_cell BK107.out 1).trans rfl, (blk_cell BK111.out 0).trans rfl, (blk_cell BK111.out 1).trans rfl, (blk_cell BK108.out 0).trans rfl, (blk_cell BK108.out 1).trans rfl⟩ (fun hHeld => ?_)
                    clear hK K
                    refine norm_ (a' := ?_) ?_ ?_
                    rotate_left
                    · show Act.put _ (some 42) _ = _
                      simp only [Act.put, List.setIfInBounds_toArray, List.set_cons_zero, List.set_cons_succ, i64_w, i32_w]
                      rfl
                    refine pure_ (i := 10) (N := some 48) (v := ?_) (a' := ?_) #[true, true, true, true, true, true, true, true, true, false, true, false, false, false] rfl rfl (any_of HT_.out (by kernel_rfl)) (fun _ _ _ h => h) (Or.inl ⟨by rfl, ?_⟩) ?_ ?_
                    rotate_left
                    · intro w'
                      go_simp
                      with_reducible rfl
                    rotate_left
                    · simp only [Act.put, List.setIfInBounds_toArray, List.set_cons_zero, List.set_cons_succ, i64_w, i32_w]
                      rfl
                    exact norm_ (by simp only [putAll, Act.put, List.setIfInBounds_toArray, List.set_cons_zero, List.set_cons_succ]) (hCont (.slice Ao32 y112.length co32, v116, v119) _ ⟨hHeld, (by (with_reducible repeat (first | apply Kd.R_alloc | apply Kd.R_drewN | apply Kd.R_drew)); exact Kd.R_mono HO114.out (fun _ hk => hk.2)), (by (with_reducible repeat (first | apply Kd.R_alloc | apply Kd.R_drewN | apply Kd.R_drew)); exact HO117.out), (by (with_reducible repeat (first | apply Kd.R_alloc | apply Kd.R_drewN | apply Kd.R_drew)); exact Kd.R_mono HO120.out (fun _ hk => hk.2)), (by (with_reducible repeat (first | apply Kd.R_alloc | apply Kd.R_drewN | apply Kd.R_drew)); exact Kd.R_mono HO_109001.out (fun _ hk => hk.2)), (by (with_reducible repeat (first | refine blk_drewN ?_ _ | refine blk_drew ?_ | refine blk_alloc ?_ _)); exact BK105.out), (by (with_reducible repeat (first | refine blk_drewN ?_ _ | refine blk_drew ?_ | refine blk_alloc ?_ _)); exact BK106.out), (by (with_reducible repeat (first | refine blk_drewN ?_ _ | refine blk_drew ?_ | refine blk_alloc ?_ _)); exact BK107.out), (by (with_reducible repeat (first | refine blk_drewN ?_ _ | refine blk_drew ?_ | refine blk_alloc ?_ _)); exact BK108.out), (by (with_reducible repeat (first | refine blk_drewN ?_ _ | refine blk_drew ?_ | refine blk_alloc ?_ _)); exact BK111.out), (by repeat (first | (with_reducible first | exact HB.out | apply below_alloc | apply pw_below_drewN | apply below_drew1 | refine below_set ?_ GE105.out | refine below_set ?_ GE106.out | refine below_set ?_ GE107.out | refine below_set ?_ GE108.out | refine below_set ?_ GE111.out) | exact HB.out))⟩)
                rintro ⟨v113, v116, v119⟩ w33 ⟨hS_, h0_, h1_, h2_, h3_, h4_, h5_, h6_, h7_, h8_, h9_⟩
                have n0_ : Aside0 (Kd.R k63 63 w33 w.heap.size (fun k_ => some k_ ≠ (v116 : Value).ownBlock) v113 y112) := ⟨h0_⟩
                have n1_ : Aside0 (Kd.R k63 63 w33 w.heap.size (fun k_ => some k_ ≠ (v113 : Value).ownBlock) v116 y115) := ⟨h1_⟩
                have n2_ : Aside0 (Kd.R k89 89 w33 w.heap.size (fun k_ => some k_ ≠ (.slice Ao24 x109001_1.length co24 : Value).ownBlock) v119 y118) := ⟨h2_⟩
                have n3_ : Aside0 (Kd.R k89 89 w33 w.heap.size (fun k_ => some k_ ≠ (v119 : Value).ownBlock) (.slice Ao24 x109001_1.length co24) x109001_1) := ⟨h3_⟩
                have n4_ : Aside0 (w33.heap[gb105]? = some (.cells #[.int .i64 0, .slice none 0 0] 46 (0, 0))) := ⟨h4_⟩
                have n5_ : Aside0 (w33.heap[gb106]? = some (.cells #[.int .i64 0, .slice none 0 0] 49 (0, 0))) := ⟨h5_⟩
                have n6_ : Aside0 (w33.heap[gb107]? = some (.cells #[.int .i64 a0, .slice Ao23 x108001_1.length co23] 46 (0, 0))) := ⟨h6_⟩
                have n7_ : Aside0 (w33.heap[gb108]? = some (.cells #[.int .i64 a0, .slice Ao24 x109001_1.length co24] 49 (0, 0))) := ⟨h7_⟩
                have n8_ : Aside0 (w33.heap[gb111]? = some (.cells #[.int .i64 (Go.bits .and .i64 ((rd_T88 l1 x8_1).f0) 1023), .int .i64 (wrap64 (1 + (Go.bits .and .i64 ((rd_T88 l1 x8_1).f1) 15)))] 88 (0, 0))) := ⟨h8_⟩
                have n9_ : Aside0 (Below w.heap.size w w33) := ⟨h9_⟩
                clear HO_108001
                clear HO_109001
                clear BK105
                clear BK106
                clear BK107
                clear BK108
                clear BK111
                clear HB
                clear h0_ h1_ h2_ h3_ h4_ h5_ h6_ h7_ h8_ h9_
                have HO114 := n0_
                have HO117 := n1_
                have HO120 := n2_
                have HO_109001 := n3_
                have BK105 := n4_
                have BK106 := n5_
                have BK107 := n6_
                have BK108 := n7_
                have BK111 := n8_
                have HB := n9_
                clear n0_ n1_ n2_ n3_ n4_ n5_ n6_ n7_ n8_ n9_
                have hHeld : w33.cell? ⟨gb107, 0, none⟩ = some (.int .i64 a0) ∧ w33.cell? ⟨gb107, 1, none⟩ = some (.slice Ao23 x108001_1.length co23) ∧ w33.cell? ⟨gb111, 0, none⟩ = some (.int .i64 (Go.bits .and .i64 ((rd_T88 l1 x8_1).f0) 1023)) ∧ w33.cell? ⟨gb111, 1, none⟩ = some (.int .i64 (wrap64 (1 + (Go.bits .and .i64 ((rd_T88 l1 x8_1).f1) 15)))) ∧ w33.cell? ⟨gb108, 0, none⟩ = some (.int .i64 a0) ∧ w33.cell? ⟨gb108, 1, none⟩ = some (.slice Ao24 x109001_1.length co24) := hS_
                obtain ⟨Ao35, co35, eo35⟩ := Kd.R_slice HO120.out
                (first | subst eo35 | (injection eo35 with f1_ f2_ f3_; have f4_ := f1_.symm; have f5_ := f3_.symm; clear f1_ f2_ f3_; subst f4_; subst f5_))
                refine norm_ (a' := ?_) ?_ ?_
                rotate_left
                · simp only [putAll, Act.put, List.setIfInBounds_toArray, List.set_cons_zero, List.set_cons_succ]
                  rfl
                refine one_ (i := 9) (N := some 47) #[true, true, true, true, true, true, true, true, true, true, true, false, false, false] rfl rfl (one_of HT_.out (by kernel_rfl)) (by decide) (fun K hK => ?_)
                refine Kd.R_append_rows_step k89 (w0 := w) w.heap.size (by rfl) (.tmp 44) (.tmp 46) 47 89 (.agg #[(.int .i64 0), (.int .i64 0)]) 16 rfl Tryd.underlying47 info89 rfl (by decide) (by omega) (.slice Ao24 x109001_1.length co24) x109001_1 y118 _ _ _ (fun k_ => some k_ ≠ (.slice Ao35 y118.length co35 : Value).ownBlock) (fun _ => False) rfl rfl ?aO ?aR (fun _ _ h => h) (fun _ h => h.elim) ?aF ?aB ?aS ?aL ?_
                (case aR => repeat (first | exact (Kd.R_reads' HO120.out).2.2 | (with_reducible refine Kd.C_alloc ?_ _) | (with_reducible refine Kd.C_drewN ?_ _) | (with_reducible refine Kd.C_drew ?_)))
                (case aB => exact (by repeat (first | (with_reducible first | exact HB.out | apply below_alloc | apply pw_below_drewN | apply below_drew1 | refine below_set ?_ GE105.out | refine below_set ?_ GE106.out | refine below_set ?_ GE107.out | refine below_set ?_ GE108.out | refine below_set ?_ GE111.out) | exact HB.out)))
                (case aF => exact (fun k_ hk => Kd.fresh' (Kd.R_lt (by (with_reducible repeat (first | apply Kd.R_alloc | apply Kd.R_drewN | apply Kd.R_drew)); exact HO120.out)) k_ hk))
                (case aO => exact (by (with_reducible repeat (first | apply Kd.R_alloc | apply Kd.R_drewN | apply Kd.R_drew)); exact HO_109001.out))
                (case aS => exact (below_size (by repeat (first | (with_reducible first | exact HB.out | apply below_alloc | apply pw_below_drewN | apply below_drew1 | refine below_set ?_ GE105.out | refine below_set ?_ GE106.out | refine below_set ?_ GE107.out | refine below_set ?_ GE108.out | refine below_set ?_ GE111.out) | exact HB.out))))
                (case aL => have := LMc18.out; omega)
                intro v122 w34 ho hb hg hat
                rw [← Ny121.out] at ho
                have n0_ := Aside0.mk (blk_grown (g := gb105) (o := .cells #[.int .i64 0, .slice none 0 0] 46 (0, 0)) (by (with_reducible repeat (first | refine blk_drewN ?_ _ | refine blk_drew ?_ | refine blk_alloc ?_ _)); exact BK105.out) hg (Kd.R_ne HO_109001.out BK105.out (by decide)))
                have n1_ := Aside0.mk (blk_grown (g := gb106) (o := .cells #[.int .i64 0, .slice none 0 0] 49 (0, 0)) (by (with_reducible repeat (first | refine blk_drewN ?_ _ | refine blk_drew ?_ | refine blk_alloc ?_ _)); exact BK106.out) hg (Kd.R_ne HO_109001.out BK106.out (by decide)))
                have n2_ := Aside0.mk (blk_grown (g := gb107) (o := .cells #[.int .i64 a0, .slice Ao23 x108001_1.length co23] 46 (0, 0)) (by (with_reducible repeat (first | refine blk_drewN ?_ _ | refine blk_drew ?_ | refine blk_alloc ?_ _)); exact BK107.out) hg (Kd.R_ne HO_109001.out BK107.out (by decide)))
                have n3_ := Aside0.mk (blk_grown (g := gb108) (o := .cells #[.int .i64 a0, .slice Ao24 x109001_1.length co24] 49 (0, 0)) (by (with_reducible repeat (first | refine blk_drewN ?_ _ | refine blk_drew ?_ | refine blk_alloc ?_ _)); exact BK108.out) hg (Kd.R_ne HO_109001.out BK108.out (by decide)))
                have n4_ := Aside0.mk (blk_grown (g := gb111) (o := .cells #[.int .i64 (Go.bits .and .i64 ((rd_T88 l1 x8_1).f0) 1023), .int .i64 (wrap64 (1 + (Go.bits .and .i64 ((rd_T88 l1 x8_1).f1) 15)))] 88 (0, 0)) (by (with_reducible repeat (first | refine blk_drewN ?_ _ | refine blk_drew ?_ | refine blk_alloc ?_ _)); exact BK111.out) hg (Kd.R_ne HO_109001.out BK111.out (by decide)))
                have n5_ := Aside0.mk (Kd.R_over' (by (with_reducible repeat (first | apply Kd.R_alloc | apply Kd.R_drewN | apply Kd.R_drew)); exact HO114.out) (Kd.R_typed (by (with_reducible repeat (first | apply Kd.R_alloc | apply Kd.R_drewN | apply Kd.R_drew)); exact HO_109001.out)) (by decide) hg)
                have n6_ := Aside0.mk (Kd.R_over' (by (with_reducible repeat (first | apply Kd.R_alloc | apply Kd.R_drewN | apply Kd.R_drew)); exact HO117.out) (Kd.R_typed (by (with_reducible repeat (first | apply Kd.R_alloc | apply Kd.R_drewN | apply Kd.R_drew)); exact HO_109001.out)) (by decide) hg)
                have n7_ := Aside0.mk (Kd.R_after (ok := (fun _ => True)) (by (with_reducible repeat (first | apply Kd.R_alloc | apply Kd.R_drewN | apply Kd.R_drew)); exact Kd.R_mono HO120.out (fun _ hk => ⟨trivial, hk⟩)) hg hat)
                have n8_ := Aside0.mk (hb)
                have n9_ := Aside0.mk (ho)
                clear BK105
                clear BK106
                clear BK107
                clear BK108
                clear BK111
                clear HO114
                clear HO117
                clear HO120
                clear HB
                clear HO_109001
                have BK105 := n0_
                have BK106 := n1_
                have BK107 := n2_
                have BK108 := n3_
                have BK111 := n4_
                have HO114 := n5_
                have HO117 := n6_
                have HO120 := n7_
                have HB := n8_
                have HO123 := n9_
                clear n0_ n1_ n2_ n3_ n4_ n5_ n6_ n7_ n8_ n9_
                clear ho hb hg hat
                obtain ⟨Ao36, co36, eo36⟩ := Kd.R_slice HO117.out
                (first | subst eo36 | (injection eo36 with f1_ f2_ f3_; have f4_ := f1_.symm; have f5_ := f3_.symm; clear f1_ f2_ f3_; subst f4_; subst f5_))
                obtain ⟨Ao38, co38, eo38⟩ := Kd.R_slice HO123.out
                (first | subst eo38 | (injection eo38 with f1_ f2_ f3_; have f4_ := f1_.symm; have f5_ := f3_.symm; clear f1_ f2_ f3_; subst f4_; subst f5_))
                refine hK.out _ _ ⟨(blk_cell BK107.out 0).trans rfl, (blk_cell BK107.out 1).trans rfl, (blk_cell BK111.out 0).trans rfl, (blk_cell BK111.out 1).trans rfl, (blk_cell BK108.out 0).trans rfl, (blk_cell BK108.out 1).trans rfl⟩ (fun hHeld => ?_)
                clear hK K
                refine norm_ (a' := ?_) ?_ ?_
                rotate_left
                · show Act.put _ (some 47) _ = _
                  simp only [Act.put, List.setIfInBounds_toArray, List.set_cons_zero, List.set_cons_succ, i64_w, i32_w]
                  rfl
                refine last_ (i := 11) (N := none) #[true, true, true, true, true, true, true, true, true, true, true, true, false, false] rfl rfl (one_of HT_.out (by kernel_rfl)) (by decide) (fun K hK => ?_)
                have hs37 : w34.cell? ⟨gb107, 1, none⟩ = some (.slice Ao23 x108001_1.length co23) := (blk_cell BK107.out 1).trans rfl
                have hfs37 := blk_frozen BK107.out 1
                have hns37_0 := NB105_107.out
                have hns37_1 := NB106_107.out
                have hns37_3 := NB108_107.out
                have hns37_4 := NB111_107.out
                have hms37_0 := NB107_105.out
                have hms37_1 := NB107_106.out
                have hms37_3 := NB107_108.out
                have hms37_4 := NB107_111.out
                refine skip_ (w1 := ?_) (by rfl) rfl ?_ ?_
                rotate_left
                · go_simp
                  rfl
                refine hK.out _ _ ?_
                clear hK K
                refine pure_ (i := 12) (N := some 49) (v := ?_) (a' := ?_) #[true, true, true, true, true, true, true, true, true, true, true, true, true, false] rfl rfl (any_of HT_.out (by kernel_rfl)) (fun _ _ _ h => h) (Or.inl ⟨by rfl, ?_⟩) ?_ ?_
                rotate_left
                · intro w'
                  go_simp
                  with_reducible rfl
                rotate_left
                · simp only [Act.put, List.setIfInBounds_toArray, List.set_cons_zero, List.set_cons_succ, i64_w, i32_w]
                  rfl
                refine last_ (i := 13) (N := none) #[true, true, true, true, true, true, true, true, true, true, true, true, true, true] rfl rfl (one_of HT_.out (by kernel_rfl)) (by decide) (fun K hK => ?_)
                have hs39 : w34.cell? ⟨gb108, 1, none⟩ = some (.slice Ao24 x109001_1.length co24) := (blk_cell BK108.out 1).trans rfl
                have hfs39 := blk_frozen BK108.out 1
                have hns39_0 := NB105_108.out
                have hns39_1 := NB106_108.out
                have hns39_2 := NB107_108.out
                have hns39_4 := NB111_108.out
                have hms39_0 := NB108_105.out
                have hms39_1 := NB108_106.out
                have hms39_2 := NB108_107.out
                have hms39_4 := NB108_111.out
                refine skip_ (w1 := ?_) (by rfl) rfl ?_ ?_
                rotate_left
                · go_simp
                  rfl
                refine hK.out _ _ ?_
                clear hK K
                refine done_ (done_of HT_.out (by kernel_rfl)) ?_
                try go_wp2
                go_roundg k1
                case measure => have := HK1.out; omega
                case rel => exact ⟨(wrap64 (x8_1 + 1)), (y115), (y121), (.slice Ao36 y115.length co36), (.slice Ao38 y121.length co38), (by first | rfl | (simp; done) | (simp [*]; done)), H', ⟨by have := HK1.out; omega⟩, ⟨by (with_reducible repeat (first | apply Kd.R_alloc | apply Kd.R_drewN | apply Kd.R_drew)); exact Kd.R_mono (Kd.R_far (p := ⟨gb108, 1, none⟩) (Kd.R_far (p := ⟨gb107, 1, none⟩) (Kd.R_types (Kd.R_types HO117.out BK107.out (by decide)) BK108.out (by decide)) (fun _ hk => hk.1.2) (.slice Ao36 y115.length co36)) (fun _ hk => hk.2) (.slice Ao38 y121.length co38)) (fun _ hk => trivial)⟩, ⟨by (with_reducible repeat (first | apply Kd.R_alloc | apply Kd.R_drewN | apply Kd.R_drew)); exact Kd.R_mono (Kd.R_far (p := ⟨gb108, 1, none⟩) (Kd.R_far (p := ⟨gb107, 1, none⟩) (Kd.R_types (Kd.R_types HO123.out BK107.out (by decide)) BK108.out (by decide)) (fun _ hk => hk.1.2) (.slice Ao36 y115.length co36)) (fun _ hk => hk.2) (.slice Ao38 y121.length co38)) (fun _ hk => trivial)⟩, ⟨by (with_reducible repeat (first | refine blk_drewN ?_ _ | refine blk_drew ?_ | refine blk_alloc ?_ _)); refine blk_far ?_ NB105_108.out _; (with_reducible repeat (first | refine blk_drewN ?_ _ | refine blk_drew ?_ | refine blk_alloc ?_ _)); refine blk_far ?_ NB105_107.out _; (with_reducible repeat (first | refine blk_drewN ?_ _ | refine blk_drew ?_ | refine blk_alloc ?_ _)); exact BK105.out⟩, ⟨by (with_reducible repeat (first | refine blk_drewN ?_ _ | refine blk_drew ?_ | refine blk_alloc ?_ _)); refine blk_far ?_ NB106_108.out _; (with_reducible repeat (first | refine blk_drewN ?_ _ | refine blk_drew ?_ | refine blk_alloc ?_ _)); refine blk_far ?_ NB106_107.out _; (with_reducible repeat (first | refine blk_drewN ?_ _ | refine blk_drew ?_ | refine blk_alloc ?_ _)); exact BK106.out⟩, ⟨by (with_reducible repeat (first | refine blk_drewN ?_ _ | refine blk_drew ?_ | refine blk_alloc ?_ _)); refine blk_far ?_ NB107_108.out _; (with_reducible repeat (first | refine blk_drewN ?_ _ | refine blk_drew ?_ | refine blk_alloc ?_ _)); refine blk_put (cs := #[.int .i64 a0, .slice Ao23 x108001_1.length co23]) ?_ 1 _ rfl; (with_reducible repeat (first | refine blk_drewN ?_ _ | refine blk_drew ?_ | refine blk_alloc ?_ _)); exact BK107.out⟩, ⟨by (with_reducible repeat (first | refine blk_drewN ?_ _ | refine blk_drew ?_ | refine blk_alloc ?_ _)); refine blk_put (cs := #[.int .i64 a0, .slice Ao24 x109001_1.length co24]) ?_ 1 _ rfl; (with_reducible repeat (first | refine blk_drewN ?_ _ | refine blk_drew ?_ | refine blk_alloc ?_ _)); refine blk_far ?_ NB108_107.out _; (with_reducible repeat (first | refine blk_drewN ?_ _ | refine blk_drew ?_ | refine blk_alloc ?_ _)); exact BK108.out⟩, ⟨by repeat (first | (with_reducible first | exact HB.out | apply below_alloc | apply pw_below_drewN | apply below_drew1 | refine below_set ?_ GE105.out | refine below_set ?_ GE106.out | refine below_set ?_ GE107.out | refine below_set ?_ GE108.out | refine below_set ?_ GE111.out) | exact HB.out)⟩⟩
              · rw [if_neg c18] at H
                exact absurd H (by simp)
            · rw [if_neg c17] at H
              exact absurd H (by simp)
          · rw [if_neg c16] at H
            exact absurd H (by simp)
        · rw [if_neg c15] at H
          have c15b0 : decide (x8_1 < 10) = false := decide_eq_false c15
          clear c15
          simp only [Option.some.injEq, Prod.mk.injEq] at H
          obtain ⟨rfl, rfl, rfl, rfl⟩ := H
          try go_wp2
          have n0_ := Aside0.mk (Kd.R_drew HO_108001.out)
          have n1_ := Aside0.mk (Kd.R_drew HO_109001.out)
          have n2_ := Aside0.mk (blk_drew BK105.out)
          have n3_ := Aside0.mk (blk_drew BK106.out)
          have n4_ := Aside0.mk (blk_drew BK107.out)
          have n5_ := Aside0.mk (blk_drew BK108.out)
          have n6_ := Aside0.mk (below_drew1 HB.out)
          clear HO_108001
          clear HO_109001
          clear BK105
          clear BK106
          clear BK107
          clear BK108
          clear HB
          have HO_108001 := n0_
          have HO_109001 := n1_
          have BK105 := n2_
          have BK106 := n3_
          have BK107 := n4_
          have BK108 := n5_
          have HB := n6_
          clear n0_ n1_ n2_ n3_ n4_ n5_ n6_
          obtain ⟨Ao42, co42, eo42⟩ := Kd.R_slice HO_108001.out
          (first | subst eo42 | (injection eo42 with f1_ f2_ f3_; have f4_ := f1_.symm; have f5_ := f3_.symm; clear f1_ f2_ f3_; subst f4_; subst f5_))
          obtain ⟨Ao45, co45, eo45⟩ := Kd.R_slice HO_109001.out
          (first | subst eo45 | (injection eo45 with f1_ f2_ f3_; have f4_ := f1_.symm; have f5_ := f3_.symm; clear f1_ f2_ f3_; subst f4_; subst f5_))
          refine start_ (n := 4) (S := fun w' => w'.cell? ⟨gb107, 0, none⟩ = some (.int .i64 a0) ∧ w'.cell? ⟨gb107, 1, none⟩ = some (.slice Ao42 x108001_1.length co42) ∧ w'.cell? ⟨gb108, 0, none⟩ = some (.int .i64 a0) ∧ w'.cell? ⟨gb108, 1, none⟩ = some (.slice Ao45 x109001_1.length co45)) (ds := []) #[false, false, false, false] (by kernel_rfl) rfl rfl ⟨(blk_cell BK107.out 0).trans rfl, (blk_cell BK107.out 1).trans rfl, (blk_cell BK108.out 0).trans rfl, (blk_cell BK108.out 1).trans rfl⟩ (fun hHeld => ?_)
          generalize wr.drew = w40 at HO_108001 HO_109001 BK105 BK106 BK107 BK108 HB hHeld ⊢
          refine take_ (i := 0) (N := some 50) (v := ?_) (a' := ?_) #[true, false, false, false] rfl rfl (by kernel_rfl) (fun _ _ _ h => h) (Or.inl ⟨by rfl, ?_⟩) hHeld ?_ ?_
          rotate_left
          · rintro w' ⟨s0, s1, s2, s3⟩
            go_simp
            with_reducible rfl
          rotate_left
          · simp only [Act.put, List.setIfInBounds_toArray, List.set_cons_zero, List.set_cons_succ, i64_w, i32_w]
            rfl
          refine take_ (i := 1) (N := some 51) (v := ?_) (a' := ?_) #[true, true, false, false] rfl rfl (by kernel_rfl) (fun _ _ _ h => h) (Or.inl ⟨by rfl, ?_⟩) hHeld ?_ ?_
          rotate_left
          · rintro w' ⟨s0, s1, s2, s3⟩
            go_simp
            with_reducible rfl
          rotate_left
          · simp only [Act.put, List.setIfInBounds_toArray, List.set_cons_zero, List.set_cons_succ, i64_w, i32_w]
            rfl
          refine one_ (i := 2) (N := none) #[true, true, true, false] rfl rfl (by kernel_rfl) (by decide) (fun K hK => ?_)
          have hs41 : w40.cell? ⟨gb105, 0, none⟩ = some (.int .i64 0) := (blk_cell BK105.out 0).trans rfl
          have hfs41 := blk_frozen BK105.out 0
          have hns41_1 := NB106_105.out
          have hns41_2 := NB107_105.out
          have hns41_3 := NB108_105.out
          have hms41_1 := NB105_106.out
          have hms41_2 := NB105_107.out
          have hms41_3 := NB105_108.out
          have hs43 : w40.cell? ⟨gb105, 1, none⟩ = some (.slice none 0 0) := (blk_cell BK105.out 1).trans rfl
          have hfs43 := blk_frozen BK105.out 1
          have hns43_1 := NB106_105.out
          have hns43_2 := NB107_105.out
          have hns43_3 := NB108_105.out
          have hms43_1 := NB105_106.out
          have hms43_2 := NB105_107.out
          have hms43_3 := NB105_108.out
          refine skip_ (w1 := ?_) (by rfl) rfl ?_ ?_
          rotate_left
          · go_simp
            rfl
          refine hK.out _ _ ⟨((cell_far (p := ⟨gb105, _, none⟩) NB107_105.out _).trans (((cell_far (p := ⟨gb105, _, none⟩) NB107_105.out _).trans (hHeld.1)))), ((cell_far (p := ⟨gb105, _, none⟩) NB107_105.out _).trans (((cell_far (p := ⟨gb105, _, none⟩) NB107_105.out _).trans (hHeld.2.1)))), ((cell_far (p := ⟨gb105, _, none⟩) NB108_105.out _).trans (((cell_far (p := ⟨gb105, _, none⟩) NB108_105.out _).trans (hHeld.2.2.1)))), ((cell_far (p := ⟨gb105, _, none⟩) NB108_105.out _).trans (((cell_far (p := ⟨gb105, _, none⟩) NB108_105.out _).trans (hHeld.2.2.2))))⟩ (fun hHeld => ?_)
          clear hK K
          refine one_ (i := 3) (N := none) #[true, true, true, true] rfl rfl (by kernel_rfl) (by decide) (fun K hK => ?_)
          have hs44 : w40.cell? ⟨gb106, 0, none⟩ = some (.int .i64 0) := (blk_cell BK106.out 0).trans rfl
          have hfs44 := blk_frozen BK106.out 0
          have hns44_0 := NB105_106.out
          have hns44_2 := NB107_106.out
          have hns44_3 := NB108_106.out
          have hms44_0 := NB106_105.out
          have hms44_2 := NB106_107.out
          have hms44_3 := NB106_108.out
          have hs46 : w40.cell? ⟨gb106, 1, none⟩ = some (.slice none 0 0) := (blk_cell BK106.out 1).trans rfl
          have hfs46 := blk_frozen BK106.out 1
          have hns46_0 := NB105_106.out
          have hns46_2 := NB107_106.out
          have hns46_3 := NB108_106.out
          have hms46_0 := NB106_105.out
          have hms46_2 := NB106_107.out
          have hms46_3 := NB106_108.out
          refine skip_ (w1 := ?_) (by rfl) rfl ?_ ?_
          rotate_left
          · go_simp
            rfl
          refine hK.out _ _ ⟨((cell_far (p := ⟨gb106, _, none⟩) NB107_106.out _).trans (((cell_far (p := ⟨gb106, _, none⟩) NB107_106.out _).trans (hHeld.1)))), ((cell_far (p := ⟨gb106, _, none⟩) NB107_106.out _).trans (((cell_far (p := ⟨gb106, _, none⟩) NB107_106.out _).trans (hHeld.2.1)))), ((cell_far (p := ⟨gb106, _, none⟩) NB108_106.out _).trans (((cell_far (p := ⟨gb106, _, none⟩) NB108_106.out _).trans (hHeld.2.2.1)))), ((cell_far (p := ⟨gb106, _, none⟩) NB108_106.out _).trans (((cell_far (p := ⟨gb106, _, none⟩) NB108_106.out _).trans (hHeld.2.2.2))))⟩ (fun hHeld => ?_)
          clear hK K
          refine done_ (by kernel_rfl) ?_
          try go_wp2
          refine bodyPost_ret (results_cc rfl _ _ gb105 gb106 46 49 #[.int .i64 a0, .slice Ao42 x108001_1.length co42] #[.int .i64 a0, .slice Ao45 x109001_1.length co45] (0, 0) (0, 0) _ _ rfl (by (with_reducible repeat (first | refine blk_drewN ?_ _ | refine blk_drew ?_ | refine blk_alloc ?_ _)); refine blk_far ?_ NB105_106.out _; (with_reducible repeat (first | refine blk_drewN ?_ _ | refine blk_drew ?_ | refine blk_alloc ?_ _)); refine blk_far ?_ NB105_106.out _; (with_reducible repeat (first | refine blk_drewN ?_ _ | refine blk_drew ?_ | refine blk_alloc ?_ _)); refine blk_put (cs := #[.int .i64 a0, .slice none 0 0]) ?_ 1 _ rfl; (with_reducible repeat (first | refine blk_drewN ?_ _ | refine blk_drew ?_ | refine blk_alloc ?_ _)); refine blk_put (cs := #[.int .i64 0, .slice none 0 0]) ?_ 0 _ rfl; (with_reducible repeat (first | refine blk_drewN ?_ _ | refine blk_drew ?_ | refine blk_alloc ?_ _)); exact BK105.out) Tryd.underlying46 rfl (by kernel_rfl) rfl (by (with_reducible repeat (first | refine blk_drewN ?_ _ | refine blk_drew ?_ | refine blk_alloc ?_ _)); refine blk_put (cs := #[.int .i64 a0, .slice none 0 0]) ?_ 1 _ rfl; (with_reducible repeat (first | refine blk_drewN ?_ _ | refine blk_drew ?_ | refine blk_alloc ?_ _)); refine blk_put (cs := #[.int .i64 0, .slice none 0 0]) ?_ 0 _ rfl; (with_reducible repeat (first | refine blk_drewN ?_ _ | refine blk_drew ?_ | refine blk_alloc ?_ _)); refine blk_far ?_ NB106_105.out _; (with_reducible repeat (first | refine blk_drewN ?_ _ | refine blk_drew ?_ | refine blk_alloc ?_ _)); refine blk_far ?_ NB106_105.out _; (with_reducible repeat (first | refine blk_drewN ?_ _ | refine blk_drew ?_ | refine blk_alloc ?_ _)); exact BK106.out) Tryd.underlying49 rfl (by kernel_rfl)) rfl ?_
          exact ⟨_, _, by first | rfl | (simp [errW_none, errW_some] <;> rfl) | (simp [*, errW_none, errW_some] <;> rfl), by (with_reducible repeat (first | apply Kd.R_alloc | apply Kd.R_drewN | apply Kd.R_drew)); exact Kd.R_mono (Kd.R_far (p := ⟨gb106, 1, none⟩) (Kd.R_far (p := ⟨gb106, 0, none⟩) (Kd.R_far (p := ⟨gb105, 1, none⟩) (Kd.R_far (p := ⟨gb105, 0, none⟩) (Kd.R_types (Kd.R_types HO_108001.out BK105.out (by decide)) BK106.out (by decide)) (fun _ hk => hk.1.2) (.int .i64 a0)) (fun _ hk => hk.1.2) (.slice Ao42 x108001_1.length co42)) (fun _ hk => hk.2) (.int .i64 a0)) (fun _ hk => hk.2) (.slice Ao45 x109001_1.length co45)) (fun _ hk => trivial), by (with_reducible repeat (first | apply Kd.R_alloc | apply Kd.R_drewN | apply Kd.R_drew)); exact Kd.R_mono (Kd.R_far (p := ⟨gb106, 1, none⟩) (Kd.R_far (p := ⟨gb106, 0, none⟩) (Kd.R_far (p := ⟨gb105, 1, none⟩) (Kd.R_far (p := ⟨gb105, 0, none⟩) (Kd.R_types (Kd.R_types HO_109001.out BK105.out (by decide)) BK106.out (by decide)) (fun _ hk => hk.1.2) (.int .i64 a0)) (fun _ hk => hk.1.2) (.slice Ao42 x108001_1.length co42)) (fun _ hk => hk.2) (.int .i64 a0)) (fun _ hk => hk.2) (.slice Ao45 x109001_1.length co45)) (fun _ hk => trivial), by repeat (first | (with_reducible first | exact HB.out | apply below_alloc | apply pw_below_drewN | apply below_drew1 | refine below_set ?_ GE105.out | refine below_set ?_ GE106.out | refine below_set ?_ GE107.out | refine below_set ?_ GE108.out) | exact HB.out)⟩
      · rw [if_neg c14] at H
        have c14b0 : decide (x8_1 < (l1.length : Int)) = false := decide_eq_false c14
        clear c14
        simp only [Option.some.injEq, Prod.mk.injEq] at H
        obtain ⟨rfl, rfl, rfl, rfl⟩ := H
        try go_wp2
        have n0_ := Aside0.mk (Kd.R_drew HO_108001.out)
        have n1_ := Aside0.mk (Kd.R_drew HO_109001.out)
        have n2_ := Aside0.mk (blk_drew BK105.out)
        have n3_ := Aside0.mk (blk_drew BK106.out)
        have n4_ := Aside0.mk (blk_drew BK107.out)
        have n5_ := Aside0.mk (blk_drew BK108.out)
        have n6_ := Aside0.mk (below_drew1 HB.out)
        clear HO_108001
        clear HO_109001
        clear BK105
        clear BK106
        clear BK107
        clear BK108
        clear HB
        have HO_108001 := n0_
        have HO_109001 := n1_
        have BK105 := n2_
        have BK106 := n3_
        have BK107 := n4_
        have BK108 := n5_
        have HB := n6_
        clear n0_ n1_ n2_ n3_ n4_ n5_ n6_
        obtain ⟨Ao49, co49, eo49⟩ := Kd.R_slice HO_108001.out
        (first | subst eo49 | (injection eo49 with f1_ f2_ f3_; have f4_ := f1_.symm; have f5_ := f3_.symm; clear f1_ f2_ f3_; subst f4_; subst f5_))
        obtain ⟨Ao52, co52, eo52⟩ := Kd.R_slice HO_109001.out
        (first | subst eo52 | (injection eo52 with f1_ f2_ f3_; have f4_ := f1_.symm; have f5_ := f3_.symm; clear f1_ f2_ f3_; subst f4_; subst f5_))
        refine start_ (n := 4) (S := fun w' => w'.cell? ⟨gb107, 0, none⟩ = some (.int .i64 a0) ∧ w'.cell? ⟨gb107, 1, none⟩ = some (.slice Ao49 x108001_1.length co49) ∧ w'.cell? ⟨gb108, 0, none⟩ = some (.int .i64 a0) ∧ w'.cell? ⟨gb108, 1, none⟩ = some (.slice Ao52 x109001_1.length co52)) (ds := []) #[false, false, false, false] (by kernel_rfl) rfl rfl ⟨(blk_cell BK107.out 0).trans rfl, (blk_cell BK107.out 1).trans rfl, (blk_cell BK108.out 0).trans rfl, (blk_cell BK108.out 1).trans rfl⟩ (fun hHeld => ?_)
        generalize wr.drew = w47 at HO_108001 HO_109001 BK105 BK106 BK107 BK108 HB hHeld ⊢
        refine take_ (i := 0) (N := some 50) (v := ?_) (a' := ?_) #[true, false, false, false] rfl rfl (by kernel_rfl) (fun _ _ _ h => h) (Or.inl ⟨by rfl, ?_⟩) hHeld ?_ ?_
        rotate_left
        · rintro w' ⟨s0, s1, s2, s3⟩
          go_simp
          with_reducible rfl
        rotate_left
        · simp only [Act.put, List.setIfInBounds_toArray, List.set_cons_zero, List.set_cons_succ, i64_w, i32_w]
          rfl
        refine take_ (i := 1) (N := some 51) (v := ?_) (a' := ?_) #[true, true, false, false] rfl rfl (by kernel_rfl) (fun _ _ _ h => h) (Or.inl ⟨by rfl, ?_⟩) hHeld ?_ ?_
        rotate_left
        · rintro w' ⟨s0, s1, s2, s3⟩
          go_simp
          with_reducible rfl
        rotate_left
        · simp only [Act.put, List.setIfInBounds_toArray, List.set_cons_zero, List.set_cons_succ, i64_w, i32_w]
          rfl
        refine one_ (i := 2) (N := none) #[true, true, true, false] rfl rfl (by kernel_rfl) (by decide) (fun K hK => ?_)
        have hs48 : w47.cell? ⟨gb105, 0, none⟩ = some (.int .i64 0) := (blk_cell BK105.out 0).trans rfl
        have hfs48 := blk_frozen BK105.out 0
        have hns48_1 := NB106_105.out
        have hns48_2 := NB107_105.out
        have hns48_3 := NB108_105.out
        have hms48_1 := NB105_106.out
        have hms48_2 := NB105_107.out
        have hms48_3 := NB105_108.out
        have hs50 : w47.cell? ⟨gb105, 1, none⟩ = some (.slice none 0 0) := (blk_cell BK105.out 1).trans rfl
        have hfs50 := blk_frozen BK105.out 1
        have hns50_1 := NB106_105.out
        have hns50_2 := NB107_105.out
        have hns50_3 := NB108_105.out
        have hms50_1 := NB105_106.out
        have hms50_2 := NB105_107.out
        have hms50_3 := NB105_108.out
        refine skip_ (w1 := ?_) (by rfl) rfl ?_ ?_
        rotate_left
        · go_simp
          rfl
        refine hK.out _ _ ⟨((cell_far (p := ⟨gb105, _, none⟩) NB107_105.out _).trans (((cell_far (p := ⟨gb105, _, none⟩) NB107_105.out _).trans (hHeld.1)))), ((cell_far (p := ⟨gb105, _, none⟩) NB107_105.out _).trans (((cell_far (p := ⟨gb105, _, none⟩) NB107_105.out _).trans (hHeld.2.1)))), ((cell_far (p := ⟨gb105, _, none⟩) NB108_105.out _).trans (((cell_far (p := ⟨gb105, _, none⟩) NB108_105.out _).trans (hHeld.2.2.1)))), ((cell_far (p := ⟨gb105, _, none⟩) NB108_105.out _).trans (((cell_far (p := ⟨gb105, _, none⟩) NB108_105.out _).trans (hHeld.2.2.2))))⟩ (fun hHeld => ?_)
        clear hK K
        refine one_ (i := 3) (N := none) #[true, true, true, true] rfl rfl (by kernel_rfl) (by decide) (fun K hK => ?_)
        have hs51 : w47.cell? ⟨gb106, 0, none⟩ = some (.int .i64 0) := (blk_cell BK106.out 0).trans rfl
        have hfs51 := blk_frozen BK106.out 0
        have hns51_0 := NB105_106.out
        have hns51_2 := NB107_106.out
        have hns51_3 := NB108_106.out
        have hms51_0 := NB106_105.out
        have hms51_2 := NB106_107.out
        have hms51_3 := NB106_108.out
        have hs53 : w47.cell? ⟨gb106, 1, none⟩ = some (.slice none 0 0) := (blk_cell BK106.out 1).trans rfl
        have hfs53 := blk_frozen BK106.out 1
        have hns53_0 := NB105_106.out
        have hns53_2 := NB107_106.out
        have hns53_3 := NB108_106.out
        have hms53_0 := NB106_105.out
        have hms53_2 := NB106_107.out
        have hms53_3 := NB106_108.out
        refine skip_ (w1 := ?_) (by rfl) rfl ?_ ?_
        rotate_left
        · go_simp
          rfl
        refine hK.out _ _ ⟨((cell_far (p := ⟨gb106, _, none⟩) NB107_106.out _).trans (((cell_far (p := ⟨gb106, _, none⟩) NB107_106.out _).trans (hHeld.1)))), ((cell_far (p := ⟨gb106, _, none⟩) NB107_106.out _).trans (((cell_far (p := ⟨gb106, _, none⟩) NB107_106.out _).trans (hHeld.2.1)))), ((cell_far (p := ⟨gb106, _, none⟩) NB108_106.out _).trans (((cell_far (p := ⟨gb106, _, none⟩) NB108_106.out _).trans (hHeld.2.2.1)))), ((cell_far (p := ⟨gb106, _, none⟩) NB108_106.out _).trans (((cell_far (p := ⟨gb106, _, none⟩) NB108_106.out _).trans (hHeld.2.2.2))))⟩ (fun hHeld => ?_)
        clear hK K
        refine done_ (by kernel_rfl) ?_
        try go_wp2
        refine bodyPost_ret (results_cc rfl _ _ gb105 gb106 46 49 #[.int .i64 a0, .slice Ao49 x108001_1.length co49] #[.int .i64 a0, .slice Ao52 x109001_1.length co52] (0, 0) (0, 0) _ _ rfl (by (with_reducible repeat (first | refine blk_drewN ?_ _ | refine blk_drew ?_ | refine blk_alloc ?_ _)); refine blk_far ?_ NB105_106.out _; (with_reducible repeat (first | refine blk_drewN ?_ _ | refine blk_drew ?_ | refine blk_alloc ?_ _)); refine blk_far ?_ NB105_106.out _; (with_reducible repeat (first | refine blk_drewN ?_ _ | refine blk_drew ?_ | refine blk_alloc ?_ _)); refine blk_put (cs := #[.int .i64 a0, .slice none 0 0]) ?_ 1 _ rfl; (with_reducible repeat (first | refine blk_drewN ?_ _ | refine blk_drew ?_ | refine blk_alloc ?_ _)); refine blk_put (cs := #[.int .i64 0, .slice none 0 0]) ?_ 0 _ rfl; (with_reducible repeat (first | refine blk_drewN ?_ _ | refine blk_drew ?_ | refine blk_alloc ?_ _)); exact BK105.out) Tryd.underlying46 rfl (by kernel_rfl) rfl (by (with_reducible repeat (first | refine blk_drewN ?_ _ | refine blk_drew ?_ | refine blk_alloc ?_ _)); refine blk_put (cs := #[.int .i64 a0, .slice none 0 0]) ?_ 1 _ rfl; (with_reducible repeat (first | refine blk_drewN ?_ _ | refine blk_drew ?_ | refine blk_alloc ?_ _)); refine blk_put (cs := #[.int .i64 0, .slice none 0 0]) ?_ 0 _ rfl; (with_reducible repeat (first | refine blk_drewN ?_ _ | refine blk_drew ?_ | refine blk_alloc ?_ _)); refine blk_far ?_ NB106_105.out _; (with_reducible repeat (first | refine blk_drewN ?_ _ | refine blk_drew ?_ | refine blk_alloc ?_ _)); refine blk_far ?_ NB106_105.out _; (with_reducible repeat (first | refine blk_drewN ?_ _ | refine blk_drew ?_ | refine blk_alloc ?_ _)); exact BK106.out) Tryd.underlying49 rfl (by kernel_rfl)) rfl ?_
        exact ⟨_, _, by first | rfl | (simp [errW_none, errW_some] <;> rfl) | (simp [*, errW_none, errW_some] <;> rfl), by (with_reducible repeat (first | apply Kd.R_alloc | apply Kd.R_drewN | apply Kd.R_drew)); exact Kd.R_mono (Kd.R_far (p := ⟨gb106, 1, none⟩) (Kd.R_far (p := ⟨gb106, 0, none⟩) (Kd.R_far (p := ⟨gb105, 1, none⟩) (Kd.R_far (p := ⟨gb105, 0, none⟩) (Kd.R_types (Kd.R_types HO_108001.out BK105.out (by decide)) BK106.out (by decide)) (fun _ hk => hk.1.2) (.int .i64 a0)) (fun _ hk => hk.1.2) (.slice Ao49 x108001_1.length co49)) (fun _ hk => hk.2) (.int .i64 a0)) (fun _ hk => hk.2) (.slice Ao52 x109001_1.length co52)) (fun _ hk => trivial), by (with_reducible repeat (first | apply Kd.R_alloc | apply Kd.R_drewN | apply Kd.R_drew)); exact Kd.R_mono (Kd.R_far (p := ⟨gb106, 1, none⟩) (Kd.R_far (p := ⟨gb106, 0, none⟩) (Kd.R_far (p := ⟨gb105, 1, none⟩) (Kd.R_far (p := ⟨gb105, 0, none⟩) (Kd.R_types (Kd.R_types HO_109001.out BK105.out (by decide)) BK106.out (by decide)) (fun _ hk => hk.1.2) (.int .i64 a0)) (fun _ hk => hk.1.2) (.slice Ao49 x108001_1.length co49)) (fun _ hk => hk.2) (.int .i64 a0)) (fun _ hk => hk.2) (.slice Ao52 x109001_1.length co52)) (fun _ hk => trivial), by repeat (first | (with_reducible first | exact HB.out | apply below_alloc | apply pw_below_drewN | apply below_drew1 | refine below_set ?_ GE105.out | refine below_set ?_ GE106.out | refine below_set ?_ GE107.out | refine below_set ?_ GE108.out) | exact HB.out)⟩

end Go.Proofs.YtngokgliagkohaaDoor.VXlatOthers
