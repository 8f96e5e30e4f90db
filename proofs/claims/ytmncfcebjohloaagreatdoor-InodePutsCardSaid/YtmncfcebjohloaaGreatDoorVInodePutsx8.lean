/- Contracts of functions of this seat: each call comes to what its Lean function computes; no condition beyond what each theorem states. Printed by a program of this session's own laid over the kit's printer. -/
import Derived.Test.YtmncfcebjohloaaGreatDoorVInodePutsx0
namespace Go.Proofs.YtmncfcebjohloaaGreatDoor.VInodePuts
open Go.RowKit Go.Proofs.YtmncfcebjohloaaGreatDoorW.PrintWords Go.Proofs.YtmncfcebjohloaaGreatDoorW.PrintLast Go.Proofs.YtmncfcebjohloaaGreatDoorW.PrintMore
attribute [local go_sem] max2_int min2_int max_two min_two max_three min_three max_four min_four   -- for this text's walks alone
open Go.Proofs.YtmncfcebjohloaaGreatDoorW.PrintWords.Kd renaming R_alloc → rA
open Go.Proofs.YtmncfcebjohloaaGreatDoorW.PrintWords.Kd renaming R_drewN → rN
open Go.Proofs.YtmncfcebjohloaaGreatDoorW.PrintWords.Kd renaming R_drew → rD
open List renaming setIfInBounds_toArray → lS, set_cons_zero → lZ, set_cons_succ → lC
open Bool renaming true → T, false → F
open Go.Proofs.YtmncfcebjohloaaGreatDoorW.PrintWords renaming blk_drewN → bN, blk_drew → bD, blk_alloc → bA, below_set → bS, pw_below_drewN → pN, below_drew1 → pD, below_alloc → pA, below_step → pS, below_size → pZ, blk_frozen → bF, blk_cell → bC, blk_below → bB, blk_far → bR, blk_put → bP, blk_lt → bL, gate_dst → gD, cell_far → cF, box_event → bE
open Go.Proofs.YtmncfcebjohloaaGreatDoorW.PrintWords.Aside0 renaming mk → A0k
set_option linter.unusedVariables false
set_option linter.unusedSimpArgs false

/-! ### posthorselaw08_both: function 6 -/
def posthorselaw08_both.l0 : Nat → List (S55) → Int → Int → List (S51) → Int → List (S56) → Option (Int × (List (S51)) × Int × (List (S56)))
 | 0, _, _, _, _, _, _ => none
 | k + 1, x1, x8, x160000, x160001, x161000, x161001 => if x8 < (x1.length : Int) then (if x8 < 40 then (if 0 ≤ x8 then ((some (([(⟨(rd_T55 x1 x8).f0, (rd_T55 x1 x8).f1⟩ : S51)] : List (S51)) : List (S51))).bind fun y162 => (if x160001.length + y162.length < 8796093022208 then ((some (([(⟨(rd_T55 x1 x8).f0, (rd_T55 x1 x8).f1⟩ : S56)] : List (S56)) : List (S56))).bind fun y169 => (if x161001.length + y169.length < 8796093022208 then (posthorselaw08_both.l0 k x1 (wrap64 (x8 + 1)) x160000 (x160001 ++ y162) x161000 (x161001 ++ y169)) else (none))) else (none))) else (none)) else (some (x160000, x160001, x161000, x161001))) else (some (x160000, x160001, x161000, x161001))
def posthorselaw08_both.f (k : Nat) (a0 : Int) (l1 : List (S55)) : Option (Int × (List (S51)) × Int × (List (S56))) := posthorselaw08_both.l0 k l1 0 a0 ([] : List (S51)) a0 ([] : List (S56))
set_option maxRecDepth 100000 in
theorem posthorselaw08_both.mono_l : ∀ k, (∀ y0 y1 y2 y3 y4 y5, LeO (posthorselaw08_both.l0 k y0 y1 y2 y3 y4 y5) (posthorselaw08_both.l0 (k + 1) y0 y1 y2 y3 y4 y5))
 | 0 => fun _ _ _ _ _ _ r h => by first | (rw [posthorselaw08_both.l0] at h; cases h) | simp [posthorselaw08_both.l0] at h
 | k + 1 => by
  have ih0 := posthorselaw08_both.mono_l k
  ·intro y0 y1 y2 y3 y4 y5
   unfold posthorselaw08_both.l0
   repeat' first
   | (with_reducible exact ih0 _ _ _ _ _ _)
   | (with_reducible exact LeO.refl _)
   | (with_reducible exact LeO.none _)
   | (with_reducible refine LeO.ite ?_ ?_)
   | (with_reducible refine LeO.bind ?_ (fun _ => ?_))
   | exact ih0 _ _ _ _ _ _
   | exact LeO.none _
   | refine LeO.ite ?_ ?_
   | refine LeO.bind ?_ (fun _ => ?_)
theorem posthorselaw08_both.mono : ∀ a0 a1 k, LeO (posthorselaw08_both.f k a0 a1) (posthorselaw08_both.f (k + 1) a0 a1) := by
 intro a0 a1 k
 have ih0 := posthorselaw08_both.mono_l k
 unfold posthorselaw08_both.f
 repeat' first
   | (with_reducible exact ih0 _ _ _ _ _ _)
   | (with_reducible exact LeO.refl _)
   | (with_reducible exact LeO.none _)
   | (with_reducible refine LeO.ite ?_ ?_)
   | (with_reducible refine LeO.bind ?_ (fun _ => ?_))
   | exact ih0 _ _ _ _ _ _
   | exact LeO.none _
   | refine LeO.ite ?_ ?_
   | refine LeO.bind ?_ (fun _ => ?_)
def posthorselaw08_both.T5 : Bool × List (List Nat × List Nat) := (true, [([], []), ([0], [0]), ([], []), ([], []), ([2, 3], [2, 3]), ([4], [4]), ([5], [5]), ([1, 6], [1, 6]), ([], []), ([8], [8]), ([], []), ([], []), ([10, 11], [10, 11]), ([12], [12]), ([13], [13]), ([9, 14, 7], [9, 14]), ([0, 1, 2, 3, 4, 5, 6, 7], []), ([16, 7, 15, 0, 1, 2, 3, 4, 5, 6, 7], [7, 16]), ([0, 1, 2, 3, 4, 5, 6, 7, 8, 9, 10, 11, 12, 13, 14, 15, 16, 17], []), ([18, 15, 17, 0, 1, 2, 3, 4, 5, 6, 7, 8, 9, 10, 11, 12, 13, 14, 15, 16, 17], [15, 18])])
def posthorselaw08_both.B5 : List Nat := [0, 1, 0, 0, 12, 28, 60, 127, 0, 256, 0, 0, 3072, 7168, 15360, 32767, 255, 131071, 262143, 524287]
theorem posthorselaw08_both.tab5 : rtab .any (opsOf Tryz.f6 5) = posthorselaw08_both.T5 := by kernel_rfl
theorem posthorselaw08_both.bits5 : waitsOk posthorselaw08_both.T5.2 posthorselaw08_both.B5 = true := by kernel_rfl
open Go.Proofs.YtmncfcebjohloaaGreatDoor.VInodePuts renaming rd_T55 → d0_
open posthorselaw08_both renaming l0 → Wl0
set_option maxHeartbeats 8000000 in
set_option maxRecDepth 100000 in
theorem posthorselaw08_both.calls (k : Nat) (a0 : Int) (A1 : Option Addr) (c1 : Nat) (l1 : List (S55)) (r1 : Int) (r2 : List (S51)) (r3 : Int) (r4 : List (S56)) (w : World) (hr1 : Kd.C k55 w A1 l1.length l1) (hc1 : l1.length ≤ c1) (h : posthorselaw08_both.f k a0 l1 = some (r1, r2, r3, r4)) :
  Calls Tryz.prog 6 #[.int .i64 a0, .slice A1 l1.length c1] w fun e w' => ∃ v1_ v3_ : Value, e = .returned (.tuple #[.agg #[.int .i64 r1, v1_], .agg #[.int .i64 r3, v3_]]) ∧ Kd.R k51 51 w' w.heap.size (fun _ => True) v1_ r2 ∧ Kd.R k56 56 w' w.heap.size (fun _ => True) v3_ r4 ∧ Below w.heap.size w w' := by
 have hu26 := Tryz.underlying26
 have hu29 := Tryz.underlying29
 have hu55 := Tryz.underlying55
 have HR1 := A0k hr1
 have HC1 := A0k hc1
 clear hr1 hc1
 have HB := A0k (Below.refl w.heap.size w)
 have H : (Wl0 k l1 0 a0 ([] : List (S51)) a0 ([] : List (S56))) = some (r1, r2, r3, r4) := h
 clear h
 have H' := A0k H
 clear H
 go_enter Tryz.func6, Tryz.ntmps6
 go_wp2_with (first | ((with_reducible refine gD (N := 4) rfl ?_); refine bE ?hg (N := 4) ?hd (cs := #[.int .i64 0, .slice none 0 0]) (t := 26) ?hr ?_; (case hd => rfl); (case hg => rfl); (case hr => first | (go_simp; done) | (go_simp; rfl)); intro gb157 hg w3 hbox hb; have n0_ := A0k (pS (by repeat (first | (with_reducible first | exact HB.out | apply pA | apply pN | apply pD) | exact HB.out)) hb); have n1_ := A0k (hbox); have n2_ := A0k ((by rw [hg]; exact (pZ (by repeat (first | (with_reducible first | exact HB.out | apply pA | apply pN | apply pD) | exact HB.out))) : w.heap.size ≤ gb157)); have n3_ := A0k ((by rw [hg]; exact (pZ (by repeat (first | (with_reducible first | exact HB.out | apply pA | apply pN | apply pD) | exact HB.out))) : w.heap.size ≤ gb157)); clear HB; have HB := n0_; have BK157 := n1_; have GW157 := n2_; have GE157 := n3_; clear n0_ n1_ n2_ n3_ hb hbox hg) | ((with_reducible refine gD (N := 5) rfl ?_); refine bE ?hg (N := 5) ?hd (cs := #[.int .i64 0, .slice none 0 0]) (t := 29) ?hr ?_; (case hd => rfl); (case hg => rfl); (case hr => first | (go_simp; done) | (go_simp; rfl)); intro gb158 hg w4 hbox hb; have n0_ := A0k (bB (g := gb157) (o := .cells #[.int .i64 0, .slice none 0 0] 26 (0, 0)) (by (with_reducible repeat first | apply bN | apply bD | apply bA); exact BK157.out) hb); have n1_ := A0k (pS (by repeat (first | (with_reducible first | exact HB.out | apply pA | apply pN | apply pD | refine bS ?_ GE157.out) | exact HB.out)) hb); have n2_ := A0k (hbox); have n3_ := A0k ((by rw [hg]; exact (pZ (by repeat (first | (with_reducible first | exact HB.out | apply pA | apply pN | apply pD | refine bS ?_ GE157.out) | exact HB.out))) : w.heap.size ≤ gb158)); have n4_ := A0k ((by rw [hg]; exact (pZ (by repeat (first | (with_reducible first | exact HB.out | apply pA | apply pN | apply pD | refine bS ?_ GE157.out) | exact HB.out))) : w.heap.size ≤ gb158)); have n5_ := A0k ((by rw [hg]; exact Nat.ne_of_lt (bL (g := gb157) (o := .cells #[.int .i64 0, .slice none 0 0] 26 (0, 0)) (by (with_reducible repeat first | apply bN | apply bD | apply bA); exact BK157.out)) : gb157 ≠ gb158)); have n6_ := A0k ((by rw [hg]; exact Nat.ne_of_gt (bL (g := gb157) (o := .cells #[.int .i64 0, .slice none 0 0] 26 (0, 0)) (by (with_reducible repeat first | apply bN | apply bD | apply bA); exact BK157.out)) : gb158 ≠ gb157)); clear BK157 HB; have BK157 := n0_; have HB := n1_; have BK158 := n2_; have GW158 := n3_; have GE158 := n4_; have NB157_158 := n5_; have NB158_157 := n6_; clear n0_ n1_ n2_ n3_ n4_ n5_ n6_ hb hbox hg) | ((with_reducible refine gD (N := 6) rfl ?_); refine bE ?hg (N := 6) ?hd (cs := #[.int .i64 0, .slice none 0 0]) (t := 26) ?hr ?_; (case hd => rfl); (case hg => rfl); (case hr => first | (go_simp; done) | (go_simp; rfl)); intro gb159 hg w5 hbox hb; have n0_ := A0k (bB (g := gb157) (o := .cells #[.int .i64 0, .slice none 0 0] 26 (0, 0)) (by (with_reducible repeat first | apply bN | apply bD | apply bA); exact BK157.out) hb); have n1_ := A0k (bB (g := gb158) (o := .cells #[.int .i64 0, .slice none 0 0] 29 (0, 0)) (by (with_reducible repeat first | apply bN | apply bD | apply bA); exact BK158.out) hb); have n2_ := A0k (pS (by repeat (first | (with_reducible first | exact HB.out | apply pA | apply pN | apply pD | refine bS ?_ GE157.out | refine bS ?_ GE158.out) | exact HB.out)) hb); have n3_ := A0k (hbox); have n4_ := A0k ((by rw [hg]; exact (pZ (by repeat (first | (with_reducible first | exact HB.out | apply pA | apply pN | apply pD | refine bS ?_ GE157.out | refine bS ?_ GE158.out) | exact HB.out))) : w.heap.size ≤ gb159)); have n5_ := A0k ((by rw [hg]; exact (pZ (by repeat (first | (with_reducible first | exact HB.out | apply pA | apply pN | apply pD | refine bS ?_ GE157.out | refine bS ?_ GE158.out) | exact HB.out))) : w.heap.size ≤ gb159)); have n6_ := A0k ((by rw [hg]; exact Nat.ne_of_lt (bL (g := gb157) (o := .cells #[.int .i64 0, .slice none 0 0] 26 (0, 0)) (by (with_reducible repeat first | apply bN | apply bD | apply bA); exact BK157.out)) : gb157 ≠ gb159)); have n7_ := A0k ((by rw [hg]; exact Nat.ne_of_gt (bL (g := gb157) (o := .cells #[.int .i64 0, .slice none 0 0] 26 (0, 0)) (by (with_reducible repeat first | apply bN | apply bD | apply bA); exact BK157.out)) : gb159 ≠ gb157)); have n8_ := A0k ((by rw [hg]; exact Nat.ne_of_lt (bL (g := gb158) (o := .cells #[.int .i64 0, .slice none 0 0] 29 (0, 0)) (by (with_reducible repeat first | apply bN | apply bD | apply bA); exact BK158.out)) : gb158 ≠ gb159)); have n9_ := A0k ((by rw [hg]; exact Nat.ne_of_gt (bL (g := gb158) (o := .cells #[.int .i64 0, .slice none 0 0] 29 (0, 0)) (by (with_reducible repeat first | apply bN | apply bD | apply bA); exact BK158.out)) : gb159 ≠ gb158)); clear BK157 BK158 HB; have BK157 := n0_; have BK158 := n1_; have HB := n2_; have BK159 := n3_; have GW159 := n4_; have GE159 := n5_; have NB157_159 := n6_; have NB159_157 := n7_; have NB158_159 := n8_; have NB159_158 := n9_; clear n0_ n1_ n2_ n3_ n4_ n5_ n6_ n7_ n8_ n9_ hb hbox hg) | ((with_reducible refine gD (N := 7) rfl ?_); refine bE ?hg (N := 7) ?hd (cs := #[.int .i64 0, .slice none 0 0]) (t := 29) ?hr ?_; (case hd => rfl); (case hg => rfl); (case hr => first | (go_simp; done) | (go_simp; rfl)); intro gb160 hg w6 hbox hb; have n0_ := A0k (bB (g := gb157) (o := .cells #[.int .i64 0, .slice none 0 0] 26 (0, 0)) (by (with_reducible repeat first | apply bN | apply bD | apply bA); exact BK157.out) hb); have n1_ := A0k (bB (g := gb158) (o := .cells #[.int .i64 0, .slice none 0 0] 29 (0, 0)) (by (with_reducible repeat first | apply bN | apply bD | apply bA); exact BK158.out) hb); have n2_ := A0k (bB (g := gb159) (o := .cells #[.int .i64 0, .slice none 0 0] 26 (0, 0)) (by (with_reducible repeat first | apply bN | apply bD | apply bA); exact BK159.out) hb); have n3_ := A0k (pS (by repeat (first | (with_reducible first | exact HB.out | apply pA | apply pN | apply pD | refine bS ?_ GE157.out | refine bS ?_ GE158.out | refine bS ?_ GE159.out) | exact HB.out)) hb); have n4_ := A0k (hbox); have n5_ := A0k ((by rw [hg]; exact (pZ (by repeat (first | (with_reducible first | exact HB.out | apply pA | apply pN | apply pD | refine bS ?_ GE157.out | refine bS ?_ GE158.out | refine bS ?_ GE159.out) | exact HB.out))) : w.heap.size ≤ gb160)); have n6_ := A0k ((by rw [hg]; exact (pZ (by repeat (first | (with_reducible first | exact HB.out | apply pA | apply pN | apply pD | refine bS ?_ GE157.out | refine bS ?_ GE158.out | refine bS ?_ GE159.out) | exact HB.out))) : w.heap.size ≤ gb160)); have n7_ := A0k ((by rw [hg]; exact Nat.ne_of_lt (bL (g := gb157) (o := .cells #[.int .i64 0, .slice none 0 0] 26 (0, 0)) (by (with_reducible repeat first | apply bN | apply bD | apply bA); exact BK157.out)) : gb157 ≠ gb160)); have n8_ := A0k ((by rw [hg]; exact Nat.ne_of_gt (bL (g := gb157) (o := .cells #[.int .i64 0, .slice none 0 0] 26 (0, 0)) (by (with_reducible repeat first | apply bN | apply bD | apply bA); exact BK157.out)) : gb160 ≠ gb157)); have n9_ := A0k ((by rw [hg]; exact Nat.ne_of_lt (bL (g := gb158) (o := .cells #[.int .i64 0, .slice none 0 0] 29 (0, 0)) (by (with_reducible repeat first | apply bN | apply bD | apply bA); exact BK158.out)) : gb158 ≠ gb160)); have n10_ := A0k ((by rw [hg]; exact Nat.ne_of_gt (bL (g := gb158) (o := .cells #[.int .i64 0, .slice none 0 0] 29 (0, 0)) (by (with_reducible repeat first | apply bN | apply bD | apply bA); exact BK158.out)) : gb160 ≠ gb158)); have n11_ := A0k ((by rw [hg]; exact Nat.ne_of_lt (bL (g := gb159) (o := .cells #[.int .i64 0, .slice none 0 0] 26 (0, 0)) (by (with_reducible repeat first | apply bN | apply bD | apply bA); exact BK159.out)) : gb159 ≠ gb160)); have n12_ := A0k ((by rw [hg]; exact Nat.ne_of_gt (bL (g := gb159) (o := .cells #[.int .i64 0, .slice none 0 0] 26 (0, 0)) (by (with_reducible repeat first | apply bN | apply bD | apply bA); exact BK159.out)) : gb160 ≠ gb159)); clear BK157 BK158 BK159 HB; have BK157 := n0_; have BK158 := n1_; have BK159 := n2_; have HB := n3_; have BK160 := n4_; have GW160 := n5_; have GE160 := n6_; have NB157_160 := n7_; have NB160_157 := n8_; have NB158_160 := n9_; have NB160_158 := n10_; have NB159_160 := n11_; have NB160_159 := n12_; clear n0_ n1_ n2_ n3_ n4_ n5_ n6_ n7_ n8_ n9_ n10_ n11_ n12_ hb hbox hg; have hnb7 := NB159_157.out; have hnc7 := NB157_159.out; have hnb8 := NB159_158.out; have hnc8 := NB158_159.out; have hnb9 := NB159_160.out; have hnc9 := NB160_159.out; have hcz10_0 : w6.cell? ⟨gb159, 0, none⟩ = some (.int .i64 0) := (bC BK159.out 0).trans rfl; have hcz10_1 : w6.cell? ⟨gb159, 1, none⟩ = some (.slice none 0 0) := (bC BK159.out 1).trans rfl; have hfz10_0 := bF BK159.out 0; have hfz10_1 := bF BK159.out 1; have hnb11 := NB160_157.out; have hnc11 := NB157_160.out; have hnb12 := NB160_158.out; have hnc12 := NB158_160.out; have hcz13_0 : w6.cell? ⟨gb160, 0, none⟩ = some (.int .i64 0) := (bC BK160.out 0).trans rfl; have hcz13_1 : w6.cell? ⟨gb160, 1, none⟩ = some (.slice none 0 0) := (bC BK160.out 1).trans rfl; have hfz13_0 := bF BK160.out 0; have hfz13_1 := bF BK160.out 1))
 go_loopg [8] k (fun kq v8 w' => ∃ (x8_1 : Int) (qd : List (S51)) (qc : List (S56)) (qf : Value) (qe : Value), v8 = .int .i64 x8_1 ∧ Aside0 (Wl0 kq l1 x8_1 a0 qd a0 qc = some (r1, r2, r3, r4)) ∧ Aside0 (kq ≤ k) ∧ Aside0 (Kd.R k51 51 w' w.heap.size (fun _ => True) qf qd) ∧ Aside0 (Kd.R k56 56 w' w.heap.size (fun _ => True) qe qc) ∧ Aside0 (w'.heap[gb157]? = some (.cells #[.int .i64 0, (.slice none 0 0)] 26 (0, 0))) ∧ Aside0 (w'.heap[gb158]? = some (.cells #[.int .i64 0, (.slice none 0 0)] 29 (0, 0))) ∧ Aside0 (w'.heap[gb159]? = some (.cells #[.int .i64 a0, qf] 26 (0, 0))) ∧ Aside0 (w'.heap[gb160]? = some (.cells #[.int .i64 a0, qe] 29 (0, 0))) ∧ Aside0 (Below w.heap.size w w'))
 case atStart => exact ⟨(0), (([] : List (S51))), (([] : List (S56))), (.slice none 0 0), (.slice none 0 0), (by first | rfl | (simp; done) | (simp [*]; done)), H', ⟨Nat.le_refl _⟩, ⟨by first | exact Kd.R_nil _ _ _ _ _ | exact Kd.N_nil _ _ _ _ _ | exact Kd.V_nil _ _ _ _ _ | exact Kd.Q_nil _ _ _ _ _ | exact Kd.S_nil _ _ _ _ _⟩, ⟨by first | exact Kd.R_nil _ _ _ _ _ | exact Kd.N_nil _ _ _ _ _ | exact Kd.V_nil _ _ _ _ _ | exact Kd.Q_nil _ _ _ _ _ | exact Kd.S_nil _ _ _ _ _⟩, ⟨by (with_reducible repeat first | apply bN | apply bD | apply bA); refine bR ?_ NB157_160.out _; (with_reducible repeat first | apply bN | apply bD | apply bA); refine bR ?_ NB157_160.out _; (with_reducible repeat first | apply bN | apply bD | apply bA); refine bR ?_ NB157_159.out _; (with_reducible repeat first | apply bN | apply bD | apply bA); refine bR ?_ NB157_159.out _; (with_reducible repeat first | apply bN | apply bD | apply bA); exact BK157.out⟩, ⟨by (with_reducible repeat first | apply bN | apply bD | apply bA); refine bR ?_ NB158_160.out _; (with_reducible repeat first | apply bN | apply bD | apply bA); refine bR ?_ NB158_160.out _; (with_reducible repeat first | apply bN | apply bD | apply bA); refine bR ?_ NB158_159.out _; (with_reducible repeat first | apply bN | apply bD | apply bA); refine bR ?_ NB158_159.out _; (with_reducible repeat first | apply bN | apply bD | apply bA); exact BK158.out⟩, ⟨by (with_reducible repeat first | apply bN | apply bD | apply bA); refine bR ?_ NB159_160.out _; (with_reducible repeat first | apply bN | apply bD | apply bA); refine bR ?_ NB159_160.out _; (with_reducible repeat first | apply bN | apply bD | apply bA); refine bP (cs := #[.int .i64 a0, .slice none 0 0]) ?_ 1 _ rfl; (with_reducible repeat first | apply bN | apply bD | apply bA); refine bP (cs := #[.int .i64 0, .slice none 0 0]) ?_ 0 _ rfl; (with_reducible repeat first | apply bN | apply bD | apply bA); exact BK159.out⟩, ⟨by (with_reducible repeat first | apply bN | apply bD | apply bA); refine bP (cs := #[.int .i64 a0, .slice none 0 0]) ?_ 1 _ rfl; (with_reducible repeat first | apply bN | apply bD | apply bA); refine bP (cs := #[.int .i64 0, .slice none 0 0]) ?_ 0 _ rfl; (with_reducible repeat first | apply bN | apply bD | apply bA); refine bR ?_ NB160_159.out _; (with_reducible repeat first | apply bN | apply bD | apply bA); refine bR ?_ NB160_159.out _; (with_reducible repeat first | apply bN | apply bD | apply bA); exact BK160.out⟩, ⟨by repeat (first | (with_reducible first | exact HB.out | apply pA | apply pN | apply pD | refine bS ?_ GE157.out | refine bS ?_ GE158.out | refine bS ?_ GE159.out | refine bS ?_ GE160.out) | exact HB.out)⟩⟩
 case round =>
  clear H'
  (try clear c1); (try clear p2); (try clear c6); (try clear c7); (try clear c8); (try clear c9); (try clear c11); (try clear c12); (try clear hcz10_0); (try clear hcz10_1); (try clear hcz13_0); (try clear hcz13_1); (try clear hfz10_0); (try clear hfz10_1); (try clear hfz13_0); (try clear hfz13_1)
  obtain ⟨x8_1, qd, qc, qf, qe, rfl, HA, HK1, qb, qa, BK157, BK158, BK159, BK160, HB⟩ := hrel
  cases gk with
  | zero => exact absurd HA.out (by simp [Wl0])
  | succ k1 =>
   have H := HA.out
   clear HA
   simp only [Wl0] at H
   by_cases c14 : x8_1 < (l1.length : Int)
   ·rw [if_pos c14] at H
    have c14b0 : decide (x8_1 < (l1.length : Int)) = true := decide_eq_true c14
    clear c14
    by_cases c15 : x8_1 < 40
    ·rw [if_pos c15] at H
     have c15b0 : decide (x8_1 < 40) = true := decide_eq_true c15
     clear c15
     by_cases c16 : 0 ≤ x8_1
     ·rw [if_pos c16] at H
      have c16b0 : decide (0 ≤ x8_1) = true := decide_eq_true c16
      clear c16
      obtain ⟨y162, hy162⟩ : ∃ y_ : List (S51), y_ = (([(⟨(d0_ l1 x8_1).f0, (d0_ l1 x8_1).f1⟩ : S51)] : List (S51))) := ⟨_, rfl⟩
      replace H : (if qd.length + y162.length < 8796093022208 then ((some (([(⟨(d0_ l1 x8_1).f0, (d0_ l1 x8_1).f1⟩ : S56)] : List (S56)) : List (S56))).bind fun y169 => (if qc.length + y169.length < 8796093022208 then (Wl0 k1 l1 (wrap64 (x8_1 + 1)) a0 (qd ++ y162) a0 (qc ++ y169)) else (none))) else (none)) = some (r1, r2, r3, r4) := by first | (rw [hy162]; with_reducible exact H) | (have H2_ := (Option.bind_some _ _).symm.trans H; rw [hy162]; with_reducible exact H2_) | (have H2_ := (Option.bind_some _ _).symm.trans H; with_reducible exact H2_) | with_reducible exact H | (rw [hy162]; exact H) | exact H
      have Ny162 := A0k hy162
      clear hy162
      by_cases c17 : qd.length + y162.length < 8796093022208
      ·rw [if_pos c17] at H
       have LMc17 := A0k c17
       clear c17
       obtain ⟨y165, hy165⟩ : ∃ y_ : List (S51), y_ = (qd ++ y162) := ⟨_, rfl⟩
       replace H : ((some (([(⟨(d0_ l1 x8_1).f0, (d0_ l1 x8_1).f1⟩ : S56)] : List (S56)) : List (S56))).bind fun y169 => (if qc.length + y169.length < 8796093022208 then (Wl0 k1 l1 (wrap64 (x8_1 + 1)) a0 y165 a0 (qc ++ y169)) else (none))) = some (r1, r2, r3, r4) := by first | (rw [hy165]; with_reducible exact H) | (have H2_ := (Option.bind_some _ _).symm.trans H; rw [hy165]; with_reducible exact H2_) | (have H2_ := (Option.bind_some _ _).symm.trans H; with_reducible exact H2_) | with_reducible exact H | (rw [hy165]; exact H) | exact H
       have Ny165 := A0k hy165
       clear hy165
       obtain ⟨y169, hy169⟩ : ∃ y_ : List (S56), y_ = (([(⟨(d0_ l1 x8_1).f0, (d0_ l1 x8_1).f1⟩ : S56)] : List (S56))) := ⟨_, rfl⟩
       replace H : (if qc.length + y169.length < 8796093022208 then (Wl0 k1 l1 (wrap64 (x8_1 + 1)) a0 y165 a0 (qc ++ y169)) else (none)) = some (r1, r2, r3, r4) := by first | (rw [hy169]; with_reducible exact H) | (have H2_ := (Option.bind_some _ _).symm.trans H; rw [hy169]; with_reducible exact H2_) | (have H2_ := (Option.bind_some _ _).symm.trans H; with_reducible exact H2_) | with_reducible exact H | (rw [hy169]; exact H) | exact H
       have Ny169 := A0k hy169
       clear hy169
       by_cases c18 : qc.length + y169.length < 8796093022208
       ·rw [if_pos c18] at H
        have LMc18 := A0k c18
        clear c18
        obtain ⟨y172, hy172⟩ : ∃ y_ : List (S56), y_ = (qc ++ y169) := ⟨_, rfl⟩
        replace H : (Wl0 k1 l1 (wrap64 (x8_1 + 1)) a0 y165 a0 y172) = some (r1, r2, r3, r4) := by first | (rw [hy172]; with_reducible exact H) | (have H2_ := (Option.bind_some _ _).symm.trans H; rw [hy172]; with_reducible exact H2_) | (have H2_ := (Option.bind_some _ _).symm.trans H; with_reducible exact H2_) | with_reducible exact H | (rw [hy172]; exact H) | exact H
        have Ny172 := A0k hy172
        clear hy172
        have H' := A0k H
        clear H
        obtain ⟨Ao19, co19, eo19⟩ := Kd.R_slice qb.out
        subst eo19
        obtain ⟨Ao20, co20, eo20⟩ := Kd.R_slice qa.out
        subst eo20
        try go_wp2
        have n0_ := A0k (Kd.R_drew qb.out)
        have n1_ := A0k (Kd.R_drew qa.out)
        have n2_ := A0k (bD BK157.out)
        have n3_ := A0k (bD BK158.out)
        have n4_ := A0k (bD BK159.out)
        have n5_ := A0k (bD BK160.out)
        have n6_ := A0k (pD HB.out)
        clear qb
        clear qa
        clear BK157
        clear BK158
        clear BK159
        clear BK160
        clear HB
        have qb := n0_
        have qa := n1_
        have BK157 := n2_
        have BK158 := n3_
        have BK159 := n4_
        have BK160 := n5_
        have HB := n6_
        clear n0_ n1_ n2_ n3_ n4_ n5_ n6_
        have p161 : 0 ≤ (x8_1 : Int) := of_decide_eq_true (by first | (with_reducible assumption) | assumption)
        have q161 : x8_1 < (l1.length : Int) := of_decide_eq_true (by first | (with_reducible assumption) | assumption)
        obtain ⟨ad161, e161, hx161_0, hx161_1⟩ := at_T55 HR1.out x8_1 p161 q161
        have hw161_1 := hx161_1
        have hw161_0 := hx161_0
        cases e161
        replace hx161_0 := (HB.out.cell (World.block_lt_of_cell? w _ hx161_0)).trans hx161_0
        replace hx161_1 := (HB.out.cell (World.block_lt_of_cell? w _ hx161_1)).trans hx161_1
        replace p161 := eq_true p161
        replace q161 := eq_true q161
        have p168 : 0 ≤ (x8_1 : Int) := of_decide_eq_true (by first | (with_reducible assumption) | assumption)
        have q168 : x8_1 < (l1.length : Int) := of_decide_eq_true (by first | (with_reducible assumption) | assumption)
        obtain ⟨ad168, e168, hx168_0, hx168_1⟩ := at_T55 HR1.out x8_1 p168 q168
        have hw168_1 := hx168_1
        have hw168_0 := hx168_0
        obtain rfl : ad161 = ad168 := (by injection e168)
        replace hx168_0 := (HB.out.cell (World.block_lt_of_cell? w _ hx168_0)).trans hx168_0
        replace hx168_1 := (HB.out.cell (World.block_lt_of_cell? w _ hx168_1)).trans hx168_1
        replace p168 := eq_true p168
        replace q168 := eq_true q168
        refine start_ (n := 20) (S := fun w' => w'.cell? ⟨gb159, 0, none⟩ = some (.int .i64 a0) ∧ w'.cell? ⟨gb159, 1, none⟩ = some (.slice Ao19 qd.length co19) ∧ w'.cell? ⟨gb160, 0, none⟩ = some (.int .i64 a0) ∧ w'.cell? ⟨gb160, 1, none⟩ = some (.slice Ao20 qc.length co20) ∧ w'.cell? (ad161.add ((x8_1).toNat * 2)) = some (.int .i64 ((d0_ l1 x8_1).f0)) ∧ w'.cell? ⟨(ad161.add ((x8_1).toNat * 2)).block, (ad161.add ((x8_1).toNat * 2)).off + 1, none⟩ = some (.int .i64 ((d0_ l1 x8_1).f1)) ∧ w'.cell? (ad161.add ((x8_1).toNat * 2)) = some (.int .i64 ((d0_ l1 x8_1).f0)) ∧ w'.cell? ⟨(ad161.add ((x8_1).toNat * 2)).block, (ad161.add ((x8_1).toNat * 2)).off + 1, none⟩ = some (.int .i64 ((d0_ l1 x8_1).f1))) (ds := [17, 19]) #[F, F, F, F, F, F, F, F, F, F, F, F, F, F, F, F, F, F, F, F] (by kernel_rfl) rfl rfl ⟨(bC BK159.out 0).trans rfl, (bC BK159.out 1).trans rfl, (bC BK160.out 0).trans rfl, (bC BK160.out 1).trans rfl, ((HB.out.cell (World.block_lt_of_cell? w _ hw161_0)).trans hw161_0), ((HB.out.cell (World.block_lt_of_cell? w _ hw161_1)).trans hw161_1), ((HB.out.cell (World.block_lt_of_cell? w _ hw168_0)).trans hw168_0), ((HB.out.cell (World.block_lt_of_cell? w _ hw168_1)).trans hw168_1)⟩ (fun hHeld => ?_); refine with_tabW posthorselaw08_both.tab5 posthorselaw08_both.bits5 (fun HT_ HW_ => ?_)
        generalize wr.drew = w21 at qb qa BK157 BK158 BK159 BK160 HB hx161_0 hx161_1 hx168_0 hx168_1 hHeld ⊢
        refine pure_ (i := 0) (N := some 23) (v := ?_) (a' := ?_) #[T, F, F, F, F, F, F, F, F, F, F, F, F, F, F, F, F, F, F, F] rfl rfl (any_of HT_.out (by kernel_rfl)) (fun _ _ _ h => h) (Or.inl ⟨by rfl, ?_⟩) ?_ ?_
        rotate_left
        ·intro w'
         go_simp
         with_reducible rfl
        rotate_left
        ·simp only [Act.put, lS, lZ, lC, i64_w, i32_w]
         rfl
        refine pure_ (i := 2) (N := some 25) (v := ?_) (a' := ?_) #[T, F, T, F, F, F, F, F, F, F, F, F, F, F, F, F, F, F, F, F] rfl rfl (any_of HT_.out (by kernel_rfl)) (fun _ _ _ h => h) (Or.inl ⟨by rfl, ?_⟩) ?_ ?_
        rotate_left
        ·intro w'
         go_simp
         with_reducible rfl
        rotate_left
        ·simp only [Act.put, lS, lZ, lC, i64_w, i32_w]
         rfl
        refine pure_ (i := 3) (N := some 26) (v := ?_) (a' := ?_) #[T, F, T, T, F, F, F, F, F, F, F, F, F, F, F, F, F, F, F, F] rfl rfl (any_of HT_.out (by kernel_rfl)) (fun _ _ _ h => h) (Or.inl ⟨by rfl, ?_⟩) ?_ ?_
        rotate_left
        ·intro w'
         go_simp
         with_reducible rfl
        rotate_left
        ·simp only [Act.put, lS, lZ, lC, i64_w, i32_w]
         rfl
        refine pure_ (i := 4) (N := some 27) (v := ?_) (a' := ?_) #[T, F, T, T, T, F, F, F, F, F, F, F, F, F, F, F, F, F, F, F] rfl rfl (any_of HT_.out (by kernel_rfl)) (fun _ _ _ h => h) (Or.inl ⟨by rfl, ?_⟩) ?_ ?_
        rotate_left
        ·intro w'
         go_simp
         with_reducible rfl
        rotate_left
        ·simp only [Act.put, lS, lZ, lC, i64_w, i32_w]
         rfl
        refine pure_ (i := 8) (N := some 31) (v := ?_) (a' := ?_) #[T, F, T, T, T, F, F, F, T, F, F, F, F, F, F, F, F, F, F, F] rfl rfl (any_of HT_.out (by kernel_rfl)) (fun _ _ _ h => h) (Or.inl ⟨by rfl, ?_⟩) ?_ ?_
        rotate_left
        ·intro w'
         go_simp
         with_reducible rfl
        rotate_left
        ·simp only [Act.put, lS, lZ, lC, i64_w, i32_w]
         rfl
        refine pure_ (i := 10) (N := some 33) (v := ?_) (a' := ?_) #[T, F, T, T, T, F, F, F, T, F, T, F, F, F, F, F, F, F, F, F] rfl rfl (any_of HT_.out (by kernel_rfl)) (fun _ _ _ h => h) (Or.inl ⟨by rfl, ?_⟩) ?_ ?_
        rotate_left
        ·intro w'
         go_simp
         with_reducible rfl
        rotate_left
        ·simp only [Act.put, lS, lZ, lC, i64_w, i32_w]
         rfl
        refine pure_ (i := 11) (N := some 34) (v := ?_) (a' := ?_) #[T, F, T, T, T, F, F, F, T, F, T, T, F, F, F, F, F, F, F, F] rfl rfl (any_of HT_.out (by kernel_rfl)) (fun _ _ _ h => h) (Or.inl ⟨by rfl, ?_⟩) ?_ ?_
        rotate_left
        ·intro w'
         go_simp
         with_reducible rfl
        rotate_left
        ·simp only [Act.put, lS, lZ, lC, i64_w, i32_w]
         rfl
        refine pure_ (i := 12) (N := some 35) (v := ?_) (a' := ?_) #[T, F, T, T, T, F, F, F, T, F, T, T, T, F, F, F, F, F, F, F] rfl rfl (any_of HT_.out (by kernel_rfl)) (fun _ _ _ h => h) (Or.inl ⟨by rfl, ?_⟩) ?_ ?_
        rotate_left
        ·intro w'
         go_simp
         with_reducible rfl
        rotate_left
        ·simp only [Act.put, lS, lZ, lC, i64_w, i32_w]
         rfl
        refine take_ (i := 1) (N := some 24) (v := ?_) (a' := ?_) #[T, T, T, T, T, F, F, F, T, F, T, T, T, F, F, F, F, F, F, F] rfl rfl (take_ofW HT_.out HW_.out (by kernel_rfl)) (fun _ _ _ h => h) (Or.inl ⟨by rfl, ?_⟩) hHeld ?_ ?_
        rotate_left; (· rintro w' ⟨s0, s1, s2, s3, s4, s5, s6, s7⟩; go_simp; with_reducible rfl); rotate_left; (· simp only [Act.put, lS, lZ, lC, i64_w, i32_w]; rfl)
        refine take_ (i := 5) (N := some 28) (v := ?_) (a' := ?_) #[T, T, T, T, T, T, F, F, T, F, T, T, T, F, F, F, F, F, F, F] rfl rfl (take_ofW HT_.out HW_.out (by kernel_rfl)) (fun _ _ _ h => h) (Or.inl ⟨by rfl, ?_⟩) hHeld ?_ ?_
        rotate_left; (· rintro w' ⟨s0, s1, s2, s3, s4, s5, s6, s7⟩; go_simp; with_reducible rfl); rotate_left; (· simp only [Act.put, lS, lZ, lC, i64_w, i32_w]; rfl)
        refine take_ (i := 9) (N := some 32) (v := ?_) (a' := ?_) #[T, T, T, T, T, T, F, F, T, T, T, T, T, F, F, F, F, F, F, F] rfl rfl (take_ofW HT_.out HW_.out (by kernel_rfl)) (fun _ _ _ h => h) (Or.inl ⟨by rfl, ?_⟩) hHeld ?_ ?_
        rotate_left; (· rintro w' ⟨s0, s1, s2, s3, s4, s5, s6, s7⟩; go_simp; with_reducible rfl); rotate_left; (· simp only [Act.put, lS, lZ, lC, i64_w, i32_w]; rfl)
        refine take_ (i := 13) (N := some 36) (v := ?_) (a' := ?_) #[T, T, T, T, T, T, F, F, T, T, T, T, T, T, F, F, F, F, F, F] rfl rfl (take_ofW HT_.out HW_.out (by kernel_rfl)) (fun _ _ _ h => h) (Or.inl ⟨by rfl, ?_⟩) hHeld ?_ ?_
        rotate_left; (· rintro w' ⟨s0, s1, s2, s3, s4, s5, s6, s7⟩; go_simp; with_reducible rfl); rotate_left; (· simp only [Act.put, lS, lZ, lC, i64_w, i32_w]; rfl)
        refine join_ (σ := Value × Value × Value) 4 #[T, T, T, T, T, T, T, T, T, T, T, T, T, T, T, F, T, F, F, F] (fun s_ => [(29, s_.1), (30, s_.2.1), (37, s_.2.2), (39, .pointer (some ⟨gb159, 1, none⟩))]) (fun s_ w' => (w'.cell? ⟨gb159, 0, none⟩ = some (.int .i64 a0) ∧ w'.cell? ⟨gb159, 1, none⟩ = some (.slice Ao19 qd.length co19) ∧ w'.cell? ⟨gb160, 0, none⟩ = some (.int .i64 a0) ∧ w'.cell? ⟨gb160, 1, none⟩ = some (.slice Ao20 qc.length co20) ∧ w'.cell? (ad161.add ((x8_1).toNat * 2)) = some (.int .i64 ((d0_ l1 x8_1).f0)) ∧ w'.cell? ⟨(ad161.add ((x8_1).toNat * 2)).block, (ad161.add ((x8_1).toNat * 2)).off + 1, none⟩ = some (.int .i64 ((d0_ l1 x8_1).f1)) ∧ w'.cell? (ad161.add ((x8_1).toNat * 2)) = some (.int .i64 ((d0_ l1 x8_1).f0)) ∧ w'.cell? ⟨(ad161.add ((x8_1).toNat * 2)).block, (ad161.add ((x8_1).toNat * 2)).off + 1, none⟩ = some (.int .i64 ((d0_ l1 x8_1).f1))) ∧ (Kd.R k51 51 w' w.heap.size (fun k_ => some k_ ≠ (s_.2.1 : Value).ownBlock) s_.1 y162) ∧ (Kd.R k51 51 w' w.heap.size (fun k_ => some k_ ≠ (s_.1 : Value).ownBlock) s_.2.1 y165) ∧ (Kd.R k56 56 w' w.heap.size (fun k_ => some k_ ≠ (.slice Ao20 qc.length co20 : Value).ownBlock) s_.2.2 y169) ∧ (Kd.R k56 56 w' w.heap.size (fun k_ => some k_ ≠ (s_.2.2 : Value).ownBlock) (.slice Ao20 qc.length co20) qc) ∧ (w'.heap[gb157]? = some (.cells #[.int .i64 0, .slice none 0 0] 26 (0, 0))) ∧ (w'.heap[gb158]? = some (.cells #[.int .i64 0, .slice none 0 0] 29 (0, 0))) ∧ (w'.heap[gb159]? = some (.cells #[.int .i64 a0, .slice Ao19 qd.length co19] 26 (0, 0))) ∧ (w'.heap[gb160]? = some (.cells #[.int .i64 a0, .slice Ao20 qc.length co20] 29 (0, 0))) ∧ (Below w.heap.size w w')) ?_ ?_
        rotate_left
        ·intro hCont
         refine two_ (i := 6) (j := 14) (Ni := some 29) (Nj := some 37) #[T, T, T, T, T, T, T, F, T, T, T, T, T, T, F, F, F, F, F, F] #[T, T, T, T, T, T, F, F, T, T, T, T, T, T, T, F, F, F, F, F] rfl rfl rfl rfl (two_of HT_.out (by kernel_rfl)) (by decide) (by decide) (fun K hK => ?_) (fun K hK => ?_)
         ·skip
          refine Kd.R_lit_step k51 _ 51 ?hg (N := 29) ?hd (xs := ([(⟨(d0_ l1 x8_1).f0, (d0_ l1 x8_1).f1⟩ : S51)] : List (S51))) (inner := [.int .i64 ((d0_ l1 x8_1).f0), .int .i64 ((d0_ l1 x8_1).f1)]) (ok := fun _ => True) (okp := fun _ => True) ?hr ?hp (fun _ hk => hk) trivial (Below.refl _ _) (Nat.le_refl _) (by simp) ?_; (case hd => rfl); (case hg => rfl); (case hr => first | (go_simp; done) | (go_simp; rfl)); (case hp => exact (Reps.c2 (show Kd.M k51 _ _ _ (⟨(d0_ l1 x8_1).f0, (d0_ l1 x8_1).f1⟩ : S51) [.int .i64 ((d0_ l1 x8_1).f0), .int .i64 ((d0_ l1 x8_1).f1)] from (k51_mkM _ _ _ (⟨(d0_ l1 x8_1).f0, (d0_ l1 x8_1).f1⟩ : S51) )) (Reps.none _ _)))
          intro v163 w22 ho23 hb hg_ hnew_
          clear hg_ hnew_
          (first | rw [← Ny162.out] at ho23 | (simp only [Int.reduceToNat] at ho23; rw [← Ny162.out] at ho23))
          have n0_ := A0k (Kd.R_elder' (by (with_reducible repeat first | apply rA | apply rN | apply rD); exact qb.out) (Kd.R_base ho23) hb)
          have n1_ := A0k (Kd.R_below (by (with_reducible repeat first | apply rA | apply rN | apply rD); exact qa.out) hb)
          have n2_ := A0k (Kd.R_lower (Kd.R_new' ho23 (Kd.R_lt (by (with_reducible repeat first | apply rA | apply rN | apply rD); exact qb.out))) (pZ (by repeat (first | (with_reducible first | exact HB.out | apply pA | apply pN | apply pD | refine bS ?_ GE157.out | refine bS ?_ GE158.out | refine bS ?_ GE159.out | refine bS ?_ GE160.out) | exact HB.out))))
          have n3_ := A0k (bB (g := gb157) (o := .cells #[.int .i64 0, .slice none 0 0] 26 (0, 0)) (by (with_reducible repeat first | apply bN | apply bD | apply bA); exact BK157.out) hb)
          have n4_ := A0k (bB (g := gb158) (o := .cells #[.int .i64 0, .slice none 0 0] 29 (0, 0)) (by (with_reducible repeat first | apply bN | apply bD | apply bA); exact BK158.out) hb)
          have n5_ := A0k (bB (g := gb159) (o := .cells #[.int .i64 a0, .slice Ao19 qd.length co19] 26 (0, 0)) (by (with_reducible repeat first | apply bN | apply bD | apply bA); exact BK159.out) hb)
          have n6_ := A0k (bB (g := gb160) (o := .cells #[.int .i64 a0, .slice Ao20 qc.length co20] 29 (0, 0)) (by (with_reducible repeat first | apply bN | apply bD | apply bA); exact BK160.out) hb)
          have n7_ := A0k (pS (by repeat (first | (with_reducible first | exact HB.out | apply pA | apply pN | apply pD | refine bS ?_ GE157.out | refine bS ?_ GE158.out | refine bS ?_ GE159.out | refine bS ?_ GE160.out) | exact HB.out)) hb)
          clear qb
          clear qa
          clear BK157
          clear BK158
          clear BK159
          clear BK160
          clear HB
          have qb := n0_
          have qa := n1_
          have HO164 := n2_
          have BK157 := n3_
          have BK158 := n4_
          have BK159 := n5_
          have BK160 := n6_
          have HB := n7_
          clear n0_ n1_ n2_ n3_ n4_ n5_ n6_ n7_
          clear hb ho23
          obtain ⟨Ao25, co25, eo25⟩ := Kd.R_slice HO164.out
          (first | subst eo25 | (injection eo25 with f1_ f2_ f3_; have f4_ := f1_.symm; have f5_ := f3_.symm; clear f1_ f2_ f3_; subst f4_; subst f5_))
          refine hK.out _ _ ⟨(bC BK159.out 0).trans rfl, (bC BK159.out 1).trans rfl, (bC BK160.out 0).trans rfl, (bC BK160.out 1).trans rfl, ((HB.out.cell (World.block_lt_of_cell? w _ hw161_0)).trans hw161_0), ((HB.out.cell (World.block_lt_of_cell? w _ hw161_1)).trans hw161_1), ((HB.out.cell (World.block_lt_of_cell? w _ hw168_0)).trans hw168_0), ((HB.out.cell (World.block_lt_of_cell? w _ hw168_1)).trans hw168_1)⟩ (fun hHeld => ?_)
          clear hK K
          refine norm_ (a' := ?_) ?_ ?_
          rotate_left
          ·show Act.put _ (some 29) _ = _
           simp only [Act.put, lS, lZ, lC, i64_w, i32_w]
           rfl
          refine two_ (i := 7) (j := 14) (Ni := some 30) (Nj := some 37) #[T, T, T, T, T, T, T, T, T, T, T, T, T, T, F, F, F, F, F, F] #[T, T, T, T, T, T, T, F, T, T, T, T, T, T, T, F, F, F, F, F] rfl rfl rfl rfl (two_of HT_.out (by kernel_rfl)) (by decide) (by decide) (fun K hK => ?_) (fun K hK => ?_)
          ·skip
           refine Kd.R_append_rows_step k51 (w0 := w) w.heap.size (by rfl) (.tmp 24) (.tmp 29) 24 51 (.agg #[(.int .i64 0), (.int .i64 0)]) 16 rfl Tryz.underlying24 info51 rfl (by decide) (by omega) (.slice Ao19 qd.length co19) qd y162 _ _ _ (fun k_ => some k_ ≠ (.slice Ao25 y162.length co25 : Value).ownBlock) (fun _ => False) rfl rfl ?aO ?aR (fun _ _ h => h) (fun _ h => h.elim) ?aF ?aB ?aS ?aL ?_
           (case aR => repeat (first | exact (Kd.R_reads' HO164.out).2.2 | (with_reducible refine Kd.C_alloc ?_ _) | (with_reducible refine Kd.C_drewN ?_ _) | (with_reducible refine Kd.C_drew ?_)))
           (case aB => exact (by repeat (first | (with_reducible first | exact HB.out | apply pA | apply pN | apply pD | refine bS ?_ GE157.out | refine bS ?_ GE158.out | refine bS ?_ GE159.out | refine bS ?_ GE160.out) | exact HB.out)))
           (case aF => exact (fun k_ hk => Kd.fresh' (Kd.R_lt (by (with_reducible repeat first | apply rA | apply rN | apply rD); exact HO164.out)) k_ hk))
           (case aO => exact (by (with_reducible repeat first | apply rA | apply rN | apply rD); exact Kd.R_mono qb.out (fun _ hk => hk.2)))
           (case aS => exact (pZ (by repeat (first | (with_reducible first | exact HB.out | apply pA | apply pN | apply pD | refine bS ?_ GE157.out | refine bS ?_ GE158.out | refine bS ?_ GE159.out | refine bS ?_ GE160.out) | exact HB.out))))
           (case aL => have := LMc17.out; omega)
           intro v166 w24 ho hb hg hat
           rw [← Ny165.out] at ho
           have n0_ := A0k (Kd.R_over' (by (with_reducible repeat first | apply rA | apply rN | apply rD); exact qa.out) (Kd.R_typed (by (with_reducible repeat first | apply rA | apply rN | apply rD); exact qb.out)) (by decide) hg)
           have n1_ := A0k (blk_grown (g := gb157) (o := .cells #[.int .i64 0, .slice none 0 0] 26 (0, 0)) (by (with_reducible repeat first | apply bN | apply bD | apply bA); exact BK157.out) hg (Kd.R_ne qb.out BK157.out (by decide)))
           have n2_ := A0k (blk_grown (g := gb158) (o := .cells #[.int .i64 0, .slice none 0 0] 29 (0, 0)) (by (with_reducible repeat first | apply bN | apply bD | apply bA); exact BK158.out) hg (Kd.R_ne qb.out BK158.out (by decide)))
           have n3_ := A0k (blk_grown (g := gb159) (o := .cells #[.int .i64 a0, .slice Ao19 qd.length co19] 26 (0, 0)) (by (with_reducible repeat first | apply bN | apply bD | apply bA); exact BK159.out) hg (Kd.R_ne qb.out BK159.out (by decide)))
           have n4_ := A0k (blk_grown (g := gb160) (o := .cells #[.int .i64 a0, .slice Ao20 qc.length co20] 29 (0, 0)) (by (with_reducible repeat first | apply bN | apply bD | apply bA); exact BK160.out) hg (Kd.R_ne qb.out BK160.out (by decide)))
           have n5_ := A0k (Kd.R_after (ok := (fun _ => True)) (by (with_reducible repeat first | apply rA | apply rN | apply rD); exact HO164.out) hg hat)
           have n6_ := A0k (hb)
           have n7_ := A0k (ho)
           clear qa
           clear BK157
           clear BK158
           clear BK159
           clear BK160
           clear HO164
           clear HB
           clear qb
           have qa := n0_
           have BK157 := n1_
           have BK158 := n2_
           have BK159 := n3_
           have BK160 := n4_
           have HO164 := n5_
           have HB := n6_
           have HO167 := n7_
           clear n0_ n1_ n2_ n3_ n4_ n5_ n6_ n7_
           clear ho hb hg hat
           refine hK.out _ _ ⟨(bC BK159.out 0).trans rfl, (bC BK159.out 1).trans rfl, (bC BK160.out 0).trans rfl, (bC BK160.out 1).trans rfl, ((HB.out.cell (World.block_lt_of_cell? w _ hw161_0)).trans hw161_0), ((HB.out.cell (World.block_lt_of_cell? w _ hw161_1)).trans hw161_1), ((HB.out.cell (World.block_lt_of_cell? w _ hw168_0)).trans hw168_0), ((HB.out.cell (World.block_lt_of_cell? w _ hw168_1)).trans hw168_1)⟩ (fun hHeld => ?_)
           clear hK K
           refine norm_ (a' := ?_) ?_ ?_
           rotate_left
           ·show Act.put _ (some 30) _ = _
            simp only [Act.put, lS, lZ, lC, i64_w, i32_w]
            rfl
           refine pure_ (i := 16) (N := some 39) (v := ?_) (a' := ?_) #[T, T, T, T, T, T, T, T, T, T, T, T, T, T, F, F, T, F, F, F] rfl rfl (any_of HT_.out (by kernel_rfl)) (fun _ _ _ h => h) (Or.inl ⟨by rfl, ?_⟩) ?_ ?_
           rotate_left
           ·intro w'
            go_simp
            with_reducible rfl
           rotate_left
           ·simp only [Act.put, lS, lZ, lC, i64_w, i32_w]
            rfl
           refine one_ (i := 14) (N := some 37) #[T, T, T, T, T, T, T, T, T, T, T, T, T, T, T, F, T, F, F, F] rfl rfl (one_of HT_.out (by kernel_rfl)) (by decide) (fun K hK => ?_)
           refine Kd.R_lit_step k56 _ 56 ?hg (N := 37) ?hd (xs := ([(⟨(d0_ l1 x8_1).f0, (d0_ l1 x8_1).f1⟩ : S56)] : List (S56))) (inner := [.int .i64 ((d0_ l1 x8_1).f0), .int .i64 ((d0_ l1 x8_1).f1)]) (ok := fun _ => True) (okp := fun _ => True) ?hr ?hp (fun _ hk => hk) trivial (Below.refl _ _) (Nat.le_refl _) (by simp) ?_; (case hd => rfl); (case hg => rfl); (case hr => first | (go_simp; done) | (go_simp; rfl)); (case hp => exact (Reps.c2 (show Kd.M k56 _ _ _ (⟨(d0_ l1 x8_1).f0, (d0_ l1 x8_1).f1⟩ : S56) [.int .i64 ((d0_ l1 x8_1).f0), .int .i64 ((d0_ l1 x8_1).f1)] from (k56_mkM _ _ _ (⟨(d0_ l1 x8_1).f0, (d0_ l1 x8_1).f1⟩ : S56) )) (Reps.none _ _)))
           intro v170 w26 ho27 hb hg_ hnew_
           clear hg_ hnew_
           (first | rw [← Ny169.out] at ho27 | (simp only [Int.reduceToNat] at ho27; rw [← Ny169.out] at ho27))
           have n0_ := A0k (Kd.R_elder' (by (with_reducible repeat first | apply rA | apply rN | apply rD); exact qa.out) (Kd.R_base ho27) hb)
           have n1_ := A0k (Kd.R_below (by (with_reducible repeat first | apply rA | apply rN | apply rD); exact HO164.out) hb)
           have n2_ := A0k (Kd.R_below (by (with_reducible repeat first | apply rA | apply rN | apply rD); exact HO167.out) hb)
           have n3_ := A0k (Kd.R_lower (Kd.R_new' ho27 (Kd.R_lt (by (with_reducible repeat first | apply rA | apply rN | apply rD); exact qa.out))) (pZ (by repeat (first | (with_reducible first | exact HB.out | apply pA | apply pN | apply pD | refine bS ?_ GE157.out | refine bS ?_ GE158.out | refine bS ?_ GE159.out | refine bS ?_ GE160.out) | exact HB.out))))
           have n4_ := A0k (bB (g := gb157) (o := .cells #[.int .i64 0, .slice none 0 0] 26 (0, 0)) (by (with_reducible repeat first | apply bN | apply bD | apply bA); exact BK157.out) hb)
           have n5_ := A0k (bB (g := gb158) (o := .cells #[.int .i64 0, .slice none 0 0] 29 (0, 0)) (by (with_reducible repeat first | apply bN | apply bD | apply bA); exact BK158.out) hb)
           have n6_ := A0k (bB (g := gb159) (o := .cells #[.int .i64 a0, .slice Ao19 qd.length co19] 26 (0, 0)) (by (with_reducible repeat first | apply bN | apply bD | apply bA); exact BK159.out) hb)
           have n7_ := A0k (bB (g := gb160) (o := .cells #[.int .i64 a0, .slice Ao20 qc.length co20] 29 (0, 0)) (by (with_reducible repeat first | apply bN | apply bD | apply bA); exact BK160.out) hb)
           have n8_ := A0k (pS (by repeat (first | (with_reducible first | exact HB.out | apply pA | apply pN | apply pD | refine bS ?_ GE157.out | refine bS ?_ GE158.out | refine bS ?_ GE159.out | refine bS ?_ GE160.out) | exact HB.out)) hb)
           clear qa
           clear HO164
           clear HO167
           clear BK157
           clear BK158
           clear BK159
           clear BK160
           clear HB
           have qa := n0_
           have HO164 := n1_
           have HO167 := n2_
           have HO171 := n3_
           have BK157 := n4_
           have BK158 := n5_
           have BK159 := n6_
           have BK160 := n7_
           have HB := n8_
           clear n0_ n1_ n2_ n3_ n4_ n5_ n6_ n7_ n8_
           clear hb ho27
           refine hK.out _ _ ⟨(bC BK159.out 0).trans rfl, (bC BK159.out 1).trans rfl, (bC BK160.out 0).trans rfl, (bC BK160.out 1).trans rfl, ((HB.out.cell (World.block_lt_of_cell? w _ hw161_0)).trans hw161_0), ((HB.out.cell (World.block_lt_of_cell? w _ hw161_1)).trans hw161_1), ((HB.out.cell (World.block_lt_of_cell? w _ hw168_0)).trans hw168_0), ((HB.out.cell (World.block_lt_of_cell? w _ hw168_1)).trans hw168_1)⟩ (fun hHeld => ?_)
           clear hK K
           refine norm_ (a' := ?_) ?_ ?_
           rotate_left
           ·show Act.put _ (some 37) _ = _
            simp only [Act.put, lS, lZ, lC, i64_w, i32_w]
            rfl
           exact norm_ (by simp only [putAll, Act.put, lS, lZ, lC]) (hCont (.slice Ao25 y162.length co25, v166, v170) _ ⟨hHeld, (by (with_reducible repeat first | apply rA | apply rN | apply rD); exact Kd.R_mono HO164.out (fun _ hk => hk.2)), (by (with_reducible repeat first | apply rA | apply rN | apply rD); exact HO167.out), (by (with_reducible repeat first | apply rA | apply rN | apply rD); exact Kd.R_mono HO171.out (fun _ hk => hk.2)), (by (with_reducible repeat first | apply rA | apply rN | apply rD); exact Kd.R_mono qa.out (fun _ hk => hk.2)), (by (with_reducible repeat first | apply bN | apply bD | apply bA); exact BK157.out), (by (with_reducible repeat first | apply bN | apply bD | apply bA); exact BK158.out), (by (with_reducible repeat first | apply bN | apply bD | apply bA); exact BK159.out), (by (with_reducible repeat first | apply bN | apply bD | apply bA); exact BK160.out), (by repeat (first | (with_reducible first | exact HB.out | apply pA | apply pN | apply pD | refine bS ?_ GE157.out | refine bS ?_ GE158.out | refine bS ?_ GE159.out | refine bS ?_ GE160.out) | exact HB.out))⟩)
          ·skip
           refine Kd.R_lit_step k56 _ 56 ?hg (N := 37) ?hd (xs := ([(⟨(d0_ l1 x8_1).f0, (d0_ l1 x8_1).f1⟩ : S56)] : List (S56))) (inner := [.int .i64 ((d0_ l1 x8_1).f0), .int .i64 ((d0_ l1 x8_1).f1)]) (ok := fun _ => True) (okp := fun _ => True) ?hr ?hp (fun _ hk => hk) trivial (Below.refl _ _) (Nat.le_refl _) (by simp) ?_; (case hd => rfl); (case hg => rfl); (case hr => first | (go_simp; done) | (go_simp; rfl)); (case hp => exact (Reps.c2 (show Kd.M k56 _ _ _ (⟨(d0_ l1 x8_1).f0, (d0_ l1 x8_1).f1⟩ : S56) [.int .i64 ((d0_ l1 x8_1).f0), .int .i64 ((d0_ l1 x8_1).f1)] from (k56_mkM _ _ _ (⟨(d0_ l1 x8_1).f0, (d0_ l1 x8_1).f1⟩ : S56) )) (Reps.none _ _)))
           intro v170 w24 ho25 hb hg_ hnew_
           clear hg_ hnew_
           (first | rw [← Ny169.out] at ho25 | (simp only [Int.reduceToNat] at ho25; rw [← Ny169.out] at ho25))
           have n0_ := A0k (Kd.R_below (by (with_reducible repeat first | apply rA | apply rN | apply rD); exact qb.out) hb)
           have n1_ := A0k (Kd.R_elder' (by (with_reducible repeat first | apply rA | apply rN | apply rD); exact qa.out) (Kd.R_base ho25) hb)
           have n2_ := A0k (Kd.R_below (by (with_reducible repeat first | apply rA | apply rN | apply rD); exact HO164.out) hb)
           have n3_ := A0k (Kd.R_lower (Kd.R_new' ho25 (Kd.R_lt (by (with_reducible repeat first | apply rA | apply rN | apply rD); exact qa.out))) (pZ (by repeat (first | (with_reducible first | exact HB.out | apply pA | apply pN | apply pD | refine bS ?_ GE157.out | refine bS ?_ GE158.out | refine bS ?_ GE159.out | refine bS ?_ GE160.out) | exact HB.out))))
           have n4_ := A0k (bB (g := gb157) (o := .cells #[.int .i64 0, .slice none 0 0] 26 (0, 0)) (by (with_reducible repeat first | apply bN | apply bD | apply bA); exact BK157.out) hb)
           have n5_ := A0k (bB (g := gb158) (o := .cells #[.int .i64 0, .slice none 0 0] 29 (0, 0)) (by (with_reducible repeat first | apply bN | apply bD | apply bA); exact BK158.out) hb)
           have n6_ := A0k (bB (g := gb159) (o := .cells #[.int .i64 a0, .slice Ao19 qd.length co19] 26 (0, 0)) (by (with_reducible repeat first | apply bN | apply bD | apply bA); exact BK159.out) hb)
           have n7_ := A0k (bB (g := gb160) (o := .cells #[.int .i64 a0, .slice Ao20 qc.length co20] 29 (0, 0)) (by (with_reducible repeat first | apply bN | apply bD | apply bA); exact BK160.out) hb)
           have n8_ := A0k (pS (by repeat (first | (with_reducible first | exact HB.out | apply pA | apply pN | apply pD | refine bS ?_ GE157.out | refine bS ?_ GE158.out | refine bS ?_ GE159.out | refine bS ?_ GE160.out) | exact HB.out)) hb)
           clear qb
           clear qa
           clear HO164
           clear BK157
           clear BK158
           clear BK159
           clear BK160
           clear HB
           have qb := n0_
           have qa := n1_
           have HO164 := n2_
           have HO171 := n3_
           have BK157 := n4_
           have BK158 := n5_
           have BK159 := n6_
           have BK160 := n7_
           have HB := n8_
           clear n0_ n1_ n2_ n3_ n4_ n5_ n6_ n7_ n8_
           clear hb ho25
           obtain ⟨Ao27, co27, eo27⟩ := Kd.R_slice HO164.out
           (first | subst eo27 | (injection eo27 with f1_ f2_ f3_; have f4_ := f1_.symm; have f5_ := f3_.symm; clear f1_ f2_ f3_; subst f4_; subst f5_))
           refine hK.out _ _ ⟨(bC BK159.out 0).trans rfl, (bC BK159.out 1).trans rfl, (bC BK160.out 0).trans rfl, (bC BK160.out 1).trans rfl, ((HB.out.cell (World.block_lt_of_cell? w _ hw161_0)).trans hw161_0), ((HB.out.cell (World.block_lt_of_cell? w _ hw161_1)).trans hw161_1), ((HB.out.cell (World.block_lt_of_cell? w _ hw168_0)).trans hw168_0), ((HB.out.cell (World.block_lt_of_cell? w _ hw168_1)).trans hw168_1)⟩ (fun hHeld => ?_)
           clear hK K
           refine norm_ (a' := ?_) ?_ ?_
           rotate_left
           ·show Act.put _ (some 37) _ = _
            simp only [Act.put, lS, lZ, lC, i64_w, i32_w]
            rfl
           refine one_ (i := 7) (N := some 30) #[T, T, T, T, T, T, T, T, T, T, T, T, T, T, T, F, F, F, F, F] rfl rfl (one_of HT_.out (by kernel_rfl)) (by decide) (fun K hK => ?_)
           refine Kd.R_append_rows_step k51 (w0 := w) w.heap.size (by rfl) (.tmp 24) (.tmp 29) 24 51 (.agg #[(.int .i64 0), (.int .i64 0)]) 16 rfl Tryz.underlying24 info51 rfl (by decide) (by omega) (.slice Ao19 qd.length co19) qd y162 _ _ _ (fun k_ => some k_ ≠ (.slice Ao27 y162.length co27 : Value).ownBlock) (fun _ => False) rfl rfl ?aO ?aR (fun _ _ h => h) (fun _ h => h.elim) ?aF ?aB ?aS ?aL ?_
           (case aR => repeat (first | exact (Kd.R_reads' HO164.out).2.2 | (with_reducible refine Kd.C_alloc ?_ _) | (with_reducible refine Kd.C_drewN ?_ _) | (with_reducible refine Kd.C_drew ?_)))
           (case aB => exact (by repeat (first | (with_reducible first | exact HB.out | apply pA | apply pN | apply pD | refine bS ?_ GE157.out | refine bS ?_ GE158.out | refine bS ?_ GE159.out | refine bS ?_ GE160.out) | exact HB.out)))
           (case aF => exact (fun k_ hk => Kd.fresh' (Kd.R_lt (by (with_reducible repeat first | apply rA | apply rN | apply rD); exact HO164.out)) k_ hk))
           (case aO => exact (by (with_reducible repeat first | apply rA | apply rN | apply rD); exact Kd.R_mono qb.out (fun _ hk => hk.2)))
           (case aS => exact (pZ (by repeat (first | (with_reducible first | exact HB.out | apply pA | apply pN | apply pD | refine bS ?_ GE157.out | refine bS ?_ GE158.out | refine bS ?_ GE159.out | refine bS ?_ GE160.out) | exact HB.out))))
           (case aL => have := LMc17.out; omega)
           intro v166 w26 ho hb hg hat
           rw [← Ny165.out] at ho
           have n0_ := A0k (Kd.R_over' (by (with_reducible repeat first | apply rA | apply rN | apply rD); exact qa.out) (Kd.R_typed (by (with_reducible repeat first | apply rA | apply rN | apply rD); exact qb.out)) (by decide) hg)
           have n1_ := A0k (blk_grown (g := gb157) (o := .cells #[.int .i64 0, .slice none 0 0] 26 (0, 0)) (by (with_reducible repeat first | apply bN | apply bD | apply bA); exact BK157.out) hg (Kd.R_ne qb.out BK157.out (by decide)))
           have n2_ := A0k (blk_grown (g := gb158) (o := .cells #[.int .i64 0, .slice none 0 0] 29 (0, 0)) (by (with_reducible repeat first | apply bN | apply bD | apply bA); exact BK158.out) hg (Kd.R_ne qb.out BK158.out (by decide)))
           have n3_ := A0k (blk_grown (g := gb159) (o := .cells #[.int .i64 a0, .slice Ao19 qd.length co19] 26 (0, 0)) (by (with_reducible repeat first | apply bN | apply bD | apply bA); exact BK159.out) hg (Kd.R_ne qb.out BK159.out (by decide)))
           have n4_ := A0k (blk_grown (g := gb160) (o := .cells #[.int .i64 a0, .slice Ao20 qc.length co20] 29 (0, 0)) (by (with_reducible repeat first | apply bN | apply bD | apply bA); exact BK160.out) hg (Kd.R_ne qb.out BK160.out (by decide)))
           have n5_ := A0k (Kd.R_after (ok := (fun _ => True)) (by (with_reducible repeat first | apply rA | apply rN | apply rD); exact HO164.out) hg hat)
           have n6_ := A0k (Kd.R_over' (by (with_reducible repeat first | apply rA | apply rN | apply rD); exact HO171.out) (Kd.R_typed (by (with_reducible repeat first | apply rA | apply rN | apply rD); exact qb.out)) (by decide) hg)
           have n7_ := A0k (hb)
           have n8_ := A0k (ho)
           clear qa
           clear BK157
           clear BK158
           clear BK159
           clear BK160
           clear HO164
           clear HO171
           clear HB
           clear qb
           have qa := n0_
           have BK157 := n1_
           have BK158 := n2_
           have BK159 := n3_
           have BK160 := n4_
           have HO164 := n5_
           have HO171 := n6_
           have HB := n7_
           have HO167 := n8_
           clear n0_ n1_ n2_ n3_ n4_ n5_ n6_ n7_ n8_
           clear ho hb hg hat
           refine hK.out _ _ ⟨(bC BK159.out 0).trans rfl, (bC BK159.out 1).trans rfl, (bC BK160.out 0).trans rfl, (bC BK160.out 1).trans rfl, ((HB.out.cell (World.block_lt_of_cell? w _ hw161_0)).trans hw161_0), ((HB.out.cell (World.block_lt_of_cell? w _ hw161_1)).trans hw161_1), ((HB.out.cell (World.block_lt_of_cell? w _ hw168_0)).trans hw168_0), ((HB.out.cell (World.block_lt_of_cell? w _ hw168_1)).trans hw168_1)⟩ (fun hHeld => ?_)
           clear hK K
           refine norm_ (a' := ?_) ?_ ?_
           rotate_left
           ·show Act.put _ (some 30) _ = _
            simp only [Act.put, lS, lZ, lC, i64_w, i32_w]
            rfl
           refine pure_ (i := 16) (N := some 39) (v := ?_) (a' := ?_) #[T, T, T, T, T, T, T, T, T, T, T, T, T, T, T, F, T, F, F, F] rfl rfl (any_of HT_.out (by kernel_rfl)) (fun _ _ _ h => h) (Or.inl ⟨by rfl, ?_⟩) ?_ ?_
           rotate_left
           ·intro w'
            go_simp
            with_reducible rfl
           rotate_left
           ·simp only [Act.put, lS, lZ, lC, i64_w, i32_w]
            rfl
           exact norm_ (by simp only [putAll, Act.put, lS, lZ, lC]) (hCont (.slice Ao27 y162.length co27, v166, v170) _ ⟨hHeld, (by (with_reducible repeat first | apply rA | apply rN | apply rD); exact Kd.R_mono HO164.out (fun _ hk => hk.2)), (by (with_reducible repeat first | apply rA | apply rN | apply rD); exact HO167.out), (by (with_reducible repeat first | apply rA | apply rN | apply rD); exact Kd.R_mono HO171.out (fun _ hk => hk.2)), (by (with_reducible repeat first | apply rA | apply rN | apply rD); exact Kd.R_mono qa.out (fun _ hk => hk.2)), (by (with_reducible repeat first | apply bN | apply bD | apply bA); exact BK157.out), (by (with_reducible repeat first | apply bN | apply bD | apply bA); exact BK158.out), (by (with_reducible repeat first | apply bN | apply bD | apply bA); exact BK159.out), (by (with_reducible repeat first | apply bN | apply bD | apply bA); exact BK160.out), (by repeat (first | (with_reducible first | exact HB.out | apply pA | apply pN | apply pD | refine bS ?_ GE157.out | refine bS ?_ GE158.out | refine bS ?_ GE159.out | refine bS ?_ GE160.out) | exact HB.out))⟩)
         ·skip
          refine Kd.R_lit_step k56 _ 56 ?hg (N := 37) ?hd (xs := ([(⟨(d0_ l1 x8_1).f0, (d0_ l1 x8_1).f1⟩ : S56)] : List (S56))) (inner := [.int .i64 ((d0_ l1 x8_1).f0), .int .i64 ((d0_ l1 x8_1).f1)]) (ok := fun _ => True) (okp := fun _ => True) ?hr ?hp (fun _ hk => hk) trivial (Below.refl _ _) (Nat.le_refl _) (by simp) ?_; (case hd => rfl); (case hg => rfl); (case hr => first | (go_simp; done) | (go_simp; rfl)); (case hp => exact (Reps.c2 (show Kd.M k56 _ _ _ (⟨(d0_ l1 x8_1).f0, (d0_ l1 x8_1).f1⟩ : S56) [.int .i64 ((d0_ l1 x8_1).f0), .int .i64 ((d0_ l1 x8_1).f1)] from (k56_mkM _ _ _ (⟨(d0_ l1 x8_1).f0, (d0_ l1 x8_1).f1⟩ : S56) )) (Reps.none _ _)))
          intro v170 w22 ho23 hb hg_ hnew_
          clear hg_ hnew_
          (first | rw [← Ny169.out] at ho23 | (simp only [Int.reduceToNat] at ho23; rw [← Ny169.out] at ho23))
          have n0_ := A0k (Kd.R_below (by (with_reducible repeat first | apply rA | apply rN | apply rD); exact qb.out) hb)
          have n1_ := A0k (Kd.R_elder' (by (with_reducible repeat first | apply rA | apply rN | apply rD); exact qa.out) (Kd.R_base ho23) hb)
          have n2_ := A0k (Kd.R_lower (Kd.R_new' ho23 (Kd.R_lt (by (with_reducible repeat first | apply rA | apply rN | apply rD); exact qa.out))) (pZ (by repeat (first | (with_reducible first | exact HB.out | apply pA | apply pN | apply pD | refine bS ?_ GE157.out | refine bS ?_ GE158.out | refine bS ?_ GE159.out | refine bS ?_ GE160.out) | exact HB.out))))
          have n3_ := A0k (bB (g := gb157) (o := .cells #[.int .i64 0, .slice none 0 0] 26 (0, 0)) (by (with_reducible repeat first | apply bN | apply bD | apply bA); exact BK157.out) hb)
          have n4_ := A0k (bB (g := gb158) (o := .cells #[.int .i64 0, .slice none 0 0] 29 (0, 0)) (by (with_reducible repeat first | apply bN | apply bD | apply bA); exact BK158.out) hb)
          have n5_ := A0k (bB (g := gb159) (o := .cells #[.int .i64 a0, .slice Ao19 qd.length co19] 26 (0, 0)) (by (with_reducible repeat first | apply bN | apply bD | apply bA); exact BK159.out) hb)
          have n6_ := A0k (bB (g := gb160) (o := .cells #[.int .i64 a0, .slice Ao20 qc.length co20] 29 (0, 0)) (by (with_reducible repeat first | apply bN | apply bD | apply bA); exact BK160.out) hb)
          have n7_ := A0k (pS (by repeat (first | (with_reducible first | exact HB.out | apply pA | apply pN | apply pD | refine bS ?_ GE157.out | refine bS ?_ GE158.out | refine bS ?_ GE159.out | refine bS ?_ GE160.out) | exact HB.out)) hb)
          clear qb
          clear qa
          clear BK157
          clear BK158
          clear BK159
          clear BK160
          clear HB
          have qb := n0_
          have qa := n1_
          have HO171 := n2_
          have BK157 := n3_
          have BK158 := n4_
          have BK159 := n5_
          have BK160 := n6_
          have HB := n7_
          clear n0_ n1_ n2_ n3_ n4_ n5_ n6_ n7_
          clear hb ho23
          refine hK.out _ _ ⟨(bC BK159.out 0).trans rfl, (bC BK159.out 1).trans rfl, (bC BK160.out 0).trans rfl, (bC BK160.out 1).trans rfl, ((HB.out.cell (World.block_lt_of_cell? w _ hw161_0)).trans hw161_0), ((HB.out.cell (World.block_lt_of_cell? w _ hw161_1)).trans hw161_1), ((HB.out.cell (World.block_lt_of_cell? w _ hw168_0)).trans hw168_0), ((HB.out.cell (World.block_lt_of_cell? w _ hw168_1)).trans hw168_1)⟩ (fun hHeld => ?_)
          clear hK K
          refine norm_ (a' := ?_) ?_ ?_
          rotate_left
          ·show Act.put _ (some 37) _ = _
           simp only [Act.put, lS, lZ, lC, i64_w, i32_w]
           rfl
          refine one_ (i := 6) (N := some 29) #[T, T, T, T, T, T, T, F, T, T, T, T, T, T, T, F, F, F, F, F] rfl rfl (one_of HT_.out (by kernel_rfl)) (by decide) (fun K hK => ?_)
          refine Kd.R_lit_step k51 _ 51 ?hg (N := 29) ?hd (xs := ([(⟨(d0_ l1 x8_1).f0, (d0_ l1 x8_1).f1⟩ : S51)] : List (S51))) (inner := [.int .i64 ((d0_ l1 x8_1).f0), .int .i64 ((d0_ l1 x8_1).f1)]) (ok := fun _ => True) (okp := fun _ => True) ?hr ?hp (fun _ hk => hk) trivial (Below.refl _ _) (Nat.le_refl _) (by simp) ?_; (case hd => rfl); (case hg => rfl); (case hr => first | (go_simp; done) | (go_simp; rfl)); (case hp => exact (Reps.c2 (show Kd.M k51 _ _ _ (⟨(d0_ l1 x8_1).f0, (d0_ l1 x8_1).f1⟩ : S51) [.int .i64 ((d0_ l1 x8_1).f0), .int .i64 ((d0_ l1 x8_1).f1)] from (k51_mkM _ _ _ (⟨(d0_ l1 x8_1).f0, (d0_ l1 x8_1).f1⟩ : S51) )) (Reps.none _ _)))
          intro v163 w24 ho25 hb hg_ hnew_
          clear hg_ hnew_
          (first | rw [← Ny162.out] at ho25 | (simp only [Int.reduceToNat] at ho25; rw [← Ny162.out] at ho25))
          have n0_ := A0k (Kd.R_elder' (by (with_reducible repeat first | apply rA | apply rN | apply rD); exact qb.out) (Kd.R_base ho25) hb)
          have n1_ := A0k (Kd.R_below (by (with_reducible repeat first | apply rA | apply rN | apply rD); exact qa.out) hb)
          have n2_ := A0k (Kd.R_below (by (with_reducible repeat first | apply rA | apply rN | apply rD); exact HO171.out) hb)
          have n3_ := A0k (Kd.R_lower (Kd.R_new' ho25 (Kd.R_lt (by (with_reducible repeat first | apply rA | apply rN | apply rD); exact qb.out))) (pZ (by repeat (first | (with_reducible first | exact HB.out | apply pA | apply pN | apply pD | refine bS ?_ GE157.out | refine bS ?_ GE158.out | refine bS ?_ GE159.out | refine bS ?_ GE160.out) | exact HB.out))))
          have n4_ := A0k (bB (g := gb157) (o := .cells #[.int .i64 0, .slice none 0 0] 26 (0, 0)) (by (with_reducible repeat first | apply bN | apply bD | apply bA); exact BK157.out) hb)
          have n5_ := A0k (bB (g := gb158) (o := .cells #[.int .i64 0, .slice none 0 0] 29 (0, 0)) (by (with_reducible repeat first | apply bN | apply bD | apply bA); exact BK158.out) hb)
          have n6_ := A0k (bB (g := gb159) (o := .cells #[.int .i64 a0, .slice Ao19 qd.length co19] 26 (0, 0)) (by (with_reducible repeat first | apply bN | apply bD | apply bA); exact BK159.out) hb)
          have n7_ := A0k (bB (g := gb160) (o := .cells #[.int .i64 a0, .slice Ao20 qc.length co20] 29 (0, 0)) (by (with_reducible repeat first | apply bN | apply bD | apply bA); exact BK160.out) hb)
          have n8_ := A0k (pS (by repeat (first | (with_reducible first | exact HB.out | apply pA | apply pN | apply pD | refine bS ?_ GE157.out | refine bS ?_ GE158.out | refine bS ?_ GE159.out | refine bS ?_ GE160.out) | exact HB.out)) hb)
          clear qb
          clear qa
          clear HO171
          clear BK157
          clear BK158
          clear BK159
          clear BK160
          clear HB
          have qb := n0_
          have qa := n1_
          have HO171 := n2_
          have HO164 := n3_
          have BK157 := n4_
          have BK158 := n5_
          have BK159 := n6_
          have BK160 := n7_
          have HB := n8_
          clear n0_ n1_ n2_ n3_ n4_ n5_ n6_ n7_ n8_
          clear hb ho25
          obtain ⟨Ao27, co27, eo27⟩ := Kd.R_slice HO164.out
          (first | subst eo27 | (injection eo27 with f1_ f2_ f3_; have f4_ := f1_.symm; have f5_ := f3_.symm; clear f1_ f2_ f3_; subst f4_; subst f5_))
          refine hK.out _ _ ⟨(bC BK159.out 0).trans rfl, (bC BK159.out 1).trans rfl, (bC BK160.out 0).trans rfl, (bC BK160.out 1).trans rfl, ((HB.out.cell (World.block_lt_of_cell? w _ hw161_0)).trans hw161_0), ((HB.out.cell (World.block_lt_of_cell? w _ hw161_1)).trans hw161_1), ((HB.out.cell (World.block_lt_of_cell? w _ hw168_0)).trans hw168_0), ((HB.out.cell (World.block_lt_of_cell? w _ hw168_1)).trans hw168_1)⟩ (fun hHeld => ?_)
          clear hK K
          refine norm_ (a' := ?_) ?_ ?_
          rotate_left
          ·show Act.put _ (some 29) _ = _
           simp only [Act.put, lS, lZ, lC, i64_w, i32_w]
           rfl
          refine one_ (i := 7) (N := some 30) #[T, T, T, T, T, T, T, T, T, T, T, T, T, T, T, F, F, F, F, F] rfl rfl (one_of HT_.out (by kernel_rfl)) (by decide) (fun K hK => ?_)
          refine Kd.R_append_rows_step k51 (w0 := w) w.heap.size (by rfl) (.tmp 24) (.tmp 29) 24 51 (.agg #[(.int .i64 0), (.int .i64 0)]) 16 rfl Tryz.underlying24 info51 rfl (by decide) (by omega) (.slice Ao19 qd.length co19) qd y162 _ _ _ (fun k_ => some k_ ≠ (.slice Ao27 y162.length co27 : Value).ownBlock) (fun _ => False) rfl rfl ?aO ?aR (fun _ _ h => h) (fun _ h => h.elim) ?aF ?aB ?aS ?aL ?_
          (case aR => repeat (first | exact (Kd.R_reads' HO164.out).2.2 | (with_reducible refine Kd.C_alloc ?_ _) | (with_reducible refine Kd.C_drewN ?_ _) | (with_reducible refine Kd.C_drew ?_)))
          (case aB => exact (by repeat (first | (with_reducible first | exact HB.out | apply pA | apply pN | apply pD | refine bS ?_ GE157.out | refine bS ?_ GE158.out | refine bS ?_ GE159.out | refine bS ?_ GE160.out) | exact HB.out)))
          (case aF => exact (fun k_ hk => Kd.fresh' (Kd.R_lt (by (with_reducible repeat first | apply rA | apply rN | apply rD); exact HO164.out)) k_ hk))
          (case aO => exact (by (with_reducible repeat first | apply rA | apply rN | apply rD); exact Kd.R_mono qb.out (fun _ hk => hk.2)))
          (case aS => exact (pZ (by repeat (first | (with_reducible first | exact HB.out | apply pA | apply pN | apply pD | refine bS ?_ GE157.out | refine bS ?_ GE158.out | refine bS ?_ GE159.out | refine bS ?_ GE160.out) | exact HB.out))))
          (case aL => have := LMc17.out; omega)
          intro v166 w26 ho hb hg hat
          rw [← Ny165.out] at ho
          have n0_ := A0k (Kd.R_over' (by (with_reducible repeat first | apply rA | apply rN | apply rD); exact qa.out) (Kd.R_typed (by (with_reducible repeat first | apply rA | apply rN | apply rD); exact qb.out)) (by decide) hg)
          have n1_ := A0k (blk_grown (g := gb157) (o := .cells #[.int .i64 0, .slice none 0 0] 26 (0, 0)) (by (with_reducible repeat first | apply bN | apply bD | apply bA); exact BK157.out) hg (Kd.R_ne qb.out BK157.out (by decide)))
          have n2_ := A0k (blk_grown (g := gb158) (o := .cells #[.int .i64 0, .slice none 0 0] 29 (0, 0)) (by (with_reducible repeat first | apply bN | apply bD | apply bA); exact BK158.out) hg (Kd.R_ne qb.out BK158.out (by decide)))
          have n3_ := A0k (blk_grown (g := gb159) (o := .cells #[.int .i64 a0, .slice Ao19 qd.length co19] 26 (0, 0)) (by (with_reducible repeat first | apply bN | apply bD | apply bA); exact BK159.out) hg (Kd.R_ne qb.out BK159.out (by decide)))
          have n4_ := A0k (blk_grown (g := gb160) (o := .cells #[.int .i64 a0, .slice Ao20 qc.length co20] 29 (0, 0)) (by (with_reducible repeat first | apply bN | apply bD | apply bA); exact BK160.out) hg (Kd.R_ne qb.out BK160.out (by decide)))
          have n5_ := A0k (Kd.R_over' (by (with_reducible repeat first | apply rA | apply rN | apply rD); exact HO171.out) (Kd.R_typed (by (with_reducible repeat first | apply rA | apply rN | apply rD); exact qb.out)) (by decide) hg)
          have n6_ := A0k (Kd.R_after (ok := (fun _ => True)) (by (with_reducible repeat first | apply rA | apply rN | apply rD); exact HO164.out) hg hat)
          have n7_ := A0k (hb)
          have n8_ := A0k (ho)
          clear qa
          clear BK157
          clear BK158
          clear BK159
          clear BK160
          clear HO171
          clear HO164
          clear HB
          clear qb
          have qa := n0_
          have BK157 := n1_
          have BK158 := n2_
          have BK159 := n3_
          have BK160 := n4_
          have HO171 := n5_
          have HO164 := n6_
          have HB := n7_
          have HO167 := n8_
          clear n0_ n1_ n2_ n3_ n4_ n5_ n6_ n7_ n8_
          clear ho hb hg hat
          refine hK.out _ _ ⟨(bC BK159.out 0).trans rfl, (bC BK159.out 1).trans rfl, (bC BK160.out 0).trans rfl, (bC BK160.out 1).trans rfl, ((HB.out.cell (World.block_lt_of_cell? w _ hw161_0)).trans hw161_0), ((HB.out.cell (World.block_lt_of_cell? w _ hw161_1)).trans hw161_1), ((HB.out.cell (World.block_lt_of_cell? w _ hw168_0)).trans hw168_0), ((HB.out.cell (World.block_lt_of_cell? w _ hw168_1)).trans hw168_1)⟩ (fun hHeld => ?_)
          clear hK K
          refine norm_ (a' := ?_) ?_ ?_
          rotate_left
          ·show Act.put _ (some 30) _ = _
           simp only [Act.put, lS, lZ, lC, i64_w, i32_w]
           rfl
          refine pure_ (i := 16) (N := some 39) (v := ?_) (a' := ?_) #[T, T, T, T, T, T, T, T, T, T, T, T, T, T, T, F, T, F, F, F] rfl rfl (any_of HT_.out (by kernel_rfl)) (fun _ _ _ h => h) (Or.inl ⟨by rfl, ?_⟩) ?_ ?_
          rotate_left
          ·intro w'
           go_simp
           with_reducible rfl
          rotate_left
          ·simp only [Act.put, lS, lZ, lC, i64_w, i32_w]
           rfl
          exact norm_ (by simp only [putAll, Act.put, lS, lZ, lC]) (hCont (.slice Ao27 y162.length co27, v166, v170) _ ⟨hHeld, (by (with_reducible repeat first | apply rA | apply rN | apply rD); exact Kd.R_mono HO164.out (fun _ hk => hk.2)), (by (with_reducible repeat first | apply rA | apply rN | apply rD); exact HO167.out), (by (with_reducible repeat first | apply rA | apply rN | apply rD); exact Kd.R_mono HO171.out (fun _ hk => hk.2)), (by (with_reducible repeat first | apply rA | apply rN | apply rD); exact Kd.R_mono qa.out (fun _ hk => hk.2)), (by (with_reducible repeat first | apply bN | apply bD | apply bA); exact BK157.out), (by (with_reducible repeat first | apply bN | apply bD | apply bA); exact BK158.out), (by (with_reducible repeat first | apply bN | apply bD | apply bA); exact BK159.out), (by (with_reducible repeat first | apply bN | apply bD | apply bA); exact BK160.out), (by repeat (first | (with_reducible first | exact HB.out | apply pA | apply pN | apply pD | refine bS ?_ GE157.out | refine bS ?_ GE158.out | refine bS ?_ GE159.out | refine bS ?_ GE160.out) | exact HB.out))⟩)
        rintro ⟨v163, v166, v170⟩ w28 ⟨hS_, h0_, h1_, h2_, h3_, h4_, h5_, h6_, h7_, h8_⟩
        have n0_ : Aside0 (Kd.R k51 51 w28 w.heap.size (fun k_ => some k_ ≠ (v166 : Value).ownBlock) v163 y162) := ⟨h0_⟩
        have n1_ : Aside0 (Kd.R k51 51 w28 w.heap.size (fun k_ => some k_ ≠ (v163 : Value).ownBlock) v166 y165) := ⟨h1_⟩
        have n2_ : Aside0 (Kd.R k56 56 w28 w.heap.size (fun k_ => some k_ ≠ (.slice Ao20 qc.length co20 : Value).ownBlock) v170 y169) := ⟨h2_⟩
        have n3_ : Aside0 (Kd.R k56 56 w28 w.heap.size (fun k_ => some k_ ≠ (v170 : Value).ownBlock) (.slice Ao20 qc.length co20) qc) := ⟨h3_⟩
        have n4_ : Aside0 (w28.heap[gb157]? = some (.cells #[.int .i64 0, .slice none 0 0] 26 (0, 0))) := ⟨h4_⟩
        have n5_ : Aside0 (w28.heap[gb158]? = some (.cells #[.int .i64 0, .slice none 0 0] 29 (0, 0))) := ⟨h5_⟩
        have n6_ : Aside0 (w28.heap[gb159]? = some (.cells #[.int .i64 a0, .slice Ao19 qd.length co19] 26 (0, 0))) := ⟨h6_⟩
        have n7_ : Aside0 (w28.heap[gb160]? = some (.cells #[.int .i64 a0, .slice Ao20 qc.length co20] 29 (0, 0))) := ⟨h7_⟩
        have n8_ : Aside0 (Below w.heap.size w w28) := ⟨h8_⟩
        clear qb
        clear qa
        clear BK157
        clear BK158
        clear BK159
        clear BK160
        clear HB
        clear h0_ h1_ h2_ h3_ h4_ h5_ h6_ h7_ h8_
        have HO164 := n0_
        have HO167 := n1_
        have HO171 := n2_
        have qa := n3_
        have BK157 := n4_
        have BK158 := n5_
        have BK159 := n6_
        have BK160 := n7_
        have HB := n8_
        clear n0_ n1_ n2_ n3_ n4_ n5_ n6_ n7_ n8_
        have hHeld : w28.cell? ⟨gb159, 0, none⟩ = some (.int .i64 a0) ∧ w28.cell? ⟨gb159, 1, none⟩ = some (.slice Ao19 qd.length co19) ∧ w28.cell? ⟨gb160, 0, none⟩ = some (.int .i64 a0) ∧ w28.cell? ⟨gb160, 1, none⟩ = some (.slice Ao20 qc.length co20) ∧ w28.cell? (ad161.add ((x8_1).toNat * 2)) = some (.int .i64 ((d0_ l1 x8_1).f0)) ∧ w28.cell? ⟨(ad161.add ((x8_1).toNat * 2)).block, (ad161.add ((x8_1).toNat * 2)).off + 1, none⟩ = some (.int .i64 ((d0_ l1 x8_1).f1)) ∧ w28.cell? (ad161.add ((x8_1).toNat * 2)) = some (.int .i64 ((d0_ l1 x8_1).f0)) ∧ w28.cell? ⟨(ad161.add ((x8_1).toNat * 2)).block, (ad161.add ((x8_1).toNat * 2)).off + 1, none⟩ = some (.int .i64 ((d0_ l1 x8_1).f1)) := hS_
        obtain ⟨Ao30, co30, eo30⟩ := Kd.R_slice HO171.out
        (first | subst eo30 | (injection eo30 with f1_ f2_ f3_; have f4_ := f1_.symm; have f5_ := f3_.symm; clear f1_ f2_ f3_; subst f4_; subst f5_))
        refine norm_ (a' := ?_) ?_ ?_
        rotate_left
        ·simp only [putAll, Act.put, lS, lZ, lC]
         rfl
        refine one_ (i := 15) (N := some 38) #[T, T, T, T, T, T, T, T, T, T, T, T, T, T, T, T, T, F, F, F] rfl rfl (one_of HT_.out (by kernel_rfl)) (by decide) (fun K hK => ?_)
        refine Kd.R_append_rows_step k56 (w0 := w) w.heap.size (by rfl) (.tmp 32) (.tmp 37) 27 56 (.agg #[(.int .i64 0), (.int .i64 0)]) 16 rfl Tryz.underlying27 info56 rfl (by decide) (by omega) (.slice Ao20 qc.length co20) qc y169 _ _ _ (fun k_ => some k_ ≠ (.slice Ao30 y169.length co30 : Value).ownBlock) (fun _ => False) rfl rfl ?aO ?aR (fun _ _ h => h) (fun _ h => h.elim) ?aF ?aB ?aS ?aL ?_
        (case aR => repeat (first | exact (Kd.R_reads' HO171.out).2.2 | (with_reducible refine Kd.C_alloc ?_ _) | (with_reducible refine Kd.C_drewN ?_ _) | (with_reducible refine Kd.C_drew ?_)))
        (case aB => exact (by repeat (first | (with_reducible first | exact HB.out | apply pA | apply pN | apply pD | refine bS ?_ GE157.out | refine bS ?_ GE158.out | refine bS ?_ GE159.out | refine bS ?_ GE160.out) | exact HB.out)))
        (case aF => exact (fun k_ hk => Kd.fresh' (Kd.R_lt (by (with_reducible repeat first | apply rA | apply rN | apply rD); exact HO171.out)) k_ hk))
        (case aO => exact (by (with_reducible repeat first | apply rA | apply rN | apply rD); exact qa.out))
        (case aS => exact (pZ (by repeat (first | (with_reducible first | exact HB.out | apply pA | apply pN | apply pD | refine bS ?_ GE157.out | refine bS ?_ GE158.out | refine bS ?_ GE159.out | refine bS ?_ GE160.out) | exact HB.out))))
        (case aL => have := LMc18.out; omega)
        intro v173 w29 ho hb hg hat
        rw [← Ny172.out] at ho
        have n0_ := A0k (blk_grown (g := gb157) (o := .cells #[.int .i64 0, .slice none 0 0] 26 (0, 0)) (by (with_reducible repeat first | apply bN | apply bD | apply bA); exact BK157.out) hg (Kd.R_ne qa.out BK157.out (by decide)))
        have n1_ := A0k (blk_grown (g := gb158) (o := .cells #[.int .i64 0, .slice none 0 0] 29 (0, 0)) (by (with_reducible repeat first | apply bN | apply bD | apply bA); exact BK158.out) hg (Kd.R_ne qa.out BK158.out (by decide)))
        have n2_ := A0k (blk_grown (g := gb159) (o := .cells #[.int .i64 a0, .slice Ao19 qd.length co19] 26 (0, 0)) (by (with_reducible repeat first | apply bN | apply bD | apply bA); exact BK159.out) hg (Kd.R_ne qa.out BK159.out (by decide)))
        have n3_ := A0k (blk_grown (g := gb160) (o := .cells #[.int .i64 a0, .slice Ao20 qc.length co20] 29 (0, 0)) (by (with_reducible repeat first | apply bN | apply bD | apply bA); exact BK160.out) hg (Kd.R_ne qa.out BK160.out (by decide)))
        have n4_ := A0k (Kd.R_over' (by (with_reducible repeat first | apply rA | apply rN | apply rD); exact HO164.out) (Kd.R_typed (by (with_reducible repeat first | apply rA | apply rN | apply rD); exact qa.out)) (by decide) hg)
        have n5_ := A0k (Kd.R_over' (by (with_reducible repeat first | apply rA | apply rN | apply rD); exact HO167.out) (Kd.R_typed (by (with_reducible repeat first | apply rA | apply rN | apply rD); exact qa.out)) (by decide) hg)
        have n6_ := A0k (Kd.R_after (ok := (fun _ => True)) (by (with_reducible repeat first | apply rA | apply rN | apply rD); exact Kd.R_mono HO171.out (fun _ hk => ⟨trivial, hk⟩)) hg hat)
        have n7_ := A0k (hb)
        have n8_ := A0k (ho)
        clear BK157
        clear BK158
        clear BK159
        clear BK160
        clear HO164
        clear HO167
        clear HO171
        clear HB
        clear qa
        have BK157 := n0_
        have BK158 := n1_
        have BK159 := n2_
        have BK160 := n3_
        have HO164 := n4_
        have HO167 := n5_
        have HO171 := n6_
        have HB := n7_
        have HO174 := n8_
        clear n0_ n1_ n2_ n3_ n4_ n5_ n6_ n7_ n8_
        clear ho hb hg hat
        obtain ⟨Ao31, co31, eo31⟩ := Kd.R_slice HO167.out
        (first | subst eo31 | (injection eo31 with f1_ f2_ f3_; have f4_ := f1_.symm; have f5_ := f3_.symm; clear f1_ f2_ f3_; subst f4_; subst f5_))
        obtain ⟨Ao33, co33, eo33⟩ := Kd.R_slice HO174.out
        (first | subst eo33 | (injection eo33 with f1_ f2_ f3_; have f4_ := f1_.symm; have f5_ := f3_.symm; clear f1_ f2_ f3_; subst f4_; subst f5_))
        refine hK.out _ _ ⟨(bC BK159.out 0).trans rfl, (bC BK159.out 1).trans rfl, (bC BK160.out 0).trans rfl, (bC BK160.out 1).trans rfl, ((HB.out.cell (World.block_lt_of_cell? w _ hw161_0)).trans hw161_0), ((HB.out.cell (World.block_lt_of_cell? w _ hw161_1)).trans hw161_1), ((HB.out.cell (World.block_lt_of_cell? w _ hw168_0)).trans hw168_0), ((HB.out.cell (World.block_lt_of_cell? w _ hw168_1)).trans hw168_1)⟩ (fun hHeld => ?_)
        clear hK K
        refine norm_ (a' := ?_) ?_ ?_
        rotate_left
        ·show Act.put _ (some 38) _ = _
         simp only [Act.put, lS, lZ, lC, i64_w, i32_w]
         rfl
        refine last_ (i := 17) (N := none) #[T, T, T, T, T, T, T, T, T, T, T, T, T, T, T, T, T, T, F, F] rfl rfl (one_of HT_.out (by kernel_rfl)) (by decide) (fun K hK => ?_)
        have hs32 : w29.cell? ⟨gb159, 1, none⟩ = some (.slice Ao19 qd.length co19) := (bC BK159.out 1).trans rfl
        have hfs32 := bF BK159.out 1
        have hns32_0 := NB157_159.out
        have hns32_1 := NB158_159.out
        have hns32_3 := NB160_159.out
        have hms32_0 := NB159_157.out
        have hms32_1 := NB159_158.out
        have hms32_3 := NB159_160.out
        refine skip_ (w1 := ?_) (by rfl) rfl ?_ ?_
        rotate_left
        ·go_simp
         rfl
        refine hK.out _ _ ?_
        clear hK K
        refine pure_ (i := 18) (N := some 40) (v := ?_) (a' := ?_) #[T, T, T, T, T, T, T, T, T, T, T, T, T, T, T, T, T, T, T, F] rfl rfl (any_of HT_.out (by kernel_rfl)) (fun _ _ _ h => h) (Or.inl ⟨by rfl, ?_⟩) ?_ ?_
        rotate_left
        ·intro w'
         go_simp
         with_reducible rfl
        rotate_left
        ·simp only [Act.put, lS, lZ, lC, i64_w, i32_w]
         rfl
        refine last_ (i := 19) (N := none) #[T, T, T, T, T, T, T, T, T, T, T, T, T, T, T, T, T, T, T, T] rfl rfl (one_of HT_.out (by kernel_rfl)) (by decide) (fun K hK => ?_)
        have hs34 : w29.cell? ⟨gb160, 1, none⟩ = some (.slice Ao20 qc.length co20) := (bC BK160.out 1).trans rfl
        have hfs34 := bF BK160.out 1
        have hns34_0 := NB157_160.out
        have hns34_1 := NB158_160.out
        have hns34_2 := NB159_160.out
        have hms34_0 := NB160_157.out
        have hms34_1 := NB160_158.out
        have hms34_2 := NB160_159.out
        refine skip_ (w1 := ?_) (by rfl) rfl ?_ ?_
        rotate_left
        ·go_simp
         rfl
        refine hK.out _ _ ?_
        clear hK K
        refine done_ (done_of HT_.out (by kernel_rfl)) ?_
        try go_wp2
        go_roundg k1
        case measure => have := HK1.out; omega
        case rel => exact ⟨(wrap64 (x8_1 + 1)), (y165), (y172), (.slice Ao31 y165.length co31), (.slice Ao33 y172.length co33), (by first | rfl | (simp; done) | (simp [*]; done)), H', ⟨by have := HK1.out; omega⟩, ⟨by (with_reducible repeat first | apply rA | apply rN | apply rD); exact Kd.R_mono (Kd.R_far (p := ⟨gb160, 1, none⟩) (Kd.R_far (p := ⟨gb159, 1, none⟩) (Kd.R_types (Kd.R_types HO167.out BK159.out (by decide)) BK160.out (by decide)) (fun _ hk => hk.1.2) (.slice Ao31 y165.length co31)) (fun _ hk => hk.2) (.slice Ao33 y172.length co33)) (fun _ hk => trivial)⟩, ⟨by (with_reducible repeat first | apply rA | apply rN | apply rD); exact Kd.R_mono (Kd.R_far (p := ⟨gb160, 1, none⟩) (Kd.R_far (p := ⟨gb159, 1, none⟩) (Kd.R_types (Kd.R_types HO174.out BK159.out (by decide)) BK160.out (by decide)) (fun _ hk => hk.1.2) (.slice Ao31 y165.length co31)) (fun _ hk => hk.2) (.slice Ao33 y172.length co33)) (fun _ hk => trivial)⟩, ⟨by (with_reducible repeat first | apply bN | apply bD | apply bA); refine bR ?_ NB157_160.out _; (with_reducible repeat first | apply bN | apply bD | apply bA); refine bR ?_ NB157_159.out _; (with_reducible repeat first | apply bN | apply bD | apply bA); exact BK157.out⟩, ⟨by (with_reducible repeat first | apply bN | apply bD | apply bA); refine bR ?_ NB158_160.out _; (with_reducible repeat first | apply bN | apply bD | apply bA); refine bR ?_ NB158_159.out _; (with_reducible repeat first | apply bN | apply bD | apply bA); exact BK158.out⟩, ⟨by (with_reducible repeat first | apply bN | apply bD | apply bA); refine bR ?_ NB159_160.out _; (with_reducible repeat first | apply bN | apply bD | apply bA); refine bP (cs := #[.int .i64 a0, .slice Ao19 qd.length co19]) ?_ 1 _ rfl; (with_reducible repeat first | apply bN | apply bD | apply bA); exact BK159.out⟩, ⟨by (with_reducible repeat first | apply bN | apply bD | apply bA); refine bP (cs := #[.int .i64 a0, .slice Ao20 qc.length co20]) ?_ 1 _ rfl; (with_reducible repeat first | apply bN | apply bD | apply bA); refine bR ?_ NB160_159.out _; (with_reducible repeat first | apply bN | apply bD | apply bA); exact BK160.out⟩, ⟨by repeat (first | (with_reducible first | exact HB.out | apply pA | apply pN | apply pD | refine bS ?_ GE157.out | refine bS ?_ GE158.out | refine bS ?_ GE159.out | refine bS ?_ GE160.out) | exact HB.out)⟩⟩
       ·rw [if_neg c18] at H
        exact absurd H (by simp)
      ·rw [if_neg c17] at H
       exact absurd H (by simp)
     ·rw [if_neg c16] at H
      exact absurd H (by simp)
    ·rw [if_neg c15] at H
     have c15b0 : decide (x8_1 < 40) = false := decide_eq_false c15
     clear c15
     simp only [Option.some.injEq, Prod.mk.injEq] at H
     obtain ⟨rfl, rfl, rfl, rfl⟩ := H
     try go_wp2
     have n0_ := A0k (Kd.R_drew qb.out)
     have n1_ := A0k (Kd.R_drew qa.out)
     have n2_ := A0k (bD BK157.out)
     have n3_ := A0k (bD BK158.out)
     have n4_ := A0k (bD BK159.out)
     have n5_ := A0k (bD BK160.out)
     have n6_ := A0k (pD HB.out)
     clear qb
     clear qa
     clear BK157
     clear BK158
     clear BK159
     clear BK160
     clear HB
     have qb := n0_
     have qa := n1_
     have BK157 := n2_
     have BK158 := n3_
     have BK159 := n4_
     have BK160 := n5_
     have HB := n6_
     clear n0_ n1_ n2_ n3_ n4_ n5_ n6_
     obtain ⟨Ao37, co37, eo37⟩ := Kd.R_slice qb.out
     (first | subst eo37 | (injection eo37 with f1_ f2_ f3_; have f4_ := f1_.symm; have f5_ := f3_.symm; clear f1_ f2_ f3_; subst f4_; subst f5_))
     obtain ⟨Ao40, co40, eo40⟩ := Kd.R_slice qa.out
     (first | subst eo40 | (injection eo40 with f1_ f2_ f3_; have f4_ := f1_.symm; have f5_ := f3_.symm; clear f1_ f2_ f3_; subst f4_; subst f5_))
     refine start_ (n := 4) (S := fun w' => w'.cell? ⟨gb159, 0, none⟩ = some (.int .i64 a0) ∧ w'.cell? ⟨gb159, 1, none⟩ = some (.slice Ao37 qd.length co37) ∧ w'.cell? ⟨gb160, 0, none⟩ = some (.int .i64 a0) ∧ w'.cell? ⟨gb160, 1, none⟩ = some (.slice Ao40 qc.length co40)) (ds := []) #[F, F, F, F] (by kernel_rfl) rfl rfl ⟨(bC BK159.out 0).trans rfl, (bC BK159.out 1).trans rfl, (bC BK160.out 0).trans rfl, (bC BK160.out 1).trans rfl⟩ (fun hHeld => ?_)
     generalize wr.drew = w35 at qb qa BK157 BK158 BK159 BK160 HB hHeld ⊢
     refine take_ (i := 0) (N := some 41) (v := ?_) (a' := ?_) #[T, F, F, F] rfl rfl (by kernel_rfl) (fun _ _ _ h => h) (Or.inl ⟨by rfl, ?_⟩) hHeld ?_ ?_
     rotate_left; (· rintro w' ⟨s0, s1, s2, s3⟩; go_simp; with_reducible rfl); rotate_left; (· simp only [Act.put, lS, lZ, lC, i64_w, i32_w]; rfl)
     refine take_ (i := 1) (N := some 42) (v := ?_) (a' := ?_) #[T, T, F, F] rfl rfl (by kernel_rfl) (fun _ _ _ h => h) (Or.inl ⟨by rfl, ?_⟩) hHeld ?_ ?_
     rotate_left; (· rintro w' ⟨s0, s1, s2, s3⟩; go_simp; with_reducible rfl); rotate_left; (· simp only [Act.put, lS, lZ, lC, i64_w, i32_w]; rfl)
     refine one_ (i := 2) (N := none) #[T, T, T, F] rfl rfl (by kernel_rfl) (by decide) (fun K hK => ?_)
     have hs36 : w35.cell? ⟨gb157, 0, none⟩ = some (.int .i64 0) := (bC BK157.out 0).trans rfl
     have hfs36 := bF BK157.out 0
     have hns36_1 := NB158_157.out
     have hns36_2 := NB159_157.out
     have hns36_3 := NB160_157.out
     have hms36_1 := NB157_158.out
     have hms36_2 := NB157_159.out
     have hms36_3 := NB157_160.out
     have hs38 : w35.cell? ⟨gb157, 1, none⟩ = some (.slice none 0 0) := (bC BK157.out 1).trans rfl
     have hfs38 := bF BK157.out 1
     have hns38_1 := NB158_157.out
     have hns38_2 := NB159_157.out
     have hns38_3 := NB160_157.out
     have hms38_1 := NB157_158.out
     have hms38_2 := NB157_159.out
     have hms38_3 := NB157_160.out
     refine skip_ (w1 := ?_) (by rfl) rfl ?_ ?_
     rotate_left
     ·go_simp
      rfl
     refine hK.out _ _ ⟨((cF (p := ⟨gb157, _, none⟩) NB159_157.out _).trans (((cF (p := ⟨gb157, _, none⟩) NB159_157.out _).trans (hHeld.1)))), ((cF (p := ⟨gb157, _, none⟩) NB159_157.out _).trans (((cF (p := ⟨gb157, _, none⟩) NB159_157.out _).trans (hHeld.2.1)))), ((cF (p := ⟨gb157, _, none⟩) NB160_157.out _).trans (((cF (p := ⟨gb157, _, none⟩) NB160_157.out _).trans (hHeld.2.2.1)))), ((cF (p := ⟨gb157, _, none⟩) NB160_157.out _).trans (((cF (p := ⟨gb157, _, none⟩) NB160_157.out _).trans (hHeld.2.2.2))))⟩ (fun hHeld => ?_)
     clear hK K
     refine one_ (i := 3) (N := none) #[T, T, T, T] rfl rfl (by kernel_rfl) (by decide) (fun K hK => ?_)
     have hs39 : w35.cell? ⟨gb158, 0, none⟩ = some (.int .i64 0) := (bC BK158.out 0).trans rfl
     have hfs39 := bF BK158.out 0
     have hns39_0 := NB157_158.out
     have hns39_2 := NB159_158.out
     have hns39_3 := NB160_158.out
     have hms39_0 := NB158_157.out
     have hms39_2 := NB158_159.out
     have hms39_3 := NB158_160.out
     have hs41 : w35.cell? ⟨gb158, 1, none⟩ = some (.slice none 0 0) := (bC BK158.out 1).trans rfl
     have hfs41 := bF BK158.out 1
     have hns41_0 := NB157_158.out
     have hns41_2 := NB159_158.out
     have hns41_3 := NB160_158.out
     have hms41_0 := NB158_157.out
     have hms41_2 := NB158_159.out
     have hms41_3 := NB158_160.out
     refine skip_ (w1 := ?_) (by rfl) rfl ?_ ?_
     rotate_left
     ·go_simp
      rfl
     refine hK.out _ _ ⟨((cF (p := ⟨gb158, _, none⟩) NB159_158.out _).trans (((cF (p := ⟨gb158, _, none⟩) NB159_158.out _).trans (hHeld.1)))), ((cF (p := ⟨gb158, _, none⟩) NB159_158.out _).trans (((cF (p := ⟨gb158, _, none⟩) NB159_158.out _).trans (hHeld.2.1)))), ((cF (p := ⟨gb158, _, none⟩) NB160_158.out _).trans (((cF (p := ⟨gb158, _, none⟩) NB160_158.out _).trans (hHeld.2.2.1)))), ((cF (p := ⟨gb158, _, none⟩) NB160_158.out _).trans (((cF (p := ⟨gb158, _, none⟩) NB160_158.out _).trans (hHeld.2.2.2))))⟩ (fun hHeld => ?_)
     clear hK K
     refine done_ (by kernel_rfl) ?_
     try go_wp2
     refine bodyPost_ret (results_cc rfl _ _ gb157 gb158 26 29 #[.int .i64 a0, .slice Ao37 qd.length co37] #[.int .i64 a0, .slice Ao40 qc.length co40] (0, 0) (0, 0) _ _ rfl (by (with_reducible repeat first | apply bN | apply bD | apply bA); refine bR ?_ NB157_158.out _; (with_reducible repeat first | apply bN | apply bD | apply bA); refine bR ?_ NB157_158.out _; (with_reducible repeat first | apply bN | apply bD | apply bA); refine bP (cs := #[.int .i64 a0, .slice none 0 0]) ?_ 1 _ rfl; (with_reducible repeat first | apply bN | apply bD | apply bA); refine bP (cs := #[.int .i64 0, .slice none 0 0]) ?_ 0 _ rfl; (with_reducible repeat first | apply bN | apply bD | apply bA); exact BK157.out) Tryz.underlying26 rfl (by kernel_rfl) rfl (by (with_reducible repeat first | apply bN | apply bD | apply bA); refine bP (cs := #[.int .i64 a0, .slice none 0 0]) ?_ 1 _ rfl; (with_reducible repeat first | apply bN | apply bD | apply bA); refine bP (cs := #[.int .i64 0, .slice none 0 0]) ?_ 0 _ rfl; (with_reducible repeat first | apply bN | apply bD | apply bA); refine bR ?_ NB158_157.out _; (with_reducible repeat first | apply bN | apply bD | apply bA); refine bR ?_ NB158_157.out _; (with_reducible repeat first | apply bN | apply bD | apply bA); exact BK158.out) Tryz.underlying29 rfl (by kernel_rfl)) rfl ?_
     exact ⟨_, _, by first | rfl | (simp [errW_none, errW_some] <;> rfl) | (simp [*, errW_none, errW_some] <;> rfl), by (with_reducible repeat first | apply rA | apply rN | apply rD); exact Kd.R_mono (Kd.R_far (p := ⟨gb158, 1, none⟩) (Kd.R_far (p := ⟨gb158, 0, none⟩) (Kd.R_far (p := ⟨gb157, 1, none⟩) (Kd.R_far (p := ⟨gb157, 0, none⟩) (Kd.R_types (Kd.R_types qb.out BK157.out (by decide)) BK158.out (by decide)) (fun _ hk => hk.1.2) (.int .i64 a0)) (fun _ hk => hk.1.2) (.slice Ao37 qd.length co37)) (fun _ hk => hk.2) (.int .i64 a0)) (fun _ hk => hk.2) (.slice Ao40 qc.length co40)) (fun _ hk => trivial), by (with_reducible repeat first | apply rA | apply rN | apply rD); exact Kd.R_mono (Kd.R_far (p := ⟨gb158, 1, none⟩) (Kd.R_far (p := ⟨gb158, 0, none⟩) (Kd.R_far (p := ⟨gb157, 1, none⟩) (Kd.R_far (p := ⟨gb157, 0, none⟩) (Kd.R_types (Kd.R_types qa.out BK157.out (by decide)) BK158.out (by decide)) (fun _ hk => hk.1.2) (.int .i64 a0)) (fun _ hk => hk.1.2) (.slice Ao37 qd.length co37)) (fun _ hk => hk.2) (.int .i64 a0)) (fun _ hk => hk.2) (.slice Ao40 qc.length co40)) (fun _ hk => trivial), by repeat (first | (with_reducible first | exact HB.out | apply pA | apply pN | apply pD | refine bS ?_ GE157.out | refine bS ?_ GE158.out | refine bS ?_ GE159.out | refine bS ?_ GE160.out) | exact HB.out)⟩
   ·rw [if_neg c14] at H
    have c14b0 : decide (x8_1 < (l1.length : Int)) = false := decide_eq_false c14
    clear c14
    simp only [Option.some.injEq, Prod.mk.injEq] at H
    obtain ⟨rfl, rfl, rfl, rfl⟩ := H
    try go_wp2
    have n0_ := A0k (Kd.R_drew qb.out)
    have n1_ := A0k (Kd.R_drew qa.out)
    have n2_ := A0k (bD BK157.out)
    have n3_ := A0k (bD BK158.out)
    have n4_ := A0k (bD BK159.out)
    have n5_ := A0k (bD BK160.out)
    have n6_ := A0k (pD HB.out)
    clear qb
    clear qa
    clear BK157
    clear BK158
    clear BK159
    clear BK160
    clear HB
    have qb := n0_
    have qa := n1_
    have BK157 := n2_
    have BK158 := n3_
    have BK159 := n4_
    have BK160 := n5_
    have HB := n6_
    clear n0_ n1_ n2_ n3_ n4_ n5_ n6_
    obtain ⟨Ao44, co44, eo44⟩ := Kd.R_slice qb.out
    (first | subst eo44 | (injection eo44 with f1_ f2_ f3_; have f4_ := f1_.symm; have f5_ := f3_.symm; clear f1_ f2_ f3_; subst f4_; subst f5_))
    obtain ⟨Ao47, co47, eo47⟩ := Kd.R_slice qa.out
    (first | subst eo47 | (injection eo47 with f1_ f2_ f3_; have f4_ := f1_.symm; have f5_ := f3_.symm; clear f1_ f2_ f3_; subst f4_; subst f5_))
    refine start_ (n := 4) (S := fun w' => w'.cell? ⟨gb159, 0, none⟩ = some (.int .i64 a0) ∧ w'.cell? ⟨gb159, 1, none⟩ = some (.slice Ao44 qd.length co44) ∧ w'.cell? ⟨gb160, 0, none⟩ = some (.int .i64 a0) ∧ w'.cell? ⟨gb160, 1, none⟩ = some (.slice Ao47 qc.length co47)) (ds := []) #[F, F, F, F] (by kernel_rfl) rfl rfl ⟨(bC BK159.out 0).trans rfl, (bC BK159.out 1).trans rfl, (bC BK160.out 0).trans rfl, (bC BK160.out 1).trans rfl⟩ (fun hHeld => ?_)
    generalize wr.drew = w42 at qb qa BK157 BK158 BK159 BK160 HB hHeld ⊢
    refine take_ (i := 0) (N := some 41) (v := ?_) (a' := ?_) #[T, F, F, F] rfl rfl (by kernel_rfl) (fun _ _ _ h => h) (Or.inl ⟨by rfl, ?_⟩) hHeld ?_ ?_
    rotate_left; (· rintro w' ⟨s0, s1, s2, s3⟩; go_simp; with_reducible rfl); rotate_left; (· simp only [Act.put, lS, lZ, lC, i64_w, i32_w]; rfl)
    refine take_ (i := 1) (N := some 42) (v := ?_) (a' := ?_) #[T, T, F, F] rfl rfl (by kernel_rfl) (fun _ _ _ h => h) (Or.inl ⟨by rfl, ?_⟩) hHeld ?_ ?_
    rotate_left; (· rintro w' ⟨s0, s1, s2, s3⟩; go_simp; with_reducible rfl); rotate_left; (· simp only [Act.put, lS, lZ, lC, i64_w, i32_w]; rfl)
    refine one_ (i := 2) (N := none) #[T, T, T, F] rfl rfl (by kernel_rfl) (by decide) (fun K hK => ?_)
    have hs43 : w42.cell? ⟨gb157, 0, none⟩ = some (.int .i64 0) := (bC BK157.out 0).trans rfl
    have hfs43 := bF BK157.out 0
    have hns43_1 := NB158_157.out
    have hns43_2 := NB159_157.out
    have hns43_3 := NB160_157.out
    have hms43_1 := NB157_158.out
    have hms43_2 := NB157_159.out
    have hms43_3 := NB157_160.out
    have hs45 : w42.cell? ⟨gb157, 1, none⟩ = some (.slice none 0 0) := (bC BK157.out 1).trans rfl
    have hfs45 := bF BK157.out 1
    have hns45_1 := NB158_157.out
    have hns45_2 := NB159_157.out
    have hns45_3 := NB160_157.out
    have hms45_1 := NB157_158.out
    have hms45_2 := NB157_159.out
    have hms45_3 := NB157_160.out
    refine skip_ (w1 := ?_) (by rfl) rfl ?_ ?_
    rotate_left
    ·go_simp
     rfl
    refine hK.out _ _ ⟨((cF (p := ⟨gb157, _, none⟩) NB159_157.out _).trans (((cF (p := ⟨gb157, _, none⟩) NB159_157.out _).trans (hHeld.1)))), ((cF (p := ⟨gb157, _, none⟩) NB159_157.out _).trans (((cF (p := ⟨gb157, _, none⟩) NB159_157.out _).trans (hHeld.2.1)))), ((cF (p := ⟨gb157, _, none⟩) NB160_157.out _).trans (((cF (p := ⟨gb157, _, none⟩) NB160_157.out _).trans (hHeld.2.2.1)))), ((cF (p := ⟨gb157, _, none⟩) NB160_157.out _).trans (((cF (p := ⟨gb157, _, none⟩) NB160_157.out _).trans (hHeld.2.2.2))))⟩ (fun hHeld => ?_)
    clear hK K
    refine one_ (i := 3) (N := none) #[T, T, T, T] rfl rfl (by kernel_rfl) (by decide) (fun K hK => ?_)
    have hs46 : w42.cell? ⟨gb158, 0, none⟩ = some (.int .i64 0) := (bC BK158.out 0).trans rfl
    have hfs46 := bF BK158.out 0
    have hns46_0 := NB157_158.out
    have hns46_2 := NB159_158.out
    have hns46_3 := NB160_158.out
    have hms46_0 := NB158_157.out
    have hms46_2 := NB158_159.out
    have hms46_3 := NB158_160.out
    have hs48 : w42.cell? ⟨gb158, 1, none⟩ = some (.slice none 0 0) := (bC BK158.out 1).trans rfl
    have hfs48 := bF BK158.out 1
    have hns48_0 := NB157_158.out
    have hns48_2 := NB159_158.out
    have hns48_3 := NB160_158.out
    have hms48_0 := NB158_157.out
    have hms48_2 := NB158_159.out
    have hms48_3 := NB158_160.out
    refine skip_ (w1 := ?_) (by rfl) rfl ?_ ?_
    rotate_left
    ·go_simp
     rfl
    refine hK.out _ _ ⟨((cF (p := ⟨gb158, _, none⟩) NB159_158.out _).trans (((cF (p := ⟨gb158, _, none⟩) NB159_158.out _).trans (hHeld.1)))), ((cF (p := ⟨gb158, _, none⟩) NB159_158.out _).trans (((cF (p := ⟨gb158, _, none⟩) NB159_158.out _).trans (hHeld.2.1)))), ((cF (p := ⟨gb158, _, none⟩) NB160_158.out _).trans (((cF (p := ⟨gb158, _, none⟩) NB160_158.out _).trans (hHeld.2.2.1)))), ((cF (p := ⟨gb158, _, none⟩) NB160_158.out _).trans (((cF (p := ⟨gb158, _, none⟩) NB160_158.out _).trans (hHeld.2.2.2))))⟩ (fun hHeld => ?_)
    clear hK K
    refine done_ (by kernel_rfl) ?_
    try go_wp2
    refine bodyPost_ret (results_cc rfl _ _ gb157 gb158 26 29 #[.int .i64 a0, .slice Ao44 qd.length co44] #[.int .i64 a0, .slice Ao47 qc.length co47] (0, 0) (0, 0) _ _ rfl (by (with_reducible repeat first | apply bN | apply bD | apply bA); refine bR ?_ NB157_158.out _; (with_reducible repeat first | apply bN | apply bD | apply bA); refine bR ?_ NB157_158.out _; (with_reducible repeat first | apply bN | apply bD | apply bA); refine bP (cs := #[.int .i64 a0, .slice none 0 0]) ?_ 1 _ rfl; (with_reducible repeat first | apply bN | apply bD | apply bA); refine bP (cs := #[.int .i64 0, .slice none 0 0]) ?_ 0 _ rfl; (with_reducible repeat first | apply bN | apply bD | apply bA); exact BK157.out) Tryz.underlying26 rfl (by kernel_rfl) rfl (by (with_reducible repeat first | apply bN | apply bD | apply bA); refine bP (cs := #[.int .i64 a0, .slice none 0 0]) ?_ 1 _ rfl; (with_reducible repeat first | apply bN | apply bD | apply bA); refine bP (cs := #[.int .i64 0, .slice none 0 0]) ?_ 0 _ rfl; (with_reducible repeat first | apply bN | apply bD | apply bA); refine bR ?_ NB158_157.out _; (with_reducible repeat first | apply bN | apply bD | apply bA); refine bR ?_ NB158_157.out _; (with_reducible repeat first | apply bN | apply bD | apply bA); exact BK158.out) Tryz.underlying29 rfl (by kernel_rfl)) rfl ?_
    exact ⟨_, _, by first | rfl | (simp [errW_none, errW_some] <;> rfl) | (simp [*, errW_none, errW_some] <;> rfl), by (with_reducible repeat first | apply rA | apply rN | apply rD); exact Kd.R_mono (Kd.R_far (p := ⟨gb158, 1, none⟩) (Kd.R_far (p := ⟨gb158, 0, none⟩) (Kd.R_far (p := ⟨gb157, 1, none⟩) (Kd.R_far (p := ⟨gb157, 0, none⟩) (Kd.R_types (Kd.R_types qb.out BK157.out (by decide)) BK158.out (by decide)) (fun _ hk => hk.1.2) (.int .i64 a0)) (fun _ hk => hk.1.2) (.slice Ao44 qd.length co44)) (fun _ hk => hk.2) (.int .i64 a0)) (fun _ hk => hk.2) (.slice Ao47 qc.length co47)) (fun _ hk => trivial), by (with_reducible repeat first | apply rA | apply rN | apply rD); exact Kd.R_mono (Kd.R_far (p := ⟨gb158, 1, none⟩) (Kd.R_far (p := ⟨gb158, 0, none⟩) (Kd.R_far (p := ⟨gb157, 1, none⟩) (Kd.R_far (p := ⟨gb157, 0, none⟩) (Kd.R_types (Kd.R_types qa.out BK157.out (by decide)) BK158.out (by decide)) (fun _ hk => hk.1.2) (.int .i64 a0)) (fun _ hk => hk.1.2) (.slice Ao44 qd.length co44)) (fun _ hk => hk.2) (.int .i64 a0)) (fun _ hk => hk.2) (.slice Ao47 qc.length co47)) (fun _ hk => trivial), by repeat (first | (with_reducible first | exact HB.out | apply pA | apply pN | apply pD | refine bS ?_ GE157.out | refine bS ?_ GE158.out | refine bS ?_ GE159.out | refine bS ?_ GE160.out) | exact HB.out)⟩

end Go.Proofs.YtmncfcebjohloaaGreatDoor.VInodePuts
