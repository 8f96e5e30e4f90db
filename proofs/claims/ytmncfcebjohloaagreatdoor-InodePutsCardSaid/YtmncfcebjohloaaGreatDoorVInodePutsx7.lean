/- Contracts of functions of this seat: each call comes to what its Lean function computes; no condition beyond what each theorem states. Printed by a program of this session's own laid over the kit's printer. -/
import Derived.Test.YtmncfcebjohloaaGreatDoorVInodePutsx0
import Derived.Test.YtmncfcebjohloaaGreatDoorVInodePutsx6
namespace Go.Proofs.YtmncfcebjohloaaGreatDoor.VInodePuts
open Go.RowKit Go.Proofs.YtmncfcebjohloaaGreatDoorW.PrintWords Go.Proofs.YtmncfcebjohloaaGreatDoorW.PrintLast Go.Proofs.YtmncfcebjohloaaGreatDoorW.PrintMore
attribute [local go_sem] max2_int min2_int max_two min_two max_three min_three max_four min_four   -- for this text's walks alone
open Go.Proofs.YtmncfcebjohloaaGreatDoorW.PrintWords.Kd renaming R_alloc → rA
open Go.Proofs.YtmncfcebjohloaaGreatDoorW.PrintWords.Kd renaming R_drewN → rN
open Go.Proofs.YtmncfcebjohloaaGreatDoorW.PrintWords.Kd renaming R_drew → rD
open List renaming setIfInBounds_toArray → lS, set_cons_zero → lZ, set_cons_succ → lC
open Go.Proofs.YtmncfcebjohloaaGreatDoorW.PrintLast renaming goesL_ → gL_
open Go.Proofs.YtmncfcebjohloaaGreatDoorW.PrintWords renaming blk_drewN → bN, blk_drew → bD, blk_alloc → bA, below_set → bS, pw_below_drewN → pN, below_drew1 → pD, below_alloc → pA, below_step → pS, below_size → pZ, blk_frozen → bF, blk_cell → bC, blk_below → bB, blk_far → bR, blk_put → bP, blk_lt → bL, gate_dst → gD, gate_callee → gC, box_event → bE
open Go.Proofs.YtmncfcebjohloaaGreatDoorW.PrintWords.Aside0 renaming mk → A0k
set_option linter.unusedVariables false
set_option linter.unusedSimpArgs false

/-! ### inode_Map: function 17 -/
def inode_Map.l0 : Nat → Int → List (S51) → Int → Int → Option (Int × Bool)
 | 0, _, _, _, _ => none
 | k + 1, x1, x11, x12, x13 => if x13 < x12 then (if 0 ≤ x13 then (if x13 < (x11.length : Int) then (if x1 < ((rd_T51 x11 x13).f1) then (some (wrap64 (((rd_T51 x11 x13).f0) + x1), true)) else (inode_Map.l0 k (wrap64 (x1 - ((rd_T51 x11 x13).f1))) x11 x12 (wrap64 (x13 + 1)))) else (none)) else (none)) else (some (0, false))
def inode_Map.f (k : Nat) (a0_0 : Int) (l0_1 : List (S51)) (a1 : Int) : Option (Int × Bool) := if a1 < 0 then (some (0, false)) else (inode_Map.l0 k a1 l0_1 (l0_1.length : Int) 0)
set_option maxRecDepth 100000 in
theorem inode_Map.mono_l : ∀ k, (∀ y0 y1 y2 y3, LeO (inode_Map.l0 k y0 y1 y2 y3) (inode_Map.l0 (k + 1) y0 y1 y2 y3))
 | 0 => fun _ _ _ _ r h => by first | (rw [inode_Map.l0] at h; cases h) | simp [inode_Map.l0] at h
 | k + 1 => by
  have ih0 := inode_Map.mono_l k
  ·intro y0 y1 y2 y3
   unfold inode_Map.l0
   repeat' first
   | (with_reducible exact ih0 _ _ _ _)
   | (with_reducible exact LeO.refl _)
   | (with_reducible exact LeO.none _)
   | (with_reducible refine LeO.ite ?_ ?_)
   | (with_reducible refine LeO.bind ?_ (fun _ => ?_))
   | exact ih0 _ _ _ _
   | exact LeO.none _
   | refine LeO.ite ?_ ?_
   | refine LeO.bind ?_ (fun _ => ?_)
theorem inode_Map.mono : ∀ a0 a1 a2 k, LeO (inode_Map.f k a0 a1 a2) (inode_Map.f (k + 1) a0 a1 a2) := by
 intro a0 a1 a2 k
 have ih0 := inode_Map.mono_l k
 unfold inode_Map.f
 repeat' first
   | (with_reducible exact ih0 _ _ _ _)
   | (with_reducible exact LeO.refl _)
   | (with_reducible exact LeO.none _)
   | (with_reducible refine LeO.ite ?_ ?_)
   | (with_reducible refine LeO.bind ?_ (fun _ => ?_))
   | exact ih0 _ _ _ _
   | exact LeO.none _
   | refine LeO.ite ?_ ?_
   | refine LeO.bind ?_ (fun _ => ?_)
set_option maxHeartbeats 8000000 in
set_option maxRecDepth 100000 in
theorem inode_Map.calls (k : Nat) (a0_0 : Int) (A0_1 : Option Addr) (c0_1 : Nat) (l0_1 : List (S51)) (a1 : Int) (r1 : Int) (r2 : Bool) (w : World) (hr0_1 : Kd.C k51 w A0_1 l0_1.length l0_1) (hc0_1 : l0_1.length ≤ c0_1) (h : inode_Map.f k a0_0 l0_1 a1 = some (r1, r2)) :
  Calls Tryz.prog 17 #[.agg #[.int .i64 a0_0, .slice A0_1 l0_1.length c0_1], .int .i64 a1] w fun e w' => e = .returned (.tuple #[.int .i64 r1, .bool r2]) ∧ Below w.heap.size w w' := by
 have hu26 := Tryz.underlying26
 have hu51 := Tryz.underlying51
 have HR0_1 := A0k hr0_1
 have HC0_1 := A0k hc0_1
 clear hr0_1 hc0_1
 have HB := A0k (Below.refl w.heap.size w)
 have H : (if a1 < 0 then (some (0, false)) else (inode_Map.l0 k a1 l0_1 (l0_1.length : Int) 0)) = some (r1, r2) := h
 clear h
 by_cases c3 : a1 < 0
 ·rw [if_pos c3] at H
  have c3b0 : decide (a1 < 0) = true := decide_eq_true c3
  clear c3
  simp only [Option.some.injEq, Prod.mk.injEq] at H
  obtain ⟨rfl, rfl⟩ := H
  go_enter Tryz.func17, Tryz.ntmps17
  go_wp2_with (first | ((with_reducible refine gD (N := 2) rfl ?_); refine bE ?hg (N := 2) ?hd (cs := #[.int .i64 a0_0, .slice A0_1 l0_1.length c0_1]) (t := 26) ?hr ?_; (case hd => rfl); (case hg => rfl); (case hr => first | (go_simp; done) | (go_simp; rfl)); intro gb129 hg w4 hbox hb; have n0_ := A0k (pS (by repeat (first | (with_reducible first | exact HB.out | apply pA | apply pN | apply pD) | exact HB.out)) hb); have n1_ := A0k (hbox); have n2_ := A0k ((by rw [hg]; exact (pZ (by repeat (first | (with_reducible first | exact HB.out | apply pA | apply pN | apply pD) | exact HB.out))) : w.heap.size ≤ gb129)); have n3_ := A0k ((by rw [hg]; exact (pZ (by repeat (first | (with_reducible first | exact HB.out | apply pA | apply pN | apply pD) | exact HB.out))) : w.heap.size ≤ gb129)); clear HB; have HB := n0_; have BK129 := n1_; have GW129 := n2_; have GE129 := n3_; clear n0_ n1_ n2_ n3_ hb hbox hg))
  go_ret2
  exact ⟨by first | rfl | (simp [errW_none, errW_some] <;> rfl) | (simp [*, errW_none, errW_some] <;> rfl), by repeat (first | (with_reducible first | exact HB.out | apply pA | apply pN | apply pD | refine bS ?_ GE129.out) | exact HB.out)⟩
 ·rw [if_neg c3] at H
  have c3b0 : decide (a1 < 0) = false := decide_eq_false c3
  clear c3
  have H' := A0k H
  clear H
  go_enter Tryz.func17, Tryz.ntmps17
  go_wp2_with (first | ((with_reducible refine gD (N := 2) rfl ?_); refine bE ?hg (N := 2) ?hd (cs := #[.int .i64 a0_0, .slice A0_1 l0_1.length c0_1]) (t := 26) ?hr ?_; (case hd => rfl); (case hg => rfl); (case hr => first | (go_simp; done) | (go_simp; rfl)); intro gb129 hg w5 hbox hb; have n0_ := A0k (pS (by repeat (first | (with_reducible first | exact HB.out | apply pA | apply pN | apply pD) | exact HB.out)) hb); have n1_ := A0k (hbox); have n2_ := A0k ((by rw [hg]; exact (pZ (by repeat (first | (with_reducible first | exact HB.out | apply pA | apply pN | apply pD) | exact HB.out))) : w.heap.size ≤ gb129)); have n3_ := A0k ((by rw [hg]; exact (pZ (by repeat (first | (with_reducible first | exact HB.out | apply pA | apply pN | apply pD) | exact HB.out))) : w.heap.size ≤ gb129)); clear HB; have HB := n0_; have BK129 := n1_; have GW129 := n2_; have GE129 := n3_; clear n0_ n1_ n2_ n3_ hb hbox hg; have hcz6_0 : w5.cell? ⟨gb129, 0, none⟩ = some (.int .i64 a0_0) := (bC BK129.out 0).trans rfl; have hcz6_1 : w5.cell? ⟨gb129, 1, none⟩ = some (.slice A0_1 l0_1.length c0_1) := (bC BK129.out 1).trans rfl; have hfz6_0 := bF BK129.out 0; have hfz6_1 := bF BK129.out 1))
  go_loopg [1, 13] k (fun kq v1 v13 w' => ∃ (x1_1 : Int) (x13_1 : Int), v1 = .int .i64 x1_1 ∧ v13 = .int .i64 x13_1 ∧ Aside0 (inode_Map.l0 kq x1_1 l0_1 (l0_1.length : Int) x13_1 = some (r1, r2)) ∧ Aside0 (kq ≤ k) ∧ Aside0 (w'.heap[gb129]? = some (.cells #[.int .i64 a0_0, (.slice A0_1 l0_1.length c0_1)] 26 (0, 0))) ∧ Aside0 (Below w.heap.size w w'))
  case atStart => exact ⟨(a1), (0), (by first | rfl | (simp; done) | (simp [*]; done)), (by first | rfl | (simp; done) | (simp [*]; done)), H', ⟨Nat.le_refl _⟩, ⟨by (with_reducible repeat first | apply bN | apply bD | apply bA); exact BK129.out⟩, ⟨by repeat (first | (with_reducible first | exact HB.out | apply pA | apply pN | apply pD | refine bS ?_ GE129.out) | exact HB.out)⟩⟩
  case round =>
   clear H'
   (try clear c1); (try clear p2); (try clear c3); (try clear c3b0); (try clear hcz6_0); (try clear hcz6_1); (try clear hfz6_0); (try clear hfz6_1)
   obtain ⟨x1_1, x13_1, rfl, rfl, HA, HK1, BK129, HB⟩ := hrel
   cases gk with
   | zero => exact absurd HA.out (by simp [inode_Map.l0])
   | succ k1 =>
    have H := HA.out
    clear HA
    simp only [inode_Map.l0] at H
    by_cases c7 : x13_1 < (l0_1.length : Int)
    ·rw [if_pos c7] at H
     have c7b0 : decide (x13_1 < (l0_1.length : Int)) = true := decide_eq_true c7
     clear c7
     by_cases c8 : 0 ≤ x13_1
     ·rw [if_pos c8] at H
      have c8b0 : decide (0 ≤ x13_1) = true := decide_eq_true c8
      clear c8
      by_cases c9 : x13_1 < (l0_1.length : Int)
      ·rw [if_pos c9] at H
       have c9b0 : decide (x13_1 < (l0_1.length : Int)) = true := decide_eq_true c9
       clear c9
       by_cases c10 : x1_1 < ((rd_T51 l0_1 x13_1).f1)
       ·rw [if_pos c10] at H
        have c10b0 : decide (x1_1 < ((rd_T51 l0_1 x13_1).f1)) = true := decide_eq_true c10
        clear c10
        simp only [Option.some.injEq, Prod.mk.injEq] at H
        obtain ⟨rfl, rfl⟩ := H
        have p130 : 0 ≤ (x13_1 : Int) := of_decide_eq_true (by first | (with_reducible assumption) | assumption)
        have q130 : x13_1 < (l0_1.length : Int) := of_decide_eq_true (by first | (with_reducible assumption) | assumption)
        obtain ⟨ad130, e130, hx130_0, hx130_1⟩ := at_T51 HR0_1.out x13_1 p130 q130
        cases e130
        replace hx130_0 := (HB.out.cell (World.block_lt_of_cell? w _ hx130_0)).trans hx130_0
        replace hx130_1 := (HB.out.cell (World.block_lt_of_cell? w _ hx130_1)).trans hx130_1
        replace p130 := eq_true p130
        replace q130 := eq_true q130
        go_wp2_with (first | ((with_reducible refine gD (N := 7) rfl ?_); refine bE ?hg (N := 7) ?hd (cs := #[.int .i64 0, .int .i64 0]) (t := 51) ?hr ?_; (case hd => rfl); (case hg => rfl); (case hr => first | (go_simp; done) | (go_simp; rfl)); intro gb131 hg w11 hbox hb; have n0_ := A0k (bB (g := gb129) (o := .cells #[.int .i64 a0_0, .slice (some ad130) l0_1.length c0_1] 26 (0, 0)) (by (with_reducible repeat first | apply bN | apply bD | apply bA); exact BK129.out) hb); have n1_ := A0k (pS (by repeat (first | (with_reducible first | exact HB.out | apply pA | apply pN | apply pD | refine bS ?_ GE129.out) | exact HB.out)) hb); have n2_ := A0k (hbox); have n3_ := A0k ((by rw [hg]; exact (pZ (by repeat (first | (with_reducible first | exact HB.out | apply pA | apply pN | apply pD | refine bS ?_ GE129.out) | exact HB.out))) : w.heap.size ≤ gb131)); have n4_ := A0k ((by rw [hg]; exact (pZ (by repeat (first | (with_reducible first | exact HB.out | apply pA | apply pN | apply pD | refine bS ?_ GE129.out) | exact HB.out))) : w.heap.size ≤ gb131)); have n5_ := A0k ((by rw [hg]; exact Nat.ne_of_lt (bL (g := gb129) (o := .cells #[.int .i64 a0_0, .slice (some ad130) l0_1.length c0_1] 26 (0, 0)) (by (with_reducible repeat first | apply bN | apply bD | apply bA); exact BK129.out)) : gb129 ≠ gb131)); have n6_ := A0k ((by rw [hg]; exact Nat.ne_of_gt (bL (g := gb129) (o := .cells #[.int .i64 a0_0, .slice (some ad130) l0_1.length c0_1] 26 (0, 0)) (by (with_reducible repeat first | apply bN | apply bD | apply bA); exact BK129.out)) : gb131 ≠ gb129)); clear BK129 HB; have BK129 := n0_; have HB := n1_; have BK131 := n2_; have GW131 := n3_; have GE131 := n4_; have NB129_131 := n5_; have NB131_129 := n6_; clear n0_ n1_ n2_ n3_ n4_ n5_ n6_ hb hbox hg; have hnb12 := NB131_129.out; have hnc12 := NB129_131.out; have hcz13_0 : w11.cell? ⟨gb131, 0, none⟩ = some (.int .i64 0) := (bC BK131.out 0).trans rfl; have hcz13_1 : w11.cell? ⟨gb131, 1, none⟩ = some (.int .i64 0) := (bC BK131.out 1).trans rfl; have hfz13_0 := bF BK131.out 0; have hfz13_1 := bF BK131.out 1))
        go_ret2
        exact ⟨by first | rfl | (simp [errW_none, errW_some] <;> rfl) | (simp [*, errW_none, errW_some] <;> rfl), by repeat (first | (with_reducible first | exact HB.out | apply pA | apply pN | apply pD | refine bS ?_ GE129.out | refine bS ?_ GE131.out) | exact HB.out)⟩
       ·rw [if_neg c10] at H
        have c10b0 : decide (x1_1 < ((rd_T51 l0_1 x13_1).f1)) = false := decide_eq_false c10
        clear c10
        have H' := A0k H
        clear H
        have p130 : 0 ≤ (x13_1 : Int) := of_decide_eq_true (by first | (with_reducible assumption) | assumption)
        have q130 : x13_1 < (l0_1.length : Int) := of_decide_eq_true (by first | (with_reducible assumption) | assumption)
        obtain ⟨ad130, e130, hx130_0, hx130_1⟩ := at_T51 HR0_1.out x13_1 p130 q130
        cases e130
        replace hx130_0 := (HB.out.cell (World.block_lt_of_cell? w _ hx130_0)).trans hx130_0
        replace hx130_1 := (HB.out.cell (World.block_lt_of_cell? w _ hx130_1)).trans hx130_1
        replace p130 := eq_true p130
        replace q130 := eq_true q130
        go_wp2_with (first | ((with_reducible refine gD (N := 7) rfl ?_); refine bE ?hg (N := 7) ?hd (cs := #[.int .i64 0, .int .i64 0]) (t := 51) ?hr ?_; (case hd => rfl); (case hg => rfl); (case hr => first | (go_simp; done) | (go_simp; rfl)); intro gb131 hg w14 hbox hb; have n0_ := A0k (bB (g := gb129) (o := .cells #[.int .i64 a0_0, .slice (some ad130) l0_1.length c0_1] 26 (0, 0)) (by (with_reducible repeat first | apply bN | apply bD | apply bA); exact BK129.out) hb); have n1_ := A0k (pS (by repeat (first | (with_reducible first | exact HB.out | apply pA | apply pN | apply pD | refine bS ?_ GE129.out) | exact HB.out)) hb); have n2_ := A0k (hbox); have n3_ := A0k ((by rw [hg]; exact (pZ (by repeat (first | (with_reducible first | exact HB.out | apply pA | apply pN | apply pD | refine bS ?_ GE129.out) | exact HB.out))) : w.heap.size ≤ gb131)); have n4_ := A0k ((by rw [hg]; exact (pZ (by repeat (first | (with_reducible first | exact HB.out | apply pA | apply pN | apply pD | refine bS ?_ GE129.out) | exact HB.out))) : w.heap.size ≤ gb131)); have n5_ := A0k ((by rw [hg]; exact Nat.ne_of_lt (bL (g := gb129) (o := .cells #[.int .i64 a0_0, .slice (some ad130) l0_1.length c0_1] 26 (0, 0)) (by (with_reducible repeat first | apply bN | apply bD | apply bA); exact BK129.out)) : gb129 ≠ gb131)); have n6_ := A0k ((by rw [hg]; exact Nat.ne_of_gt (bL (g := gb129) (o := .cells #[.int .i64 a0_0, .slice (some ad130) l0_1.length c0_1] 26 (0, 0)) (by (with_reducible repeat first | apply bN | apply bD | apply bA); exact BK129.out)) : gb131 ≠ gb129)); clear BK129 HB; have BK129 := n0_; have HB := n1_; have BK131 := n2_; have GW131 := n3_; have GE131 := n4_; have NB129_131 := n5_; have NB131_129 := n6_; clear n0_ n1_ n2_ n3_ n4_ n5_ n6_ hb hbox hg; have hnb15 := NB131_129.out; have hnc15 := NB129_131.out; have hcz16_0 : w14.cell? ⟨gb131, 0, none⟩ = some (.int .i64 0) := (bC BK131.out 0).trans rfl; have hcz16_1 : w14.cell? ⟨gb131, 1, none⟩ = some (.int .i64 0) := (bC BK131.out 1).trans rfl; have hfz16_0 := bF BK131.out 0; have hfz16_1 := bF BK131.out 1))
        go_roundg k1
        case measure => have := HK1.out; omega
        case rel => exact ⟨(wrap64 (x1_1 - ((rd_T51 l0_1 x13_1).f1))), (wrap64 (x13_1 + 1)), (by first | rfl | (simp; done) | (simp [*]; done)), (by first | rfl | (simp; done) | (simp [*]; done)), H', ⟨by have := HK1.out; omega⟩, ⟨by (with_reducible repeat first | apply bN | apply bD | apply bA); refine bR ?_ NB129_131.out _; (with_reducible repeat first | apply bN | apply bD | apply bA); refine bR ?_ NB129_131.out _; (with_reducible repeat first | apply bN | apply bD | apply bA); exact BK129.out⟩, ⟨by repeat (first | (with_reducible first | exact HB.out | apply pA | apply pN | apply pD | refine bS ?_ GE129.out | refine bS ?_ GE131.out) | exact HB.out)⟩⟩
      ·rw [if_neg c9] at H
       exact absurd H (by simp)
     ·rw [if_neg c8] at H
      exact absurd H (by simp)
    ·rw [if_neg c7] at H
     have c7b0 : decide (x13_1 < (l0_1.length : Int)) = false := decide_eq_false c7
     clear c7
     simp only [Option.some.injEq, Prod.mk.injEq] at H
     obtain ⟨rfl, rfl⟩ := H
     go_wp2
     go_ret2
     exact ⟨by first | rfl | (simp [errW_none, errW_some] <;> rfl) | (simp [*, errW_none, errW_some] <;> rfl), by repeat (first | (with_reducible first | exact HB.out | apply pA | apply pN | apply pD | refine bS ?_ GE129.out) | exact HB.out)⟩

/-! ### inode_Block: function 18 -/
def inode_Block.l0 : Nat → Int → Int → List (S51) → Int → Int → Option (Int × Bool)
 | 0, _, _, _, _, _ => none
 | k + 1, x1, x6, x10, x11, x12 => if x12 < x11 then (if 0 ≤ x12 then (if x12 < (x10.length : Int) then (if x1 ≥ ((rd_T51 x10 x12).f0) then (if (wrap64 (x1 - ((rd_T51 x10 x12).f0))) < ((rd_T51 x10 x12).f1) then (some (wrap64 ((wrap64 (x6 + x1)) - ((rd_T51 x10 x12).f0)), true)) else (inode_Block.l0 k x1 (wrap64 (x6 + ((rd_T51 x10 x12).f1))) x10 x11 (wrap64 (x12 + 1)))) else (inode_Block.l0 k x1 (wrap64 (x6 + ((rd_T51 x10 x12).f1))) x10 x11 (wrap64 (x12 + 1)))) else (none)) else (none)) else (some (0, false))
def inode_Block.f (k : Nat) (a0_0 : Int) (l0_1 : List (S51)) (a1 : Int) : Option (Int × Bool) := inode_Block.l0 k a1 0 l0_1 (l0_1.length : Int) 0
set_option maxRecDepth 100000 in
theorem inode_Block.mono_l : ∀ k, (∀ y0 y1 y2 y3 y4, LeO (inode_Block.l0 k y0 y1 y2 y3 y4) (inode_Block.l0 (k + 1) y0 y1 y2 y3 y4))
 | 0 => fun _ _ _ _ _ r h => by first | (rw [inode_Block.l0] at h; cases h) | simp [inode_Block.l0] at h
 | k + 1 => by
  have ih0 := inode_Block.mono_l k
  ·intro y0 y1 y2 y3 y4
   unfold inode_Block.l0
   repeat' first
   | (with_reducible exact ih0 _ _ _ _ _)
   | (with_reducible exact LeO.refl _)
   | (with_reducible exact LeO.none _)
   | (with_reducible refine LeO.ite ?_ ?_)
   | (with_reducible refine LeO.bind ?_ (fun _ => ?_))
   | exact ih0 _ _ _ _ _
   | exact LeO.none _
   | refine LeO.ite ?_ ?_
   | refine LeO.bind ?_ (fun _ => ?_)
theorem inode_Block.mono : ∀ a0 a1 a2 k, LeO (inode_Block.f k a0 a1 a2) (inode_Block.f (k + 1) a0 a1 a2) := by
 intro a0 a1 a2 k
 have ih0 := inode_Block.mono_l k
 unfold inode_Block.f
 repeat' first
   | (with_reducible exact ih0 _ _ _ _ _)
   | (with_reducible exact LeO.refl _)
   | (with_reducible exact LeO.none _)
   | (with_reducible refine LeO.ite ?_ ?_)
   | (with_reducible refine LeO.bind ?_ (fun _ => ?_))
   | exact ih0 _ _ _ _ _
   | exact LeO.none _
   | refine LeO.ite ?_ ?_
   | refine LeO.bind ?_ (fun _ => ?_)
set_option maxHeartbeats 8000000 in
set_option maxRecDepth 100000 in
theorem inode_Block.calls (k : Nat) (a0_0 : Int) (A0_1 : Option Addr) (c0_1 : Nat) (l0_1 : List (S51)) (a1 : Int) (r1 : Int) (r2 : Bool) (w : World) (hr0_1 : Kd.C k51 w A0_1 l0_1.length l0_1) (hc0_1 : l0_1.length ≤ c0_1) (h : inode_Block.f k a0_0 l0_1 a1 = some (r1, r2)) :
  Calls Tryz.prog 18 #[.agg #[.int .i64 a0_0, .slice A0_1 l0_1.length c0_1], .int .i64 a1] w fun e w' => e = .returned (.tuple #[.int .i64 r1, .bool r2]) ∧ Below w.heap.size w w' := by
 have hu26 := Tryz.underlying26
 have hu51 := Tryz.underlying51
 have HR0_1 := A0k hr0_1
 have HC0_1 := A0k hc0_1
 clear hr0_1 hc0_1
 have HB := A0k (Below.refl w.heap.size w)
 have H : (inode_Block.l0 k a1 0 l0_1 (l0_1.length : Int) 0) = some (r1, r2) := h
 clear h
 have H' := A0k H
 clear H
 go_enter Tryz.func18, Tryz.ntmps18
 go_wp2_with (first | ((with_reducible refine gD (N := 2) rfl ?_); refine bE ?hg (N := 2) ?hd (cs := #[.int .i64 a0_0, .slice A0_1 l0_1.length c0_1]) (t := 26) ?hr ?_; (case hd => rfl); (case hg => rfl); (case hr => first | (go_simp; done) | (go_simp; rfl)); intro gb132 hg w3 hbox hb; have n0_ := A0k (pS (by repeat (first | (with_reducible first | exact HB.out | apply pA | apply pN | apply pD) | exact HB.out)) hb); have n1_ := A0k (hbox); have n2_ := A0k ((by rw [hg]; exact (pZ (by repeat (first | (with_reducible first | exact HB.out | apply pA | apply pN | apply pD) | exact HB.out))) : w.heap.size ≤ gb132)); have n3_ := A0k ((by rw [hg]; exact (pZ (by repeat (first | (with_reducible first | exact HB.out | apply pA | apply pN | apply pD) | exact HB.out))) : w.heap.size ≤ gb132)); clear HB; have HB := n0_; have BK132 := n1_; have GW132 := n2_; have GE132 := n3_; clear n0_ n1_ n2_ n3_ hb hbox hg; have hcz4_0 : w3.cell? ⟨gb132, 0, none⟩ = some (.int .i64 a0_0) := (bC BK132.out 0).trans rfl; have hcz4_1 : w3.cell? ⟨gb132, 1, none⟩ = some (.slice A0_1 l0_1.length c0_1) := (bC BK132.out 1).trans rfl; have hfz4_0 := bF BK132.out 0; have hfz4_1 := bF BK132.out 1))
 go_loopg [6, 12] k (fun kq v6 v12 w' => ∃ (x6_1 : Int) (x12_1 : Int), v6 = .int .i64 x6_1 ∧ v12 = .int .i64 x12_1 ∧ Aside0 (inode_Block.l0 kq a1 x6_1 l0_1 (l0_1.length : Int) x12_1 = some (r1, r2)) ∧ Aside0 (kq ≤ k) ∧ Aside0 (w'.heap[gb132]? = some (.cells #[.int .i64 a0_0, (.slice A0_1 l0_1.length c0_1)] 26 (0, 0))) ∧ Aside0 (Below w.heap.size w w'))
 case atStart => exact ⟨(0), (0), (by first | rfl | (simp; done) | (simp [*]; done)), (by first | rfl | (simp; done) | (simp [*]; done)), H', ⟨Nat.le_refl _⟩, ⟨by (with_reducible repeat first | apply bN | apply bD | apply bA); exact BK132.out⟩, ⟨by repeat (first | (with_reducible first | exact HB.out | apply pA | apply pN | apply pD | refine bS ?_ GE132.out) | exact HB.out)⟩⟩
 case round =>
  clear H'
  (try clear c1); (try clear p2); (try clear hcz4_0); (try clear hcz4_1); (try clear hfz4_0); (try clear hfz4_1)
  obtain ⟨x6_1, x12_1, rfl, rfl, HA, HK1, BK132, HB⟩ := hrel
  cases gk with
  | zero => exact absurd HA.out (by simp [inode_Block.l0])
  | succ k1 =>
   have H := HA.out
   clear HA
   simp only [inode_Block.l0] at H
   by_cases c5 : x12_1 < (l0_1.length : Int)
   ·rw [if_pos c5] at H
    have c5b0 : decide (x12_1 < (l0_1.length : Int)) = true := decide_eq_true c5
    clear c5
    by_cases c6 : 0 ≤ x12_1
    ·rw [if_pos c6] at H
     have c6b0 : decide (0 ≤ x12_1) = true := decide_eq_true c6
     clear c6
     by_cases c7 : x12_1 < (l0_1.length : Int)
     ·rw [if_pos c7] at H
      have c7b0 : decide (x12_1 < (l0_1.length : Int)) = true := decide_eq_true c7
      clear c7
      by_cases c8 : a1 ≥ ((rd_T51 l0_1 x12_1).f0)
      ·rw [if_pos c8] at H
       have c8b0 : decide (((rd_T51 l0_1 x12_1).f0) ≤ a1) = true := decide_eq_true c8
       clear c8
       by_cases c9 : (wrap64 (a1 - ((rd_T51 l0_1 x12_1).f0))) < ((rd_T51 l0_1 x12_1).f1)
       ·rw [if_pos c9] at H
        have c9b0 : decide ((wrap64 (a1 - ((rd_T51 l0_1 x12_1).f0))) < ((rd_T51 l0_1 x12_1).f1)) = true := decide_eq_true c9
        clear c9
        simp only [Option.some.injEq, Prod.mk.injEq] at H
        obtain ⟨rfl, rfl⟩ := H
        have p133 : 0 ≤ (x12_1 : Int) := of_decide_eq_true (by first | (with_reducible assumption) | assumption)
        have q133 : x12_1 < (l0_1.length : Int) := of_decide_eq_true (by first | (with_reducible assumption) | assumption)
        obtain ⟨ad133, e133, hx133_0, hx133_1⟩ := at_T51 HR0_1.out x12_1 p133 q133
        cases e133
        replace hx133_0 := (HB.out.cell (World.block_lt_of_cell? w _ hx133_0)).trans hx133_0
        replace hx133_1 := (HB.out.cell (World.block_lt_of_cell? w _ hx133_1)).trans hx133_1
        replace p133 := eq_true p133
        replace q133 := eq_true q133
        go_wp2_with (first | ((with_reducible refine gD (N := 8) rfl ?_); refine bE ?hg (N := 8) ?hd (cs := #[.int .i64 0, .int .i64 0]) (t := 51) ?hr ?_; (case hd => rfl); (case hg => rfl); (case hr => first | (go_simp; done) | (go_simp; rfl)); intro gb134 hg w10 hbox hb; have n0_ := A0k (bB (g := gb132) (o := .cells #[.int .i64 a0_0, .slice (some ad133) l0_1.length c0_1] 26 (0, 0)) (by (with_reducible repeat first | apply bN | apply bD | apply bA); exact BK132.out) hb); have n1_ := A0k (pS (by repeat (first | (with_reducible first | exact HB.out | apply pA | apply pN | apply pD | refine bS ?_ GE132.out) | exact HB.out)) hb); have n2_ := A0k (hbox); have n3_ := A0k ((by rw [hg]; exact (pZ (by repeat (first | (with_reducible first | exact HB.out | apply pA | apply pN | apply pD | refine bS ?_ GE132.out) | exact HB.out))) : w.heap.size ≤ gb134)); have n4_ := A0k ((by rw [hg]; exact (pZ (by repeat (first | (with_reducible first | exact HB.out | apply pA | apply pN | apply pD | refine bS ?_ GE132.out) | exact HB.out))) : w.heap.size ≤ gb134)); have n5_ := A0k ((by rw [hg]; exact Nat.ne_of_lt (bL (g := gb132) (o := .cells #[.int .i64 a0_0, .slice (some ad133) l0_1.length c0_1] 26 (0, 0)) (by (with_reducible repeat first | apply bN | apply bD | apply bA); exact BK132.out)) : gb132 ≠ gb134)); have n6_ := A0k ((by rw [hg]; exact Nat.ne_of_gt (bL (g := gb132) (o := .cells #[.int .i64 a0_0, .slice (some ad133) l0_1.length c0_1] 26 (0, 0)) (by (with_reducible repeat first | apply bN | apply bD | apply bA); exact BK132.out)) : gb134 ≠ gb132)); clear BK132 HB; have BK132 := n0_; have HB := n1_; have BK134 := n2_; have GW134 := n3_; have GE134 := n4_; have NB132_134 := n5_; have NB134_132 := n6_; clear n0_ n1_ n2_ n3_ n4_ n5_ n6_ hb hbox hg; have hnb11 := NB134_132.out; have hnc11 := NB132_134.out; have hcz12_0 : w10.cell? ⟨gb134, 0, none⟩ = some (.int .i64 0) := (bC BK134.out 0).trans rfl; have hcz12_1 : w10.cell? ⟨gb134, 1, none⟩ = some (.int .i64 0) := (bC BK134.out 1).trans rfl; have hfz12_0 := bF BK134.out 0; have hfz12_1 := bF BK134.out 1))
        go_ret2
        exact ⟨by first | rfl | (simp [errW_none, errW_some] <;> rfl) | (simp [*, errW_none, errW_some] <;> rfl), by repeat (first | (with_reducible first | exact HB.out | apply pA | apply pN | apply pD | refine bS ?_ GE132.out | refine bS ?_ GE134.out) | exact HB.out)⟩
       ·rw [if_neg c9] at H
        have c9b0 : decide ((wrap64 (a1 - ((rd_T51 l0_1 x12_1).f0))) < ((rd_T51 l0_1 x12_1).f1)) = false := decide_eq_false c9
        clear c9
        have H' := A0k H
        clear H
        have p133 : 0 ≤ (x12_1 : Int) := of_decide_eq_true (by first | (with_reducible assumption) | assumption)
        have q133 : x12_1 < (l0_1.length : Int) := of_decide_eq_true (by first | (with_reducible assumption) | assumption)
        obtain ⟨ad133, e133, hx133_0, hx133_1⟩ := at_T51 HR0_1.out x12_1 p133 q133
        cases e133
        replace hx133_0 := (HB.out.cell (World.block_lt_of_cell? w _ hx133_0)).trans hx133_0
        replace hx133_1 := (HB.out.cell (World.block_lt_of_cell? w _ hx133_1)).trans hx133_1
        replace p133 := eq_true p133
        replace q133 := eq_true q133
        go_wp2_with (first | ((with_reducible refine gD (N := 8) rfl ?_); refine bE ?hg (N := 8) ?hd (cs := #[.int .i64 0, .int .i64 0]) (t := 51) ?hr ?_; (case hd => rfl); (case hg => rfl); (case hr => first | (go_simp; done) | (go_simp; rfl)); intro gb134 hg w13 hbox hb; have n0_ := A0k (bB (g := gb132) (o := .cells #[.int .i64 a0_0, .slice (some ad133) l0_1.length c0_1] 26 (0, 0)) (by (with_reducible repeat first | apply bN | apply bD | apply bA); exact BK132.out) hb); have n1_ := A0k (pS (by repeat (first | (with_reducible first | exact HB.out | apply pA | apply pN | apply pD | refine bS ?_ GE132.out) | exact HB.out)) hb); have n2_ := A0k (hbox); have n3_ := A0k ((by rw [hg]; exact (pZ (by repeat (first | (with_reducible first | exact HB.out | apply pA | apply pN | apply pD | refine bS ?_ GE132.out) | exact HB.out))) : w.heap.size ≤ gb134)); have n4_ := A0k ((by rw [hg]; exact (pZ (by repeat (first | (with_reducible first | exact HB.out | apply pA | apply pN | apply pD | refine bS ?_ GE132.out) | exact HB.out))) : w.heap.size ≤ gb134)); have n5_ := A0k ((by rw [hg]; exact Nat.ne_of_lt (bL (g := gb132) (o := .cells #[.int .i64 a0_0, .slice (some ad133) l0_1.length c0_1] 26 (0, 0)) (by (with_reducible repeat first | apply bN | apply bD | apply bA); exact BK132.out)) : gb132 ≠ gb134)); have n6_ := A0k ((by rw [hg]; exact Nat.ne_of_gt (bL (g := gb132) (o := .cells #[.int .i64 a0_0, .slice (some ad133) l0_1.length c0_1] 26 (0, 0)) (by (with_reducible repeat first | apply bN | apply bD | apply bA); exact BK132.out)) : gb134 ≠ gb132)); clear BK132 HB; have BK132 := n0_; have HB := n1_; have BK134 := n2_; have GW134 := n3_; have GE134 := n4_; have NB132_134 := n5_; have NB134_132 := n6_; clear n0_ n1_ n2_ n3_ n4_ n5_ n6_ hb hbox hg; have hnb14 := NB134_132.out; have hnc14 := NB132_134.out; have hcz15_0 : w13.cell? ⟨gb134, 0, none⟩ = some (.int .i64 0) := (bC BK134.out 0).trans rfl; have hcz15_1 : w13.cell? ⟨gb134, 1, none⟩ = some (.int .i64 0) := (bC BK134.out 1).trans rfl; have hfz15_0 := bF BK134.out 0; have hfz15_1 := bF BK134.out 1))
        go_roundg k1
        case measure => have := HK1.out; omega
        case rel => exact ⟨(wrap64 (x6_1 + ((rd_T51 l0_1 x12_1).f1))), (wrap64 (x12_1 + 1)), (by first | rfl | (simp; done) | (simp [*]; done)), (by first | rfl | (simp; done) | (simp [*]; done)), H', ⟨by have := HK1.out; omega⟩, ⟨by (with_reducible repeat first | apply bN | apply bD | apply bA); refine bR ?_ NB132_134.out _; (with_reducible repeat first | apply bN | apply bD | apply bA); refine bR ?_ NB132_134.out _; (with_reducible repeat first | apply bN | apply bD | apply bA); exact BK132.out⟩, ⟨by repeat (first | (with_reducible first | exact HB.out | apply pA | apply pN | apply pD | refine bS ?_ GE132.out | refine bS ?_ GE134.out) | exact HB.out)⟩⟩
      ·rw [if_neg c8] at H
       have c8b0 : decide (((rd_T51 l0_1 x12_1).f0) ≤ a1) = false := decide_eq_false c8
       clear c8
       have H' := A0k H
       clear H
       have p133 : 0 ≤ (x12_1 : Int) := of_decide_eq_true (by first | (with_reducible assumption) | assumption)
       have q133 : x12_1 < (l0_1.length : Int) := of_decide_eq_true (by first | (with_reducible assumption) | assumption)
       obtain ⟨ad133, e133, hx133_0, hx133_1⟩ := at_T51 HR0_1.out x12_1 p133 q133
       cases e133
       replace hx133_0 := (HB.out.cell (World.block_lt_of_cell? w _ hx133_0)).trans hx133_0
       replace hx133_1 := (HB.out.cell (World.block_lt_of_cell? w _ hx133_1)).trans hx133_1
       replace p133 := eq_true p133
       replace q133 := eq_true q133
       go_wp2_with (first | ((with_reducible refine gD (N := 8) rfl ?_); refine bE ?hg (N := 8) ?hd (cs := #[.int .i64 0, .int .i64 0]) (t := 51) ?hr ?_; (case hd => rfl); (case hg => rfl); (case hr => first | (go_simp; done) | (go_simp; rfl)); intro gb134 hg w16 hbox hb; have n0_ := A0k (bB (g := gb132) (o := .cells #[.int .i64 a0_0, .slice (some ad133) l0_1.length c0_1] 26 (0, 0)) (by (with_reducible repeat first | apply bN | apply bD | apply bA); exact BK132.out) hb); have n1_ := A0k (pS (by repeat (first | (with_reducible first | exact HB.out | apply pA | apply pN | apply pD | refine bS ?_ GE132.out) | exact HB.out)) hb); have n2_ := A0k (hbox); have n3_ := A0k ((by rw [hg]; exact (pZ (by repeat (first | (with_reducible first | exact HB.out | apply pA | apply pN | apply pD | refine bS ?_ GE132.out) | exact HB.out))) : w.heap.size ≤ gb134)); have n4_ := A0k ((by rw [hg]; exact (pZ (by repeat (first | (with_reducible first | exact HB.out | apply pA | apply pN | apply pD | refine bS ?_ GE132.out) | exact HB.out))) : w.heap.size ≤ gb134)); have n5_ := A0k ((by rw [hg]; exact Nat.ne_of_lt (bL (g := gb132) (o := .cells #[.int .i64 a0_0, .slice (some ad133) l0_1.length c0_1] 26 (0, 0)) (by (with_reducible repeat first | apply bN | apply bD | apply bA); exact BK132.out)) : gb132 ≠ gb134)); have n6_ := A0k ((by rw [hg]; exact Nat.ne_of_gt (bL (g := gb132) (o := .cells #[.int .i64 a0_0, .slice (some ad133) l0_1.length c0_1] 26 (0, 0)) (by (with_reducible repeat first | apply bN | apply bD | apply bA); exact BK132.out)) : gb134 ≠ gb132)); clear BK132 HB; have BK132 := n0_; have HB := n1_; have BK134 := n2_; have GW134 := n3_; have GE134 := n4_; have NB132_134 := n5_; have NB134_132 := n6_; clear n0_ n1_ n2_ n3_ n4_ n5_ n6_ hb hbox hg; have hnb17 := NB134_132.out; have hnc17 := NB132_134.out; have hcz18_0 : w16.cell? ⟨gb134, 0, none⟩ = some (.int .i64 0) := (bC BK134.out 0).trans rfl; have hcz18_1 : w16.cell? ⟨gb134, 1, none⟩ = some (.int .i64 0) := (bC BK134.out 1).trans rfl; have hfz18_0 := bF BK134.out 0; have hfz18_1 := bF BK134.out 1))
       go_roundg k1
       case measure => have := HK1.out; omega
       case rel => exact ⟨(wrap64 (x6_1 + ((rd_T51 l0_1 x12_1).f1))), (wrap64 (x12_1 + 1)), (by first | rfl | (simp; done) | (simp [*]; done)), (by first | rfl | (simp; done) | (simp [*]; done)), H', ⟨by have := HK1.out; omega⟩, ⟨by (with_reducible repeat first | apply bN | apply bD | apply bA); refine bR ?_ NB132_134.out _; (with_reducible repeat first | apply bN | apply bD | apply bA); refine bR ?_ NB132_134.out _; (with_reducible repeat first | apply bN | apply bD | apply bA); exact BK132.out⟩, ⟨by repeat (first | (with_reducible first | exact HB.out | apply pA | apply pN | apply pD | refine bS ?_ GE132.out | refine bS ?_ GE134.out) | exact HB.out)⟩⟩
     ·rw [if_neg c7] at H
      exact absurd H (by simp)
    ·rw [if_neg c6] at H
     exact absurd H (by simp)
   ·rw [if_neg c5] at H
    have c5b0 : decide (x12_1 < (l0_1.length : Int)) = false := decide_eq_false c5
    clear c5
    simp only [Option.some.injEq, Prod.mk.injEq] at H
    obtain ⟨rfl, rfl⟩ := H
    go_wp2
    go_ret2
    exact ⟨by first | rfl | (simp [errW_none, errW_some] <;> rfl) | (simp [*, errW_none, errW_some] <;> rfl), by repeat (first | (with_reducible first | exact HB.out | apply pA | apply pN | apply pD | refine bS ?_ GE132.out) | exact HB.out)⟩

/-! ### inode_Size: function 19 -/
def inode_Size.l0 : Nat → Int → List (S51) → Int → Int → Option (Int)
 | 0, _, _, _, _ => none
 | k + 1, x3, x7, x8, x9 => if x9 < x8 then (if 0 ≤ x9 then (if x9 < (x7.length : Int) then (inode_Size.l0 k (wrap64 (x3 + ((rd_T51 x7 x9).f1))) x7 x8 (wrap64 (x9 + 1))) else (none)) else (none)) else (some x3)
def inode_Size.f (k : Nat) (a0_0 : Int) (l0_1 : List (S51)) : Option (Int) := inode_Size.l0 k 0 l0_1 (l0_1.length : Int) 0
set_option maxRecDepth 100000 in
theorem inode_Size.mono_l : ∀ k, (∀ y0 y1 y2 y3, LeO (inode_Size.l0 k y0 y1 y2 y3) (inode_Size.l0 (k + 1) y0 y1 y2 y3))
 | 0 => fun _ _ _ _ r h => by first | (rw [inode_Size.l0] at h; cases h) | simp [inode_Size.l0] at h
 | k + 1 => by
  have ih0 := inode_Size.mono_l k
  ·intro y0 y1 y2 y3
   unfold inode_Size.l0
   repeat' first
   | (with_reducible exact ih0 _ _ _ _)
   | (with_reducible exact LeO.refl _)
   | (with_reducible exact LeO.none _)
   | (with_reducible refine LeO.ite ?_ ?_)
   | (with_reducible refine LeO.bind ?_ (fun _ => ?_))
   | exact ih0 _ _ _ _
   | exact LeO.none _
   | refine LeO.ite ?_ ?_
   | refine LeO.bind ?_ (fun _ => ?_)
theorem inode_Size.mono : ∀ a0 a1 k, LeO (inode_Size.f k a0 a1) (inode_Size.f (k + 1) a0 a1) := by
 intro a0 a1 k
 have ih0 := inode_Size.mono_l k
 unfold inode_Size.f
 repeat' first
   | (with_reducible exact ih0 _ _ _ _)
   | (with_reducible exact LeO.refl _)
   | (with_reducible exact LeO.none _)
   | (with_reducible refine LeO.ite ?_ ?_)
   | (with_reducible refine LeO.bind ?_ (fun _ => ?_))
   | exact ih0 _ _ _ _
   | exact LeO.none _
   | refine LeO.ite ?_ ?_
   | refine LeO.bind ?_ (fun _ => ?_)
set_option maxHeartbeats 8000000 in
set_option maxRecDepth 100000 in
theorem inode_Size.calls (k : Nat) (a0_0 : Int) (A0_1 : Option Addr) (c0_1 : Nat) (l0_1 : List (S51)) (r : Int) (w : World) (hr0_1 : Kd.C k51 w A0_1 l0_1.length l0_1) (hc0_1 : l0_1.length ≤ c0_1) (h : inode_Size.f k a0_0 l0_1 = some r) :
  Calls Tryz.prog 19 #[.agg #[.int .i64 a0_0, .slice A0_1 l0_1.length c0_1]] w fun e w' => e = .returned (.int .i64 r) ∧ Below w.heap.size w w' := by
 have hu26 := Tryz.underlying26
 have hu51 := Tryz.underlying51
 have HR0_1 := A0k hr0_1
 have HC0_1 := A0k hc0_1
 clear hr0_1 hc0_1
 have HB := A0k (Below.refl w.heap.size w)
 have H : (inode_Size.l0 k 0 l0_1 (l0_1.length : Int) 0) = some r := h
 clear h
 have H' := A0k H
 clear H
 go_enter Tryz.func19, Tryz.ntmps19
 go_wp2_with (first | ((with_reducible refine gD (N := 1) rfl ?_); refine bE ?hg (N := 1) ?hd (cs := #[.int .i64 a0_0, .slice A0_1 l0_1.length c0_1]) (t := 26) ?hr ?_; (case hd => rfl); (case hg => rfl); (case hr => first | (go_simp; done) | (go_simp; rfl)); intro gb135 hg w2 hbox hb; have n0_ := A0k (pS (by repeat (first | (with_reducible first | exact HB.out | apply pA | apply pN | apply pD) | exact HB.out)) hb); have n1_ := A0k (hbox); have n2_ := A0k ((by rw [hg]; exact (pZ (by repeat (first | (with_reducible first | exact HB.out | apply pA | apply pN | apply pD) | exact HB.out))) : w.heap.size ≤ gb135)); have n3_ := A0k ((by rw [hg]; exact (pZ (by repeat (first | (with_reducible first | exact HB.out | apply pA | apply pN | apply pD) | exact HB.out))) : w.heap.size ≤ gb135)); clear HB; have HB := n0_; have BK135 := n1_; have GW135 := n2_; have GE135 := n3_; clear n0_ n1_ n2_ n3_ hb hbox hg; have hcz3_0 : w2.cell? ⟨gb135, 0, none⟩ = some (.int .i64 a0_0) := (bC BK135.out 0).trans rfl; have hcz3_1 : w2.cell? ⟨gb135, 1, none⟩ = some (.slice A0_1 l0_1.length c0_1) := (bC BK135.out 1).trans rfl; have hfz3_0 := bF BK135.out 0; have hfz3_1 := bF BK135.out 1))
 go_loopg [3, 9] k (fun kq v3 v9 w' => ∃ (x3_1 : Int) (x9_1 : Int), v3 = .int .i64 x3_1 ∧ v9 = .int .i64 x9_1 ∧ Aside0 (inode_Size.l0 kq x3_1 l0_1 (l0_1.length : Int) x9_1 = some r) ∧ Aside0 (kq ≤ k) ∧ Aside0 (w'.heap[gb135]? = some (.cells #[.int .i64 a0_0, (.slice A0_1 l0_1.length c0_1)] 26 (0, 0))) ∧ Aside0 (Below w.heap.size w w'))
 case atStart => exact ⟨(0), (0), (by first | rfl | (simp; done) | (simp [*]; done)), (by first | rfl | (simp; done) | (simp [*]; done)), H', ⟨Nat.le_refl _⟩, ⟨by (with_reducible repeat first | apply bN | apply bD | apply bA); exact BK135.out⟩, ⟨by repeat (first | (with_reducible first | exact HB.out | apply pA | apply pN | apply pD | refine bS ?_ GE135.out) | exact HB.out)⟩⟩
 case round =>
  clear H'
  (try clear c1); (try clear p2); (try clear hcz3_0); (try clear hcz3_1); (try clear hfz3_0); (try clear hfz3_1)
  obtain ⟨x3_1, x9_1, rfl, rfl, HA, HK1, BK135, HB⟩ := hrel
  cases gk with
  | zero => exact absurd HA.out (by simp [inode_Size.l0])
  | succ k1 =>
   have H := HA.out
   clear HA
   simp only [inode_Size.l0] at H
   by_cases c4 : x9_1 < (l0_1.length : Int)
   ·rw [if_pos c4] at H
    have c4b0 : decide (x9_1 < (l0_1.length : Int)) = true := decide_eq_true c4
    clear c4
    by_cases c5 : 0 ≤ x9_1
    ·rw [if_pos c5] at H
     have c5b0 : decide (0 ≤ x9_1) = true := decide_eq_true c5
     clear c5
     by_cases c6 : x9_1 < (l0_1.length : Int)
     ·rw [if_pos c6] at H
      have c6b0 : decide (x9_1 < (l0_1.length : Int)) = true := decide_eq_true c6
      clear c6
      have H' := A0k H
      clear H
      have p136 : 0 ≤ (x9_1 : Int) := of_decide_eq_true (by first | (with_reducible assumption) | assumption)
      have q136 : x9_1 < (l0_1.length : Int) := of_decide_eq_true (by first | (with_reducible assumption) | assumption)
      obtain ⟨ad136, e136, hx136_0, hx136_1⟩ := at_T51 HR0_1.out x9_1 p136 q136
      cases e136
      replace hx136_0 := (HB.out.cell (World.block_lt_of_cell? w _ hx136_0)).trans hx136_0
      replace hx136_1 := (HB.out.cell (World.block_lt_of_cell? w _ hx136_1)).trans hx136_1
      replace p136 := eq_true p136
      replace q136 := eq_true q136
      go_wp2_with (first | ((with_reducible refine gD (N := 5) rfl ?_); refine bE ?hg (N := 5) ?hd (cs := #[.int .i64 0, .int .i64 0]) (t := 51) ?hr ?_; (case hd => rfl); (case hg => rfl); (case hr => first | (go_simp; done) | (go_simp; rfl)); intro gb137 hg w7 hbox hb; have n0_ := A0k (bB (g := gb135) (o := .cells #[.int .i64 a0_0, .slice (some ad136) l0_1.length c0_1] 26 (0, 0)) (by (with_reducible repeat first | apply bN | apply bD | apply bA); exact BK135.out) hb); have n1_ := A0k (pS (by repeat (first | (with_reducible first | exact HB.out | apply pA | apply pN | apply pD | refine bS ?_ GE135.out) | exact HB.out)) hb); have n2_ := A0k (hbox); have n3_ := A0k ((by rw [hg]; exact (pZ (by repeat (first | (with_reducible first | exact HB.out | apply pA | apply pN | apply pD | refine bS ?_ GE135.out) | exact HB.out))) : w.heap.size ≤ gb137)); have n4_ := A0k ((by rw [hg]; exact (pZ (by repeat (first | (with_reducible first | exact HB.out | apply pA | apply pN | apply pD | refine bS ?_ GE135.out) | exact HB.out))) : w.heap.size ≤ gb137)); have n5_ := A0k ((by rw [hg]; exact Nat.ne_of_lt (bL (g := gb135) (o := .cells #[.int .i64 a0_0, .slice (some ad136) l0_1.length c0_1] 26 (0, 0)) (by (with_reducible repeat first | apply bN | apply bD | apply bA); exact BK135.out)) : gb135 ≠ gb137)); have n6_ := A0k ((by rw [hg]; exact Nat.ne_of_gt (bL (g := gb135) (o := .cells #[.int .i64 a0_0, .slice (some ad136) l0_1.length c0_1] 26 (0, 0)) (by (with_reducible repeat first | apply bN | apply bD | apply bA); exact BK135.out)) : gb137 ≠ gb135)); clear BK135 HB; have BK135 := n0_; have HB := n1_; have BK137 := n2_; have GW137 := n3_; have GE137 := n4_; have NB135_137 := n5_; have NB137_135 := n6_; clear n0_ n1_ n2_ n3_ n4_ n5_ n6_ hb hbox hg; have hnb8 := NB137_135.out; have hnc8 := NB135_137.out; have hcz9_0 : w7.cell? ⟨gb137, 0, none⟩ = some (.int .i64 0) := (bC BK137.out 0).trans rfl; have hcz9_1 : w7.cell? ⟨gb137, 1, none⟩ = some (.int .i64 0) := (bC BK137.out 1).trans rfl; have hfz9_0 := bF BK137.out 0; have hfz9_1 := bF BK137.out 1))
      go_roundg k1
      case measure => have := HK1.out; omega
      case rel => exact ⟨(wrap64 (x3_1 + ((rd_T51 l0_1 x9_1).f1))), (wrap64 (x9_1 + 1)), (by first | rfl | (simp; done) | (simp [*]; done)), (by first | rfl | (simp; done) | (simp [*]; done)), H', ⟨by have := HK1.out; omega⟩, ⟨by (with_reducible repeat first | apply bN | apply bD | apply bA); refine bR ?_ NB135_137.out _; (with_reducible repeat first | apply bN | apply bD | apply bA); refine bR ?_ NB135_137.out _; (with_reducible repeat first | apply bN | apply bD | apply bA); exact BK135.out⟩, ⟨by repeat (first | (with_reducible first | exact HB.out | apply pA | apply pN | apply pD | refine bS ?_ GE135.out | refine bS ?_ GE137.out) | exact HB.out)⟩⟩
     ·rw [if_neg c6] at H
      exact absurd H (by simp)
    ·rw [if_neg c5] at H
     exact absurd H (by simp)
   ·rw [if_neg c4] at H
    have c4b0 : decide (x9_1 < (l0_1.length : Int)) = false := decide_eq_false c4
    clear c4
    obtain rfl := Option.some.inj H
    go_wp2
    go_ret
    exact ⟨by first | rfl | (simp [errW_none, errW_some] <;> rfl) | (simp [*, errW_none, errW_some] <;> rfl), by repeat (first | (with_reducible first | exact HB.out | apply pA | apply pN | apply pD | refine bS ?_ GE135.out) | exact HB.out)⟩

/-! ### posthorselaw08_speaks: function 5 -/
def posthorselaw08_speaks.f (k : Nat)  : Option (Bool) := (inode_Grow.f k 0 ([] : List (S51)) 10 2).bind fun bt138 => ((inode_Grow.f k bt138.1 bt138.2.1 20 3).bind fun bt144 => ((inode_Map.f k bt144.1 bt144.2.1 3).bind fun bt150 => ((inode_Block.f k bt144.1 bt144.2.1 21).bind fun bt152 => (if bt138.2.2.isNone = true then (if bt144.2.2.isNone = true then (if bt150.2 = true then (if bt152.2 = true then (if bt150.1 = 21 then (if bt152.1 = 3 then ((inode_Size.f k bt144.1 bt144.2.1).bind fun t156 => (if t156 = 5 then (some (bt144.1 == 2)) else (none))) else (none)) else (none)) else (none)) else (none)) else (none)) else (none)))))
theorem posthorselaw08_speaks.mono : ∀ k, LeO (posthorselaw08_speaks.f k ) (posthorselaw08_speaks.f (k + 1) ) := by
 intro  k
 unfold posthorselaw08_speaks.f
 repeat' first
   | (with_reducible exact inode_Block.mono _ _ _ _)
   | (with_reducible exact inode_Grow.mono _ _ _ _ _)
   | (with_reducible exact inode_Map.mono _ _ _ _)
   | (with_reducible exact inode_Size.mono _ _ _)
   | (with_reducible exact LeO.refl _)
   | (with_reducible exact LeO.none _)
   | (with_reducible refine LeO.ite ?_ ?_)
   | (with_reducible refine LeO.bind ?_ (fun _ => ?_))
   | exact inode_Block.mono _ _ _ _
   | exact inode_Grow.mono _ _ _ _ _
   | exact inode_Map.mono _ _ _ _
   | exact inode_Size.mono _ _ _
   | exact LeO.none _
   | refine LeO.ite ?_ ?_
   | refine LeO.bind ?_ (fun _ => ?_)
set_option maxHeartbeats 8000000 in
set_option maxRecDepth 100000 in
theorem posthorselaw08_speaks.calls (k : Nat)  (r : Bool) (w : World) (h : posthorselaw08_speaks.f k  = some r) :
  Calls Tryz.prog 5 #[] w fun e w' => e = .returned (.bool r) ∧ Below w.heap.size w w' := by
 have hu26 := Tryz.underlying26
 have hu51 := Tryz.underlying51
 have hu33 := Tryz.underlying33
 have hu57 := Tryz.underlying57
 have HB := A0k (Below.refl w.heap.size w)
 have H : ((inode_Grow.f k 0 ([] : List (S51)) 10 2).bind fun bt138 => ((inode_Grow.f k bt138.1 bt138.2.1 20 3).bind fun bt144 => ((inode_Map.f k bt144.1 bt144.2.1 3).bind fun bt150 => ((inode_Block.f k bt144.1 bt144.2.1 21).bind fun bt152 => (if bt138.2.2.isNone = true then (if bt144.2.2.isNone = true then (if bt150.2 = true then (if bt152.2 = true then (if bt150.1 = 21 then (if bt152.1 = 3 then ((inode_Size.f k bt144.1 bt144.2.1).bind fun t156 => (if t156 = 5 then (some (bt144.1 == 2)) else (none))) else (none)) else (none)) else (none)) else (none)) else (none)) else (none)))))) = some r := h
 clear h
 replace H := Option.bind_eq_some_iff.mp H
 obtain ⟨⟨t138, t139, t142⟩, A10, H⟩ := H
 replace H : ((inode_Grow.f k t138 t139 20 3).bind fun bt144 => ((inode_Map.f k bt144.1 bt144.2.1 3).bind fun bt150 => ((inode_Block.f k bt144.1 bt144.2.1 21).bind fun bt152 => (if t142.isNone = true then (if bt144.2.2.isNone = true then (if bt150.2 = true then (if bt152.2 = true then (if bt150.1 = 21 then (if bt152.1 = 3 then ((inode_Size.f k bt144.1 bt144.2.1).bind fun t156 => (if t156 = 5 then (some (bt144.1 == 2)) else (none))) else (none)) else (none)) else (none)) else (none)) else (none)) else (none))))) = some r := H
 have A1 := A0k A10
 clear A10
 replace H := Option.bind_eq_some_iff.mp H
 obtain ⟨⟨t144, t145, t148⟩, A20, H⟩ := H
 replace H : ((inode_Map.f k t144 t145 3).bind fun bt150 => ((inode_Block.f k t144 t145 21).bind fun bt152 => (if t142.isNone = true then (if t148.isNone = true then (if bt150.2 = true then (if bt152.2 = true then (if bt150.1 = 21 then (if bt152.1 = 3 then ((inode_Size.f k t144 t145).bind fun t156 => (if t156 = 5 then (some (t144 == 2)) else (none))) else (none)) else (none)) else (none)) else (none)) else (none)) else (none)))) = some r := H
 have A2 := A0k A20
 clear A20
 replace H := Option.bind_eq_some_iff.mp H
 obtain ⟨⟨t150, t151⟩, A30, H⟩ := H
 replace H : ((inode_Block.f k t144 t145 21).bind fun bt152 => (if t142.isNone = true then (if t148.isNone = true then (if t151 = true then (if bt152.2 = true then (if t150 = 21 then (if bt152.1 = 3 then ((inode_Size.f k t144 t145).bind fun t156 => (if t156 = 5 then (some (t144 == 2)) else (none))) else (none)) else (none)) else (none)) else (none)) else (none)) else (none))) = some r := H
 have A3 := A0k A30
 clear A30
 replace H := Option.bind_eq_some_iff.mp H
 obtain ⟨⟨t152, t153⟩, A40, H⟩ := H
 replace H : (if t142.isNone = true then (if t148.isNone = true then (if t151 = true then (if t153 = true then (if t150 = 21 then (if t152 = 3 then ((inode_Size.f k t144 t145).bind fun t156 => (if t156 = 5 then (some (t144 == 2)) else (none))) else (none)) else (none)) else (none)) else (none)) else (none)) else (none)) = some r := H
 have A4 := A0k A40
 clear A40
 rcases t142 with _ | q154
 ·have H1 : (if t148.isNone = true then (if t151 = true then (if t153 = true then (if t150 = 21 then (if t152 = 3 then ((inode_Size.f k t144 t145).bind fun t156 => (if t156 = 5 then (some (t144 == 2)) else (none))) else (none)) else (none)) else (none)) else (none)) else (none)) = some r := by rw [if_pos (show (none : Option Int).isNone = true by rfl)] at H; exact H
  clear H
  have H := H1
  clear H1
  try simp only [errW_none, errW_some]
  rcases t148 with _ | q155
  ·have H1 : (if t151 = true then (if t153 = true then (if t150 = 21 then (if t152 = 3 then ((inode_Size.f k t144 t145).bind fun t156 => (if t156 = 5 then (some (t144 == 2)) else (none))) else (none)) else (none)) else (none)) else (none)) = some r := by rw [if_pos (show (none : Option Int).isNone = true by rfl)] at H; exact H
   clear H
   have H := H1
   clear H1
   try simp only [errW_none, errW_some]
   by_cases c5 : t151 = true
   ·subst c5
    have H1 : (if t153 = true then (if t150 = 21 then (if t152 = 3 then ((inode_Size.f k t144 t145).bind fun t156 => (if t156 = 5 then (some (t144 == 2)) else (none))) else (none)) else (none)) else (none)) = some r := by rw [if_pos rfl] at H; exact H
    clear H
    have H := H1
    clear H1
    by_cases c6 : t153 = true
    ·subst c6
     have H1 : (if t150 = 21 then (if t152 = 3 then ((inode_Size.f k t144 t145).bind fun t156 => (if t156 = 5 then (some (t144 == 2)) else (none))) else (none)) else (none)) = some r := by rw [if_pos rfl] at H; exact H
     clear H
     have H := H1
     clear H1
     by_cases c7 : t150 = 21
     ·rw [if_pos c7] at H
      have c7b0 : (t150 == 21) = true := beq_iff_eq.mpr c7
      have c7b1 : (t150 != 21) = false := bne_eq_false_iff_eq.mpr c7
      clear c7
      by_cases c8 : t152 = 3
      ·rw [if_pos c8] at H
       have c8b0 : (t152 == 3) = true := beq_iff_eq.mpr c8
       have c8b1 : (t152 != 3) = false := bne_eq_false_iff_eq.mpr c8
       clear c8
       replace H := Option.bind_eq_some_iff.mp H
       obtain ⟨t156, A90, H⟩ := H
       replace H : (if t156 = 5 then (some (t144 == 2)) else (none)) = some r := H
       have A9 := A0k A90
       clear A90
       by_cases c10 : t156 = 5
       ·rw [if_pos c10] at H
        have c10b0 : (t156 == 5) = true := beq_iff_eq.mpr c10
        have c10b1 : (t156 != 5) = false := bne_eq_false_iff_eq.mpr c10
        clear c10
        obtain rfl := Option.some.inj H
        go_enter Tryz.func5, Tryz.ntmps5
        go_wp2_with (first | ((with_reducible refine gC (f := 16) rfl ?_); refine gL_ (some 12) rfl rfl Tryz.func16 (by kernel_rfl) rfl #[.agg #[.int .i64 0, .slice none 0 0], .agg #[.int .i64 10, .int .i64 2]] rfl (by (try simp only [List.map_toArray, List.map_cons, List.map_nil]); first | done | rfl | (simp only [List.length_drop, List.length_take]; rfl)) ?_; (refine (inode_Grow.calls k 0 _ _ ([] : List (S51)) 10 2 t138 t139 none _ ?side1 ?side2 A1.out).mono ?_); (case side1 => exact Kd.C_nil _ _); (case side2 => exact Nat.le_refl _); rintro e w11 ⟨v140, rfl, ho0, hb⟩; refine ⟨_, rfl, ?_⟩; have n0_ := A0k (Kd.R_lower ho0 (pZ (by repeat (first | (with_reducible first | exact HB.out | apply pA | apply pN | apply pD) | exact HB.out)))); have n1_ := A0k (pS (by repeat (first | (with_reducible first | exact HB.out | apply pA | apply pN | apply pD) | exact HB.out)) hb); clear HB; have HO141 := n0_; have HB := n1_; clear n0_ n1_; (try clear hb); (try clear hb2); (try clear hk); (try clear hi); (try clear ho0); (try simp only [errW_none, errW_some])) | ((with_reducible refine gD (N := 1) rfl ?_); refine bE ?hg (N := 1) ?hd (cs := #[.int .i64 0, .slice none 0 0]) (t := 26) ?hr ?_; (case hd => rfl); (case hg => rfl); (case hr => first | (go_simp; done) | (go_simp; rfl)); intro gb143 hg w12 hbox hb; have n0_ := A0k (Kd.R_below (by (with_reducible repeat first | apply rA | apply rN | apply rD); exact HO141.out) hb); have n1_ := A0k (pS (by repeat (first | (with_reducible first | exact HB.out | apply pA | apply pN | apply pD) | exact HB.out)) hb); have n2_ := A0k (hbox); have n3_ := A0k ((by rw [hg]; exact (pZ (by repeat (first | (with_reducible first | exact HB.out | apply pA | apply pN | apply pD) | exact HB.out))) : w.heap.size ≤ gb143)); have n4_ := A0k ((by rw [hg]; exact (pZ (by repeat (first | (with_reducible first | exact HB.out | apply pA | apply pN | apply pD) | exact HB.out))) : w.heap.size ≤ gb143)); clear HO141 HB; have HO141 := n0_; have HB := n1_; have BK143 := n2_; have GW143 := n3_; have GE143 := n4_; clear n0_ n1_ n2_ n3_ n4_ hb hbox hg; have hcz13_0 : w12.cell? ⟨gb143, 0, none⟩ = some (.int .i64 0) := (bC BK143.out 0).trans rfl; have hcz13_1 : w12.cell? ⟨gb143, 1, none⟩ = some (.slice none 0 0) := (bC BK143.out 1).trans rfl; have hfz13_0 := bF BK143.out 0; have hfz13_1 := bF BK143.out 1; obtain ⟨Ao14, co14, eo14⟩ := Kd.R_slice HO141.out; subst eo14) | ((with_reducible refine gC (f := 16) rfl ?_); refine gL_ (some 18) rfl rfl Tryz.func16 (by kernel_rfl) rfl #[.agg #[.int .i64 t138, .slice Ao14 t139.length co14], .agg #[.int .i64 20, .int .i64 3]] rfl (by (try simp only [List.map_toArray, List.map_cons, List.map_nil]); first | done | rfl | (simp only [List.length_drop, List.length_take]; rfl)) ?_; (with_reducible refine (inode_Grow.calls k t138 _ _ t139 20 3 t144 t145 none _ ?side1 ?side2 A2.out).mono ?_); (case side1 => refine (Kd.R_reads' (e := 51) (base := w.heap.size) (ok := fun k_ => True) (n := t139.length) (c := co14) ?_).2.2; exact (by (with_reducible repeat first | apply rA | apply rN | apply rD); exact (Kd.R_mono (Kd.R_far (p := ⟨gb143, 1, none⟩) (Kd.R_far (p := ⟨gb143, 0, none⟩) (Kd.R_types HO141.out BK143.out (by decide)) (fun _ hk => hk.2) (.int .i64 t138)) (fun _ hk => hk.2) (.slice Ao14 t139.length co14)) (fun _ h_ => h_.1)))); (case side2 => exact (Kd.R_reads' HO141.out).2.1); rintro e w15 ⟨v146, rfl, ho0, hb⟩; refine ⟨_, rfl, ?_⟩; have n0_ := A0k (Kd.R_elder' (by (with_reducible repeat first | apply rA | apply rN | apply rD); exact (Kd.R_mono (Kd.R_far (p := ⟨gb143, 1, none⟩) (Kd.R_far (p := ⟨gb143, 0, none⟩) (Kd.R_types HO141.out BK143.out (by decide)) (fun _ hk => hk.2) (.int .i64 t138)) (fun _ hk => hk.2) (.slice Ao14 t139.length co14)) (fun _ h_ => h_.1))) (Kd.R_base ho0) hb); have n1_ := A0k (Kd.R_lower (Kd.R_new' ho0 (Kd.R_lt (by (with_reducible repeat first | apply rA | apply rN | apply rD); exact (Kd.R_mono (Kd.R_far (p := ⟨gb143, 1, none⟩) (Kd.R_far (p := ⟨gb143, 0, none⟩) (Kd.R_types HO141.out BK143.out (by decide)) (fun _ hk => hk.2) (.int .i64 t138)) (fun _ hk => hk.2) (.slice Ao14 t139.length co14)) (fun _ h_ => h_.1))))) (pZ (by repeat (first | (with_reducible first | exact HB.out | apply pA | apply pN | apply pD | refine bS ?_ GE143.out) | exact HB.out)))); have n2_ := A0k (bB (g := gb143) (o := .cells #[.int .i64 t138, .slice Ao14 t139.length co14] 26 (0, 0)) (by (with_reducible repeat first | apply bN | apply bD | apply bA); refine bP (cs := #[.int .i64 t138, .slice none 0 0]) ?_ 1 _ rfl; (with_reducible repeat first | apply bN | apply bD | apply bA); refine bP (cs := #[.int .i64 0, .slice none 0 0]) ?_ 0 _ rfl; (with_reducible repeat first | apply bN | apply bD | apply bA); exact BK143.out) hb); have n3_ := A0k (pS (by repeat (first | (with_reducible first | exact HB.out | apply pA | apply pN | apply pD | refine bS ?_ GE143.out) | exact HB.out)) hb); clear HO141 BK143 HB; have HO141 := n0_; have HO147 := n1_; have BK143 := n2_; have HB := n3_; clear n0_ n1_ n2_ n3_; (try clear hb); (try clear hb2); (try clear hk); (try clear hi); (try clear ho0); (try simp only [errW_none, errW_some])) | ((with_reducible refine gD (N := 3) rfl ?_); refine bE ?hg (N := 3) ?hd (cs := #[.int .i64 0, .slice none 0 0]) (t := 26) ?hr ?_; (case hd => rfl); (case hg => rfl); (case hr => first | (go_simp; done) | (go_simp; rfl)); intro gb149 hg w16 hbox hb; have n0_ := A0k (Kd.R_below (by (with_reducible repeat first | apply rA | apply rN | apply rD); exact HO141.out) hb); have n1_ := A0k (Kd.R_below (by (with_reducible repeat first | apply rA | apply rN | apply rD); exact HO147.out) hb); have n2_ := A0k (bB (g := gb143) (o := .cells #[.int .i64 t138, .slice Ao14 t139.length co14] 26 (0, 0)) (by (with_reducible repeat first | apply bN | apply bD | apply bA); exact BK143.out) hb); have n3_ := A0k (pS (by repeat (first | (with_reducible first | exact HB.out | apply pA | apply pN | apply pD | refine bS ?_ GE143.out) | exact HB.out)) hb); have n4_ := A0k (hbox); have n5_ := A0k ((by rw [hg]; exact (pZ (by repeat (first | (with_reducible first | exact HB.out | apply pA | apply pN | apply pD | refine bS ?_ GE143.out) | exact HB.out))) : w.heap.size ≤ gb149)); have n6_ := A0k ((by rw [hg]; exact (pZ (by repeat (first | (with_reducible first | exact HB.out | apply pA | apply pN | apply pD | refine bS ?_ GE143.out) | exact HB.out))) : w.heap.size ≤ gb149)); have n7_ := A0k ((by rw [hg]; exact Nat.ne_of_lt (bL (g := gb143) (o := .cells #[.int .i64 t138, .slice Ao14 t139.length co14] 26 (0, 0)) (by (with_reducible repeat first | apply bN | apply bD | apply bA); exact BK143.out)) : gb143 ≠ gb149)); have n8_ := A0k ((by rw [hg]; exact Nat.ne_of_gt (bL (g := gb143) (o := .cells #[.int .i64 t138, .slice Ao14 t139.length co14] 26 (0, 0)) (by (with_reducible repeat first | apply bN | apply bD | apply bA); exact BK143.out)) : gb149 ≠ gb143)); clear HO141 HO147 BK143 HB; have HO141 := n0_; have HO147 := n1_; have BK143 := n2_; have HB := n3_; have BK149 := n4_; have GW149 := n5_; have GE149 := n6_; have NB143_149 := n7_; have NB149_143 := n8_; clear n0_ n1_ n2_ n3_ n4_ n5_ n6_ n7_ n8_ hb hbox hg; have hnb17 := NB149_143.out; have hnc17 := NB143_149.out; have hcz18_0 : w16.cell? ⟨gb149, 0, none⟩ = some (.int .i64 0) := (bC BK149.out 0).trans rfl; have hcz18_1 : w16.cell? ⟨gb149, 1, none⟩ = some (.slice none 0 0) := (bC BK149.out 1).trans rfl; have hfz18_0 := bF BK149.out 0; have hfz18_1 := bF BK149.out 1; obtain ⟨Ao19, co19, eo19⟩ := Kd.R_slice HO147.out; subst eo19) | ((with_reducible refine gC (f := 17) rfl ?_); refine gL_ (some 23) rfl rfl Tryz.func17 (by kernel_rfl) rfl #[.agg #[.int .i64 t144, .slice Ao19 t145.length co19], .int .i64 3] rfl (by (try simp only [List.map_toArray, List.map_cons, List.map_nil]); first | done | rfl | (simp only [List.length_drop, List.length_take]; rfl)) ?_; (with_reducible refine (inode_Map.calls k t144 _ _ t145 3 t150 true _ ?side1 ?side2 A3.out).mono ?_); (case side1 => refine (Kd.R_reads' (e := 51) (base := w.heap.size) (ok := fun k_ => (True ∧ some k_ ≠ (.slice Ao14 t139.length co14 : Value).ownBlock)) (n := t145.length) (c := co19) ?_).2.2; exact (by (with_reducible repeat first | apply rA | apply rN | apply rD); exact (Kd.R_mono (Kd.R_far (p := ⟨gb149, 1, none⟩) (Kd.R_far (p := ⟨gb149, 0, none⟩) (Kd.R_types HO147.out BK149.out (by decide)) (fun _ hk => hk.2) (.int .i64 t144)) (fun _ hk => hk.2) (.slice Ao19 t145.length co19)) (fun _ h_ => h_.1)))); (case side2 => exact (Kd.R_reads' HO147.out).2.1); rintro e w20 ⟨rfl, hb⟩; refine ⟨_, rfl, ?_⟩; have n0_ := A0k (Kd.R_below (by (with_reducible repeat first | apply rA | apply rN | apply rD); exact (Kd.R_mono (Kd.R_far (p := ⟨gb149, 1, none⟩) (Kd.R_far (p := ⟨gb149, 0, none⟩) (Kd.R_types HO141.out BK149.out (by decide)) (fun _ hk => hk.2) (.int .i64 t144)) (fun _ hk => hk.2) (.slice Ao19 t145.length co19)) (fun _ h_ => h_.1))) hb); have n1_ := A0k (Kd.R_below (by (with_reducible repeat first | apply rA | apply rN | apply rD); exact (Kd.R_mono (Kd.R_far (p := ⟨gb149, 1, none⟩) (Kd.R_far (p := ⟨gb149, 0, none⟩) (Kd.R_types HO147.out BK149.out (by decide)) (fun _ hk => hk.2) (.int .i64 t144)) (fun _ hk => hk.2) (.slice Ao19 t145.length co19)) (fun _ h_ => h_.1))) hb); have n2_ := A0k (bB (g := gb143) (o := .cells #[.int .i64 t138, .slice Ao14 t139.length co14] 26 (0, 0)) (by (with_reducible repeat first | apply bN | apply bD | apply bA); refine bR ?_ NB143_149.out _; (with_reducible repeat first | apply bN | apply bD | apply bA); refine bR ?_ NB143_149.out _; (with_reducible repeat first | apply bN | apply bD | apply bA); exact BK143.out) hb); have n3_ := A0k (bB (g := gb149) (o := .cells #[.int .i64 t144, .slice Ao19 t145.length co19] 26 (0, 0)) (by (with_reducible repeat first | apply bN | apply bD | apply bA); refine bP (cs := #[.int .i64 t144, .slice none 0 0]) ?_ 1 _ rfl; (with_reducible repeat first | apply bN | apply bD | apply bA); refine bP (cs := #[.int .i64 0, .slice none 0 0]) ?_ 0 _ rfl; (with_reducible repeat first | apply bN | apply bD | apply bA); exact BK149.out) hb); have n4_ := A0k (pS (by repeat (first | (with_reducible first | exact HB.out | apply pA | apply pN | apply pD | refine bS ?_ GE143.out | refine bS ?_ GE149.out) | exact HB.out)) hb); clear HO141 HO147 BK143 BK149 HB; have HO141 := n0_; have HO147 := n1_; have BK143 := n2_; have BK149 := n3_; have HB := n4_; clear n0_ n1_ n2_ n3_ n4_; (try clear hb); (try clear hb2); (try clear hk); (try clear hi); have hcz21_0 : w20.cell? ⟨gb149, 0, none⟩ = some (.int .i64 t144) := (bC BK149.out 0).trans rfl; have hcz21_1 : w20.cell? ⟨gb149, 1, none⟩ = some (.slice Ao19 t145.length co19) := (bC BK149.out 1).trans rfl; have hfz21_0 := bF BK149.out 0; have hfz21_1 := bF BK149.out 1) | ((with_reducible refine gC (f := 18) rfl ?_); refine gL_ (some 28) rfl rfl Tryz.func18 (by kernel_rfl) rfl #[.agg #[.int .i64 t144, .slice Ao19 t145.length co19], .int .i64 21] rfl (by (try simp only [List.map_toArray, List.map_cons, List.map_nil]); first | done | rfl | (simp only [List.length_drop, List.length_take]; rfl)) ?_; (with_reducible refine (inode_Block.calls k t144 _ _ t145 21 t152 true _ ?side1 ?side2 A4.out).mono ?_); (case side1 => repeat (first | exact (Kd.R_reads' HO147.out).2.2 | (with_reducible refine Kd.C_alloc ?_ _) | (with_reducible refine Kd.C_drewN ?_ _) | (with_reducible refine Kd.C_drew ?_))); (case side2 => exact (Kd.R_reads' HO147.out).2.1); rintro e w22 ⟨rfl, hb⟩; refine ⟨_, rfl, ?_⟩; have n0_ := A0k (Kd.R_below (by (with_reducible repeat first | apply rA | apply rN | apply rD); exact HO141.out) hb); have n1_ := A0k (Kd.R_below (by (with_reducible repeat first | apply rA | apply rN | apply rD); exact HO147.out) hb); have n2_ := A0k (bB (g := gb143) (o := .cells #[.int .i64 t138, .slice Ao14 t139.length co14] 26 (0, 0)) (by (with_reducible repeat first | apply bN | apply bD | apply bA); exact BK143.out) hb); have n3_ := A0k (bB (g := gb149) (o := .cells #[.int .i64 t144, .slice Ao19 t145.length co19] 26 (0, 0)) (by (with_reducible repeat first | apply bN | apply bD | apply bA); exact BK149.out) hb); have n4_ := A0k (pS (by repeat (first | (with_reducible first | exact HB.out | apply pA | apply pN | apply pD | refine bS ?_ GE143.out | refine bS ?_ GE149.out) | exact HB.out)) hb); clear HO141 HO147 BK143 BK149 HB; have HO141 := n0_; have HO147 := n1_; have BK143 := n2_; have BK149 := n3_; have HB := n4_; clear n0_ n1_ n2_ n3_ n4_; (try clear hb); (try clear hb2); (try clear hk); (try clear hi); have hcz23_0 : w22.cell? ⟨gb149, 0, none⟩ = some (.int .i64 t144) := (bC BK149.out 0).trans rfl; have hcz23_1 : w22.cell? ⟨gb149, 1, none⟩ = some (.slice Ao19 t145.length co19) := (bC BK149.out 1).trans rfl; have hfz23_0 := bF BK149.out 0; have hfz23_1 := bF BK149.out 1) | (go_at_call 19; (with_reducible refine (inode_Size.calls k t144 _ _ t145 t156 _ ?side1 ?side2 A9.out).mono ?_); (case side1 => repeat (first | exact (Kd.R_reads' HO147.out).2.2 | (with_reducible refine Kd.C_alloc ?_ _) | (with_reducible refine Kd.C_drewN ?_ _) | (with_reducible refine Kd.C_drew ?_))); (case side2 => exact (Kd.R_reads' HO147.out).2.1); rintro e w24 ⟨rfl, hb⟩; have n0_ := A0k (Kd.R_below (by (with_reducible repeat first | apply rA | apply rN | apply rD); exact HO141.out) hb); have n1_ := A0k (Kd.R_below (by (with_reducible repeat first | apply rA | apply rN | apply rD); exact HO147.out) hb); have n2_ := A0k (bB (g := gb143) (o := .cells #[.int .i64 t138, .slice Ao14 t139.length co14] 26 (0, 0)) (by (with_reducible repeat first | apply bN | apply bD | apply bA); exact BK143.out) hb); have n3_ := A0k (bB (g := gb149) (o := .cells #[.int .i64 t144, .slice Ao19 t145.length co19] 26 (0, 0)) (by (with_reducible repeat first | apply bN | apply bD | apply bA); exact BK149.out) hb); have n4_ := A0k (pS (by repeat (first | (with_reducible first | exact HB.out | apply pA | apply pN | apply pD | refine bS ?_ GE143.out | refine bS ?_ GE149.out) | exact HB.out)) hb); clear HO141 HO147 BK143 BK149 HB; have HO141 := n0_; have HO147 := n1_; have BK143 := n2_; have BK149 := n3_; have HB := n4_; clear n0_ n1_ n2_ n3_ n4_; (try clear hb); (try clear hb2); (try clear hk); (try clear hi); have hcz25_0 : w24.cell? ⟨gb149, 0, none⟩ = some (.int .i64 t144) := (bC BK149.out 0).trans rfl; have hcz25_1 : w24.cell? ⟨gb149, 1, none⟩ = some (.slice Ao19 t145.length co19) := (bC BK149.out 1).trans rfl; have hfz25_0 := bF BK149.out 0; have hfz25_1 := bF BK149.out 1))
        go_ret
        exact ⟨by first | rfl | (simp [errW_none, errW_some] <;> rfl) | (simp [*, errW_none, errW_some] <;> rfl), by repeat (first | (with_reducible first | exact HB.out | apply pA | apply pN | apply pD | refine bS ?_ GE143.out | refine bS ?_ GE149.out) | exact HB.out)⟩
       ·rw [if_neg c10] at H
        exact absurd H (by simp)
      ·rw [if_neg c8] at H
       exact absurd H (by simp)
     ·rw [if_neg c7] at H
      exact absurd H (by simp)
    ·replace c6 := Bool.eq_false_iff.mpr c6
     subst c6
     have H1 : (none) = some r := by rw [if_neg (show ¬ (false = true) by decide)] at H; exact H
     clear H
     have H := H1
     clear H1
     exact absurd H (by simp)
   ·replace c5 := Bool.eq_false_iff.mpr c5
    subst c5
    have H1 : (none) = some r := by rw [if_neg (show ¬ (false = true) by decide)] at H; exact H
    clear H
    have H := H1
    clear H1
    exact absurd H (by simp)
  ·have H1 : (none) = some r := by rw [if_neg (show ¬ (some q155).isNone = true by simp)] at H; exact H
   clear H
   have H := H1
   clear H1
   try simp only [errW_none, errW_some]
   exact absurd H (by simp)
 ·have H1 : (none) = some r := by rw [if_neg (show ¬ (some q154).isNone = true by simp)] at H; exact H
  clear H
  have H := H1
  clear H1
  try simp only [errW_none, errW_some]
  exact absurd H (by simp)

end Go.Proofs.YtmncfcebjohloaaGreatDoor.VInodePuts
