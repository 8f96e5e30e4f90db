/- Contracts of functions of this seat: each call comes to what its Lean function computes; no condition beyond what each theorem states. Printed by a program of this session's own laid over the kit's printer. -/
import Derived.Test.YtmncfcebjohloaaDoorVInodePlaysx0
import Derived.Test.YtmncfcebjohloaaDoorVInodePlaysx3
import Derived.Test.YtmncfcebjohloaaDoorVInodePlaysx4
import Derived.Test.YtmncfcebjohloaaDoorVInodePlaysx5
import Derived.Test.YtmncfcebjohloaaDoorVInodePlaysx8
namespace Go.Proofs.YtmncfcebjohloaaDoor.VInodePlays
open Go.RowKit Go.Proofs.YtmncfcebjohloaaDoorW.PrintWords Go.Proofs.YtmncfcebjohloaaDoorW.PrintLast Go.Proofs.YtmncfcebjohloaaDoorW.PrintMore
attribute [local go_sem] max2_int min2_int max_two min_two max_three min_three max_four min_four   -- for this text's walks alone
open Go.Proofs.YtmncfcebjohloaaDoorW.PrintWords.Kd renaming R_alloc → rA
open Go.Proofs.YtmncfcebjohloaaDoorW.PrintWords.Kd renaming R_drewN → rN
open Go.Proofs.YtmncfcebjohloaaDoorW.PrintWords.Kd renaming R_drew → rD
open List renaming setIfInBounds_toArray → lS, set_cons_zero → lZ, set_cons_succ → lC
open Bool renaming true → T, false → F
open Go.Proofs.YtmncfcebjohloaaDoorW.PrintLast renaming goesL_ → gL_
open Go.Proofs.YtmncfcebjohloaaDoorW.PrintWords renaming blk_drewN → bN, blk_drew → bD, blk_alloc → bA, below_set → bS, pw_below_drewN → pN, below_drew1 → pD, below_alloc → pA, below_step → pS, below_size → pZ, blk_frozen → bF, blk_cell → bC, blk_below → bB, blk_far → bR, blk_put → bP, blk_lt → bL, gate_dst → gD, gate_guard → gG, gate_callee → gC, cell_far → cF, box_event → bE
open Go.Proofs.YtmncfcebjohloaaDoorW.PrintWords.Aside0 renaming mk → A0k
set_option linter.unusedVariables false
set_option linter.unusedSimpArgs false

/-! ### inode_Move: function 9 -/
mutual
def inode_Move.j0 : Nat → Int → Int → Bool → Int → List (S40) → Option (Int × (List (S40)) × Int × Int × Option Int)
 | 0, _, _, _, _, _ => none
 | k + 1, x1, x2, x20, x199000, x199001 => if x20 = true then (some (0, ([] : List (S40)), 0, 0, some 1)) else (if 0 ≤ x1 then (if x1 < (x199001.length : Int) then ((inode_Extent_there.f x2 ((rd_T40 x199001 x1).f1) 2048).bind fun t204 => (if t204 = true then ((inode_Inode_meets.f x199000 x199001 x2 ((rd_T40 x199001 x1).f1)).bind fun t205 => (inode_Move.j1 k x1 t205 x199000 x199001 ((rd_T40 x199001 x1).f0) ((rd_T40 x199001 x1).f1) x2 ((rd_T40 x199001 x1).f1))) else (inode_Move.j1 k x1 true x199000 x199001 ((rd_T40 x199001 x1).f0) ((rd_T40 x199001 x1).f1) x2 ((rd_T40 x199001 x1).f1)))) else (none)) else (none))
def inode_Move.j1 : Nat → Int → Bool → Int → List (S40) → Int → Int → Int → Int → Option (Int × (List (S40)) × Int × Int × Option Int)
 | 0, _, _, _, _, _, _, _, _ => none
 | k + 1, x1, x40, x199000, x199001, x203000, x203001, x204000, x204001 => if x40 = true then (some (0, ([] : List (S40)), 0, 0, some 1)) else ((inode_Extent.f x199001).bind fun t206 => (if 0 ≤ x1 then (if x1 < (t206.length : Int) then ((inode_Inode_changed.f x199000 x199001 (t206.set (x1 : Int).toNat (⟨x204000, x204001⟩ : S40))).bind fun bt210 => (some (bt210.1, bt210.2, x203000, x203001, none))) else (none)) else (none)))
end
def inode_Move.f (k : Nat) (a0_0 : Int) (l0_1 : List (S40)) (a1 : Int) (a2 : Int) : Option (Int × (List (S40)) × Int × Int × Option Int) := if a1 < 0 then (inode_Move.j0 k a1 a2 true a0_0 l0_1) else (inode_Move.j0 k a1 a2 (decide (a1 ≥ (l0_1.length : Int))) a0_0 l0_1)
set_option maxRecDepth 100000 in
theorem inode_Move.mono_l : ∀ k, (∀ y0 y1 y2 y3 y4, LeO (inode_Move.j0 k y0 y1 y2 y3 y4) (inode_Move.j0 (k + 1) y0 y1 y2 y3 y4)) ∧ (∀ y0 y1 y2 y3 y4 y5 y6 y7, LeO (inode_Move.j1 k y0 y1 y2 y3 y4 y5 y6 y7) (inode_Move.j1 (k + 1) y0 y1 y2 y3 y4 y5 y6 y7))
 | 0 => ⟨fun _ _ _ _ _ r h => by first | (rw [inode_Move.j0] at h; cases h) | simp [inode_Move.j0] at h, fun _ _ _ _ _ _ _ _ r h => by first | (rw [inode_Move.j1] at h; cases h) | simp [inode_Move.j1] at h⟩
 | k + 1 => by
  obtain ⟨ih0, ih1⟩ := inode_Move.mono_l k
  refine ⟨?_, ?_⟩
  ·intro y0 y1 y2 y3 y4
   unfold inode_Move.j0
   repeat' first
   | (with_reducible exact ih0 _ _ _ _ _)
   | (with_reducible exact ih1 _ _ _ _ _ _ _ _)
   | (with_reducible exact LeO.refl _)
   | (with_reducible exact LeO.none _)
   | (with_reducible refine LeO.ite ?_ ?_)
   | (with_reducible refine LeO.bind ?_ (fun _ => ?_))
   | exact ih0 _ _ _ _ _
   | exact ih1 _ _ _ _ _ _ _ _
   | exact LeO.none _
   | refine LeO.ite ?_ ?_
   | refine LeO.bind ?_ (fun _ => ?_)
  ·intro y0 y1 y2 y3 y4 y5 y6 y7
   unfold inode_Move.j1
   repeat' first
   | (with_reducible exact ih0 _ _ _ _ _)
   | (with_reducible exact ih1 _ _ _ _ _ _ _ _)
   | (with_reducible exact LeO.refl _)
   | (with_reducible exact LeO.none _)
   | (with_reducible refine LeO.ite ?_ ?_)
   | (with_reducible refine LeO.bind ?_ (fun _ => ?_))
   | exact ih0 _ _ _ _ _
   | exact ih1 _ _ _ _ _ _ _ _
   | exact LeO.none _
   | refine LeO.ite ?_ ?_
   | refine LeO.bind ?_ (fun _ => ?_)
theorem inode_Move.mono : ∀ a0 a1 a2 a3 k, LeO (inode_Move.f k a0 a1 a2 a3) (inode_Move.f (k + 1) a0 a1 a2 a3) := by
 intro a0 a1 a2 a3 k
 obtain ⟨ih0, ih1⟩ := inode_Move.mono_l k
 unfold inode_Move.f
 repeat' first
   | (with_reducible exact ih0 _ _ _ _ _)
   | (with_reducible exact ih1 _ _ _ _ _ _ _ _)
   | (with_reducible exact LeO.refl _)
   | (with_reducible exact LeO.none _)
   | (with_reducible refine LeO.ite ?_ ?_)
   | (with_reducible refine LeO.bind ?_ (fun _ => ?_))
   | exact ih0 _ _ _ _ _
   | exact ih1 _ _ _ _ _ _ _ _
   | exact LeO.none _
   | refine LeO.ite ?_ ?_
   | refine LeO.bind ?_ (fun _ => ?_)
set_option maxHeartbeats 8000000 in
set_option maxRecDepth 100000 in
theorem inode_Move.calls (k : Nat) (a0_0 : Int) (A0_1 : Option Addr) (c0_1 : Nat) (l0_1 : List (S40)) (a1 : Int) (a2 : Int) (r1 : Int) (r2 : List (S40)) (r3 : Int) (r4 : Int) (r5 : Option Int) (w : World) (hr0_1 : Kd.C k40 w A0_1 l0_1.length l0_1) (hc0_1 : l0_1.length ≤ c0_1) (h : inode_Move.f k a0_0 l0_1 a1 a2 = some (r1, r2, r3, r4, r5)) :
  Calls Tryd.prog 9 #[.agg #[.int .i64 a0_0, .slice A0_1 l0_1.length c0_1], .int .i64 a1, .int .i64 a2] w fun e w' => ∃ v1_ : Value, e = .returned (.tuple #[.agg #[.int .i64 r1, v1_], .agg #[.int .i64 r3, .int .i64 r4], errW r5]) ∧ Kd.R k40 40 w' w.heap.size (fun _ => True) v1_ r2 ∧ Below w.heap.size w w' := by
 have hu26 := Tryd.underlying26
 have hu40 := Tryd.underlying40
 have hu33 := Tryd.underlying33
 have hu82 := Tryd.underlying82
 have HR0_1 := A0k hr0_1
 have HC0_1 := A0k hc0_1
 clear hr0_1 hc0_1
 have HB := A0k (Below.refl w.heap.size w)
 have H : (if a1 < 0 then (inode_Move.j0 k a1 a2 true a0_0 l0_1) else (inode_Move.j0 k a1 a2 (decide (a1 ≥ (l0_1.length : Int))) a0_0 l0_1)) = some (r1, r2, r3, r4, r5) := h
 clear h
 have HC4 := A0k H
 clear H
 go_enter Tryd.func9, Tryd.ntmps9
 go_upto_region 1 with (first | ((with_reducible refine gD (N := 3) rfl ?_); (try (refine gG (by rfl) ?_; dsimp only)); refine bE ?hg (N := 3) ?hd (cs := #[.int .i64 a0_0, .slice A0_1 l0_1.length c0_1]) (t := 26) ?hr ?_; (case hd => rfl); (case hg => rfl); (case hr => first | (go_simp; done) | (go_simp; rfl)); intro gb198 hg w5 hbox hb; have n0_ := A0k (pS (by repeat (first | (with_reducible first | exact HB.out | apply pA | apply pN | apply pD) | exact HB.out)) hb); have n1_ := A0k (hbox); have n2_ := A0k ((by rw [hg]; exact (pZ (by repeat (first | (with_reducible first | exact HB.out | apply pA | apply pN | apply pD) | exact HB.out))) : w.heap.size ≤ gb198)); have n3_ := A0k ((by rw [hg]; exact (pZ (by repeat (first | (with_reducible first | exact HB.out | apply pA | apply pN | apply pD) | exact HB.out))) : w.heap.size ≤ gb198)); clear HB; have HB := n0_; have BK198 := n1_; have GW198 := n2_; have GE198 := n3_; clear n0_ n1_ n2_ n3_ hb hbox hg) | ((with_reducible refine gD (N := 6) rfl ?_); (try (refine gG (by rfl) ?_; dsimp only)); refine bE ?hg (N := 6) ?hd (cs := #[.int .i64 0, .slice none 0 0]) (t := 26) ?hr ?_; (case hd => rfl); (case hg => rfl); (case hr => first | (go_simp; done) | (go_simp; rfl)); intro gb199 hg w6 hbox hb; have n0_ := A0k (bB (g := gb198) (o := .cells #[.int .i64 a0_0, .slice A0_1 l0_1.length c0_1] 26 (0, 0)) (by (with_reducible repeat first | apply bN | apply bD | apply bA); exact BK198.out) hb); have n1_ := A0k (pS (by repeat (first | (with_reducible first | exact HB.out | apply pA | apply pN | apply pD | refine bS ?_ GE198.out) | exact HB.out)) hb); have n2_ := A0k (hbox); have n3_ := A0k ((by rw [hg]; exact (pZ (by repeat (first | (with_reducible first | exact HB.out | apply pA | apply pN | apply pD | refine bS ?_ GE198.out) | exact HB.out))) : w.heap.size ≤ gb199)); have n4_ := A0k ((by rw [hg]; exact (pZ (by repeat (first | (with_reducible first | exact HB.out | apply pA | apply pN | apply pD | refine bS ?_ GE198.out) | exact HB.out))) : w.heap.size ≤ gb199)); have n5_ := A0k ((by rw [hg]; exact Nat.ne_of_lt (bL (g := gb198) (o := .cells #[.int .i64 a0_0, .slice A0_1 l0_1.length c0_1] 26 (0, 0)) (by (with_reducible repeat first | apply bN | apply bD | apply bA); exact BK198.out)) : gb198 ≠ gb199)); have n6_ := A0k ((by rw [hg]; exact Nat.ne_of_gt (bL (g := gb198) (o := .cells #[.int .i64 a0_0, .slice A0_1 l0_1.length c0_1] 26 (0, 0)) (by (with_reducible repeat first | apply bN | apply bD | apply bA); exact BK198.out)) : gb199 ≠ gb198)); clear BK198 HB; have BK198 := n0_; have HB := n1_; have BK199 := n2_; have GW199 := n3_; have GE199 := n4_; have NB198_199 := n5_; have NB199_198 := n6_; clear n0_ n1_ n2_ n3_ n4_ n5_ n6_ hb hbox hg) | ((with_reducible refine gD (N := 7) rfl ?_); (try (refine gG (by rfl) ?_; dsimp only)); refine bE ?hg (N := 7) ?hd (cs := #[.int .i64 0, .int .i64 0]) (t := 40) ?hr ?_; (case hd => rfl); (case hg => rfl); (case hr => first | (go_simp; done) | (go_simp; rfl)); intro gb200 hg w7 hbox hb; have n0_ := A0k (bB (g := gb198) (o := .cells #[.int .i64 a0_0, .slice A0_1 l0_1.length c0_1] 26 (0, 0)) (by (with_reducible repeat first | apply bN | apply bD | apply bA); exact BK198.out) hb); have n1_ := A0k (bB (g := gb199) (o := .cells #[.int .i64 0, .slice none 0 0] 26 (0, 0)) (by (with_reducible repeat first | apply bN | apply bD | apply bA); exact BK199.out) hb); have n2_ := A0k (pS (by repeat (first | (with_reducible first | exact HB.out | apply pA | apply pN | apply pD | refine bS ?_ GE198.out | refine bS ?_ GE199.out) | exact HB.out)) hb); have n3_ := A0k (hbox); have n4_ := A0k ((by rw [hg]; exact (pZ (by repeat (first | (with_reducible first | exact HB.out | apply pA | apply pN | apply pD | refine bS ?_ GE198.out | refine bS ?_ GE199.out) | exact HB.out))) : w.heap.size ≤ gb200)); have n5_ := A0k ((by rw [hg]; exact (pZ (by repeat (first | (with_reducible first | exact HB.out | apply pA | apply pN | apply pD | refine bS ?_ GE198.out | refine bS ?_ GE199.out) | exact HB.out))) : w.heap.size ≤ gb200)); have n6_ := A0k ((by rw [hg]; exact Nat.ne_of_lt (bL (g := gb198) (o := .cells #[.int .i64 a0_0, .slice A0_1 l0_1.length c0_1] 26 (0, 0)) (by (with_reducible repeat first | apply bN | apply bD | apply bA); exact BK198.out)) : gb198 ≠ gb200)); have n7_ := A0k ((by rw [hg]; exact Nat.ne_of_gt (bL (g := gb198) (o := .cells #[.int .i64 a0_0, .slice A0_1 l0_1.length c0_1] 26 (0, 0)) (by (with_reducible repeat first | apply bN | apply bD | apply bA); exact BK198.out)) : gb200 ≠ gb198)); have n8_ := A0k ((by rw [hg]; exact Nat.ne_of_lt (bL (g := gb199) (o := .cells #[.int .i64 0, .slice none 0 0] 26 (0, 0)) (by (with_reducible repeat first | apply bN | apply bD | apply bA); exact BK199.out)) : gb199 ≠ gb200)); have n9_ := A0k ((by rw [hg]; exact Nat.ne_of_gt (bL (g := gb199) (o := .cells #[.int .i64 0, .slice none 0 0] 26 (0, 0)) (by (with_reducible repeat first | apply bN | apply bD | apply bA); exact BK199.out)) : gb200 ≠ gb199)); clear BK198 BK199 HB; have BK198 := n0_; have BK199 := n1_; have HB := n2_; have BK200 := n3_; have GW200 := n4_; have GE200 := n5_; have NB198_200 := n6_; have NB200_198 := n7_; have NB199_200 := n8_; have NB200_199 := n9_; clear n0_ n1_ n2_ n3_ n4_ n5_ n6_ n7_ n8_ n9_ hb hbox hg))
 (try simp only [Act.put, lS, lZ, lC])
 go_cut [20] (fun v20 wc => ∃ (kq : Nat) (x20_3 : Bool), v20 = .bool x20_3 ∧ Aside0 (inode_Move.j0 kq a1 a2 x20_3 a0_0 l0_1 = some (r1, r2, r3, r4, r5)) ∧ Aside0 (kq ≤ k) ∧ Aside0 (wc.heap[gb198]? = some (.cells #[.int .i64 a0_0, (.slice A0_1 l0_1.length c0_1)] 26 (0, 0))) ∧ Aside0 (wc.heap[gb199]? = some (.cells #[.int .i64 0, (.slice none 0 0)] 26 (0, 0))) ∧ Aside0 (wc.heap[gb200]? = some (.cells #[.int .i64 0, .int .i64 0] 40 (0, 0))) ∧ Aside0 (Below w.heap.size w wc))
 case first =>
  as_aux_lemma =>
  have H := HC4.out
  clear HC4
  by_cases c8 : a1 < 0
  ·rw [if_pos c8] at H
   have c8b0 : decide (a1 < 0) = true := decide_eq_true c8
   clear c8
   (first | rw [c8b0] | (simp only [i64_w, i32_w]; rw [c8b0]) | skip)
   have H' := A0k H
   clear H
   go_wp2
   go_meet
   case rel => exact ⟨_, (true), (by first | rfl | (simp; done) | (simp [*]; done)), H', ⟨by first | omega | exact Nat.le_refl _⟩, ⟨by (with_reducible repeat first | apply bN | apply bD | apply bA); exact BK198.out⟩, ⟨by (with_reducible repeat first | apply bN | apply bD | apply bA); exact BK199.out⟩, ⟨by (with_reducible repeat first | apply bN | apply bD | apply bA); exact BK200.out⟩, ⟨by repeat (first | (with_reducible first | exact HB.out | apply pA | apply pN | apply pD | refine bS ?_ GE198.out | refine bS ?_ GE199.out | refine bS ?_ GE200.out) | exact HB.out)⟩⟩
  ·rw [if_neg c8] at H
   have c8b0 : decide (a1 < 0) = false := decide_eq_false c8
   clear c8
   (first | rw [c8b0] | (simp only [i64_w, i32_w]; rw [c8b0]) | skip)
   have H' := A0k H
   clear H
   have hnb9 := NB198_199.out
   have hnc9 := NB199_198.out
   have hnb10 := NB198_200.out
   have hnc10 := NB200_198.out
   have hcz11_0 : w7.cell? ⟨gb198, 0, none⟩ = some (.int .i64 a0_0) := (bC BK198.out 0).trans rfl
   have hcz11_1 : w7.cell? ⟨gb198, 1, none⟩ = some (.slice A0_1 l0_1.length c0_1) := (bC BK198.out 1).trans rfl
   have hfz11_0 := bF BK198.out 0
   have hfz11_1 := bF BK198.out 1
   go_wp2
   go_meet
   case rel => exact ⟨_, (decide (a1 ≥ (l0_1.length : Int))), (by first | rfl | (simp; done) | (simp [*]; done)), H', ⟨by first | omega | exact Nat.le_refl _⟩, ⟨by (with_reducible repeat first | apply bN | apply bD | apply bA); exact BK198.out⟩, ⟨by (with_reducible repeat first | apply bN | apply bD | apply bA); exact BK199.out⟩, ⟨by (with_reducible repeat first | apply bN | apply bD | apply bA); exact BK200.out⟩, ⟨by repeat (first | (with_reducible first | exact HB.out | apply pA | apply pN | apply pD | refine bS ?_ GE198.out | refine bS ?_ GE199.out | refine bS ?_ GE200.out) | exact HB.out)⟩⟩
 case rest =>
  as_aux_lemma =>
  clear HC4
  (try clear c1); (try clear p2); (try clear c8); (try clear c8b0); (try clear c9); (try clear c10); (try clear hcz11_0); (try clear hcz11_1); (try clear hfz11_0); (try clear hfz11_1)
  obtain ⟨kq, x20_3, rfl, HA, HJ3, BK198, BK199, BK200, HB⟩ := hcut
  cases kq with
  | zero => exact absurd HA.out (by simp [inode_Move.j0])
  | succ kj3 =>
   have H := HA.out
   clear HA
   simp only [inode_Move.j0] at H
   by_cases c12 : x20_3 = true
   ·subst c12
    have H1 : (some (0, ([] : List (S40)), 0, 0, some 1)) = some (r1, r2, r3, r4, r5) := by rw [if_pos rfl] at H; exact H
    clear H
    have H := H1
    clear H1
    simp only [Option.some.injEq, Prod.mk.injEq] at H
    obtain ⟨rfl, rfl, rfl, rfl, rfl⟩ := H
    have hnb13 := NB199_198.out
    have hnc13 := NB198_199.out
    have hnb14 := NB199_200.out
    have hnc14 := NB200_199.out
    have hcz15_0 : wc.cell? ⟨gb199, 0, none⟩ = some (.int .i64 0) := (bC BK199.out 0).trans rfl
    have hcz15_1 : wc.cell? ⟨gb199, 1, none⟩ = some (.slice none 0 0) := (bC BK199.out 1).trans rfl
    have hfz15_0 := bF BK199.out 0
    have hfz15_1 := bF BK199.out 1
    have hnb16 := NB200_198.out
    have hnc16 := NB198_200.out
    have hcz17_0 : wc.cell? ⟨gb200, 0, none⟩ = some (.int .i64 0) := (bC BK200.out 0).trans rfl
    have hcz17_1 : wc.cell? ⟨gb200, 1, none⟩ = some (.int .i64 0) := (bC BK200.out 1).trans rfl
    have hfz17_0 := bF BK200.out 0
    have hfz17_1 := bF BK200.out 1
    go_wp2
    refine bodyPost_ret (results_list (rs := [.cell 6 26, .cell 7 40, .tmp 8]) rfl (by simp) (.cell gb199 26 #[.int .i64 0, .slice none 0 0] (0, 0) _ rfl (by (with_reducible repeat first | apply bN | apply bD | apply bA); refine bR ?_ NB199_200.out _; (with_reducible repeat first | apply bN | apply bD | apply bA); refine bR ?_ NB199_200.out _; (with_reducible repeat first | apply bN | apply bD | apply bA); refine bP (cs := #[.int .i64 0, .slice none 0 0]) ?_ 1 _ rfl; (with_reducible repeat first | apply bN | apply bD | apply bA); refine bP (cs := #[.int .i64 0, .slice none 0 0]) ?_ 0 _ rfl; (with_reducible repeat first | apply bN | apply bD | apply bA); exact BK199.out) Tryd.underlying26 rfl (by kernel_rfl) (.cell gb200 40 #[.int .i64 0, .int .i64 0] (0, 0) _ rfl (by (with_reducible repeat first | apply bN | apply bD | apply bA); refine bP (cs := #[.int .i64 0, .int .i64 0]) ?_ 1 _ rfl; (with_reducible repeat first | apply bN | apply bD | apply bA); refine bP (cs := #[.int .i64 0, .int .i64 0]) ?_ 0 _ rfl; (with_reducible repeat first | apply bN | apply bD | apply bA); refine bR ?_ NB200_199.out _; (with_reducible repeat first | apply bN | apply bD | apply bA); refine bR ?_ NB200_199.out _; (with_reducible repeat first | apply bN | apply bD | apply bA); exact BK200.out) Tryd.underlying40 rfl (by kernel_rfl) (.tmp .nil)))) rfl ?_
    exact ⟨_, by first | rfl | (simp [errW_none, errW_some] <;> rfl) | (simp [*, errW_none, errW_some] <;> rfl), by first | exact Kd.R_nil _ _ _ _ _ | exact Kd.N_nil _ _ _ _ _ | exact Kd.V_nil _ _ _ _ _ | exact Kd.Q_nil _ _ _ _ _ | exact Kd.S_nil _ _ _ _ _, by repeat (first | (with_reducible first | exact HB.out | apply pA | apply pN | apply pD | refine bS ?_ GE198.out | refine bS ?_ GE199.out | refine bS ?_ GE200.out) | exact HB.out)⟩
   ·replace c12 := Bool.eq_false_iff.mpr c12
    subst c12
    have H1 : (if 0 ≤ a1 then (if a1 < (l0_1.length : Int) then ((inode_Extent_there.f a2 ((rd_T40 l0_1 a1).f1) 2048).bind fun t204 => (if t204 = true then ((inode_Inode_meets.f a0_0 l0_1 a2 ((rd_T40 l0_1 a1).f1)).bind fun t205 => (inode_Move.j1 kj3 a1 t205 a0_0 l0_1 ((rd_T40 l0_1 a1).f0) ((rd_T40 l0_1 a1).f1) a2 ((rd_T40 l0_1 a1).f1))) else (inode_Move.j1 kj3 a1 true a0_0 l0_1 ((rd_T40 l0_1 a1).f0) ((rd_T40 l0_1 a1).f1) a2 ((rd_T40 l0_1 a1).f1)))) else (none)) else (none)) = some (r1, r2, r3, r4, r5) := by rw [if_neg (show ¬ (false = true) by decide)] at H; exact H
    clear H
    have H := H1
    clear H1
    by_cases c18 : 0 ≤ a1
    ·rw [if_pos c18] at H
     have c18b0 : decide (0 ≤ a1) = true := decide_eq_true c18
     clear c18
     by_cases c19 : a1 < (l0_1.length : Int)
     ·rw [if_pos c19] at H
      have c19b0 : decide (a1 < (l0_1.length : Int)) = true := decide_eq_true c19
      clear c19
      have HC20 := A0k H
      clear H
      have hnb21 := NB198_199.out
      have hnc21 := NB199_198.out
      have hnb22 := NB198_200.out
      have hnc22 := NB200_198.out
      have hcz23_0 : wc.cell? ⟨gb198, 0, none⟩ = some (.int .i64 a0_0) := (bC BK198.out 0).trans rfl
      have hcz23_1 : wc.cell? ⟨gb198, 1, none⟩ = some (.slice A0_1 l0_1.length c0_1) := (bC BK198.out 1).trans rfl
      have hfz23_0 := bF BK198.out 0
      have hfz23_1 := bF BK198.out 1
      have p201 : 0 ≤ (a1 : Int) := of_decide_eq_true (by first | (with_reducible assumption) | assumption)
      have q201 : a1 < (l0_1.length : Int) := of_decide_eq_true (by first | (with_reducible assumption) | assumption)
      obtain ⟨ad201, e201, hx201_0, hx201_1⟩ := at_T40 HR0_1.out a1 p201 q201
      cases e201
      replace hx201_0 := (HB.out.cell (World.block_lt_of_cell? w _ hx201_0)).trans hx201_0
      replace hx201_1 := (HB.out.cell (World.block_lt_of_cell? w _ hx201_1)).trans hx201_1
      replace p201 := eq_true p201
      replace q201 := eq_true q201
      go_upto_region 5 with (first | ((with_reducible refine gD (N := 9) rfl ?_); (try (refine gG (by rfl) ?_; dsimp only)); refine bE ?hg (N := 9) ?hd (cs := #[.int .i64 0, .int .i64 0]) (t := 40) ?hr ?_; (case hd => rfl); (case hg => rfl); (case hr => first | (go_simp; done) | (go_simp; rfl)); intro gb202 hg w24 hbox hb; have n0_ := A0k (bB (g := gb198) (o := .cells #[.int .i64 a0_0, .slice (some ad201) l0_1.length c0_1] 26 (0, 0)) (by (with_reducible repeat first | apply bN | apply bD | apply bA); exact BK198.out) hb); have n1_ := A0k (bB (g := gb199) (o := .cells #[.int .i64 0, .slice none 0 0] 26 (0, 0)) (by (with_reducible repeat first | apply bN | apply bD | apply bA); exact BK199.out) hb); have n2_ := A0k (bB (g := gb200) (o := .cells #[.int .i64 0, .int .i64 0] 40 (0, 0)) (by (with_reducible repeat first | apply bN | apply bD | apply bA); exact BK200.out) hb); have n3_ := A0k (pS (by repeat (first | (with_reducible first | exact HB.out | apply pA | apply pN | apply pD | refine bS ?_ GE198.out | refine bS ?_ GE199.out | refine bS ?_ GE200.out) | exact HB.out)) hb); have n4_ := A0k (hbox); have n5_ := A0k ((by rw [hg]; exact (pZ (by repeat (first | (with_reducible first | exact HB.out | apply pA | apply pN | apply pD | refine bS ?_ GE198.out | refine bS ?_ GE199.out | refine bS ?_ GE200.out) | exact HB.out))) : w.heap.size ≤ gb202)); have n6_ := A0k ((by rw [hg]; exact (pZ (by repeat (first | (with_reducible first | exact HB.out | apply pA | apply pN | apply pD | refine bS ?_ GE198.out | refine bS ?_ GE199.out | refine bS ?_ GE200.out) | exact HB.out))) : w.heap.size ≤ gb202)); have n7_ := A0k ((by rw [hg]; exact Nat.ne_of_lt (bL (g := gb198) (o := .cells #[.int .i64 a0_0, .slice (some ad201) l0_1.length c0_1] 26 (0, 0)) (by (with_reducible repeat first | apply bN | apply bD | apply bA); exact BK198.out)) : gb198 ≠ gb202)); have n8_ := A0k ((by rw [hg]; exact Nat.ne_of_gt (bL (g := gb198) (o := .cells #[.int .i64 a0_0, .slice (some ad201) l0_1.length c0_1] 26 (0, 0)) (by (with_reducible repeat first | apply bN | apply bD | apply bA); exact BK198.out)) : gb202 ≠ gb198)); have n9_ := A0k ((by rw [hg]; exact Nat.ne_of_lt (bL (g := gb199) (o := .cells #[.int .i64 0, .slice none 0 0] 26 (0, 0)) (by (with_reducible repeat first | apply bN | apply bD | apply bA); exact BK199.out)) : gb199 ≠ gb202)); have n10_ := A0k ((by rw [hg]; exact Nat.ne_of_gt (bL (g := gb199) (o := .cells #[.int .i64 0, .slice none 0 0] 26 (0, 0)) (by (with_reducible repeat first | apply bN | apply bD | apply bA); exact BK199.out)) : gb202 ≠ gb199)); have n11_ := A0k ((by rw [hg]; exact Nat.ne_of_lt (bL (g := gb200) (o := .cells #[.int .i64 0, .int .i64 0] 40 (0, 0)) (by (with_reducible repeat first | apply bN | apply bD | apply bA); exact BK200.out)) : gb200 ≠ gb202)); have n12_ := A0k ((by rw [hg]; exact Nat.ne_of_gt (bL (g := gb200) (o := .cells #[.int .i64 0, .int .i64 0] 40 (0, 0)) (by (with_reducible repeat first | apply bN | apply bD | apply bA); exact BK200.out)) : gb202 ≠ gb200)); clear BK198 BK199 BK200 HB; have BK198 := n0_; have BK199 := n1_; have BK200 := n2_; have HB := n3_; have BK202 := n4_; have GW202 := n5_; have GE202 := n6_; have NB198_202 := n7_; have NB202_198 := n8_; have NB199_202 := n9_; have NB202_199 := n10_; have NB200_202 := n11_; have NB202_200 := n12_; clear n0_ n1_ n2_ n3_ n4_ n5_ n6_ n7_ n8_ n9_ n10_ n11_ n12_ hb hbox hg; have hnb25 := NB202_198.out; have hnc25 := NB198_202.out; have hnb26 := NB202_199.out; have hnc26 := NB199_202.out; have hnb27 := NB202_200.out; have hnc27 := NB200_202.out; have hcz28_0 : w24.cell? ⟨gb202, 0, none⟩ = some (.int .i64 0) := (bC BK202.out 0).trans rfl; have hcz28_1 : w24.cell? ⟨gb202, 1, none⟩ = some (.int .i64 0) := (bC BK202.out 1).trans rfl; have hfz28_0 := bF BK202.out 0; have hfz28_1 := bF BK202.out 1) | ((with_reducible refine gD (N := 10) rfl ?_); (try (refine gG (by rfl) ?_; dsimp only)); refine bE ?hg (N := 10) ?hd (cs := #[.int .i64 0, .int .i64 0]) (t := 40) ?hr ?_; (case hd => rfl); (case hg => rfl); (case hr => first | (go_simp; done) | (go_simp; rfl)); intro gb203 hg w29 hbox hb; have n0_ := A0k (bB (g := gb198) (o := .cells #[.int .i64 a0_0, .slice (some ad201) l0_1.length c0_1] 26 (0, 0)) (by (with_reducible repeat first | apply bN | apply bD | apply bA); refine bR ?_ NB198_202.out _; (with_reducible repeat first | apply bN | apply bD | apply bA); refine bR ?_ NB198_202.out _; (with_reducible repeat first | apply bN | apply bD | apply bA); exact BK198.out) hb); have n1_ := A0k (bB (g := gb199) (o := .cells #[.int .i64 0, .slice none 0 0] 26 (0, 0)) (by (with_reducible repeat first | apply bN | apply bD | apply bA); refine bR ?_ NB199_202.out _; (with_reducible repeat first | apply bN | apply bD | apply bA); refine bR ?_ NB199_202.out _; (with_reducible repeat first | apply bN | apply bD | apply bA); exact BK199.out) hb); have n2_ := A0k (bB (g := gb200) (o := .cells #[.int .i64 0, .int .i64 0] 40 (0, 0)) (by (with_reducible repeat first | apply bN | apply bD | apply bA); refine bR ?_ NB200_202.out _; (with_reducible repeat first | apply bN | apply bD | apply bA); refine bR ?_ NB200_202.out _; (with_reducible repeat first | apply bN | apply bD | apply bA); exact BK200.out) hb); have n3_ := A0k (bB (g := gb202) (o := .cells #[.int .i64 ((rd_T40 l0_1 a1).f0), .int .i64 ((rd_T40 l0_1 a1).f1)] 40 (0, 0)) (by (with_reducible repeat first | apply bN | apply bD | apply bA); refine bP (cs := #[.int .i64 ((rd_T40 l0_1 a1).f0), .int .i64 0]) ?_ 1 _ rfl; (with_reducible repeat first | apply bN | apply bD | apply bA); refine bP (cs := #[.int .i64 0, .int .i64 0]) ?_ 0 _ rfl; (with_reducible repeat first | apply bN | apply bD | apply bA); exact BK202.out) hb); have n4_ := A0k (pS (by repeat (first | (with_reducible first | exact HB.out | apply pA | apply pN | apply pD | refine bS ?_ GE198.out | refine bS ?_ GE199.out | refine bS ?_ GE200.out | refine bS ?_ GE202.out) | exact HB.out)) hb); have n5_ := A0k (hbox); have n6_ := A0k ((by rw [hg]; exact (pZ (by repeat (first | (with_reducible first | exact HB.out | apply pA | apply pN | apply pD | refine bS ?_ GE198.out | refine bS ?_ GE199.out | refine bS ?_ GE200.out | refine bS ?_ GE202.out) | exact HB.out))) : w.heap.size ≤ gb203)); have n7_ := A0k ((by rw [hg]; exact (pZ (by repeat (first | (with_reducible first | exact HB.out | apply pA | apply pN | apply pD | refine bS ?_ GE198.out | refine bS ?_ GE199.out | refine bS ?_ GE200.out | refine bS ?_ GE202.out) | exact HB.out))) : w.heap.size ≤ gb203)); have n8_ := A0k ((by rw [hg]; exact Nat.ne_of_lt (bL (g := gb198) (o := .cells #[.int .i64 a0_0, .slice (some ad201) l0_1.length c0_1] 26 (0, 0)) (by (with_reducible repeat first | apply bN | apply bD | apply bA); refine bR ?_ NB198_202.out _; (with_reducible repeat first | apply bN | apply bD | apply bA); refine bR ?_ NB198_202.out _; (with_reducible repeat first | apply bN | apply bD | apply bA); exact BK198.out)) : gb198 ≠ gb203)); have n9_ := A0k ((by rw [hg]; exact Nat.ne_of_gt (bL (g := gb198) (o := .cells #[.int .i64 a0_0, .slice (some ad201) l0_1.length c0_1] 26 (0, 0)) (by (with_reducible repeat first | apply bN | apply bD | apply bA); refine bR ?_ NB198_202.out _; (with_reducible repeat first | apply bN | apply bD | apply bA); refine bR ?_ NB198_202.out _; (with_reducible repeat first | apply bN | apply bD | apply bA); exact BK198.out)) : gb203 ≠ gb198)); have n10_ := A0k ((by rw [hg]; exact Nat.ne_of_lt (bL (g := gb199) (o := .cells #[.int .i64 0, .slice none 0 0] 26 (0, 0)) (by (with_reducible repeat first | apply bN | apply bD | apply bA); refine bR ?_ NB199_202.out _; (with_reducible repeat first | apply bN | apply bD | apply bA); refine bR ?_ NB199_202.out _; (with_reducible repeat first | apply bN | apply bD | apply bA); exact BK199.out)) : gb199 ≠ gb203)); have n11_ := A0k ((by rw [hg]; exact Nat.ne_of_gt (bL (g := gb199) (o := .cells #[.int .i64 0, .slice none 0 0] 26 (0, 0)) (by (with_reducible repeat first | apply bN | apply bD | apply bA); refine bR ?_ NB199_202.out _; (with_reducible repeat first | apply bN | apply bD | apply bA); refine bR ?_ NB199_202.out _; (with_reducible repeat first | apply bN | apply bD | apply bA); exact BK199.out)) : gb203 ≠ gb199)); have n12_ := A0k ((by rw [hg]; exact Nat.ne_of_lt (bL (g := gb200) (o := .cells #[.int .i64 0, .int .i64 0] 40 (0, 0)) (by (with_reducible repeat first | apply bN | apply bD | apply bA); refine bR ?_ NB200_202.out _; (with_reducible repeat first | apply bN | apply bD | apply bA); refine bR ?_ NB200_202.out _; (with_reducible repeat first | apply bN | apply bD | apply bA); exact BK200.out)) : gb200 ≠ gb203)); have n13_ := A0k ((by rw [hg]; exact Nat.ne_of_gt (bL (g := gb200) (o := .cells #[.int .i64 0, .int .i64 0] 40 (0, 0)) (by (with_reducible repeat first | apply bN | apply bD | apply bA); refine bR ?_ NB200_202.out _; (with_reducible repeat first | apply bN | apply bD | apply bA); refine bR ?_ NB200_202.out _; (with_reducible repeat first | apply bN | apply bD | apply bA); exact BK200.out)) : gb203 ≠ gb200)); have n14_ := A0k ((by rw [hg]; exact Nat.ne_of_lt (bL (g := gb202) (o := .cells #[.int .i64 ((rd_T40 l0_1 a1).f0), .int .i64 ((rd_T40 l0_1 a1).f1)] 40 (0, 0)) (by (with_reducible repeat first | apply bN | apply bD | apply bA); refine bP (cs := #[.int .i64 ((rd_T40 l0_1 a1).f0), .int .i64 0]) ?_ 1 _ rfl; (with_reducible repeat first | apply bN | apply bD | apply bA); refine bP (cs := #[.int .i64 0, .int .i64 0]) ?_ 0 _ rfl; (with_reducible repeat first | apply bN | apply bD | apply bA); exact BK202.out)) : gb202 ≠ gb203)); have n15_ := A0k ((by rw [hg]; exact Nat.ne_of_gt (bL (g := gb202) (o := .cells #[.int .i64 ((rd_T40 l0_1 a1).f0), .int .i64 ((rd_T40 l0_1 a1).f1)] 40 (0, 0)) (by (with_reducible repeat first | apply bN | apply bD | apply bA); refine bP (cs := #[.int .i64 ((rd_T40 l0_1 a1).f0), .int .i64 0]) ?_ 1 _ rfl; (with_reducible repeat first | apply bN | apply bD | apply bA); refine bP (cs := #[.int .i64 0, .int .i64 0]) ?_ 0 _ rfl; (with_reducible repeat first | apply bN | apply bD | apply bA); exact BK202.out)) : gb203 ≠ gb202)); clear BK198 BK199 BK200 BK202 HB; have BK198 := n0_; have BK199 := n1_; have BK200 := n2_; have BK202 := n3_; have HB := n4_; have BK203 := n5_; have GW203 := n6_; have GE203 := n7_; have NB198_203 := n8_; have NB203_198 := n9_; have NB199_203 := n10_; have NB203_199 := n11_; have NB200_203 := n12_; have NB203_200 := n13_; have NB202_203 := n14_; have NB203_202 := n15_; clear n0_ n1_ n2_ n3_ n4_ n5_ n6_ n7_ n8_ n9_ n10_ n11_ n12_ n13_ n14_ n15_ hb hbox hg; have hnb30 := NB203_198.out; have hnc30 := NB198_203.out; have hnb31 := NB203_199.out; have hnc31 := NB199_203.out; have hnb32 := NB203_200.out; have hnc32 := NB200_203.out; have hnb33 := NB203_202.out; have hnc33 := NB202_203.out; have hcz34_0 : w29.cell? ⟨gb203, 0, none⟩ = some (.int .i64 0) := (bC BK203.out 0).trans rfl; have hcz34_1 : w29.cell? ⟨gb203, 1, none⟩ = some (.int .i64 0) := (bC BK203.out 1).trans rfl; have hfz34_0 := bF BK203.out 0; have hfz34_1 := bF BK203.out 1))
      (try simp only [Act.put, lS, lZ, lC])
      go_cut [40] (fun v40 wc => ∃ (kq : Nat) (x40_19 : Bool), v40 = .bool x40_19 ∧ Aside0 (inode_Move.j1 kq a1 x40_19 a0_0 l0_1 ((rd_T40 l0_1 a1).f0) ((rd_T40 l0_1 a1).f1) a2 ((rd_T40 l0_1 a1).f1) = some (r1, r2, r3, r4, r5)) ∧ Aside0 (kq ≤ kj3) ∧ Aside0 (wc.heap[gb198]? = some (.cells #[.int .i64 a0_0, (.slice (some ad201) l0_1.length c0_1)] 26 (0, 0))) ∧ Aside0 (wc.heap[gb199]? = some (.cells #[.int .i64 0, (.slice none 0 0)] 26 (0, 0))) ∧ Aside0 (wc.heap[gb200]? = some (.cells #[.int .i64 0, .int .i64 0] 40 (0, 0))) ∧ Aside0 (wc.heap[gb202]? = some (.cells #[.int .i64 ((rd_T40 l0_1 a1).f0), .int .i64 ((rd_T40 l0_1 a1).f1)] 40 (0, 0))) ∧ Aside0 (wc.heap[gb203]? = some (.cells #[.int .i64 a2, .int .i64 ((rd_T40 l0_1 a1).f1)] 40 (0, 0))) ∧ Aside0 (Below w.heap.size w wc))
      case first =>
       as_aux_lemma =>
       have H := HC20.out
       clear HC20
       replace H := Option.bind_eq_some_iff.mp H
       obtain ⟨t204, A350, H⟩ := H
       replace H : (if t204 = true then ((inode_Inode_meets.f a0_0 l0_1 a2 ((rd_T40 l0_1 a1).f1)).bind fun t205 => (inode_Move.j1 kj3 a1 t205 a0_0 l0_1 ((rd_T40 l0_1 a1).f0) ((rd_T40 l0_1 a1).f1) a2 ((rd_T40 l0_1 a1).f1))) else (inode_Move.j1 kj3 a1 true a0_0 l0_1 ((rd_T40 l0_1 a1).f0) ((rd_T40 l0_1 a1).f1) a2 ((rd_T40 l0_1 a1).f1))) = some (r1, r2, r3, r4, r5) := H
       have A35 := A0k A350
       clear A350
       by_cases c36 : t204 = true
       ·subst c36
        have H1 : ((inode_Inode_meets.f a0_0 l0_1 a2 ((rd_T40 l0_1 a1).f1)).bind fun t205 => (inode_Move.j1 kj3 a1 t205 a0_0 l0_1 ((rd_T40 l0_1 a1).f0) ((rd_T40 l0_1 a1).f1) a2 ((rd_T40 l0_1 a1).f1))) = some (r1, r2, r3, r4, r5) := by rw [if_pos rfl] at H; exact H
        clear H
        have H := H1
        clear H1
        replace H := Option.bind_eq_some_iff.mp H
        obtain ⟨t205, A370, H⟩ := H
        replace H : (inode_Move.j1 kj3 a1 t205 a0_0 l0_1 ((rd_T40 l0_1 a1).f0) ((rd_T40 l0_1 a1).f1) a2 ((rd_T40 l0_1 a1).f1)) = some (r1, r2, r3, r4, r5) := H
        have A37 := A0k A370
        clear A370
        have H' := A0k H
        clear H
        have hnb38 := NB203_198.out
        have hnc38 := NB198_203.out
        have hnb39 := NB203_199.out
        have hnc39 := NB199_203.out
        have hnb40 := NB203_200.out
        have hnc40 := NB200_203.out
        have hnb41 := NB203_202.out
        have hnc41 := NB202_203.out
        have hcz42_0 : w29.cell? ⟨gb203, 0, none⟩ = some (.int .i64 0) := (bC BK203.out 0).trans rfl
        have hcz42_1 : w29.cell? ⟨gb203, 1, none⟩ = some (.int .i64 0) := (bC BK203.out 1).trans rfl
        have hfz42_0 := bF BK203.out 0
        have hfz42_1 := bF BK203.out 1
        go_wp2_with (first | ((with_reducible refine gC (f := 31) rfl ?_); refine gL_ (some 34) rfl rfl Tryd.func31 (by kernel_rfl) rfl #[.agg #[.int .i64 a2, .int .i64 ((rd_T40 l0_1 a1).f1)], .int .i64 2048] rfl (by (try simp only [List.map_toArray, List.map_cons, List.map_nil]); first | done | rfl | (simp only [List.length_drop, List.length_take]; rfl)) ?_; (with_reducible refine (inode_Extent_there.calls a2 ((rd_T40 l0_1 a1).f1) 2048 true _ A35.out).mono ?_); rintro e w43 ⟨rfl, hb⟩; refine ⟨_, rfl, ?_⟩; have n0_ := A0k (bB (g := gb198) (o := .cells #[.int .i64 a0_0, .slice (some ad201) l0_1.length c0_1] 26 (0, 0)) (by (with_reducible repeat first | apply bN | apply bD | apply bA); refine bR ?_ NB198_203.out _; (with_reducible repeat first | apply bN | apply bD | apply bA); refine bR ?_ NB198_203.out _; (with_reducible repeat first | apply bN | apply bD | apply bA); exact BK198.out) hb); have n1_ := A0k (bB (g := gb199) (o := .cells #[.int .i64 0, .slice none 0 0] 26 (0, 0)) (by (with_reducible repeat first | apply bN | apply bD | apply bA); refine bR ?_ NB199_203.out _; (with_reducible repeat first | apply bN | apply bD | apply bA); refine bR ?_ NB199_203.out _; (with_reducible repeat first | apply bN | apply bD | apply bA); exact BK199.out) hb); have n2_ := A0k (bB (g := gb200) (o := .cells #[.int .i64 0, .int .i64 0] 40 (0, 0)) (by (with_reducible repeat first | apply bN | apply bD | apply bA); refine bR ?_ NB200_203.out _; (with_reducible repeat first | apply bN | apply bD | apply bA); refine bR ?_ NB200_203.out _; (with_reducible repeat first | apply bN | apply bD | apply bA); exact BK200.out) hb); have n3_ := A0k (bB (g := gb202) (o := .cells #[.int .i64 ((rd_T40 l0_1 a1).f0), .int .i64 ((rd_T40 l0_1 a1).f1)] 40 (0, 0)) (by (with_reducible repeat first | apply bN | apply bD | apply bA); refine bR ?_ NB202_203.out _; (with_reducible repeat first | apply bN | apply bD | apply bA); refine bR ?_ NB202_203.out _; (with_reducible repeat first | apply bN | apply bD | apply bA); exact BK202.out) hb); have n4_ := A0k (bB (g := gb203) (o := .cells #[.int .i64 a2, .int .i64 ((rd_T40 l0_1 a1).f1)] 40 (0, 0)) (by (with_reducible repeat first | apply bN | apply bD | apply bA); refine bP (cs := #[.int .i64 a2, .int .i64 0]) ?_ 1 _ rfl; (with_reducible repeat first | apply bN | apply bD | apply bA); refine bP (cs := #[.int .i64 0, .int .i64 0]) ?_ 0 _ rfl; (with_reducible repeat first | apply bN | apply bD | apply bA); exact BK203.out) hb); have n5_ := A0k (pS (by repeat (first | (with_reducible first | exact HB.out | apply pA | apply pN | apply pD | refine bS ?_ GE198.out | refine bS ?_ GE199.out | refine bS ?_ GE200.out | refine bS ?_ GE202.out | refine bS ?_ GE203.out) | exact HB.out)) hb); clear BK198 BK199 BK200 BK202 BK203 HB; have BK198 := n0_; have BK199 := n1_; have BK200 := n2_; have BK202 := n3_; have BK203 := n4_; have HB := n5_; clear n0_ n1_ n2_ n3_ n4_ n5_; (try clear hb); (try clear hb2); (try clear hk); (try clear hi); have hnb44 := NB198_199.out; have hnc44 := NB199_198.out; have hnb45 := NB198_200.out; have hnc45 := NB200_198.out; have hnb46 := NB198_202.out; have hnc46 := NB202_198.out; have hcz47_0 : w43.cell? ⟨gb198, 0, none⟩ = some (.int .i64 a0_0) := (bC BK198.out 0).trans rfl; have hcz47_1 : w43.cell? ⟨gb198, 1, none⟩ = some (.slice (some ad201) l0_1.length c0_1) := (bC BK198.out 1).trans rfl; have hfz47_0 := bF BK198.out 0; have hfz47_1 := bF BK198.out 1; have hcz48_0 : w43.cell? ⟨gb203, 0, none⟩ = some (.int .i64 a2) := (bC BK203.out 0).trans rfl; have hcz48_1 : w43.cell? ⟨gb203, 1, none⟩ = some (.int .i64 ((rd_T40 l0_1 a1).f1)) := (bC BK203.out 1).trans rfl; have hfz48_0 := bF BK203.out 0; have hfz48_1 := bF BK203.out 1) | (go_at_call 32; (with_reducible refine (inode_Inode_meets.calls a0_0 _ _ l0_1 a2 ((rd_T40 l0_1 a1).f1) t205 _ ?side1 ?side2 A37.out).mono ?_); (case side1 => repeat (first | exact (Kd.C_below HR0_1.out HB.out) | (with_reducible refine Kd.C_alloc ?_ _) | (with_reducible refine Kd.C_drewN ?_ _) | (with_reducible refine Kd.C_drew ?_))); (case side2 => exact HC0_1.out); rintro e w49 ⟨rfl, hb⟩; have n0_ := A0k (bB (g := gb198) (o := .cells #[.int .i64 a0_0, .slice (some ad201) l0_1.length c0_1] 26 (0, 0)) (by (with_reducible repeat first | apply bN | apply bD | apply bA); exact BK198.out) hb); have n1_ := A0k (bB (g := gb199) (o := .cells #[.int .i64 0, .slice none 0 0] 26 (0, 0)) (by (with_reducible repeat first | apply bN | apply bD | apply bA); exact BK199.out) hb); have n2_ := A0k (bB (g := gb200) (o := .cells #[.int .i64 0, .int .i64 0] 40 (0, 0)) (by (with_reducible repeat first | apply bN | apply bD | apply bA); exact BK200.out) hb); have n3_ := A0k (bB (g := gb202) (o := .cells #[.int .i64 ((rd_T40 l0_1 a1).f0), .int .i64 ((rd_T40 l0_1 a1).f1)] 40 (0, 0)) (by (with_reducible repeat first | apply bN | apply bD | apply bA); exact BK202.out) hb); have n4_ := A0k (bB (g := gb203) (o := .cells #[.int .i64 a2, .int .i64 ((rd_T40 l0_1 a1).f1)] 40 (0, 0)) (by (with_reducible repeat first | apply bN | apply bD | apply bA); exact BK203.out) hb); have n5_ := A0k (pS (by repeat (first | (with_reducible first | exact HB.out | apply pA | apply pN | apply pD | refine bS ?_ GE198.out | refine bS ?_ GE199.out | refine bS ?_ GE200.out | refine bS ?_ GE202.out | refine bS ?_ GE203.out) | exact HB.out)) hb); clear BK198 BK199 BK200 BK202 BK203 HB; have BK198 := n0_; have BK199 := n1_; have BK200 := n2_; have BK202 := n3_; have BK203 := n4_; have HB := n5_; clear n0_ n1_ n2_ n3_ n4_ n5_; (try clear hb); (try clear hb2); (try clear hk); (try clear hi)))
        go_meet
        case rel => exact ⟨_, (t205), (by first | rfl | (simp; done) | (simp [*]; done)), H', ⟨by have := HJ3.out; first | omega | exact Nat.le_refl _⟩, ⟨by (with_reducible repeat first | apply bN | apply bD | apply bA); exact BK198.out⟩, ⟨by (with_reducible repeat first | apply bN | apply bD | apply bA); exact BK199.out⟩, ⟨by (with_reducible repeat first | apply bN | apply bD | apply bA); exact BK200.out⟩, ⟨by (with_reducible repeat first | apply bN | apply bD | apply bA); exact BK202.out⟩, ⟨by (with_reducible repeat first | apply bN | apply bD | apply bA); exact BK203.out⟩, ⟨by repeat (first | (with_reducible first | exact HB.out | apply pA | apply pN | apply pD | refine bS ?_ GE198.out | refine bS ?_ GE199.out | refine bS ?_ GE200.out | refine bS ?_ GE202.out | refine bS ?_ GE203.out) | exact HB.out)⟩⟩
       ·replace c36 := Bool.eq_false_iff.mpr c36
        subst c36
        have H1 : (inode_Move.j1 kj3 a1 true a0_0 l0_1 ((rd_T40 l0_1 a1).f0) ((rd_T40 l0_1 a1).f1) a2 ((rd_T40 l0_1 a1).f1)) = some (r1, r2, r3, r4, r5) := by rw [if_neg (show ¬ (false = true) by decide)] at H; exact H
        clear H
        have H := H1
        clear H1
        have H' := A0k H
        clear H
        have hnb50 := NB203_198.out
        have hnc50 := NB198_203.out
        have hnb51 := NB203_199.out
        have hnc51 := NB199_203.out
        have hnb52 := NB203_200.out
        have hnc52 := NB200_203.out
        have hnb53 := NB203_202.out
        have hnc53 := NB202_203.out
        have hcz54_0 : w29.cell? ⟨gb203, 0, none⟩ = some (.int .i64 0) := (bC BK203.out 0).trans rfl
        have hcz54_1 : w29.cell? ⟨gb203, 1, none⟩ = some (.int .i64 0) := (bC BK203.out 1).trans rfl
        have hfz54_0 := bF BK203.out 0
        have hfz54_1 := bF BK203.out 1
        go_wp2_with (first | ((with_reducible refine gC (f := 31) rfl ?_); refine gL_ (some 34) rfl rfl Tryd.func31 (by kernel_rfl) rfl #[.agg #[.int .i64 a2, .int .i64 ((rd_T40 l0_1 a1).f1)], .int .i64 2048] rfl (by (try simp only [List.map_toArray, List.map_cons, List.map_nil]); first | done | rfl | (simp only [List.length_drop, List.length_take]; rfl)) ?_; (with_reducible refine (inode_Extent_there.calls a2 ((rd_T40 l0_1 a1).f1) 2048 false _ A35.out).mono ?_); rintro e w55 ⟨rfl, hb⟩; refine ⟨_, rfl, ?_⟩; have n0_ := A0k (bB (g := gb198) (o := .cells #[.int .i64 a0_0, .slice (some ad201) l0_1.length c0_1] 26 (0, 0)) (by (with_reducible repeat first | apply bN | apply bD | apply bA); refine bR ?_ NB198_203.out _; (with_reducible repeat first | apply bN | apply bD | apply bA); refine bR ?_ NB198_203.out _; (with_reducible repeat first | apply bN | apply bD | apply bA); exact BK198.out) hb); have n1_ := A0k (bB (g := gb199) (o := .cells #[.int .i64 0, .slice none 0 0] 26 (0, 0)) (by (with_reducible repeat first | apply bN | apply bD | apply bA); refine bR ?_ NB199_203.out _; (with_reducible repeat first | apply bN | apply bD | apply bA); refine bR ?_ NB199_203.out _; (with_reducible repeat first | apply bN | apply bD | apply bA); exact BK199.out) hb); have n2_ := A0k (bB (g := gb200) (o := .cells #[.int .i64 0, .int .i64 0] 40 (0, 0)) (by (with_reducible repeat first | apply bN | apply bD | apply bA); refine bR ?_ NB200_203.out _; (with_reducible repeat first | apply bN | apply bD | apply bA); refine bR ?_ NB200_203.out _; (with_reducible repeat first | apply bN | apply bD | apply bA); exact BK200.out) hb); have n3_ := A0k (bB (g := gb202) (o := .cells #[.int .i64 ((rd_T40 l0_1 a1).f0), .int .i64 ((rd_T40 l0_1 a1).f1)] 40 (0, 0)) (by (with_reducible repeat first | apply bN | apply bD | apply bA); refine bR ?_ NB202_203.out _; (with_reducible repeat first | apply bN | apply bD | apply bA); refine bR ?_ NB202_203.out _; (with_reducible repeat first | apply bN | apply bD | apply bA); exact BK202.out) hb); have n4_ := A0k (bB (g := gb203) (o := .cells #[.int .i64 a2, .int .i64 ((rd_T40 l0_1 a1).f1)] 40 (0, 0)) (by (with_reducible repeat first | apply bN | apply bD | apply bA); refine bP (cs := #[.int .i64 a2, .int .i64 0]) ?_ 1 _ rfl; (with_reducible repeat first | apply bN | apply bD | apply bA); refine bP (cs := #[.int .i64 0, .int .i64 0]) ?_ 0 _ rfl; (with_reducible repeat first | apply bN | apply bD | apply bA); exact BK203.out) hb); have n5_ := A0k (pS (by repeat (first | (with_reducible first | exact HB.out | apply pA | apply pN | apply pD | refine bS ?_ GE198.out | refine bS ?_ GE199.out | refine bS ?_ GE200.out | refine bS ?_ GE202.out | refine bS ?_ GE203.out) | exact HB.out)) hb); clear BK198 BK199 BK200 BK202 BK203 HB; have BK198 := n0_; have BK199 := n1_; have BK200 := n2_; have BK202 := n3_; have BK203 := n4_; have HB := n5_; clear n0_ n1_ n2_ n3_ n4_ n5_; (try clear hb); (try clear hb2); (try clear hk); (try clear hi)))
        go_meet
        case rel => exact ⟨_, (true), (by first | rfl | (simp; done) | (simp [*]; done)), H', ⟨by have := HJ3.out; first | omega | exact Nat.le_refl _⟩, ⟨by (with_reducible repeat first | apply bN | apply bD | apply bA); exact BK198.out⟩, ⟨by (with_reducible repeat first | apply bN | apply bD | apply bA); exact BK199.out⟩, ⟨by (with_reducible repeat first | apply bN | apply bD | apply bA); exact BK200.out⟩, ⟨by (with_reducible repeat first | apply bN | apply bD | apply bA); exact BK202.out⟩, ⟨by (with_reducible repeat first | apply bN | apply bD | apply bA); exact BK203.out⟩, ⟨by repeat (first | (with_reducible first | exact HB.out | apply pA | apply pN | apply pD | refine bS ?_ GE198.out | refine bS ?_ GE199.out | refine bS ?_ GE200.out | refine bS ?_ GE202.out | refine bS ?_ GE203.out) | exact HB.out)⟩⟩
      case rest =>
       as_aux_lemma =>
       clear HC20
       (try clear c1); (try clear c2); (try clear p2); (try clear q2); (try clear hx2); (try clear c3); (try clear c4); (try clear c5); (try clear c8); (try clear c8b0); (try clear c9); (try clear c10); (try clear c12); (try clear c13); (try clear c14); (try clear c16); (try clear c18); (try clear c18b0); (try clear c19); (try clear c19b0); (try clear p20); (try clear q20); (try clear hx20); (try clear c21); (try clear c22); (try clear c25); (try clear c26); (try clear c27); (try clear c30); (try clear c31); (try clear c32); (try clear c33); (try clear c36); (try clear c38); (try clear c39); (try clear c40); (try clear c41); (try clear c44); (try clear c45); (try clear c46); (try clear c50); (try clear c51); (try clear c52); (try clear c53); (try clear hcz11_0); (try clear hcz11_1); (try clear hcz15_0); (try clear hcz15_1); (try clear hcz17_0); (try clear hcz17_1); (try clear hcz23_0); (try clear hcz23_1); (try clear hcz28_0); (try clear hcz28_1); (try clear hcz34_0); (try clear hcz34_1); (try clear hcz42_0); (try clear hcz42_1); (try clear hcz47_0); (try clear hcz47_1); (try clear hcz48_0); (try clear hcz48_1); (try clear hcz54_0); (try clear hcz54_1); (try clear hfz11_0); (try clear hfz11_1); (try clear hfz15_0); (try clear hfz15_1); (try clear hfz17_0); (try clear hfz17_1); (try clear hfz23_0); (try clear hfz23_1); (try clear hfz28_0); (try clear hfz28_1); (try clear hfz34_0); (try clear hfz34_1); (try clear hfz42_0); (try clear hfz42_1); (try clear hfz47_0); (try clear hfz47_1); (try clear hfz48_0); (try clear hfz48_1); (try clear hfz54_0); (try clear hfz54_1); (try clear hx201_0); (try clear hx201_1); (try clear p2); (try clear p201); (try clear q201)
       obtain ⟨kq, x40_19, rfl, HA, HJ19, BK198, BK199, BK200, BK202, BK203, HB⟩ := hcut
       cases kq with
       | zero => exact absurd HA.out (by simp [inode_Move.j1])
       | succ kj19 =>
        have H := HA.out
        clear HA
        simp only [inode_Move.j1] at H
        by_cases c56 : x40_19 = true
        ·subst c56
         have H1 : (some (0, ([] : List (S40)), 0, 0, some 1)) = some (r1, r2, r3, r4, r5) := by rw [if_pos rfl] at H; exact H
         clear H
         have H := H1
         clear H1
         simp only [Option.some.injEq, Prod.mk.injEq] at H
         obtain ⟨rfl, rfl, rfl, rfl, rfl⟩ := H
         have hnb57 := NB199_198.out
         have hnc57 := NB198_199.out
         have hnb58 := NB199_200.out
         have hnc58 := NB200_199.out
         have hnb59 := NB199_202.out
         have hnc59 := NB202_199.out
         have hnb60 := NB199_203.out
         have hnc60 := NB203_199.out
         have hcz61_0 : wc.cell? ⟨gb199, 0, none⟩ = some (.int .i64 0) := (bC BK199.out 0).trans rfl
         have hcz61_1 : wc.cell? ⟨gb199, 1, none⟩ = some (.slice none 0 0) := (bC BK199.out 1).trans rfl
         have hfz61_0 := bF BK199.out 0
         have hfz61_1 := bF BK199.out 1
         have hnb62 := NB200_198.out
         have hnc62 := NB198_200.out
         have hnb63 := NB200_202.out
         have hnc63 := NB202_200.out
         have hnb64 := NB200_203.out
         have hnc64 := NB203_200.out
         have hcz65_0 : wc.cell? ⟨gb200, 0, none⟩ = some (.int .i64 0) := (bC BK200.out 0).trans rfl
         have hcz65_1 : wc.cell? ⟨gb200, 1, none⟩ = some (.int .i64 0) := (bC BK200.out 1).trans rfl
         have hfz65_0 := bF BK200.out 0
         have hfz65_1 := bF BK200.out 1
         go_wp2
         refine bodyPost_ret (results_list (rs := [.cell 6 26, .cell 7 40, .tmp 8]) rfl (by simp) (.cell gb199 26 #[.int .i64 0, .slice none 0 0] (0, 0) _ rfl (by (with_reducible repeat first | apply bN | apply bD | apply bA); refine bR ?_ NB199_200.out _; (with_reducible repeat first | apply bN | apply bD | apply bA); refine bR ?_ NB199_200.out _; (with_reducible repeat first | apply bN | apply bD | apply bA); refine bP (cs := #[.int .i64 0, .slice none 0 0]) ?_ 1 _ rfl; (with_reducible repeat first | apply bN | apply bD | apply bA); refine bP (cs := #[.int .i64 0, .slice none 0 0]) ?_ 0 _ rfl; (with_reducible repeat first | apply bN | apply bD | apply bA); exact BK199.out) Tryd.underlying26 rfl (by kernel_rfl) (.cell gb200 40 #[.int .i64 0, .int .i64 0] (0, 0) _ rfl (by (with_reducible repeat first | apply bN | apply bD | apply bA); refine bP (cs := #[.int .i64 0, .int .i64 0]) ?_ 1 _ rfl; (with_reducible repeat first | apply bN | apply bD | apply bA); refine bP (cs := #[.int .i64 0, .int .i64 0]) ?_ 0 _ rfl; (with_reducible repeat first | apply bN | apply bD | apply bA); refine bR ?_ NB200_199.out _; (with_reducible repeat first | apply bN | apply bD | apply bA); refine bR ?_ NB200_199.out _; (with_reducible repeat first | apply bN | apply bD | apply bA); exact BK200.out) Tryd.underlying40 rfl (by kernel_rfl) (.tmp .nil)))) rfl ?_
         exact ⟨_, by first | rfl | (simp [errW_none, errW_some] <;> rfl) | (simp [*, errW_none, errW_some] <;> rfl), by first | exact Kd.R_nil _ _ _ _ _ | exact Kd.N_nil _ _ _ _ _ | exact Kd.V_nil _ _ _ _ _ | exact Kd.Q_nil _ _ _ _ _ | exact Kd.S_nil _ _ _ _ _, by repeat (first | (with_reducible first | exact HB.out | apply pA | apply pN | apply pD | refine bS ?_ GE198.out | refine bS ?_ GE199.out | refine bS ?_ GE200.out | refine bS ?_ GE202.out | refine bS ?_ GE203.out) | exact HB.out)⟩
        ·replace c56 := Bool.eq_false_iff.mpr c56
         subst c56
         have H1 : ((inode_Extent.f l0_1).bind fun t206 => (if 0 ≤ a1 then (if a1 < (t206.length : Int) then ((inode_Inode_changed.f a0_0 l0_1 (t206.set (a1 : Int).toNat (⟨a2, ((rd_T40 l0_1 a1).f1)⟩ : S40))).bind fun bt210 => (some (bt210.1, bt210.2, ((rd_T40 l0_1 a1).f0), ((rd_T40 l0_1 a1).f1), none))) else (none)) else (none))) = some (r1, r2, r3, r4, r5) := by rw [if_neg (show ¬ (false = true) by decide)] at H; exact H
         clear H
         have H := H1
         clear H1
         replace H := Option.bind_eq_some_iff.mp H
         obtain ⟨t206, A660, H⟩ := H
         replace H : (if 0 ≤ a1 then (if a1 < (t206.length : Int) then ((inode_Inode_changed.f a0_0 l0_1 (t206.set (a1 : Int).toNat (⟨a2, ((rd_T40 l0_1 a1).f1)⟩ : S40))).bind fun bt210 => (some (bt210.1, bt210.2, ((rd_T40 l0_1 a1).f0), ((rd_T40 l0_1 a1).f1), none))) else (none)) else (none)) = some (r1, r2, r3, r4, r5) := H
         have A66 := A0k A660
         clear A660
         by_cases c67 : 0 ≤ a1
         ·rw [if_pos c67] at H
          have c67b0 : decide (0 ≤ a1) = true := decide_eq_true c67
          clear c67
          by_cases c68 : a1 < (t206.length : Int)
          ·rw [if_pos c68] at H
           have c68b0 : decide (a1 < (t206.length : Int)) = true := decide_eq_true c68
           clear c68
           obtain ⟨y209, hy209⟩ : ∃ y_ : List (S40), y_ = (t206.set (a1 : Int).toNat (⟨a2, ((rd_T40 l0_1 a1).f1)⟩ : S40)) := ⟨_, rfl⟩
           replace H : ((inode_Inode_changed.f a0_0 l0_1 y209).bind fun bt210 => (some (bt210.1, bt210.2, ((rd_T40 l0_1 a1).f0), ((rd_T40 l0_1 a1).f1), none))) = some (r1, r2, r3, r4, r5) := by first | (rw [hy209]; with_reducible exact H) | (have H2_ := (Option.bind_some _ _).symm.trans H; rw [hy209]; with_reducible exact H2_) | (have H2_ := (Option.bind_some _ _).symm.trans H; with_reducible exact H2_) | with_reducible exact H | (rw [hy209]; exact H) | exact H
           have Ny209 := A0k hy209
           clear hy209
           replace H := Option.bind_eq_some_iff.mp H
           obtain ⟨⟨t210, t211⟩, A700, H⟩ := H
           replace H : (some (t210, t211, ((rd_T40 l0_1 a1).f0), ((rd_T40 l0_1 a1).f1), none)) = some (r1, r2, r3, r4, r5) := H
           have A70 := A0k A700
           clear A700
           simp only [Option.some.injEq, Prod.mk.injEq] at H
           obtain ⟨rfl, rfl, rfl, rfl, rfl⟩ := H
           have hnb71 := NB198_199.out
           have hnc71 := NB199_198.out
           have hnb72 := NB198_200.out
           have hnc72 := NB200_198.out
           have hnb73 := NB198_202.out
           have hnc73 := NB202_198.out
           have hnb74 := NB198_203.out
           have hnc74 := NB203_198.out
           have hcz75_0 : wc.cell? ⟨gb198, 0, none⟩ = some (.int .i64 a0_0) := (bC BK198.out 0).trans rfl
           have hcz75_1 : wc.cell? ⟨gb198, 1, none⟩ = some (.slice (some ad201) l0_1.length c0_1) := (bC BK198.out 1).trans rfl
           have hfz75_0 := bF BK198.out 0
           have hfz75_1 := bF BK198.out 1
           try go_wp2_with (first | ((with_reducible refine gC (f := 33) rfl ?_); refine gL_ (some 46) rfl rfl Tryd.func33 (by kernel_rfl) rfl #[.slice (some ad201) l0_1.length c0_1] rfl (by (try simp only [List.map_toArray, List.map_cons, List.map_nil]); first | done | rfl | (simp only [List.length_drop, List.length_take]; rfl)) ?_; (with_reducible refine (inode_Extent.calls _ _ l0_1 t206 _ ?side1 ?side2 A66.out).mono ?_); (case side1 => repeat (first | exact (Kd.C_below HR0_1.out HB.out) | (with_reducible refine Kd.C_alloc ?_ _) | (with_reducible refine Kd.C_drewN ?_ _) | (with_reducible refine Kd.C_drew ?_))); (case side2 => exact HC0_1.out); rintro e w76 ⟨v207, rfl, ho0, hb⟩; refine ⟨_, rfl, ?_⟩; have n0_ := A0k (Kd.R_lower (Kd.R_newB (Kd.R_newB (Kd.R_newB ho0 (g := gb200) (o := .cells #[.int .i64 0, .int .i64 0] 40 (0, 0)) (by (with_reducible repeat first | apply bN | apply bD | apply bA); exact BK200.out)) (g := gb202) (o := .cells #[.int .i64 ((rd_T40 l0_1 a1).f0), .int .i64 ((rd_T40 l0_1 a1).f1)] 40 (0, 0)) (by (with_reducible repeat first | apply bN | apply bD | apply bA); exact BK202.out)) (g := gb203) (o := .cells #[.int .i64 a2, .int .i64 ((rd_T40 l0_1 a1).f1)] 40 (0, 0)) (by (with_reducible repeat first | apply bN | apply bD | apply bA); exact BK203.out)) (pZ (by repeat (first | (with_reducible first | exact HB.out | apply pA | apply pN | apply pD | refine bS ?_ GE198.out | refine bS ?_ GE199.out | refine bS ?_ GE200.out | refine bS ?_ GE202.out | refine bS ?_ GE203.out) | exact HB.out)))); have n1_ := A0k (bB (g := gb198) (o := .cells #[.int .i64 a0_0, .slice (some ad201) l0_1.length c0_1] 26 (0, 0)) (by (with_reducible repeat first | apply bN | apply bD | apply bA); exact BK198.out) hb); have n2_ := A0k (bB (g := gb199) (o := .cells #[.int .i64 0, .slice none 0 0] 26 (0, 0)) (by (with_reducible repeat first | apply bN | apply bD | apply bA); exact BK199.out) hb); have n3_ := A0k (bB (g := gb200) (o := .cells #[.int .i64 0, .int .i64 0] 40 (0, 0)) (by (with_reducible repeat first | apply bN | apply bD | apply bA); exact BK200.out) hb); have n4_ := A0k (bB (g := gb202) (o := .cells #[.int .i64 ((rd_T40 l0_1 a1).f0), .int .i64 ((rd_T40 l0_1 a1).f1)] 40 (0, 0)) (by (with_reducible repeat first | apply bN | apply bD | apply bA); exact BK202.out) hb); have n5_ := A0k (bB (g := gb203) (o := .cells #[.int .i64 a2, .int .i64 ((rd_T40 l0_1 a1).f1)] 40 (0, 0)) (by (with_reducible repeat first | apply bN | apply bD | apply bA); exact BK203.out) hb); have n6_ := A0k (pS (by repeat (first | (with_reducible first | exact HB.out | apply pA | apply pN | apply pD | refine bS ?_ GE198.out | refine bS ?_ GE199.out | refine bS ?_ GE200.out | refine bS ?_ GE202.out | refine bS ?_ GE203.out) | exact HB.out)) hb); clear BK198 BK199 BK200 BK202 BK203 HB; have HO208 := n0_; have BK198 := n1_; have BK199 := n2_; have BK200 := n3_; have BK202 := n4_; have BK203 := n5_; have HB := n6_; clear n0_ n1_ n2_ n3_ n4_ n5_ n6_; (try clear hb); (try clear hb2); (try clear hk); (try clear hi); (try clear ho0); have hnb77 := NB203_199.out; have hnc77 := NB199_203.out; have hnb78 := NB203_200.out; have hnc78 := NB200_203.out; have hnb79 := NB203_202.out; have hnc79 := NB202_203.out; have hcz80_0 : w76.cell? ⟨gb203, 0, none⟩ = some (.int .i64 a2) := (bC BK203.out 0).trans rfl; have hcz80_1 : w76.cell? ⟨gb203, 1, none⟩ = some (.int .i64 ((rd_T40 l0_1 a1).f1)) := (bC BK203.out 1).trans rfl; have hfz80_0 := bF BK203.out 0; have hfz80_1 := bF BK203.out 1; have p69 : 0 ≤ (a1 : Int) := of_decide_eq_true (by first | (with_reducible assumption) | assumption); have q69 : (a1 : Int) < ((t206.length : Int) : Int) := of_decide_eq_true (by first | (with_reducible assumption) | assumption); obtain ⟨go69, co69, eo69, gb69, gl69, cl69, HG69⟩ := Kd.R_form HO208.out (by omega); (first | cases eo69 | (injection eo69 with ea_ en_ ec_; (first | subst ea_ | (injection ea_ with ea_; subst ea_)); subst ec_; clear en_)); have GB69 := A0k gb69; have GG69 := A0k HG69; clear gb69 gl69 HG69; obtain ⟨ce69, hcl69, hM69, hcc69, hfr69⟩ := Kd.R_elem HO208.out z40 (a1 : Int) p69 q69; obtain rfl := k40_openM hM69; have hx69_0 : w76.cell? ⟨go69, (a1 : Int).toNat * 2, none⟩ = some (.int .i64 ((rd_T40 t206 a1).f0)) := hcc69 0 _ rfl; have hx69_1 : w76.cell? ⟨go69, (a1 : Int).toNat * 2 + 1, none⟩ = some (.int .i64 ((rd_T40 t206 a1).f1)) := hcc69 1 _ rfl; have hf69_0 : w76.frozen? ⟨go69, (a1 : Int).toNat * 2, none⟩ = false := hfr69 0; have hf69_1 : w76.frozen? ⟨go69, (a1 : Int).toNat * 2 + 1, none⟩ = false := hfr69 1; clear hcl69 hcc69 hfr69 hM69; replace p69 := eq_true p69; replace q69 := eq_true q69; have n_ := A0k (Kd.R_mono (ok' := (fun k_ => k_ ≠ gb200 ∧ k_ ≠ gb202 ∧ k_ ≠ gb203)) HO208.out (fun k_ hk => ⟨hk.1.1.2, ⟨hk.1.2, hk.2⟩⟩)); clear HO208; have HO208 := n_; clear n_; have HX81 := A0k (show Kd.R k40 40 w76 w.heap.size (fun k_ => k_ ≠ gb200 ∧ k_ ≠ gb202 ∧ k_ ≠ gb203) (.slice (some ⟨go69, 0, none⟩) t206.length co69) t206 from (by (with_reducible repeat first | apply rA | apply rN | apply rD); exact HO208.out)); obtain ⟨ce81, hcl81, hM81, hcc81, hfr81⟩ := Kd.R_elem HX81.out z40 (a1 : Int) (of_decide_eq_true (by first | (with_reducible assumption) | assumption)) (by have h_ : (a1 : Int) < ((t206.length : Int) : Int) := of_decide_eq_true (by first | (with_reducible assumption) | assumption); first | exact h_ | (have e_ := (Kd.R_reads' HO208.out).1; omega) | simpa using h_); obtain rfl := k40_openM hM81; have HP81 := Kd.R_seg HX81.out (a1 : Int) (of_decide_eq_true (by first | (with_reducible assumption) | assumption)) (by have h_ : (a1 : Int) < ((t206.length : Int) : Int) := of_decide_eq_true (by first | (with_reducible assumption) | assumption); first | exact h_ | (have e_ := (Kd.R_reads' HO208.out).1; omega) | simpa using h_) (seg := [.int .i64 a2, .int .i64 ((rd_T40 l0_1 a1).f1)]) (j := 0) hcl81 hcc81 (show 2 ≤ 2 from by decide) (x' := (⟨a2, ((rd_T40 l0_1 a1).f1)⟩ : S40)) (k40_mkM _ _ _ (⟨a2, ((rd_T40 l0_1 a1).f1)⟩ : S40) ) (fun _ hk => hk); have hx81_0 := hcc81 0 _ rfl; (try simp only [show (k40).sz = 2 from rfl, Nat.mul_one, Nat.add_zero] at hx81_0); have hf81_0 := hfr81 0; (try simp only [show (k40).sz = 2 from rfl, Nat.mul_one, Nat.add_zero] at hf81_0); have hx81_1 := hcc81 1 _ rfl; (try simp only [show (k40).sz = 2 from rfl, Nat.mul_one, Nat.add_zero] at hx81_1); have hf81_1 := hfr81 1; (try simp only [show (k40).sz = 2 from rfl, Nat.mul_one, Nat.add_zero] at hf81_1); clear hcl81 hcc81 hfr81 hM81) | ((with_reducible refine gate_store (t := 40) (p := 50) rfl ?_); refine store_event (t := 40) (p := 50) (v := ?vo_w82) (w1 := ((w76.setCell ⟨go69, (a1 : Int).toNat * 2, none⟩ (.int .i64 a2)).setCell ⟨go69, (a1 : Int).toNat * 2 + 1, none⟩ (.int .i64 ((rd_T40 l0_1 a1).f1)))) ?hg ?ho ?hn ?hr ?_; (case ho => rfl); (case hg => rfl); (case hn => rfl); (case hr => first | (go_simp; done) | (go_simp; rfl)); intro w82 hw; have hg : w76.grownBy w82 (some go69) := (by rw [hw]; exact HP81.2); have hp_ : Kd.R k40 40 w82 w.heap.size (fun k_ => k_ ≠ gb200 ∧ k_ ≠ gb202 ∧ k_ ≠ gb203) (.slice (some ⟨go69, 0, none⟩) t206.length co69) y209 := (by rw [hw, Ny209.out]; exact HP81.1); clear HP81; have n0_ := A0k (blk_grown (g := gb198) (o := .cells #[.int .i64 a0_0, .slice (some ad201) l0_1.length c0_1] 26 (0, 0)) (by (with_reducible repeat first | apply bN | apply bD | apply bA); exact BK198.out) hg (Kd.R_ne HO208.out BK198.out (by decide))); have n1_ := A0k (blk_grown (g := gb199) (o := .cells #[.int .i64 0, .slice none 0 0] 26 (0, 0)) (by (with_reducible repeat first | apply bN | apply bD | apply bA); exact BK199.out) hg (Kd.R_ne HO208.out BK199.out (by decide))); have n2_ := A0k (blk_grown (g := gb200) (o := .cells #[.int .i64 0, .int .i64 0] 40 (0, 0)) (by (with_reducible repeat first | apply bN | apply bD | apply bA); exact BK200.out) hg (Kd.R_away HO208.out (fun _ hk => hk.1))); have n3_ := A0k (blk_grown (g := gb202) (o := .cells #[.int .i64 ((rd_T40 l0_1 a1).f0), .int .i64 ((rd_T40 l0_1 a1).f1)] 40 (0, 0)) (by (with_reducible repeat first | apply bN | apply bD | apply bA); exact BK202.out) hg (Kd.R_away HO208.out (fun _ hk => hk.2.1))); have n4_ := A0k (blk_grown (g := gb203) (o := .cells #[.int .i64 a2, .int .i64 ((rd_T40 l0_1 a1).f1)] 40 (0, 0)) (by (with_reducible repeat first | apply bN | apply bD | apply bA); exact BK203.out) hg (Kd.R_away HO208.out (fun _ hk => hk.2.2))); have n5_ := A0k (hp_); have n6_ := A0k ((by rw [hw]; exact bS (bS (HB.out) GB69.out) GB69.out : Below w.heap.size w w82)); clear BK198 BK199 BK200 BK202 BK203 HO208 HB; have BK198 := n0_; have BK199 := n1_; have BK200 := n2_; have BK202 := n3_; have BK203 := n4_; have HO208 := n5_; have HB := n6_; clear n0_ n1_ n2_ n3_ n4_ n5_ n6_ hg hw hp_))
           have n0_ := A0k (Kd.R_drew HO208.out)
           have n1_ := A0k (bD BK198.out)
           have n2_ := A0k (bD BK199.out)
           have n3_ := A0k (bD BK200.out)
           have n4_ := A0k (bD BK202.out)
           have n5_ := A0k (bD BK203.out)
           have n6_ := A0k (pD HB.out)
           clear HO208
           clear BK198
           clear BK199
           clear BK200
           clear BK202
           clear BK203
           clear HB
           have HO208 := n0_
           have BK198 := n1_
           have BK199 := n2_
           have BK200 := n3_
           have BK202 := n4_
           have BK203 := n5_
           have HB := n6_
           clear n0_ n1_ n2_ n3_ n4_ n5_ n6_
           refine start_ (n := 7) (S := fun w' => w'.cell? ⟨gb198, 0, none⟩ = some (.int .i64 a0_0) ∧ w'.cell? ⟨gb198, 1, none⟩ = some (.slice (some ad201) l0_1.length c0_1) ∧ w'.cell? ⟨gb202, 0, none⟩ = some (.int .i64 ((rd_T40 l0_1 a1).f0)) ∧ w'.cell? ⟨gb202, 1, none⟩ = some (.int .i64 ((rd_T40 l0_1 a1).f1))) (ds := []) #[F, F, F, F, F, F, F] (by kernel_rfl) rfl rfl ⟨(bC BK198.out 0).trans rfl, (bC BK198.out 1).trans rfl, (bC BK202.out 0).trans rfl, (bC BK202.out 1).trans rfl⟩ (fun hHeld => ?_)
           generalize w82.drew = w83 at HO208 BK198 BK199 BK200 BK202 BK203 HB hHeld ⊢
           refine pure_ (i := 1) (N := some 52) (v := ?_) (a' := ?_) #[F, T, F, F, F, F, F] rfl rfl (by kernel_rfl) (fun _ _ _ h => h) (Or.inl ⟨by rfl, ?_⟩) ?_ ?_
           rotate_left
           ·intro w'
            go_simp
            with_reducible rfl
           rotate_left
           ·simp only [Act.put, lS, lZ, lC, i64_w, i32_w]
            rfl
           refine take_ (i := 0) (N := some 51) (v := ?_) (a' := ?_) #[T, T, F, F, F, F, F] rfl rfl (by kernel_rfl) (fun _ _ _ h => h) (Or.inl ⟨by rfl, ?_⟩) hHeld ?_ ?_
           rotate_left; (· rintro w' ⟨s0, s1, s2, s3⟩; go_simp; with_reducible rfl); rotate_left; (· simp only [Act.put, lS, lZ, lC, i64_w, i32_w]; rfl)
           refine take_ (i := 3) (N := some 54) (v := ?_) (a' := ?_) #[T, T, F, T, F, F, F] rfl rfl (by kernel_rfl) (fun _ _ _ h => h) (Or.inl ⟨by rfl, ?_⟩) hHeld ?_ ?_
           rotate_left; (· rintro w' ⟨s0, s1, s2, s3⟩; go_simp; with_reducible rfl); rotate_left; (· simp only [Act.put, lS, lZ, lC, i64_w, i32_w]; rfl)
           refine one_ (i := 2) (N := some 53) #[T, T, T, T, F, F, F] rfl rfl (by kernel_rfl) (by decide) (fun K hK => ?_)
           refine goes_ Tryd.func29 (by kernel_rfl) rfl #[.agg #[.int .i64 a0_0, .slice (some ad201) l0_1.length c0_1], .slice (some ⟨go69, 0, none⟩) t206.length co69] (by rfl) rfl rfl (by (try simp only [List.map_toArray, List.map_cons, List.map_nil]); first | done | rfl | (simp only [List.length_drop, List.length_take]; rfl)) ?_
           with_reducible refine (inode_Inode_changed.calls a0_0 _ _ l0_1 (fun k_ => some k_ = (.slice (some ⟨go69, 0, none⟩) t206.length co69 : Value).ownBlock) (.slice (some ⟨go69, 0, none⟩) t206.length co69) y209 t210 t211 w _ ?side1 ?side2 ?side3 ?side4 A70.out).mono ?_
           (case side1 => repeat (first | (with_reducible first | exact HB.out | apply pA | apply pN | apply pD | refine bS ?_ GE198.out | refine bS ?_ GE199.out | refine bS ?_ GE200.out | refine bS ?_ GE202.out | refine bS ?_ GE203.out) | exact HB.out))
           (case side2 => exact Kd.C_kept_came k40_heap HR0_1.out (by repeat (first | (with_reducible first | exact HB.out | apply pA | apply pN | apply pD | refine bS ?_ GE198.out | refine bS ?_ GE199.out | refine bS ?_ GE200.out | refine bS ?_ GE202.out | refine bS ?_ GE203.out) | exact HB.out)) (fun k_ hs_ => (fun e_ => Kd.R_base HO208.out k_ e_.symm) hs_))
           (case side3 => exact HC0_1.out)
           (case side4 => exact Kd.R_tight rfl HO208.out)
           rintro e w84 ⟨v212, rfl, ho0, hb, hkp⟩
           refine ⟨_, rfl, ?_⟩
           have n0_ := A0k (blk_kept (by (with_reducible repeat first | apply bN | apply bD | apply bA); exact BK198.out) hkp (fun hs_ => (fun e_ => (Kd.R_ne HO208.out BK198.out (by decide)) e_) hs_))
           have n1_ := A0k (blk_kept (by (with_reducible repeat first | apply bN | apply bD | apply bA); exact BK199.out) hkp (fun hs_ => (fun e_ => (Kd.R_ne HO208.out BK199.out (by decide)) e_) hs_))
           have n2_ := A0k (blk_kept (by (with_reducible repeat first | apply bN | apply bD | apply bA); exact BK200.out) hkp (fun hs_ => (fun e_ => (Kd.R_away HO208.out (fun _ hk => hk.1)) e_) hs_))
           have n3_ := A0k (blk_kept (by (with_reducible repeat first | apply bN | apply bD | apply bA); exact BK202.out) hkp (fun hs_ => (fun e_ => (Kd.R_away HO208.out (fun _ hk => hk.2.1)) e_) hs_))
           have n4_ := A0k (blk_kept (by (with_reducible repeat first | apply bN | apply bD | apply bA); exact BK203.out) hkp (fun hs_ => (fun e_ => (Kd.R_away HO208.out (fun _ hk => hk.2.2)) e_) hs_))
           have n5_ := A0k (Kd.R_mono (ok' := fun k_ => k_ ≠ gb200 ∧ k_ ≠ gb202 ∧ k_ ≠ gb203) ho0 (fun k_ hk_ => ⟨Or.elim hk_ (fun hs_ => fun e_ => (Kd.R_away HO208.out (fun _ hk => hk.1)) (by rw [← e_]; exact hs_)) (fun hn_ => (Kd.freshB (g := gb200) (o := .cells #[.int .i64 0, .int .i64 0] 40 (0, 0)) (by (with_reducible repeat first | apply bN | apply bD | apply bA); exact BK200.out) k_ hn_)), Or.elim hk_ (fun hs_ => fun e_ => (Kd.R_away HO208.out (fun _ hk => hk.2.1)) (by rw [← e_]; exact hs_)) (fun hn_ => (Kd.freshB (g := gb202) (o := .cells #[.int .i64 ((rd_T40 l0_1 a1).f0), .int .i64 ((rd_T40 l0_1 a1).f1)] 40 (0, 0)) (by (with_reducible repeat first | apply bN | apply bD | apply bA); exact BK202.out) k_ hn_)), Or.elim hk_ (fun hs_ => fun e_ => (Kd.R_away HO208.out (fun _ hk => hk.2.2)) (by rw [← e_]; exact hs_)) (fun hn_ => (Kd.freshB (g := gb203) (o := .cells #[.int .i64 a2, .int .i64 ((rd_T40 l0_1 a1).f1)] 40 (0, 0)) (by (with_reducible repeat first | apply bN | apply bD | apply bA); exact BK203.out) k_ hn_))⟩))
           have n6_ := A0k (hb)
           clear BK198
           clear BK199
           clear BK200
           clear BK202
           clear BK203
           clear HB
           clear HO208
           have BK198 := n0_
           have BK199 := n1_
           have BK200 := n2_
           have BK202 := n3_
           have BK203 := n4_
           have HO213 := n5_
           have HB := n6_
           clear n0_ n1_ n2_ n3_ n4_ n5_ n6_
           (try clear hb)
           (try clear hkp)
           (try clear ho0)
           obtain ⟨Ao86, co86, eo86⟩ := Kd.R_slice HO213.out
           (first | subst eo86 | (injection eo86 with f1_ f2_ f3_; have f4_ := f1_.symm; have f5_ := f3_.symm; clear f1_ f2_ f3_; subst f4_; subst f5_))
           refine hK.out _ _ ⟨(bC BK198.out 0).trans rfl, (bC BK198.out 1).trans rfl, (bC BK202.out 0).trans rfl, (bC BK202.out 1).trans rfl⟩ (fun hHeld => ?_)
           clear hK K
           refine norm_ (a' := ?_) ?_ ?_
           rotate_left
           ·show Act.put _ (some 53) _ = _
            simp only [Act.put, lS, lZ, lC, i64_w, i32_w]
            rfl
           refine one_ (i := 4) (N := none) #[T, T, T, T, T, F, F] rfl rfl (by kernel_rfl) (by decide) (fun K hK => ?_)
           have hs85 : w84.cell? ⟨gb199, 0, none⟩ = some (.int .i64 0) := (bC BK199.out 0).trans rfl
           have hfs85 := bF BK199.out 0
           have hns85_0 := NB198_199.out
           have hns85_2 := NB200_199.out
           have hns85_3 := NB202_199.out
           have hns85_4 := NB203_199.out
           have hms85_0 := NB199_198.out
           have hms85_2 := NB199_200.out
           have hms85_3 := NB199_202.out
           have hms85_4 := NB199_203.out
           have hs87 : w84.cell? ⟨gb199, 1, none⟩ = some (.slice none 0 0) := (bC BK199.out 1).trans rfl
           have hfs87 := bF BK199.out 1
           have hns87_0 := NB198_199.out
           have hns87_2 := NB200_199.out
           have hns87_3 := NB202_199.out
           have hns87_4 := NB203_199.out
           have hms87_0 := NB199_198.out
           have hms87_2 := NB199_200.out
           have hms87_3 := NB199_202.out
           have hms87_4 := NB199_203.out
           refine skip_ (w1 := ?_) (by rfl) rfl ?_ ?_
           rotate_left
           ·go_simp
            rfl
           refine hK.out _ _ ⟨((cF (p := ⟨gb199, _, none⟩) NB198_199.out _).trans (((cF (p := ⟨gb199, _, none⟩) NB198_199.out _).trans (hHeld.1)))), ((cF (p := ⟨gb199, _, none⟩) NB198_199.out _).trans (((cF (p := ⟨gb199, _, none⟩) NB198_199.out _).trans (hHeld.2.1)))), ((cF (p := ⟨gb199, _, none⟩) NB202_199.out _).trans (((cF (p := ⟨gb199, _, none⟩) NB202_199.out _).trans (hHeld.2.2.1)))), ((cF (p := ⟨gb199, _, none⟩) NB202_199.out _).trans (((cF (p := ⟨gb199, _, none⟩) NB202_199.out _).trans (hHeld.2.2.2))))⟩ (fun hHeld => ?_)
           clear hK K
           refine one_ (i := 5) (N := none) #[T, T, T, T, T, T, F] rfl rfl (by kernel_rfl) (by decide) (fun K hK => ?_)
           have hs88 : w84.cell? ⟨gb200, 0, none⟩ = some (.int .i64 0) := (bC BK200.out 0).trans rfl
           have hfs88 := bF BK200.out 0
           have hns88_0 := NB198_200.out
           have hns88_1 := NB199_200.out
           have hns88_3 := NB202_200.out
           have hns88_4 := NB203_200.out
           have hms88_0 := NB200_198.out
           have hms88_1 := NB200_199.out
           have hms88_3 := NB200_202.out
           have hms88_4 := NB200_203.out
           have hs89 : w84.cell? ⟨gb200, 1, none⟩ = some (.int .i64 0) := (bC BK200.out 1).trans rfl
           have hfs89 := bF BK200.out 1
           have hns89_0 := NB198_200.out
           have hns89_1 := NB199_200.out
           have hns89_3 := NB202_200.out
           have hns89_4 := NB203_200.out
           have hms89_0 := NB200_198.out
           have hms89_1 := NB200_199.out
           have hms89_3 := NB200_202.out
           have hms89_4 := NB200_203.out
           refine skip_ (w1 := ?_) (by rfl) rfl ?_ ?_
           rotate_left
           ·go_simp
            rfl
           refine hK.out _ _ ⟨((cF (p := ⟨gb200, _, none⟩) NB198_200.out _).trans (((cF (p := ⟨gb200, _, none⟩) NB198_200.out _).trans (hHeld.1)))), ((cF (p := ⟨gb200, _, none⟩) NB198_200.out _).trans (((cF (p := ⟨gb200, _, none⟩) NB198_200.out _).trans (hHeld.2.1)))), ((cF (p := ⟨gb200, _, none⟩) NB202_200.out _).trans (((cF (p := ⟨gb200, _, none⟩) NB202_200.out _).trans (hHeld.2.2.1)))), ((cF (p := ⟨gb200, _, none⟩) NB202_200.out _).trans (((cF (p := ⟨gb200, _, none⟩) NB202_200.out _).trans (hHeld.2.2.2))))⟩ (fun hHeld => ?_)
           clear hK K
           refine pure_ (i := 6) (N := some 8) (v := ?_) (a' := ?_) #[T, T, T, T, T, T, T] rfl rfl (by kernel_rfl) (fun _ _ _ h => h) (Or.inl ⟨by rfl, ?_⟩) ?_ ?_
           rotate_left
           ·intro w'
            go_simp
            with_reducible rfl
           rotate_left
           ·simp only [Act.put, lS, lZ, lC, i64_w, i32_w]
            rfl
           refine done_ (by kernel_rfl) ?_
           try go_wp2
           refine bodyPost_ret (results_list (rs := [.cell 6 26, .cell 7 40, .tmp 8]) rfl (by simp) (.cell gb199 26 #[.int .i64 t210, .slice Ao86 t211.length co86] (0, 0) _ rfl (by (with_reducible repeat first | apply bN | apply bD | apply bA); refine bR ?_ NB199_200.out _; (with_reducible repeat first | apply bN | apply bD | apply bA); refine bR ?_ NB199_200.out _; (with_reducible repeat first | apply bN | apply bD | apply bA); refine bP (cs := #[.int .i64 t210, .slice none 0 0]) ?_ 1 _ rfl; (with_reducible repeat first | apply bN | apply bD | apply bA); refine bP (cs := #[.int .i64 0, .slice none 0 0]) ?_ 0 _ rfl; (with_reducible repeat first | apply bN | apply bD | apply bA); exact BK199.out) Tryd.underlying26 rfl (by kernel_rfl) (.cell gb200 40 #[.int .i64 ((rd_T40 l0_1 a1).f0), .int .i64 ((rd_T40 l0_1 a1).f1)] (0, 0) _ rfl (by (with_reducible repeat first | apply bN | apply bD | apply bA); refine bP (cs := #[.int .i64 ((rd_T40 l0_1 a1).f0), .int .i64 0]) ?_ 1 _ rfl; (with_reducible repeat first | apply bN | apply bD | apply bA); refine bP (cs := #[.int .i64 0, .int .i64 0]) ?_ 0 _ rfl; (with_reducible repeat first | apply bN | apply bD | apply bA); refine bR ?_ NB200_199.out _; (with_reducible repeat first | apply bN | apply bD | apply bA); refine bR ?_ NB200_199.out _; (with_reducible repeat first | apply bN | apply bD | apply bA); exact BK200.out) Tryd.underlying40 rfl (by kernel_rfl) (.tmp .nil)))) rfl ?_
           exact ⟨_, by first | rfl | (simp [errW_none, errW_some] <;> rfl) | (simp [*, errW_none, errW_some] <;> rfl), by (with_reducible repeat first | apply rA | apply rN | apply rD); exact Kd.R_mono (Kd.R_far (p := ⟨gb200, 1, none⟩) (Kd.R_far (p := ⟨gb200, 0, none⟩) (Kd.R_far (p := ⟨gb199, 1, none⟩) (Kd.R_far (p := ⟨gb199, 0, none⟩) (Kd.R_mono (Kd.R_types HO213.out BK199.out (by decide)) (fun k_ hk => (⟨hk, hk.1.1⟩ : _ ∧ k_ ≠ gb200))) (fun _ hk => hk.1.2) (.int .i64 t210)) (fun _ hk => hk.1.2) (.slice Ao86 t211.length co86)) (fun _ hk => hk.2) (.int .i64 ((rd_T40 l0_1 a1).f0))) (fun _ hk => hk.2) (.int .i64 ((rd_T40 l0_1 a1).f1))) (fun _ hk => trivial), by repeat (first | (with_reducible first | exact HB.out | apply pA | apply pN | apply pD | refine bS ?_ GE198.out | refine bS ?_ GE199.out | refine bS ?_ GE200.out | refine bS ?_ GE202.out | refine bS ?_ GE203.out) | exact HB.out)⟩
          ·rw [if_neg c68] at H
           exact absurd H (by simp)
         ·rw [if_neg c67] at H
          exact absurd H (by simp)
     ·rw [if_neg c19] at H
      exact absurd H (by simp)
    ·rw [if_neg c18] at H
     exact absurd H (by simp)

/-! ### posthorseref08_free: function 34 -/
mutual
def posthorseref08_free.j0 : Nat → Int → Int → Bool → Int → List (S39) → Option (Bool)
 | 0, _, _, _, _, _ => none
 | k + 1, x1, x2, x24, x215000, x215001 => if x24 = true then (some false) else ((posthorseref08_Sectors.f k x215000 x215001).bind fun t215 => (posthorseref08_free.l0 k x1 x2 t215 0))
def posthorseref08_free.l0 : Nat → Int → Int → List Int → Int → Option (Bool)
 | 0, _, _, _, _ => none
 | k + 1, x1, x2, x7, x8 => if x8 < (x7.length : Int) then (if 0 ≤ x8 then (if (rd x7 x8) ≥ x1 then (if (rd x7 x8) < (wrap64 (x1 + x2)) then (some false) else (posthorseref08_free.l0 k x1 x2 x7 (wrap64 (x8 + 1)))) else (posthorseref08_free.l0 k x1 x2 x7 (wrap64 (x8 + 1)))) else (none)) else (some true)
end
def posthorseref08_free.f (k : Nat) (a0_0 : Int) (l0_1 : List (S39)) (a1 : Int) (a2 : Int) : Option (Bool) := if a2 < 1 then (posthorseref08_free.j0 k a1 a2 true a0_0 l0_1) else (if a1 < 0 then (posthorseref08_free.j0 k a1 a2 true a0_0 l0_1) else (if a2 > 2048 then (posthorseref08_free.j0 k a1 a2 true a0_0 l0_1) else (posthorseref08_free.j0 k a1 a2 (decide (a1 > (wrap64 (2048 - a2)))) a0_0 l0_1)))
set_option maxRecDepth 100000 in
theorem posthorseref08_free.mono_l : ∀ k, (∀ y0 y1 y2 y3 y4, LeO (posthorseref08_free.j0 k y0 y1 y2 y3 y4) (posthorseref08_free.j0 (k + 1) y0 y1 y2 y3 y4)) ∧ (∀ y0 y1 y2 y3, LeO (posthorseref08_free.l0 k y0 y1 y2 y3) (posthorseref08_free.l0 (k + 1) y0 y1 y2 y3))
 | 0 => ⟨fun _ _ _ _ _ r h => by first | (rw [posthorseref08_free.j0] at h; cases h) | simp [posthorseref08_free.j0] at h, fun _ _ _ _ r h => by first | (rw [posthorseref08_free.l0] at h; cases h) | simp [posthorseref08_free.l0] at h⟩
 | k + 1 => by
  obtain ⟨ih0, ih1⟩ := posthorseref08_free.mono_l k
  refine ⟨?_, ?_⟩
  ·intro y0 y1 y2 y3 y4
   unfold posthorseref08_free.j0
   repeat' first
   | (with_reducible exact ih0 _ _ _ _ _)
   | (with_reducible exact ih1 _ _ _ _)
   | (with_reducible exact posthorseref08_Sectors.mono _ _ _)
   | (with_reducible exact LeO.refl _)
   | (with_reducible exact LeO.none _)
   | (with_reducible refine LeO.ite ?_ ?_)
   | (with_reducible refine LeO.bind ?_ (fun _ => ?_))
   | exact ih0 _ _ _ _ _
   | exact ih1 _ _ _ _
   | exact posthorseref08_Sectors.mono _ _ _
   | exact LeO.none _
   | refine LeO.ite ?_ ?_
   | refine LeO.bind ?_ (fun _ => ?_)
  ·intro y0 y1 y2 y3
   unfold posthorseref08_free.l0
   repeat' first
   | (with_reducible exact ih0 _ _ _ _ _)
   | (with_reducible exact ih1 _ _ _ _)
   | (with_reducible exact posthorseref08_Sectors.mono _ _ _)
   | (with_reducible exact LeO.refl _)
   | (with_reducible exact LeO.none _)
   | (with_reducible refine LeO.ite ?_ ?_)
   | (with_reducible refine LeO.bind ?_ (fun _ => ?_))
   | exact ih0 _ _ _ _ _
   | exact ih1 _ _ _ _
   | exact posthorseref08_Sectors.mono _ _ _
   | exact LeO.none _
   | refine LeO.ite ?_ ?_
   | refine LeO.bind ?_ (fun _ => ?_)
theorem posthorseref08_free.mono : ∀ a0 a1 a2 a3 k, LeO (posthorseref08_free.f k a0 a1 a2 a3) (posthorseref08_free.f (k + 1) a0 a1 a2 a3) := by
 intro a0 a1 a2 a3 k
 obtain ⟨ih0, ih1⟩ := posthorseref08_free.mono_l k
 unfold posthorseref08_free.f
 repeat' first
   | (with_reducible exact ih0 _ _ _ _ _)
   | (with_reducible exact ih1 _ _ _ _)
   | (with_reducible exact posthorseref08_Sectors.mono _ _ _)
   | (with_reducible exact LeO.refl _)
   | (with_reducible exact LeO.none _)
   | (with_reducible refine LeO.ite ?_ ?_)
   | (with_reducible refine LeO.bind ?_ (fun _ => ?_))
   | exact ih0 _ _ _ _ _
   | exact ih1 _ _ _ _
   | exact posthorseref08_Sectors.mono _ _ _
   | exact LeO.none _
   | refine LeO.ite ?_ ?_
   | refine LeO.bind ?_ (fun _ => ?_)
open posthorseref08_free renaming j0 → Wj0, l0 → Wl0
set_option maxHeartbeats 8000000 in
set_option maxRecDepth 100000 in
theorem posthorseref08_free.calls (k : Nat) (a0_0 : Int) (A0_1 : Option Addr) (c0_1 : Nat) (l0_1 : List (S39)) (a1 : Int) (a2 : Int) (r : Bool) (w : World) (hr0_1 : Kd.C k39 w A0_1 l0_1.length l0_1) (hc0_1 : l0_1.length ≤ c0_1) (h : posthorseref08_free.f k a0_0 l0_1 a1 a2 = some r) :
  Calls Tryd.prog 34 #[.agg #[.int .i64 a0_0, .slice A0_1 l0_1.length c0_1], .int .i64 a1, .int .i64 a2] w fun e w' => e = .returned (.bool r) ∧ Below w.heap.size w w' := by
 have hu29 := Tryd.underlying29
 have HR0_1 := A0k hr0_1
 have HC0_1 := A0k hc0_1
 clear hr0_1 hc0_1
 have HB := A0k (Below.refl w.heap.size w)
 have H : (if a2 < 1 then (Wj0 k a1 a2 true a0_0 l0_1) else (if a1 < 0 then (Wj0 k a1 a2 true a0_0 l0_1) else (if a2 > 2048 then (Wj0 k a1 a2 true a0_0 l0_1) else (Wj0 k a1 a2 (decide (a1 > (wrap64 (2048 - a2)))) a0_0 l0_1)))) = some r := h
 clear h
 have HC4 := A0k H
 clear H
 go_enter Tryd.func34, Tryd.ntmps34
 go_upto_region 1 with (first | ((with_reducible refine gD (N := 3) rfl ?_); refine bE ?hg (N := 3) ?hd (cs := #[.int .i64 a0_0, .slice A0_1 l0_1.length c0_1]) (t := 29) ?hr ?_; (case hd => rfl); (case hg => rfl); (case hr => first | (go_simp; done) | (go_simp; rfl)); intro gb214 hg w5 hbox hb; have n0_ := A0k (pS (by repeat (first | (with_reducible first | exact HB.out | apply pA | apply pN | apply pD) | exact HB.out)) hb); have n1_ := A0k (hbox); have n2_ := A0k ((by rw [hg]; exact (pZ (by repeat (first | (with_reducible first | exact HB.out | apply pA | apply pN | apply pD) | exact HB.out))) : w.heap.size ≤ gb214)); have n3_ := A0k ((by rw [hg]; exact (pZ (by repeat (first | (with_reducible first | exact HB.out | apply pA | apply pN | apply pD) | exact HB.out))) : w.heap.size ≤ gb214)); clear HB; have HB := n0_; have BK214 := n1_; have GW214 := n2_; have GE214 := n3_; clear n0_ n1_ n2_ n3_ hb hbox hg))
 (try simp only [Act.put, lS, lZ, lC])
 go_cut [24] (fun v24 wc => ∃ (kq : Nat) (x24_3 : Bool), v24 = .bool x24_3 ∧ Aside0 (Wj0 kq a1 a2 x24_3 a0_0 l0_1 = some r) ∧ Aside0 (kq ≤ k) ∧ Aside0 (wc.heap[gb214]? = some (.cells #[.int .i64 a0_0, (.slice A0_1 l0_1.length c0_1)] 29 (0, 0))) ∧ Aside0 (Below w.heap.size w wc))
 case first =>
  as_aux_lemma =>
  have H := HC4.out
  clear HC4
  by_cases c6 : a2 < 1
  ·rw [if_pos c6] at H
   have c6b0 : decide (a2 < 1) = true := decide_eq_true c6
   clear c6
   (first | rw [c6b0] | (simp only [i64_w, i32_w]; rw [c6b0]) | skip)
   have H' := A0k H
   clear H
   go_wp2
   go_meet
   case rel => exact ⟨_, (true), (by first | rfl | (simp; done) | (simp [*]; done)), H', ⟨by first | omega | exact Nat.le_refl _⟩, ⟨by (with_reducible repeat first | apply bN | apply bD | apply bA); exact BK214.out⟩, ⟨by repeat (first | (with_reducible first | exact HB.out | apply pA | apply pN | apply pD | refine bS ?_ GE214.out) | exact HB.out)⟩⟩
  ·rw [if_neg c6] at H
   have c6b0 : decide (a2 < 1) = false := decide_eq_false c6
   clear c6
   (first | rw [c6b0] | (simp only [i64_w, i32_w]; rw [c6b0]) | skip)
   by_cases c7 : a1 < 0
   ·rw [if_pos c7] at H
    have c7b0 : decide (a1 < 0) = true := decide_eq_true c7
    clear c7
    have H' := A0k H
    clear H
    go_wp2
    go_meet
    case rel => exact ⟨_, (true), (by first | rfl | (simp; done) | (simp [*]; done)), H', ⟨by first | omega | exact Nat.le_refl _⟩, ⟨by (with_reducible repeat first | apply bN | apply bD | apply bA); exact BK214.out⟩, ⟨by repeat (first | (with_reducible first | exact HB.out | apply pA | apply pN | apply pD | refine bS ?_ GE214.out) | exact HB.out)⟩⟩
   ·rw [if_neg c7] at H
    have c7b0 : decide (a1 < 0) = false := decide_eq_false c7
    clear c7
    by_cases c8 : a2 > 2048
    ·rw [if_pos c8] at H
     have c8b0 : decide (2048 < a2) = true := decide_eq_true c8
     clear c8
     have H' := A0k H
     clear H
     go_wp2
     go_meet
     case rel => exact ⟨_, (true), (by first | rfl | (simp; done) | (simp [*]; done)), H', ⟨by first | omega | exact Nat.le_refl _⟩, ⟨by (with_reducible repeat first | apply bN | apply bD | apply bA); exact BK214.out⟩, ⟨by repeat (first | (with_reducible first | exact HB.out | apply pA | apply pN | apply pD | refine bS ?_ GE214.out) | exact HB.out)⟩⟩
    ·rw [if_neg c8] at H
     have c8b0 : decide (2048 < a2) = false := decide_eq_false c8
     clear c8
     have H' := A0k H
     clear H
     go_wp2
     go_meet
     case rel => exact ⟨_, (decide (a1 > (wrap64 (2048 - a2)))), (by first | rfl | (simp; done) | (simp [*]; done)), H', ⟨by first | omega | exact Nat.le_refl _⟩, ⟨by (with_reducible repeat first | apply bN | apply bD | apply bA); exact BK214.out⟩, ⟨by repeat (first | (with_reducible first | exact HB.out | apply pA | apply pN | apply pD | refine bS ?_ GE214.out) | exact HB.out)⟩⟩
 case rest =>
  as_aux_lemma =>
  clear HC4
  (try clear p2); (try clear c3); (try clear c6); (try clear c6b0); (try clear p6); (try clear c7); (try clear c7b0); (try clear c8); (try clear c8b0)
  obtain ⟨kq, x24_3, rfl, HA, HJ3, BK214, HB⟩ := hcut
  cases kq with
  | zero => exact absurd HA.out (by simp [Wj0])
  | succ kj3 =>
   have H := HA.out
   clear HA
   simp only [Wj0] at H
   by_cases c9 : x24_3 = true
   ·subst c9
    have H1 : (some false) = some r := by rw [if_pos rfl] at H; exact H
    clear H
    have H := H1
    clear H1
    obtain rfl := Option.some.inj H
    go_wp2
    go_ret
    exact ⟨by first | rfl | (simp [errW_none, errW_some] <;> rfl) | (simp [*, errW_none, errW_some] <;> rfl), by repeat (first | (with_reducible first | exact HB.out | apply pA | apply pN | apply pD | refine bS ?_ GE214.out) | exact HB.out)⟩
   ·replace c9 := Bool.eq_false_iff.mpr c9
    subst c9
    have H1 : ((posthorseref08_Sectors.f kj3 a0_0 l0_1).bind fun t215 => (Wl0 kj3 a1 a2 t215 0)) = some r := by rw [if_neg (show ¬ (false = true) by decide)] at H; exact H
    clear H
    have H := H1
    clear H1
    replace H := Option.bind_eq_some_iff.mp H
    obtain ⟨t215, A100, H⟩ := H
    replace H : (Wl0 kj3 a1 a2 t215 0) = some r := H
    have A10 := A0k A100
    clear A100
    have H' := A0k H
    clear H
    have hcz11_0 : wc.cell? ⟨gb214, 0, none⟩ = some (.int .i64 a0_0) := (bC BK214.out 0).trans rfl
    have hcz11_1 : wc.cell? ⟨gb214, 1, none⟩ = some (.slice A0_1 l0_1.length c0_1) := (bC BK214.out 1).trans rfl
    have hfz11_0 := bF BK214.out 0
    have hfz11_1 := bF BK214.out 1
    go_wp2_with (first | ((with_reducible refine gC (f := 30) rfl ?_); refine gL_ (some 26) rfl rfl Tryd.func30 (by kernel_rfl) rfl #[.agg #[.int .i64 a0_0, .slice A0_1 l0_1.length c0_1]] rfl (by (try simp only [List.map_toArray, List.map_cons, List.map_nil]); first | done | rfl | (simp only [List.length_drop, List.length_take]; rfl)) ?_; (with_reducible refine (posthorseref08_Sectors.calls kj3 a0_0 _ _ l0_1 t215 _ ?side1 ?side2 A10.out).mono ?_); (case side1 => repeat (first | exact (Kd.C_below HR0_1.out HB.out) | (with_reducible refine Kd.C_alloc ?_ _) | (with_reducible refine Kd.C_drewN ?_ _) | (with_reducible refine Kd.C_drew ?_))); (case side2 => exact HC0_1.out); rintro e w12 ⟨v216, rfl, ho0, hb⟩; refine ⟨_, rfl, ?_⟩; have n0_ := A0k (Kd.R_lower ho0 (pZ (by repeat (first | (with_reducible first | exact HB.out | apply pA | apply pN | apply pD | refine bS ?_ GE214.out) | exact HB.out)))); have n1_ := A0k (bB (g := gb214) (o := .cells #[.int .i64 a0_0, .slice A0_1 l0_1.length c0_1] 29 (0, 0)) (by (with_reducible repeat first | apply bN | apply bD | apply bA); exact BK214.out) hb); have n2_ := A0k (pS (by repeat (first | (with_reducible first | exact HB.out | apply pA | apply pN | apply pD | refine bS ?_ GE214.out) | exact HB.out)) hb); clear BK214 HB; have HO217 := n0_; have BK214 := n1_; have HB := n2_; clear n0_ n1_ n2_; (try clear hb); (try clear hb2); (try clear hk); (try clear hi); (try clear ho0)))
    go_loopg [8] kj3 (fun kq v8 w' => ∃ (x8_2 : Int), v8 = .int .i64 x8_2 ∧ Aside0 (Wl0 kq a1 a2 t215 x8_2 = some r) ∧ Aside0 (kq ≤ kj3) ∧ Aside0 (Kd.R (Kd.int .i64) 3 w' w.heap.size (fun _ => True) v216 t215) ∧ Aside0 (w'.heap[gb214]? = some (.cells #[.int .i64 a0_0, (.slice A0_1 l0_1.length c0_1)] 29 (0, 0))) ∧ Aside0 (Below w.heap.size w w'))
    case atStart => exact ⟨(0), (by first | rfl | (simp; done) | (simp [*]; done)), H', ⟨Nat.le_refl _⟩, ⟨by (with_reducible repeat first | apply rA | apply rN | apply rD); exact HO217.out⟩, ⟨by (with_reducible repeat first | apply bN | apply bD | apply bA); exact BK214.out⟩, ⟨by repeat (first | (with_reducible first | exact HB.out | apply pA | apply pN | apply pD | refine bS ?_ GE214.out) | exact HB.out)⟩⟩
    case round =>
     clear H'
     (try clear p2); (try clear c3); (try clear c6); (try clear c6b0); (try clear p6); (try clear c7); (try clear c7b0); (try clear c8); (try clear c8b0); (try clear c9); (try clear hcz11_0); (try clear hcz11_1); (try clear hfz11_0); (try clear hfz11_1); (try clear p2); (try clear p6)
     obtain ⟨x8_2, rfl, HA, HK2, HO_7, BK214, HB⟩ := hrel
     cases gk with
     | zero => exact absurd HA.out (by simp [Wl0])
     | succ k2 =>
      have H := HA.out
      clear HA
      simp only [Wl0] at H
      by_cases c13 : x8_2 < (t215.length : Int)
      ·rw [if_pos c13] at H
       have c13b0 : decide (x8_2 < (t215.length : Int)) = true := decide_eq_true c13
       clear c13
       by_cases c14 : 0 ≤ x8_2
       ·rw [if_pos c14] at H
        have c14b0 : decide (0 ≤ x8_2) = true := decide_eq_true c14
        clear c14
        by_cases c15 : (rd t215 x8_2) ≥ a1
        ·rw [if_pos c15] at H
         have c15b0 : decide (a1 ≤ (rd t215 x8_2)) = true := decide_eq_true c15
         clear c15
         by_cases c16 : (rd t215 x8_2) < (wrap64 (a1 + a2))
         ·rw [if_pos c16] at H
          have c16b0 : decide ((rd t215 x8_2) < (wrap64 (a1 + a2))) = true := decide_eq_true c16
          clear c16
          obtain rfl := Option.some.inj H
          obtain ⟨Ao17, co17, eo17⟩ := Kd.R_slice HO_7.out
          subst eo17
          have p218 : 0 ≤ (x8_2 : Int) := of_decide_eq_true (by first | (with_reducible assumption) | assumption)
          have q218 : x8_2 < (t215.length : Int) := of_decide_eq_true (by first | (with_reducible assumption) | assumption)
          obtain ⟨ad218, e218, hx218_0⟩ := Kd.at_int (Kd.R_reads' HO_7.out).2.2 x8_2 p218 q218
          cases e218
          replace p218 := eq_true p218
          replace q218 := eq_true q218
          have p219 : 0 ≤ (x8_2 : Int) := of_decide_eq_true (by first | (with_reducible assumption) | assumption)
          have q219 : x8_2 < (t215.length : Int) := of_decide_eq_true (by first | (with_reducible assumption) | assumption)
          obtain ⟨ad219, e219, hx219_0⟩ := Kd.at_int (Kd.R_reads' HO_7.out).2.2 x8_2 p219 q219
          obtain rfl : ad218 = ad219 := (by injection e219)
          replace p219 := eq_true p219
          replace q219 := eq_true q219
          go_wp2
          go_ret
          exact ⟨by first | rfl | (simp [errW_none, errW_some] <;> rfl) | (simp [*, errW_none, errW_some] <;> rfl), by repeat (first | (with_reducible first | exact HB.out | apply pA | apply pN | apply pD | refine bS ?_ GE214.out) | exact HB.out)⟩
         ·rw [if_neg c16] at H
          have c16b0 : decide ((rd t215 x8_2) < (wrap64 (a1 + a2))) = false := decide_eq_false c16
          clear c16
          have H' := A0k H
          clear H
          obtain ⟨Ao18, co18, eo18⟩ := Kd.R_slice HO_7.out
          subst eo18
          have p218 : 0 ≤ (x8_2 : Int) := of_decide_eq_true (by first | (with_reducible assumption) | assumption)
          have q218 : x8_2 < (t215.length : Int) := of_decide_eq_true (by first | (with_reducible assumption) | assumption)
          obtain ⟨ad218, e218, hx218_0⟩ := Kd.at_int (Kd.R_reads' HO_7.out).2.2 x8_2 p218 q218
          cases e218
          replace p218 := eq_true p218
          replace q218 := eq_true q218
          have p219 : 0 ≤ (x8_2 : Int) := of_decide_eq_true (by first | (with_reducible assumption) | assumption)
          have q219 : x8_2 < (t215.length : Int) := of_decide_eq_true (by first | (with_reducible assumption) | assumption)
          obtain ⟨ad219, e219, hx219_0⟩ := Kd.at_int (Kd.R_reads' HO_7.out).2.2 x8_2 p219 q219
          obtain rfl : ad218 = ad219 := (by injection e219)
          replace p219 := eq_true p219
          replace q219 := eq_true q219
          go_wp2
          go_roundg k2
          case measure => have := HJ3.out; have := HK2.out; omega
          case rel => exact ⟨(wrap64 (x8_2 + 1)), (by first | rfl | (simp; done) | (simp [*]; done)), H', ⟨by have := HJ3.out; have := HK2.out; omega⟩, ⟨by (with_reducible repeat first | apply rA | apply rN | apply rD); exact HO_7.out⟩, ⟨by (with_reducible repeat first | apply bN | apply bD | apply bA); exact BK214.out⟩, ⟨by repeat (first | (with_reducible first | exact HB.out | apply pA | apply pN | apply pD | refine bS ?_ GE214.out) | exact HB.out)⟩⟩
        ·rw [if_neg c15] at H
         have c15b0 : decide (a1 ≤ (rd t215 x8_2)) = false := decide_eq_false c15
         clear c15
         have H' := A0k H
         clear H
         obtain ⟨Ao19, co19, eo19⟩ := Kd.R_slice HO_7.out
         subst eo19
         have p218 : 0 ≤ (x8_2 : Int) := of_decide_eq_true (by first | (with_reducible assumption) | assumption)
         have q218 : x8_2 < (t215.length : Int) := of_decide_eq_true (by first | (with_reducible assumption) | assumption)
         obtain ⟨ad218, e218, hx218_0⟩ := Kd.at_int (Kd.R_reads' HO_7.out).2.2 x8_2 p218 q218
         cases e218
         replace p218 := eq_true p218
         replace q218 := eq_true q218
         go_wp2
         go_roundg k2
         case measure => have := HJ3.out; have := HK2.out; omega
         case rel => exact ⟨(wrap64 (x8_2 + 1)), (by first | rfl | (simp; done) | (simp [*]; done)), H', ⟨by have := HJ3.out; have := HK2.out; omega⟩, ⟨by (with_reducible repeat first | apply rA | apply rN | apply rD); exact HO_7.out⟩, ⟨by (with_reducible repeat first | apply bN | apply bD | apply bA); exact BK214.out⟩, ⟨by repeat (first | (with_reducible first | exact HB.out | apply pA | apply pN | apply pD | refine bS ?_ GE214.out) | exact HB.out)⟩⟩
       ·rw [if_neg c14] at H
        exact absurd H (by simp)
      ·rw [if_neg c13] at H
       have c13b0 : decide (x8_2 < (t215.length : Int)) = false := decide_eq_false c13
       clear c13
       obtain rfl := Option.some.inj H
       obtain ⟨Ao20, co20, eo20⟩ := Kd.R_slice HO_7.out
       subst eo20
       go_wp2
       go_ret
       exact ⟨by first | rfl | (simp [errW_none, errW_some] <;> rfl) | (simp [*, errW_none, errW_some] <;> rfl), by repeat (first | (with_reducible first | exact HB.out | apply pA | apply pN | apply pD | refine bS ?_ GE214.out) | exact HB.out)⟩

end Go.Proofs.YtmncfcebjohloaaDoor.VInodePlays
