/- Contracts of functions of this seat: each call comes to what its Lean function computes; no condition beyond what each theorem states. Printed by a program of this session's own laid over the kit's printer. -/
import Derived.Test.YtmncfcebjohloaaDoorVInodePlaysx0
import Derived.Test.YtmncfcebjohloaaDoorVInodePlaysx3
import Derived.Test.YtmncfcebjohloaaDoorVInodePlaysx7
namespace Go.Proofs.YtmncfcebjohloaaDoor.VInodePlays
open Go.RowKit Go.Proofs.YtmncfcebjohloaaDoorW.PrintWords Go.Proofs.YtmncfcebjohloaaDoorW.PrintLast Go.Proofs.YtmncfcebjohloaaDoorW.PrintMore
attribute [local go_sem] max2_int min2_int max_two min_two max_three min_three max_four min_four   -- for this text's walks alone
open Go.Proofs.YtmncfcebjohloaaDoorW.PrintWords.Kd renaming R_alloc → rA
open Go.Proofs.YtmncfcebjohloaaDoorW.PrintWords.Kd renaming R_drewN → rN
open Go.Proofs.YtmncfcebjohloaaDoorW.PrintWords.Kd renaming R_drew → rD
open List renaming setIfInBounds_toArray → lS, set_cons_zero → lZ, set_cons_succ → lC
open Go.Proofs.YtmncfcebjohloaaDoorW.PrintLast renaming goesL_ → gL_
open Go.Proofs.YtmncfcebjohloaaDoorW.PrintWords renaming blk_drewN → bN, blk_drew → bD, blk_alloc → bA, below_set → bS, pw_below_drewN → pN, below_drew1 → pD, below_alloc → pA, below_step → pS, below_size → pZ, blk_frozen → bF, blk_cell → bC, blk_below → bB, blk_far → bR, blk_put → bP, blk_lt → bL, gate_dst → gD, gate_callee → gC, gate_builtin → gB, box_event → bE
open Go.Proofs.YtmncfcebjohloaaDoorW.PrintWords.Aside0 renaming mk → A0k
set_option linter.unusedVariables false
set_option linter.unusedSimpArgs false

/-! ### inode_Cut: function 7 -/
mutual
def inode_Cut.j0 : Nat → Int → Bool → Int → List (S40) → Option (Int × (List (S40)) × (List (S40)) × Option Int)
 | 0, _, _, _, _ => none
 | k + 1, x1, x19, x158000, x158001 => if x19 = true then (some (0, ([] : List (S40)), ([] : List (S40)), some 1)) else (inode_Cut.l0 k x1 ([] : List (S40)) ([] : List (S40)) x158001 (x158001.length : Int) 0 x158000 x158001)
def inode_Cut.l0 : Nat → Int → List (S40) → List (S40) → List (S40) → Int → Int → Int → List (S40) → Option (Int × (List (S40)) × (List (S40)) × Option Int)
 | 0, _, _, _, _, _, _, _, _ => none
 | k + 1, x1, x7, x8, x23, x24, x25, x158000, x158001 => if x25 < x24 then (if 0 ≤ x25 then (if x25 < (x23.length : Int) then (if (mn ((rd_T40 x23 x25).f1) x1) > 0 then (if x7.length < 8796093022208 then ((some (x7 ++ [(⟨(rd_T40 x23 x25).f0, mn ((rd_T40 x23 x25).f1) x1⟩ : S40)] : List (S40))).bind fun y166 => (if (mn ((rd_T40 x23 x25).f1) x1) < ((rd_T40 x23 x25).f1) then (if x8.length < 8796093022208 then (inode_Cut.l0 k (wrap64 (x1 - (mn ((rd_T40 x23 x25).f1) x1))) y166 (x8 ++ [(⟨wrap64 (((rd_T40 x23 x25).f0) + (mn ((rd_T40 x23 x25).f1) x1)), wrap64 (((rd_T40 x23 x25).f1) - (mn ((rd_T40 x23 x25).f1) x1))⟩ : S40)]) x23 x24 (wrap64 (x25 + 1)) x158000 x158001) else (none)) else (inode_Cut.l0 k (wrap64 (x1 - (mn ((rd_T40 x23 x25).f1) x1))) y166 x8 x23 x24 (wrap64 (x25 + 1)) x158000 x158001))) else (none)) else (if (mn ((rd_T40 x23 x25).f1) x1) < ((rd_T40 x23 x25).f1) then (if x8.length < 8796093022208 then (inode_Cut.l0 k (wrap64 (x1 - (mn ((rd_T40 x23 x25).f1) x1))) x7 (x8 ++ [(⟨wrap64 (((rd_T40 x23 x25).f0) + (mn ((rd_T40 x23 x25).f1) x1)), wrap64 (((rd_T40 x23 x25).f1) - (mn ((rd_T40 x23 x25).f1) x1))⟩ : S40)]) x23 x24 (wrap64 (x25 + 1)) x158000 x158001) else (none)) else (inode_Cut.l0 k (wrap64 (x1 - (mn ((rd_T40 x23 x25).f1) x1))) x7 x8 x23 x24 (wrap64 (x25 + 1)) x158000 x158001))) else (none)) else (none)) else (if (x8.length : Int) = 0 then (some (x158000, x7, ([] : List (S40)), none)) else ((inode_Inode_changed.f x158000 x158001 x7).bind fun bt160 => (some (bt160.1, bt160.2, x8, none))))
end
def inode_Cut.f (k : Nat) (a0_0 : Int) (l0_1 : List (S40)) (a1 : Int) : Option (Int × (List (S40)) × (List (S40)) × Option Int) := if a1 < 0 then (inode_Cut.j0 k a1 true a0_0 l0_1) else ((inode_Size.f k a0_0 l0_1).bind fun t159 => (inode_Cut.j0 k a1 (decide (a1 > t159)) a0_0 l0_1))
set_option maxRecDepth 100000 in
theorem inode_Cut.mono_l : ∀ k, (∀ y0 y1 y2 y3, LeO (inode_Cut.j0 k y0 y1 y2 y3) (inode_Cut.j0 (k + 1) y0 y1 y2 y3)) ∧ (∀ y0 y1 y2 y3 y4 y5 y6 y7, LeO (inode_Cut.l0 k y0 y1 y2 y3 y4 y5 y6 y7) (inode_Cut.l0 (k + 1) y0 y1 y2 y3 y4 y5 y6 y7))
 | 0 => ⟨fun _ _ _ _ r h => by first | (rw [inode_Cut.j0] at h; cases h) | simp [inode_Cut.j0] at h, fun _ _ _ _ _ _ _ _ r h => by first | (rw [inode_Cut.l0] at h; cases h) | simp [inode_Cut.l0] at h⟩
 | k + 1 => by
  obtain ⟨ih0, ih1⟩ := inode_Cut.mono_l k
  refine ⟨?_, ?_⟩
  ·intro y0 y1 y2 y3
   unfold inode_Cut.j0
   repeat' first
   | (with_reducible exact ih0 _ _ _ _)
   | (with_reducible exact ih1 _ _ _ _ _ _ _ _)
   | (with_reducible exact inode_Size.mono _ _ _)
   | (with_reducible exact LeO.refl _)
   | (with_reducible exact LeO.none _)
   | (with_reducible refine LeO.ite ?_ ?_)
   | (with_reducible refine LeO.bind ?_ (fun _ => ?_))
   | exact ih0 _ _ _ _
   | exact ih1 _ _ _ _ _ _ _ _
   | exact inode_Size.mono _ _ _
   | exact LeO.none _
   | refine LeO.ite ?_ ?_
   | refine LeO.bind ?_ (fun _ => ?_)
  ·intro y0 y1 y2 y3 y4 y5 y6 y7
   unfold inode_Cut.l0
   repeat' first
   | (with_reducible exact ih0 _ _ _ _)
   | (with_reducible exact ih1 _ _ _ _ _ _ _ _)
   | (with_reducible exact inode_Size.mono _ _ _)
   | (with_reducible exact LeO.refl _)
   | (with_reducible exact LeO.none _)
   | (with_reducible refine LeO.ite ?_ ?_)
   | (with_reducible refine LeO.bind ?_ (fun _ => ?_))
   | exact ih0 _ _ _ _
   | exact ih1 _ _ _ _ _ _ _ _
   | exact inode_Size.mono _ _ _
   | exact LeO.none _
   | refine LeO.ite ?_ ?_
   | refine LeO.bind ?_ (fun _ => ?_)
theorem inode_Cut.mono : ∀ a0 a1 a2 k, LeO (inode_Cut.f k a0 a1 a2) (inode_Cut.f (k + 1) a0 a1 a2) := by
 intro a0 a1 a2 k
 obtain ⟨ih0, ih1⟩ := inode_Cut.mono_l k
 unfold inode_Cut.f
 repeat' first
   | (with_reducible exact ih0 _ _ _ _)
   | (with_reducible exact ih1 _ _ _ _ _ _ _ _)
   | (with_reducible exact inode_Size.mono _ _ _)
   | (with_reducible exact LeO.refl _)
   | (with_reducible exact LeO.none _)
   | (with_reducible refine LeO.ite ?_ ?_)
   | (with_reducible refine LeO.bind ?_ (fun _ => ?_))
   | exact ih0 _ _ _ _
   | exact ih1 _ _ _ _ _ _ _ _
   | exact inode_Size.mono _ _ _
   | exact LeO.none _
   | refine LeO.ite ?_ ?_
   | refine LeO.bind ?_ (fun _ => ?_)
set_option maxHeartbeats 8000000 in
set_option maxRecDepth 100000 in
theorem inode_Cut.calls (k : Nat) (a0_0 : Int) (A0_1 : Option Addr) (c0_1 : Nat) (l0_1 : List (S40)) (a1 : Int) (r1 : Int) (r2 : List (S40)) (r3 : List (S40)) (r4 : Option Int) (w : World) (hr0_1 : Kd.C k40 w A0_1 l0_1.length l0_1) (hc0_1 : l0_1.length ≤ c0_1) (h : inode_Cut.f k a0_0 l0_1 a1 = some (r1, r2, r3, r4)) :
  Calls Tryd.prog 7 #[.agg #[.int .i64 a0_0, .slice A0_1 l0_1.length c0_1], .int .i64 a1] w fun e w' => ∃ v1_ v2_ : Value, e = .returned (.tuple #[.agg #[.int .i64 r1, v1_], v2_, errW r4]) ∧ Kd.R k40 40 w' w.heap.size (fun k_ => some k_ ≠ (v2_ : Value).ownBlock) v1_ r2 ∧ Kd.R k40 40 w' w.heap.size (fun k_ => some k_ ≠ (v1_ : Value).ownBlock) v2_ r3 ∧ Below w.heap.size w w' := by
 have hu26 := Tryd.underlying26
 have hu40 := Tryd.underlying40
 have hu33 := Tryd.underlying33
 have hu82 := Tryd.underlying82
 have HR0_1 := A0k hr0_1
 have HC0_1 := A0k hc0_1
 clear hr0_1 hc0_1
 have HB := A0k (Below.refl w.heap.size w)
 have H : (if a1 < 0 then (inode_Cut.j0 k a1 true a0_0 l0_1) else ((inode_Size.f k a0_0 l0_1).bind fun t159 => (inode_Cut.j0 k a1 (decide (a1 > t159)) a0_0 l0_1))) = some (r1, r2, r3, r4) := h
 clear h
 have HC3 := A0k H
 clear H
 go_enter Tryd.func7, Tryd.ntmps7
 go_upto_region 1 with (first | ((with_reducible refine gD (N := 2) rfl ?_); refine bE ?hg (N := 2) ?hd (cs := #[.int .i64 a0_0, .slice A0_1 l0_1.length c0_1]) (t := 26) ?hr ?_; (case hd => rfl); (case hg => rfl); (case hr => first | (go_simp; done) | (go_simp; rfl)); intro gb157 hg w4 hbox hb; have n0_ := A0k (pS (by repeat (first | (with_reducible first | exact HB.out | apply pA | apply pN | apply pD) | exact HB.out)) hb); have n1_ := A0k (hbox); have n2_ := A0k ((by rw [hg]; exact (pZ (by repeat (first | (with_reducible first | exact HB.out | apply pA | apply pN | apply pD) | exact HB.out))) : w.heap.size ≤ gb157)); have n3_ := A0k ((by rw [hg]; exact (pZ (by repeat (first | (with_reducible first | exact HB.out | apply pA | apply pN | apply pD) | exact HB.out))) : w.heap.size ≤ gb157)); clear HB; have HB := n0_; have BK157 := n1_; have GW157 := n2_; have GE157 := n3_; clear n0_ n1_ n2_ n3_ hb hbox hg) | ((with_reducible refine gD (N := 4) rfl ?_); refine bE ?hg (N := 4) ?hd (cs := #[.int .i64 0, .slice none 0 0]) (t := 26) ?hr ?_; (case hd => rfl); (case hg => rfl); (case hr => first | (go_simp; done) | (go_simp; rfl)); intro gb158 hg w5 hbox hb; have n0_ := A0k (bB (g := gb157) (o := .cells #[.int .i64 a0_0, .slice A0_1 l0_1.length c0_1] 26 (0, 0)) (by (with_reducible repeat first | apply bN | apply bD | apply bA); exact BK157.out) hb); have n1_ := A0k (pS (by repeat (first | (with_reducible first | exact HB.out | apply pA | apply pN | apply pD | refine bS ?_ GE157.out) | exact HB.out)) hb); have n2_ := A0k (hbox); have n3_ := A0k ((by rw [hg]; exact (pZ (by repeat (first | (with_reducible first | exact HB.out | apply pA | apply pN | apply pD | refine bS ?_ GE157.out) | exact HB.out))) : w.heap.size ≤ gb158)); have n4_ := A0k ((by rw [hg]; exact (pZ (by repeat (first | (with_reducible first | exact HB.out | apply pA | apply pN | apply pD | refine bS ?_ GE157.out) | exact HB.out))) : w.heap.size ≤ gb158)); have n5_ := A0k ((by rw [hg]; exact Nat.ne_of_lt (bL (g := gb157) (o := .cells #[.int .i64 a0_0, .slice A0_1 l0_1.length c0_1] 26 (0, 0)) (by (with_reducible repeat first | apply bN | apply bD | apply bA); exact BK157.out)) : gb157 ≠ gb158)); have n6_ := A0k ((by rw [hg]; exact Nat.ne_of_gt (bL (g := gb157) (o := .cells #[.int .i64 a0_0, .slice A0_1 l0_1.length c0_1] 26 (0, 0)) (by (with_reducible repeat first | apply bN | apply bD | apply bA); exact BK157.out)) : gb158 ≠ gb157)); clear BK157 HB; have BK157 := n0_; have HB := n1_; have BK158 := n2_; have GW158 := n3_; have GE158 := n4_; have NB157_158 := n5_; have NB158_157 := n6_; clear n0_ n1_ n2_ n3_ n4_ n5_ n6_ hb hbox hg))
 (try simp only [Act.put, lS, lZ, lC])
 go_cut [19] (fun v19 wc => ∃ (kq : Nat) (x19_2 : Bool), v19 = .bool x19_2 ∧ Aside0 (inode_Cut.j0 kq a1 x19_2 a0_0 l0_1 = some (r1, r2, r3, r4)) ∧ Aside0 (kq ≤ k) ∧ Aside0 (wc.heap[gb157]? = some (.cells #[.int .i64 a0_0, (.slice A0_1 l0_1.length c0_1)] 26 (0, 0))) ∧ Aside0 (wc.heap[gb158]? = some (.cells #[.int .i64 0, (.slice none 0 0)] 26 (0, 0))) ∧ Aside0 (Below w.heap.size w wc))
 case first =>
  as_aux_lemma =>
  have H := HC3.out
  clear HC3
  by_cases c6 : a1 < 0
  ·rw [if_pos c6] at H
   have c6b0 : decide (a1 < 0) = true := decide_eq_true c6
   clear c6
   (first | rw [c6b0] | (simp only [i64_w, i32_w]; rw [c6b0]) | skip)
   have H' := A0k H
   clear H
   go_wp2
   go_meet
   case rel => exact ⟨_, (true), (by first | rfl | (simp; done) | (simp [*]; done)), H', ⟨by first | omega | exact Nat.le_refl _⟩, ⟨by (with_reducible repeat first | apply bN | apply bD | apply bA); exact BK157.out⟩, ⟨by (with_reducible repeat first | apply bN | apply bD | apply bA); exact BK158.out⟩, ⟨by repeat (first | (with_reducible first | exact HB.out | apply pA | apply pN | apply pD | refine bS ?_ GE157.out | refine bS ?_ GE158.out) | exact HB.out)⟩⟩
  ·rw [if_neg c6] at H
   have c6b0 : decide (a1 < 0) = false := decide_eq_false c6
   clear c6
   (first | rw [c6b0] | (simp only [i64_w, i32_w]; rw [c6b0]) | skip)
   replace H := Option.bind_eq_some_iff.mp H
   obtain ⟨t159, A70, H⟩ := H
   replace H : (inode_Cut.j0 k a1 (decide (a1 > t159)) a0_0 l0_1) = some (r1, r2, r3, r4) := H
   have A7 := A0k A70
   clear A70
   have H' := A0k H
   clear H
   have hnb8 := NB157_158.out
   have hnc8 := NB158_157.out
   have hcz9_0 : w5.cell? ⟨gb157, 0, none⟩ = some (.int .i64 a0_0) := (bC BK157.out 0).trans rfl
   have hcz9_1 : w5.cell? ⟨gb157, 1, none⟩ = some (.slice A0_1 l0_1.length c0_1) := (bC BK157.out 1).trans rfl
   have hfz9_0 := bF BK157.out 0
   have hfz9_1 := bF BK157.out 1
   go_wp2_with (first | (go_at_call 28; (with_reducible refine (inode_Size.calls k a0_0 _ _ l0_1 t159 _ ?side1 ?side2 A7.out).mono ?_); (case side1 => repeat (first | exact (Kd.C_below HR0_1.out HB.out) | (with_reducible refine Kd.C_alloc ?_ _) | (with_reducible refine Kd.C_drewN ?_ _) | (with_reducible refine Kd.C_drew ?_))); (case side2 => exact HC0_1.out); rintro e w10 ⟨rfl, hb⟩; have n0_ := A0k (bB (g := gb157) (o := .cells #[.int .i64 a0_0, .slice A0_1 l0_1.length c0_1] 26 (0, 0)) (by (with_reducible repeat first | apply bN | apply bD | apply bA); exact BK157.out) hb); have n1_ := A0k (bB (g := gb158) (o := .cells #[.int .i64 0, .slice none 0 0] 26 (0, 0)) (by (with_reducible repeat first | apply bN | apply bD | apply bA); exact BK158.out) hb); have n2_ := A0k (pS (by repeat (first | (with_reducible first | exact HB.out | apply pA | apply pN | apply pD | refine bS ?_ GE157.out | refine bS ?_ GE158.out) | exact HB.out)) hb); clear BK157 BK158 HB; have BK157 := n0_; have BK158 := n1_; have HB := n2_; clear n0_ n1_ n2_; (try clear hb); (try clear hb2); (try clear hk); (try clear hi)))
   go_meet
   case rel => exact ⟨_, (decide (a1 > t159)), (by first | rfl | (simp; done) | (simp [*]; done)), H', ⟨by first | omega | exact Nat.le_refl _⟩, ⟨by (with_reducible repeat first | apply bN | apply bD | apply bA); exact BK157.out⟩, ⟨by (with_reducible repeat first | apply bN | apply bD | apply bA); exact BK158.out⟩, ⟨by repeat (first | (with_reducible first | exact HB.out | apply pA | apply pN | apply pD | refine bS ?_ GE157.out | refine bS ?_ GE158.out) | exact HB.out)⟩⟩
 case rest =>
  as_aux_lemma =>
  clear HC3
  (try clear p2); (try clear c6); (try clear c6b0); (try clear c7); (try clear c8); (try clear hcz9_0); (try clear hcz9_1); (try clear hfz9_0); (try clear hfz9_1)
  obtain ⟨kq, x19_2, rfl, HA, HJ2, BK157, BK158, HB⟩ := hcut
  cases kq with
  | zero => exact absurd HA.out (by simp [inode_Cut.j0])
  | succ kj2 =>
   have H := HA.out
   clear HA
   simp only [inode_Cut.j0] at H
   by_cases c11 : x19_2 = true
   ·subst c11
    have H1 : (some (0, ([] : List (S40)), ([] : List (S40)), some 1)) = some (r1, r2, r3, r4) := by rw [if_pos rfl] at H; exact H
    clear H
    have H := H1
    clear H1
    simp only [Option.some.injEq, Prod.mk.injEq] at H
    obtain ⟨rfl, rfl, rfl, rfl⟩ := H
    have hnb12 := NB158_157.out
    have hnc12 := NB157_158.out
    have hcz13_0 : wc.cell? ⟨gb158, 0, none⟩ = some (.int .i64 0) := (bC BK158.out 0).trans rfl
    have hcz13_1 : wc.cell? ⟨gb158, 1, none⟩ = some (.slice none 0 0) := (bC BK158.out 1).trans rfl
    have hfz13_0 := bF BK158.out 0
    have hfz13_1 := bF BK158.out 1
    go_wp2
    refine bodyPost_ret (results_ctt rfl _ _ gb158 26 #[.int .i64 0, .slice none 0 0] (0, 0) _ rfl (by (with_reducible repeat first | apply bN | apply bD | apply bA); refine bP (cs := #[.int .i64 0, .slice none 0 0]) ?_ 1 _ rfl; (with_reducible repeat first | apply bN | apply bD | apply bA); refine bP (cs := #[.int .i64 0, .slice none 0 0]) ?_ 0 _ rfl; (with_reducible repeat first | apply bN | apply bD | apply bA); exact BK158.out) Tryd.underlying26 rfl (by kernel_rfl)) rfl ?_
    exact ⟨_, _, by first | rfl | (simp [errW_none, errW_some] <;> rfl) | (simp [*, errW_none, errW_some] <;> rfl), by first | exact Kd.R_nil _ _ _ _ _ | exact Kd.N_nil _ _ _ _ _ | exact Kd.V_nil _ _ _ _ _ | exact Kd.Q_nil _ _ _ _ _ | exact Kd.S_nil _ _ _ _ _, by first | exact Kd.R_nil _ _ _ _ _ | exact Kd.N_nil _ _ _ _ _ | exact Kd.V_nil _ _ _ _ _ | exact Kd.Q_nil _ _ _ _ _ | exact Kd.S_nil _ _ _ _ _, by repeat (first | (with_reducible first | exact HB.out | apply pA | apply pN | apply pD | refine bS ?_ GE157.out | refine bS ?_ GE158.out) | exact HB.out)⟩
   ·replace c11 := Bool.eq_false_iff.mpr c11
    subst c11
    have H1 : (inode_Cut.l0 kj2 a1 ([] : List (S40)) ([] : List (S40)) l0_1 (l0_1.length : Int) 0 a0_0 l0_1) = some (r1, r2, r3, r4) := by rw [if_neg (show ¬ (false = true) by decide)] at H; exact H
    clear H
    have H := H1
    clear H1
    have H' := A0k H
    clear H
    have hnb14 := NB157_158.out
    have hnc14 := NB158_157.out
    have hcz15_0 : wc.cell? ⟨gb157, 0, none⟩ = some (.int .i64 a0_0) := (bC BK157.out 0).trans rfl
    have hcz15_1 : wc.cell? ⟨gb157, 1, none⟩ = some (.slice A0_1 l0_1.length c0_1) := (bC BK157.out 1).trans rfl
    have hfz15_0 := bF BK157.out 0
    have hfz15_1 := bF BK157.out 1
    go_wp2
    go_loopg [1, 7, 8, 25] kj2 (fun kq v1 v7 v8 v25 w' => ∃ (x1_2 : Int) (x7_2 : List (S40)) (x8_2 : List (S40)) (x25_2 : Int), v1 = .int .i64 x1_2 ∧ v25 = .int .i64 x25_2 ∧ Aside0 (inode_Cut.l0 kq x1_2 x7_2 x8_2 l0_1 (l0_1.length : Int) x25_2 a0_0 l0_1 = some (r1, r2, r3, r4)) ∧ Aside0 (kq ≤ kj2) ∧ Aside0 (Kd.R k40 40 w' w.heap.size (fun k_ => some k_ ≠ (v8 : Value).ownBlock) v7 x7_2) ∧ Aside0 (Kd.R k40 40 w' w.heap.size (fun k_ => some k_ ≠ (v7 : Value).ownBlock) v8 x8_2) ∧ Aside0 (w'.heap[gb157]? = some (.cells #[.int .i64 a0_0, (.slice A0_1 l0_1.length c0_1)] 26 (0, 0))) ∧ Aside0 (w'.heap[gb158]? = some (.cells #[.int .i64 0, (.slice none 0 0)] 26 (0, 0))) ∧ Aside0 (Below w.heap.size w w'))
    case atStart => exact ⟨(a1), (([] : List (S40))), (([] : List (S40))), (0), (by first | rfl | (simp; done) | (simp [*]; done)), (by first | rfl | (simp; done) | (simp [*]; done)), H', ⟨Nat.le_refl _⟩, ⟨by first | exact Kd.R_nil _ _ _ _ _ | exact Kd.N_nil _ _ _ _ _ | exact Kd.V_nil _ _ _ _ _ | exact Kd.Q_nil _ _ _ _ _ | exact Kd.S_nil _ _ _ _ _⟩, ⟨by first | exact Kd.R_nil _ _ _ _ _ | exact Kd.N_nil _ _ _ _ _ | exact Kd.V_nil _ _ _ _ _ | exact Kd.Q_nil _ _ _ _ _ | exact Kd.S_nil _ _ _ _ _⟩, ⟨by (with_reducible repeat first | apply bN | apply bD | apply bA); exact BK157.out⟩, ⟨by (with_reducible repeat first | apply bN | apply bD | apply bA); exact BK158.out⟩, ⟨by repeat (first | (with_reducible first | exact HB.out | apply pA | apply pN | apply pD | refine bS ?_ GE157.out | refine bS ?_ GE158.out) | exact HB.out)⟩⟩
    case round =>
     clear H'
     (try clear c1); (try clear p2); (try clear c6); (try clear c6b0); (try clear c7); (try clear c8); (try clear c11); (try clear c12); (try clear c14); (try clear hcz13_0); (try clear hcz13_1); (try clear hcz15_0); (try clear hcz15_1); (try clear hcz9_0); (try clear hcz9_1); (try clear hfz13_0); (try clear hfz13_1); (try clear hfz15_0); (try clear hfz15_1); (try clear hfz9_0); (try clear hfz9_1); (try clear p2)
     obtain ⟨x1_2, x7_2, x8_2, x25_2, rfl, rfl, HA, HK2, HO_7, HO_8, BK157, BK158, HB⟩ := hrel
     cases gk with
     | zero => exact absurd HA.out (by simp [inode_Cut.l0])
     | succ k2 =>
      have H := HA.out
      clear HA
      simp only [inode_Cut.l0] at H
      by_cases c16 : x25_2 < (l0_1.length : Int)
      ·rw [if_pos c16] at H
       have c16b0 : decide (x25_2 < (l0_1.length : Int)) = true := decide_eq_true c16
       clear c16
       by_cases c17 : 0 ≤ x25_2
       ·rw [if_pos c17] at H
        have c17b0 : decide (0 ≤ x25_2) = true := decide_eq_true c17
        clear c17
        by_cases c18 : x25_2 < (l0_1.length : Int)
        ·rw [if_pos c18] at H
         have c18b0 : decide (x25_2 < (l0_1.length : Int)) = true := decide_eq_true c18
         clear c18
         obtain ⟨ji19, hji19⟩ : ∃ j_ : Int, (mn ((rd_T40 l0_1 x25_2).f1) x1_2) = j_ := ⟨_, rfl⟩
         replace H : (if (ji19) > 0 then (if x7_2.length < 8796093022208 then ((some (x7_2 ++ [(⟨(rd_T40 l0_1 x25_2).f0, ji19⟩ : S40)] : List (S40))).bind fun y166 => (if (ji19) < ((rd_T40 l0_1 x25_2).f1) then (if x8_2.length < 8796093022208 then (inode_Cut.l0 k2 (wrap64 (x1_2 - (ji19))) y166 (x8_2 ++ [(⟨wrap64 (((rd_T40 l0_1 x25_2).f0) + (ji19)), wrap64 (((rd_T40 l0_1 x25_2).f1) - (ji19))⟩ : S40)]) l0_1 (l0_1.length : Int) (wrap64 (x25_2 + 1)) a0_0 l0_1) else (none)) else (inode_Cut.l0 k2 (wrap64 (x1_2 - (ji19))) y166 x8_2 l0_1 (l0_1.length : Int) (wrap64 (x25_2 + 1)) a0_0 l0_1))) else (none)) else (if (ji19) < ((rd_T40 l0_1 x25_2).f1) then (if x8_2.length < 8796093022208 then (inode_Cut.l0 k2 (wrap64 (x1_2 - (ji19))) x7_2 (x8_2 ++ [(⟨wrap64 (((rd_T40 l0_1 x25_2).f0) + (ji19)), wrap64 (((rd_T40 l0_1 x25_2).f1) - (ji19))⟩ : S40)]) l0_1 (l0_1.length : Int) (wrap64 (x25_2 + 1)) a0_0 l0_1) else (none)) else (inode_Cut.l0 k2 (wrap64 (x1_2 - (ji19))) x7_2 x8_2 l0_1 (l0_1.length : Int) (wrap64 (x25_2 + 1)) a0_0 l0_1))) = some (r1, r2, r3, r4) := by first | (rw [hji19] at H; exact H) | (simp only [hji19] at H ⊢; exact H)
         have hji19_ : (if x1_2 < ((rd_T40 l0_1 x25_2).f1) then x1_2 else ((rd_T40 l0_1 x25_2).f1)) = ji19 := hji19
         by_cases c20 : (ji19) > 0
         ·rw [if_pos c20] at H
          have c20b0 : decide (0 < (ji19)) = true := decide_eq_true c20
          clear c20
          by_cases c21 : x7_2.length < 8796093022208
          ·rw [if_pos c21] at H
           have LMc21 := A0k c21
           clear c21
           obtain ⟨y166, hy166⟩ : ∃ y_ : List (S40), y_ = (x7_2 ++ [(⟨(rd_T40 l0_1 x25_2).f0, ji19⟩ : S40)]) := ⟨_, rfl⟩
           replace H : (if (ji19) < ((rd_T40 l0_1 x25_2).f1) then (if x8_2.length < 8796093022208 then (inode_Cut.l0 k2 (wrap64 (x1_2 - (ji19))) y166 (x8_2 ++ [(⟨wrap64 (((rd_T40 l0_1 x25_2).f0) + (ji19)), wrap64 (((rd_T40 l0_1 x25_2).f1) - (ji19))⟩ : S40)]) l0_1 (l0_1.length : Int) (wrap64 (x25_2 + 1)) a0_0 l0_1) else (none)) else (inode_Cut.l0 k2 (wrap64 (x1_2 - (ji19))) y166 x8_2 l0_1 (l0_1.length : Int) (wrap64 (x25_2 + 1)) a0_0 l0_1)) = some (r1, r2, r3, r4) := by first | (rw [hy166]; with_reducible exact H) | (have H2_ := (Option.bind_some _ _).symm.trans H; rw [hy166]; with_reducible exact H2_) | (have H2_ := (Option.bind_some _ _).symm.trans H; with_reducible exact H2_) | with_reducible exact H | (rw [hy166]; exact H) | exact H
           have Ny166 := A0k hy166
           clear hy166
           by_cases c22 : (ji19) < ((rd_T40 l0_1 x25_2).f1)
           ·rw [if_pos c22] at H
            have c22b0 : decide ((ji19) < ((rd_T40 l0_1 x25_2).f1)) = true := decide_eq_true c22
            clear c22
            by_cases c23 : x8_2.length < 8796093022208
            ·rw [if_pos c23] at H
             have LMc23 := A0k c23
             clear c23
             obtain ⟨y169, hy169⟩ : ∃ y_ : List (S40), y_ = (x8_2 ++ [(⟨wrap64 (((rd_T40 l0_1 x25_2).f0) + (ji19)), wrap64 (((rd_T40 l0_1 x25_2).f1) - (ji19))⟩ : S40)]) := ⟨_, rfl⟩
             replace H : (inode_Cut.l0 k2 (wrap64 (x1_2 - (ji19))) y166 y169 l0_1 (l0_1.length : Int) (wrap64 (x25_2 + 1)) a0_0 l0_1) = some (r1, r2, r3, r4) := by first | (rw [hy169]; with_reducible exact H) | (have H2_ := (Option.bind_some _ _).symm.trans H; rw [hy169]; with_reducible exact H2_) | (have H2_ := (Option.bind_some _ _).symm.trans H; with_reducible exact H2_) | with_reducible exact H | (rw [hy169]; exact H) | exact H
             have Ny169 := A0k hy169
             clear hy169
             have H' := A0k H
             clear H
             have p164 : 0 ≤ (x25_2 : Int) := of_decide_eq_true (by first | (with_reducible assumption) | assumption)
             have q164 : x25_2 < (l0_1.length : Int) := of_decide_eq_true (by first | (with_reducible assumption) | assumption)
             obtain ⟨ad164, e164, hx164_0, hx164_1⟩ := at_T40 HR0_1.out x25_2 p164 q164
             cases e164
             replace hx164_0 := (HB.out.cell (World.block_lt_of_cell? w _ hx164_0)).trans hx164_0
             replace hx164_1 := (HB.out.cell (World.block_lt_of_cell? w _ hx164_1)).trans hx164_1
             replace p164 := eq_true p164
             replace q164 := eq_true q164
             go_wp2_with (first | ((with_reducible refine gD (N := 10) rfl ?_); refine bE ?hg (N := 10) ?hd (cs := #[.int .i64 0, .int .i64 0]) (t := 40) ?hr ?_; (case hd => rfl); (case hg => rfl); (case hr => first | (go_simp; done) | (go_simp; rfl)); intro gb165 hg w24 hbox hb; have n0_ := A0k (Kd.R_below (Kd.R_elderB (by (with_reducible repeat first | apply rA | apply rN | apply rD); exact HO_7.out) gb165 (Nat.le_of_eq hg.symm)) hb); have n1_ := A0k (Kd.R_below (Kd.R_elderB (by (with_reducible repeat first | apply rA | apply rN | apply rD); exact HO_8.out) gb165 (Nat.le_of_eq hg.symm)) hb); have n2_ := A0k (bB (g := gb157) (o := .cells #[.int .i64 a0_0, .slice (some ad164) l0_1.length c0_1] 26 (0, 0)) (by (with_reducible repeat first | apply bN | apply bD | apply bA); exact BK157.out) hb); have n3_ := A0k (bB (g := gb158) (o := .cells #[.int .i64 0, .slice none 0 0] 26 (0, 0)) (by (with_reducible repeat first | apply bN | apply bD | apply bA); exact BK158.out) hb); have n4_ := A0k (pS (by repeat (first | (with_reducible first | exact HB.out | apply pA | apply pN | apply pD | refine bS ?_ GE157.out | refine bS ?_ GE158.out) | exact HB.out)) hb); have n5_ := A0k (hbox); have n6_ := A0k ((by rw [hg]; exact (pZ (by repeat (first | (with_reducible first | exact HB.out | apply pA | apply pN | apply pD | refine bS ?_ GE157.out | refine bS ?_ GE158.out) | exact HB.out))) : w.heap.size ≤ gb165)); have n7_ := A0k ((by rw [hg]; exact (pZ (by repeat (first | (with_reducible first | exact HB.out | apply pA | apply pN | apply pD | refine bS ?_ GE157.out | refine bS ?_ GE158.out) | exact HB.out))) : w.heap.size ≤ gb165)); have n8_ := A0k ((by rw [hg]; exact Nat.ne_of_lt (bL (g := gb157) (o := .cells #[.int .i64 a0_0, .slice (some ad164) l0_1.length c0_1] 26 (0, 0)) (by (with_reducible repeat first | apply bN | apply bD | apply bA); exact BK157.out)) : gb157 ≠ gb165)); have n9_ := A0k ((by rw [hg]; exact Nat.ne_of_gt (bL (g := gb157) (o := .cells #[.int .i64 a0_0, .slice (some ad164) l0_1.length c0_1] 26 (0, 0)) (by (with_reducible repeat first | apply bN | apply bD | apply bA); exact BK157.out)) : gb165 ≠ gb157)); have n10_ := A0k ((by rw [hg]; exact Nat.ne_of_lt (bL (g := gb158) (o := .cells #[.int .i64 0, .slice none 0 0] 26 (0, 0)) (by (with_reducible repeat first | apply bN | apply bD | apply bA); exact BK158.out)) : gb158 ≠ gb165)); have n11_ := A0k ((by rw [hg]; exact Nat.ne_of_gt (bL (g := gb158) (o := .cells #[.int .i64 0, .slice none 0 0] 26 (0, 0)) (by (with_reducible repeat first | apply bN | apply bD | apply bA); exact BK158.out)) : gb165 ≠ gb158)); clear HO_7 HO_8 BK157 BK158 HB; have HO_7 := n0_; have HO_8 := n1_; have BK157 := n2_; have BK158 := n3_; have HB := n4_; have BK165 := n5_; have GW165 := n6_; have GE165 := n7_; have NB157_165 := n8_; have NB165_157 := n9_; have NB158_165 := n10_; have NB165_158 := n11_; clear n0_ n1_ n2_ n3_ n4_ n5_ n6_ n7_ n8_ n9_ n10_ n11_ hb hbox hg; have hnb25 := NB165_157.out; have hnc25 := NB157_165.out; have hnb26 := NB165_158.out; have hnc26 := NB158_165.out; have hcz27_0 : w24.cell? ⟨gb165, 0, none⟩ = some (.int .i64 0) := (bC BK165.out 0).trans rfl; have hcz27_1 : w24.cell? ⟨gb165, 1, none⟩ = some (.int .i64 0) := (bC BK165.out 1).trans rfl; have hfz27_0 := bF BK165.out 0; have hfz27_1 := bF BK165.out 1) | ((with_reducible refine gB (b := .append) (xs := #[.tmp 38, .tmp 43]) rfl ?_); at_builtin; refine Kd.R_append k40 (w0 := w) w.heap.size rfl (.tmp 38) (.tmp 43) 24 40 (.agg #[(.int .i64 0), (.int .i64 0)]) 16 rfl Tryd.underlying24 info40 rfl (by decide) (by omega) u7 x7_2 (⟨(rd_T40 l0_1 x25_2).f0, ji19⟩ : S40) [.int .i64 ((rd_T40 l0_1 x25_2).f0), .int .i64 ji19] (fun k_ => some k_ ≠ (u8 : Value).ownBlock ∧ k_ ≠ gb165) (fun _ => False) rfl (by first | (go_simp; done) | (go_simp; rfl)) ?aP (fun _ hk => hk.elim) ?aF ?aO ?aB ?aS ?aL ?_; (case aP => exact k40_mkM _ _ _ (⟨(rd_T40 l0_1 x25_2).f0, ji19⟩ : S40)); (case aB => exact (by repeat (first | (with_reducible first | exact HB.out | apply pA | apply pN | apply pD | refine bS ?_ GE157.out | refine bS ?_ GE158.out | refine bS ?_ GE165.out) | exact HB.out))); (case aF => exact (fun k_ hk => ⟨Kd.fresh' (Kd.R_lt (by (with_reducible repeat first | apply rA | apply rN | apply rD); exact (Kd.R_mono (Kd.R_far (p := ⟨gb165, 1, none⟩) (Kd.R_far (p := ⟨gb165, 0, none⟩) (Kd.R_mono HO_8.out (fun k_ hk => (⟨hk, hk.2⟩ : _ ∧ k_ ≠ gb165))) (fun _ hk => hk.2) (.int .i64 ((rd_T40 l0_1 x25_2).f0))) (fun _ hk => hk.2) (.int .i64 ((rd_T40 l0_1 x25_2).f1))) (fun _ h_ => h_.1)))) k_ hk, Kd.freshB (g := gb165) (o := .cells #[.int .i64 ((rd_T40 l0_1 x25_2).f0), .int .i64 ((rd_T40 l0_1 x25_2).f1)] 40 (0, 0)) (by (with_reducible repeat first | apply bN | apply bD | apply bA); refine bP (cs := #[.int .i64 ((rd_T40 l0_1 x25_2).f0), .int .i64 0]) ?_ 1 _ rfl; (with_reducible repeat first | apply bN | apply bD | apply bA); refine bP (cs := #[.int .i64 0, .int .i64 0]) ?_ 0 _ rfl; (with_reducible repeat first | apply bN | apply bD | apply bA); exact BK165.out) k_ hk⟩)); (case aO => exact (by (with_reducible repeat first | apply rA | apply rN | apply rD); exact Kd.R_mono (Kd.R_far (p := ⟨gb165, 1, none⟩) (Kd.R_far (p := ⟨gb165, 0, none⟩) (Kd.R_mono HO_7.out (fun k_ hk => (⟨hk, hk.2⟩ : _ ∧ k_ ≠ gb165))) (fun _ hk => hk.2) (.int .i64 ((rd_T40 l0_1 x25_2).f0))) (fun _ hk => hk.2) (.int .i64 ((rd_T40 l0_1 x25_2).f1))) (fun _ hk => ⟨hk.1.1, hk.1.2⟩))); (case aS => exact (pZ (by repeat (first | (with_reducible first | exact HB.out | apply pA | apply pN | apply pD | refine bS ?_ GE157.out | refine bS ?_ GE158.out | refine bS ?_ GE165.out) | exact HB.out)))); (case aL => have := LMc21.out; omega); intro v167 w28 ho hb hg hat; rw [← Ny166.out] at ho; have n0_ := A0k (Kd.R_after (ok := (fun k_ => k_ ≠ gb165)) (by (with_reducible repeat first | apply rA | apply rN | apply rD); exact Kd.R_mono (Kd.R_far (p := ⟨gb165, 1, none⟩) (Kd.R_far (p := ⟨gb165, 0, none⟩) (Kd.R_mono HO_8.out (fun k_ hk => (⟨hk, hk.2⟩ : _ ∧ k_ ≠ gb165))) (fun _ hk => hk.2) (.int .i64 ((rd_T40 l0_1 x25_2).f0))) (fun _ hk => hk.2) (.int .i64 ((rd_T40 l0_1 x25_2).f1))) (fun _ hk => ⟨hk.1.2, hk.1.1⟩)) hg hat); have n1_ := A0k (blk_grown (g := gb157) (o := .cells #[.int .i64 a0_0, .slice (some ad164) l0_1.length c0_1] 26 (0, 0)) (by (with_reducible repeat first | apply bN | apply bD | apply bA); refine bR ?_ NB157_165.out _; (with_reducible repeat first | apply bN | apply bD | apply bA); refine bR ?_ NB157_165.out _; (with_reducible repeat first | apply bN | apply bD | apply bA); exact BK157.out) hg (Kd.R_ne HO_7.out BK157.out (by decide))); have n2_ := A0k (blk_grown (g := gb158) (o := .cells #[.int .i64 0, .slice none 0 0] 26 (0, 0)) (by (with_reducible repeat first | apply bN | apply bD | apply bA); refine bR ?_ NB158_165.out _; (with_reducible repeat first | apply bN | apply bD | apply bA); refine bR ?_ NB158_165.out _; (with_reducible repeat first | apply bN | apply bD | apply bA); exact BK158.out) hg (Kd.R_ne HO_7.out BK158.out (by decide))); have n3_ := A0k (blk_grown (g := gb165) (o := .cells #[.int .i64 ((rd_T40 l0_1 x25_2).f0), .int .i64 ((rd_T40 l0_1 x25_2).f1)] 40 (0, 0)) (by (with_reducible repeat first | apply bN | apply bD | apply bA); refine bP (cs := #[.int .i64 ((rd_T40 l0_1 x25_2).f0), .int .i64 0]) ?_ 1 _ rfl; (with_reducible repeat first | apply bN | apply bD | apply bA); refine bP (cs := #[.int .i64 0, .int .i64 0]) ?_ 0 _ rfl; (with_reducible repeat first | apply bN | apply bD | apply bA); exact BK165.out) hg (Kd.R_away HO_7.out (fun _ hk => hk.2))); have n4_ := A0k (hb); have n5_ := A0k (ho); clear HO_8 BK157 BK158 BK165 HB HO_7; have HO_8 := n0_; have BK157 := n1_; have BK158 := n2_; have BK165 := n3_; have HB := n4_; have HO168 := n5_; clear n0_ n1_ n2_ n3_ n4_ n5_ ho hb hg hat; have hcz29_0 : w28.cell? ⟨gb165, 0, none⟩ = some (.int .i64 ((rd_T40 l0_1 x25_2).f0)) := (bC BK165.out 0).trans rfl; have hcz29_1 : w28.cell? ⟨gb165, 1, none⟩ = some (.int .i64 ((rd_T40 l0_1 x25_2).f1)) := (bC BK165.out 1).trans rfl; have hfz29_0 := bF BK165.out 0; have hfz29_1 := bF BK165.out 1) | ((with_reducible refine gB (b := .append) (xs := #[.tmp 49, .tmp 59]) rfl ?_); at_builtin; refine Kd.R_append k40 (w0 := w) w.heap.size rfl (.tmp 49) (.tmp 59) 24 40 (.agg #[(.int .i64 0), (.int .i64 0)]) 16 rfl Tryd.underlying24 info40 rfl (by decide) (by omega) u8 x8_2 (⟨wrap64 (((rd_T40 l0_1 x25_2).f0) + (ji19)), wrap64 (((rd_T40 l0_1 x25_2).f1) - (ji19))⟩ : S40) [.int .i64 (wrap64 (((rd_T40 l0_1 x25_2).f0) + (ji19))), .int .i64 (wrap64 (((rd_T40 l0_1 x25_2).f1) - (ji19)))] (fun k_ => some k_ ≠ (v167 : Value).ownBlock ∧ k_ ≠ gb165) (fun _ => False) rfl rfl ?aP (fun _ hk => hk.elim) ?aF ?aO ?aB ?aS ?aL ?_; (case aP => exact k40_mkM _ _ _ (⟨wrap64 (((rd_T40 l0_1 x25_2).f0) + (ji19)), wrap64 (((rd_T40 l0_1 x25_2).f1) - (ji19))⟩ : S40)); (case aB => exact (by repeat (first | (with_reducible first | exact HB.out | apply pA | apply pN | apply pD | refine bS ?_ GE157.out | refine bS ?_ GE158.out | refine bS ?_ GE165.out) | exact HB.out))); (case aF => exact (fun k_ hk => ⟨Kd.fresh' (Kd.R_lt (by (with_reducible repeat first | apply rA | apply rN | apply rD); exact HO168.out)) k_ hk, Kd.freshB (g := gb165) (o := .cells #[.int .i64 ((rd_T40 l0_1 x25_2).f0), .int .i64 ((rd_T40 l0_1 x25_2).f1)] 40 (0, 0)) (by (with_reducible repeat first | apply bN | apply bD | apply bA); exact BK165.out) k_ hk⟩)); (case aO => exact (by (with_reducible repeat first | apply rA | apply rN | apply rD); exact Kd.R_mono HO_8.out (fun _ hk => ⟨hk.2, hk.1⟩))); (case aS => exact (pZ (by repeat (first | (with_reducible first | exact HB.out | apply pA | apply pN | apply pD | refine bS ?_ GE157.out | refine bS ?_ GE158.out | refine bS ?_ GE165.out) | exact HB.out)))); (case aL => have := LMc23.out; omega); intro v170 w30 ho hb hg hat; rw [← Ny169.out] at ho; have n0_ := A0k (blk_grown (g := gb157) (o := .cells #[.int .i64 a0_0, .slice (some ad164) l0_1.length c0_1] 26 (0, 0)) (by (with_reducible repeat first | apply bN | apply bD | apply bA); exact BK157.out) hg (Kd.R_ne HO_8.out BK157.out (by decide))); have n1_ := A0k (blk_grown (g := gb158) (o := .cells #[.int .i64 0, .slice none 0 0] 26 (0, 0)) (by (with_reducible repeat first | apply bN | apply bD | apply bA); exact BK158.out) hg (Kd.R_ne HO_8.out BK158.out (by decide))); have n2_ := A0k (blk_grown (g := gb165) (o := .cells #[.int .i64 ((rd_T40 l0_1 x25_2).f0), .int .i64 ((rd_T40 l0_1 x25_2).f1)] 40 (0, 0)) (by (with_reducible repeat first | apply bN | apply bD | apply bA); exact BK165.out) hg (Kd.R_away HO_8.out (fun _ hk => hk.1))); have n3_ := A0k (Kd.R_after (ok := (fun k_ => k_ ≠ gb165)) (by (with_reducible repeat first | apply rA | apply rN | apply rD); exact Kd.R_mono HO168.out (fun _ hk => ⟨hk.2, hk.1⟩)) hg hat); have n4_ := A0k (hb); have n5_ := A0k (ho); clear BK157 BK158 BK165 HO168 HB HO_8; have BK157 := n0_; have BK158 := n1_; have BK165 := n2_; have HO168 := n3_; have HB := n4_; have HO171 := n5_; clear n0_ n1_ n2_ n3_ n4_ n5_ ho hb hg hat))
             go_roundg k2
             case measure => have := HJ2.out; have := HK2.out; omega
             case rel => exact ⟨(wrap64 (x1_2 - (ji19))), (y166), (y169), (wrap64 (x25_2 + 1)), (by first | rfl | (simp; done) | (simp only [← hji19] <;> (first | rfl | simp)) | (simp [*]; done)), (by first | rfl | (simp; done) | (simp [*]; done)), H', ⟨by have := HJ2.out; have := HK2.out; omega⟩, ⟨by (with_reducible repeat first | apply rA | apply rN | apply rD); exact Kd.R_mono HO168.out (fun _ hk => hk.2)⟩, ⟨by (with_reducible repeat first | apply rA | apply rN | apply rD); exact Kd.R_mono HO171.out (fun _ hk => hk.1)⟩, ⟨by (with_reducible repeat first | apply bN | apply bD | apply bA); exact BK157.out⟩, ⟨by (with_reducible repeat first | apply bN | apply bD | apply bA); exact BK158.out⟩, ⟨by repeat (first | (with_reducible first | exact HB.out | apply pA | apply pN | apply pD | refine bS ?_ GE157.out | refine bS ?_ GE158.out | refine bS ?_ GE165.out) | exact HB.out)⟩⟩
            ·rw [if_neg c23] at H
             exact absurd H (by simp)
           ·rw [if_neg c22] at H
            have c22b0 : decide ((ji19) < ((rd_T40 l0_1 x25_2).f1)) = false := decide_eq_false c22
            clear c22
            have H' := A0k H
            clear H
            have p164 : 0 ≤ (x25_2 : Int) := of_decide_eq_true (by first | (with_reducible assumption) | assumption)
            have q164 : x25_2 < (l0_1.length : Int) := of_decide_eq_true (by first | (with_reducible assumption) | assumption)
            obtain ⟨ad164, e164, hx164_0, hx164_1⟩ := at_T40 HR0_1.out x25_2 p164 q164
            cases e164
            replace hx164_0 := (HB.out.cell (World.block_lt_of_cell? w _ hx164_0)).trans hx164_0
            replace hx164_1 := (HB.out.cell (World.block_lt_of_cell? w _ hx164_1)).trans hx164_1
            replace p164 := eq_true p164
            replace q164 := eq_true q164
            go_wp2_with (first | ((with_reducible refine gD (N := 10) rfl ?_); refine bE ?hg (N := 10) ?hd (cs := #[.int .i64 0, .int .i64 0]) (t := 40) ?hr ?_; (case hd => rfl); (case hg => rfl); (case hr => first | (go_simp; done) | (go_simp; rfl)); intro gb165 hg w31 hbox hb; have n0_ := A0k (Kd.R_below (Kd.R_elderB (by (with_reducible repeat first | apply rA | apply rN | apply rD); exact HO_7.out) gb165 (Nat.le_of_eq hg.symm)) hb); have n1_ := A0k (Kd.R_below (Kd.R_elderB (by (with_reducible repeat first | apply rA | apply rN | apply rD); exact HO_8.out) gb165 (Nat.le_of_eq hg.symm)) hb); have n2_ := A0k (bB (g := gb157) (o := .cells #[.int .i64 a0_0, .slice (some ad164) l0_1.length c0_1] 26 (0, 0)) (by (with_reducible repeat first | apply bN | apply bD | apply bA); exact BK157.out) hb); have n3_ := A0k (bB (g := gb158) (o := .cells #[.int .i64 0, .slice none 0 0] 26 (0, 0)) (by (with_reducible repeat first | apply bN | apply bD | apply bA); exact BK158.out) hb); have n4_ := A0k (pS (by repeat (first | (with_reducible first | exact HB.out | apply pA | apply pN | apply pD | refine bS ?_ GE157.out | refine bS ?_ GE158.out) | exact HB.out)) hb); have n5_ := A0k (hbox); have n6_ := A0k ((by rw [hg]; exact (pZ (by repeat (first | (with_reducible first | exact HB.out | apply pA | apply pN | apply pD | refine bS ?_ GE157.out | refine bS ?_ GE158.out) | exact HB.out))) : w.heap.size ≤ gb165)); have n7_ := A0k ((by rw [hg]; exact (pZ (by repeat (first | (with_reducible first | exact HB.out | apply pA | apply pN | apply pD | refine bS ?_ GE157.out | refine bS ?_ GE158.out) | exact HB.out))) : w.heap.size ≤ gb165)); have n8_ := A0k ((by rw [hg]; exact Nat.ne_of_lt (bL (g := gb157) (o := .cells #[.int .i64 a0_0, .slice (some ad164) l0_1.length c0_1] 26 (0, 0)) (by (with_reducible repeat first | apply bN | apply bD | apply bA); exact BK157.out)) : gb157 ≠ gb165)); have n9_ := A0k ((by rw [hg]; exact Nat.ne_of_gt (bL (g := gb157) (o := .cells #[.int .i64 a0_0, .slice (some ad164) l0_1.length c0_1] 26 (0, 0)) (by (with_reducible repeat first | apply bN | apply bD | apply bA); exact BK157.out)) : gb165 ≠ gb157)); have n10_ := A0k ((by rw [hg]; exact Nat.ne_of_lt (bL (g := gb158) (o := .cells #[.int .i64 0, .slice none 0 0] 26 (0, 0)) (by (with_reducible repeat first | apply bN | apply bD | apply bA); exact BK158.out)) : gb158 ≠ gb165)); have n11_ := A0k ((by rw [hg]; exact Nat.ne_of_gt (bL (g := gb158) (o := .cells #[.int .i64 0, .slice none 0 0] 26 (0, 0)) (by (with_reducible repeat first | apply bN | apply bD | apply bA); exact BK158.out)) : gb165 ≠ gb158)); clear HO_7 HO_8 BK157 BK158 HB; have HO_7 := n0_; have HO_8 := n1_; have BK157 := n2_; have BK158 := n3_; have HB := n4_; have BK165 := n5_; have GW165 := n6_; have GE165 := n7_; have NB157_165 := n8_; have NB165_157 := n9_; have NB158_165 := n10_; have NB165_158 := n11_; clear n0_ n1_ n2_ n3_ n4_ n5_ n6_ n7_ n8_ n9_ n10_ n11_ hb hbox hg; have hnb32 := NB165_157.out; have hnc32 := NB157_165.out; have hnb33 := NB165_158.out; have hnc33 := NB158_165.out; have hcz34_0 : w31.cell? ⟨gb165, 0, none⟩ = some (.int .i64 0) := (bC BK165.out 0).trans rfl; have hcz34_1 : w31.cell? ⟨gb165, 1, none⟩ = some (.int .i64 0) := (bC BK165.out 1).trans rfl; have hfz34_0 := bF BK165.out 0; have hfz34_1 := bF BK165.out 1) | ((with_reducible refine gB (b := .append) (xs := #[.tmp 38, .tmp 43]) rfl ?_); at_builtin; refine Kd.R_append k40 (w0 := w) w.heap.size rfl (.tmp 38) (.tmp 43) 24 40 (.agg #[(.int .i64 0), (.int .i64 0)]) 16 rfl Tryd.underlying24 info40 rfl (by decide) (by omega) u7 x7_2 (⟨(rd_T40 l0_1 x25_2).f0, ji19⟩ : S40) [.int .i64 ((rd_T40 l0_1 x25_2).f0), .int .i64 ji19] (fun k_ => some k_ ≠ (u8 : Value).ownBlock ∧ k_ ≠ gb165) (fun _ => False) rfl (by first | (go_simp; done) | (go_simp; rfl)) ?aP (fun _ hk => hk.elim) ?aF ?aO ?aB ?aS ?aL ?_; (case aP => exact k40_mkM _ _ _ (⟨(rd_T40 l0_1 x25_2).f0, ji19⟩ : S40)); (case aB => exact (by repeat (first | (with_reducible first | exact HB.out | apply pA | apply pN | apply pD | refine bS ?_ GE157.out | refine bS ?_ GE158.out | refine bS ?_ GE165.out) | exact HB.out))); (case aF => exact (fun k_ hk => ⟨Kd.fresh' (Kd.R_lt (by (with_reducible repeat first | apply rA | apply rN | apply rD); exact (Kd.R_mono (Kd.R_far (p := ⟨gb165, 1, none⟩) (Kd.R_far (p := ⟨gb165, 0, none⟩) (Kd.R_mono HO_8.out (fun k_ hk => (⟨hk, hk.2⟩ : _ ∧ k_ ≠ gb165))) (fun _ hk => hk.2) (.int .i64 ((rd_T40 l0_1 x25_2).f0))) (fun _ hk => hk.2) (.int .i64 ((rd_T40 l0_1 x25_2).f1))) (fun _ h_ => h_.1)))) k_ hk, Kd.freshB (g := gb165) (o := .cells #[.int .i64 ((rd_T40 l0_1 x25_2).f0), .int .i64 ((rd_T40 l0_1 x25_2).f1)] 40 (0, 0)) (by (with_reducible repeat first | apply bN | apply bD | apply bA); refine bP (cs := #[.int .i64 ((rd_T40 l0_1 x25_2).f0), .int .i64 0]) ?_ 1 _ rfl; (with_reducible repeat first | apply bN | apply bD | apply bA); refine bP (cs := #[.int .i64 0, .int .i64 0]) ?_ 0 _ rfl; (with_reducible repeat first | apply bN | apply bD | apply bA); exact BK165.out) k_ hk⟩)); (case aO => exact (by (with_reducible repeat first | apply rA | apply rN | apply rD); exact Kd.R_mono (Kd.R_far (p := ⟨gb165, 1, none⟩) (Kd.R_far (p := ⟨gb165, 0, none⟩) (Kd.R_mono HO_7.out (fun k_ hk => (⟨hk, hk.2⟩ : _ ∧ k_ ≠ gb165))) (fun _ hk => hk.2) (.int .i64 ((rd_T40 l0_1 x25_2).f0))) (fun _ hk => hk.2) (.int .i64 ((rd_T40 l0_1 x25_2).f1))) (fun _ hk => ⟨hk.1.1, hk.1.2⟩))); (case aS => exact (pZ (by repeat (first | (with_reducible first | exact HB.out | apply pA | apply pN | apply pD | refine bS ?_ GE157.out | refine bS ?_ GE158.out | refine bS ?_ GE165.out) | exact HB.out)))); (case aL => have := LMc21.out; omega); intro v167 w35 ho hb hg hat; rw [← Ny166.out] at ho; have n0_ := A0k (Kd.R_after (ok := (fun k_ => k_ ≠ gb165)) (by (with_reducible repeat first | apply rA | apply rN | apply rD); exact Kd.R_mono (Kd.R_far (p := ⟨gb165, 1, none⟩) (Kd.R_far (p := ⟨gb165, 0, none⟩) (Kd.R_mono HO_8.out (fun k_ hk => (⟨hk, hk.2⟩ : _ ∧ k_ ≠ gb165))) (fun _ hk => hk.2) (.int .i64 ((rd_T40 l0_1 x25_2).f0))) (fun _ hk => hk.2) (.int .i64 ((rd_T40 l0_1 x25_2).f1))) (fun _ hk => ⟨hk.1.2, hk.1.1⟩)) hg hat); have n1_ := A0k (blk_grown (g := gb157) (o := .cells #[.int .i64 a0_0, .slice (some ad164) l0_1.length c0_1] 26 (0, 0)) (by (with_reducible repeat first | apply bN | apply bD | apply bA); refine bR ?_ NB157_165.out _; (with_reducible repeat first | apply bN | apply bD | apply bA); refine bR ?_ NB157_165.out _; (with_reducible repeat first | apply bN | apply bD | apply bA); exact BK157.out) hg (Kd.R_ne HO_7.out BK157.out (by decide))); have n2_ := A0k (blk_grown (g := gb158) (o := .cells #[.int .i64 0, .slice none 0 0] 26 (0, 0)) (by (with_reducible repeat first | apply bN | apply bD | apply bA); refine bR ?_ NB158_165.out _; (with_reducible repeat first | apply bN | apply bD | apply bA); refine bR ?_ NB158_165.out _; (with_reducible repeat first | apply bN | apply bD | apply bA); exact BK158.out) hg (Kd.R_ne HO_7.out BK158.out (by decide))); have n3_ := A0k (blk_grown (g := gb165) (o := .cells #[.int .i64 ((rd_T40 l0_1 x25_2).f0), .int .i64 ((rd_T40 l0_1 x25_2).f1)] 40 (0, 0)) (by (with_reducible repeat first | apply bN | apply bD | apply bA); refine bP (cs := #[.int .i64 ((rd_T40 l0_1 x25_2).f0), .int .i64 0]) ?_ 1 _ rfl; (with_reducible repeat first | apply bN | apply bD | apply bA); refine bP (cs := #[.int .i64 0, .int .i64 0]) ?_ 0 _ rfl; (with_reducible repeat first | apply bN | apply bD | apply bA); exact BK165.out) hg (Kd.R_away HO_7.out (fun _ hk => hk.2))); have n4_ := A0k (hb); have n5_ := A0k (ho); clear HO_8 BK157 BK158 BK165 HB HO_7; have HO_8 := n0_; have BK157 := n1_; have BK158 := n2_; have BK165 := n3_; have HB := n4_; have HO168 := n5_; clear n0_ n1_ n2_ n3_ n4_ n5_ ho hb hg hat; have hcz36_0 : w35.cell? ⟨gb165, 0, none⟩ = some (.int .i64 ((rd_T40 l0_1 x25_2).f0)) := (bC BK165.out 0).trans rfl; have hcz36_1 : w35.cell? ⟨gb165, 1, none⟩ = some (.int .i64 ((rd_T40 l0_1 x25_2).f1)) := (bC BK165.out 1).trans rfl; have hfz36_0 := bF BK165.out 0; have hfz36_1 := bF BK165.out 1))
            go_roundg k2
            case measure => have := HJ2.out; have := HK2.out; omega
            case rel => exact ⟨(wrap64 (x1_2 - (ji19))), (y166), (x8_2), (wrap64 (x25_2 + 1)), (by first | rfl | (simp; done) | (simp only [← hji19] <;> (first | rfl | simp)) | (simp [*]; done)), (by first | rfl | (simp; done) | (simp [*]; done)), H', ⟨by have := HJ2.out; have := HK2.out; omega⟩, ⟨by (with_reducible repeat first | apply rA | apply rN | apply rD); exact Kd.R_mono HO168.out (fun _ hk => hk.1)⟩, ⟨by (with_reducible repeat first | apply rA | apply rN | apply rD); exact Kd.R_mono HO_8.out (fun _ hk => hk.2)⟩, ⟨by (with_reducible repeat first | apply bN | apply bD | apply bA); exact BK157.out⟩, ⟨by (with_reducible repeat first | apply bN | apply bD | apply bA); exact BK158.out⟩, ⟨by repeat (first | (with_reducible first | exact HB.out | apply pA | apply pN | apply pD | refine bS ?_ GE157.out | refine bS ?_ GE158.out | refine bS ?_ GE165.out) | exact HB.out)⟩⟩
          ·rw [if_neg c21] at H
           exact absurd H (by simp)
         ·rw [if_neg c20] at H
          have c20b0 : decide (0 < (ji19)) = false := decide_eq_false c20
          clear c20
          by_cases c37 : (ji19) < ((rd_T40 l0_1 x25_2).f1)
          ·rw [if_pos c37] at H
           have c37b0 : decide ((ji19) < ((rd_T40 l0_1 x25_2).f1)) = true := decide_eq_true c37
           clear c37
           by_cases c38 : x8_2.length < 8796093022208
           ·rw [if_pos c38] at H
            have LMc38 := A0k c38
            clear c38
            obtain ⟨y172, hy172⟩ : ∃ y_ : List (S40), y_ = (x8_2 ++ [(⟨wrap64 (((rd_T40 l0_1 x25_2).f0) + (ji19)), wrap64 (((rd_T40 l0_1 x25_2).f1) - (ji19))⟩ : S40)]) := ⟨_, rfl⟩
            replace H : (inode_Cut.l0 k2 (wrap64 (x1_2 - (ji19))) x7_2 y172 l0_1 (l0_1.length : Int) (wrap64 (x25_2 + 1)) a0_0 l0_1) = some (r1, r2, r3, r4) := by first | (rw [hy172]; with_reducible exact H) | (have H2_ := (Option.bind_some _ _).symm.trans H; rw [hy172]; with_reducible exact H2_) | (have H2_ := (Option.bind_some _ _).symm.trans H; with_reducible exact H2_) | with_reducible exact H | (rw [hy172]; exact H) | exact H
            have Ny172 := A0k hy172
            clear hy172
            have H' := A0k H
            clear H
            have p164 : 0 ≤ (x25_2 : Int) := of_decide_eq_true (by first | (with_reducible assumption) | assumption)
            have q164 : x25_2 < (l0_1.length : Int) := of_decide_eq_true (by first | (with_reducible assumption) | assumption)
            obtain ⟨ad164, e164, hx164_0, hx164_1⟩ := at_T40 HR0_1.out x25_2 p164 q164
            cases e164
            replace hx164_0 := (HB.out.cell (World.block_lt_of_cell? w _ hx164_0)).trans hx164_0
            replace hx164_1 := (HB.out.cell (World.block_lt_of_cell? w _ hx164_1)).trans hx164_1
            replace p164 := eq_true p164
            replace q164 := eq_true q164
            go_wp2_with (first | ((with_reducible refine gD (N := 10) rfl ?_); refine bE ?hg (N := 10) ?hd (cs := #[.int .i64 0, .int .i64 0]) (t := 40) ?hr ?_; (case hd => rfl); (case hg => rfl); (case hr => first | (go_simp; done) | (go_simp; rfl)); intro gb165 hg w39 hbox hb; have n0_ := A0k (Kd.R_below (Kd.R_elderB (by (with_reducible repeat first | apply rA | apply rN | apply rD); exact HO_7.out) gb165 (Nat.le_of_eq hg.symm)) hb); have n1_ := A0k (Kd.R_below (Kd.R_elderB (by (with_reducible repeat first | apply rA | apply rN | apply rD); exact HO_8.out) gb165 (Nat.le_of_eq hg.symm)) hb); have n2_ := A0k (bB (g := gb157) (o := .cells #[.int .i64 a0_0, .slice (some ad164) l0_1.length c0_1] 26 (0, 0)) (by (with_reducible repeat first | apply bN | apply bD | apply bA); exact BK157.out) hb); have n3_ := A0k (bB (g := gb158) (o := .cells #[.int .i64 0, .slice none 0 0] 26 (0, 0)) (by (with_reducible repeat first | apply bN | apply bD | apply bA); exact BK158.out) hb); have n4_ := A0k (pS (by repeat (first | (with_reducible first | exact HB.out | apply pA | apply pN | apply pD | refine bS ?_ GE157.out | refine bS ?_ GE158.out) | exact HB.out)) hb); have n5_ := A0k (hbox); have n6_ := A0k ((by rw [hg]; exact (pZ (by repeat (first | (with_reducible first | exact HB.out | apply pA | apply pN | apply pD | refine bS ?_ GE157.out | refine bS ?_ GE158.out) | exact HB.out))) : w.heap.size ≤ gb165)); have n7_ := A0k ((by rw [hg]; exact (pZ (by repeat (first | (with_reducible first | exact HB.out | apply pA | apply pN | apply pD | refine bS ?_ GE157.out | refine bS ?_ GE158.out) | exact HB.out))) : w.heap.size ≤ gb165)); have n8_ := A0k ((by rw [hg]; exact Nat.ne_of_lt (bL (g := gb157) (o := .cells #[.int .i64 a0_0, .slice (some ad164) l0_1.length c0_1] 26 (0, 0)) (by (with_reducible repeat first | apply bN | apply bD | apply bA); exact BK157.out)) : gb157 ≠ gb165)); have n9_ := A0k ((by rw [hg]; exact Nat.ne_of_gt (bL (g := gb157) (o := .cells #[.int .i64 a0_0, .slice (some ad164) l0_1.length c0_1] 26 (0, 0)) (by (with_reducible repeat first | apply bN | apply bD | apply bA); exact BK157.out)) : gb165 ≠ gb157)); have n10_ := A0k ((by rw [hg]; exact Nat.ne_of_lt (bL (g := gb158) (o := .cells #[.int .i64 0, .slice none 0 0] 26 (0, 0)) (by (with_reducible repeat first | apply bN | apply bD | apply bA); exact BK158.out)) : gb158 ≠ gb165)); have n11_ := A0k ((by rw [hg]; exact Nat.ne_of_gt (bL (g := gb158) (o := .cells #[.int .i64 0, .slice none 0 0] 26 (0, 0)) (by (with_reducible repeat first | apply bN | apply bD | apply bA); exact BK158.out)) : gb165 ≠ gb158)); clear HO_7 HO_8 BK157 BK158 HB; have HO_7 := n0_; have HO_8 := n1_; have BK157 := n2_; have BK158 := n3_; have HB := n4_; have BK165 := n5_; have GW165 := n6_; have GE165 := n7_; have NB157_165 := n8_; have NB165_157 := n9_; have NB158_165 := n10_; have NB165_158 := n11_; clear n0_ n1_ n2_ n3_ n4_ n5_ n6_ n7_ n8_ n9_ n10_ n11_ hb hbox hg; have hnb40 := NB165_157.out; have hnc40 := NB157_165.out; have hnb41 := NB165_158.out; have hnc41 := NB158_165.out; have hcz42_0 : w39.cell? ⟨gb165, 0, none⟩ = some (.int .i64 0) := (bC BK165.out 0).trans rfl; have hcz42_1 : w39.cell? ⟨gb165, 1, none⟩ = some (.int .i64 0) := (bC BK165.out 1).trans rfl; have hfz42_0 := bF BK165.out 0; have hfz42_1 := bF BK165.out 1) | ((with_reducible refine gB (b := .append) (xs := #[.tmp 49, .tmp 59]) rfl ?_); at_builtin; refine Kd.R_append k40 (w0 := w) w.heap.size rfl (.tmp 49) (.tmp 59) 24 40 (.agg #[(.int .i64 0), (.int .i64 0)]) 16 rfl Tryd.underlying24 info40 rfl (by decide) (by omega) u8 x8_2 (⟨wrap64 (((rd_T40 l0_1 x25_2).f0) + (ji19)), wrap64 (((rd_T40 l0_1 x25_2).f1) - (ji19))⟩ : S40) [.int .i64 (wrap64 (((rd_T40 l0_1 x25_2).f0) + (ji19))), .int .i64 (wrap64 (((rd_T40 l0_1 x25_2).f1) - (ji19)))] (fun k_ => some k_ ≠ (u7 : Value).ownBlock ∧ k_ ≠ gb165) (fun _ => False) rfl (by first | (go_simp; done) | (go_simp; rfl)) ?aP (fun _ hk => hk.elim) ?aF ?aO ?aB ?aS ?aL ?_; (case aP => exact k40_mkM _ _ _ (⟨wrap64 (((rd_T40 l0_1 x25_2).f0) + (ji19)), wrap64 (((rd_T40 l0_1 x25_2).f1) - (ji19))⟩ : S40)); (case aB => exact (by repeat (first | (with_reducible first | exact HB.out | apply pA | apply pN | apply pD | refine bS ?_ GE157.out | refine bS ?_ GE158.out | refine bS ?_ GE165.out) | exact HB.out))); (case aF => exact (fun k_ hk => ⟨Kd.fresh' (Kd.R_lt (by (with_reducible repeat first | apply rA | apply rN | apply rD); exact (Kd.R_mono (Kd.R_far (p := ⟨gb165, 1, none⟩) (Kd.R_far (p := ⟨gb165, 0, none⟩) (Kd.R_mono HO_7.out (fun k_ hk => (⟨hk, hk.2⟩ : _ ∧ k_ ≠ gb165))) (fun _ hk => hk.2) (.int .i64 ((rd_T40 l0_1 x25_2).f0))) (fun _ hk => hk.2) (.int .i64 ((rd_T40 l0_1 x25_2).f1))) (fun _ h_ => h_.1)))) k_ hk, Kd.freshB (g := gb165) (o := .cells #[.int .i64 ((rd_T40 l0_1 x25_2).f0), .int .i64 ((rd_T40 l0_1 x25_2).f1)] 40 (0, 0)) (by (with_reducible repeat first | apply bN | apply bD | apply bA); refine bP (cs := #[.int .i64 ((rd_T40 l0_1 x25_2).f0), .int .i64 0]) ?_ 1 _ rfl; (with_reducible repeat first | apply bN | apply bD | apply bA); refine bP (cs := #[.int .i64 0, .int .i64 0]) ?_ 0 _ rfl; (with_reducible repeat first | apply bN | apply bD | apply bA); exact BK165.out) k_ hk⟩)); (case aO => exact (by (with_reducible repeat first | apply rA | apply rN | apply rD); exact Kd.R_mono (Kd.R_far (p := ⟨gb165, 1, none⟩) (Kd.R_far (p := ⟨gb165, 0, none⟩) (Kd.R_mono HO_8.out (fun k_ hk => (⟨hk, hk.2⟩ : _ ∧ k_ ≠ gb165))) (fun _ hk => hk.2) (.int .i64 ((rd_T40 l0_1 x25_2).f0))) (fun _ hk => hk.2) (.int .i64 ((rd_T40 l0_1 x25_2).f1))) (fun _ hk => ⟨hk.1.1, hk.1.2⟩))); (case aS => exact (pZ (by repeat (first | (with_reducible first | exact HB.out | apply pA | apply pN | apply pD | refine bS ?_ GE157.out | refine bS ?_ GE158.out | refine bS ?_ GE165.out) | exact HB.out)))); (case aL => have := LMc38.out; omega); intro v173 w43 ho hb hg hat; rw [← Ny172.out] at ho; have n0_ := A0k (Kd.R_after (ok := (fun k_ => k_ ≠ gb165)) (by (with_reducible repeat first | apply rA | apply rN | apply rD); exact Kd.R_mono (Kd.R_far (p := ⟨gb165, 1, none⟩) (Kd.R_far (p := ⟨gb165, 0, none⟩) (Kd.R_mono HO_7.out (fun k_ hk => (⟨hk, hk.2⟩ : _ ∧ k_ ≠ gb165))) (fun _ hk => hk.2) (.int .i64 ((rd_T40 l0_1 x25_2).f0))) (fun _ hk => hk.2) (.int .i64 ((rd_T40 l0_1 x25_2).f1))) (fun _ hk => ⟨hk.1.2, hk.1.1⟩)) hg hat); have n1_ := A0k (blk_grown (g := gb157) (o := .cells #[.int .i64 a0_0, .slice (some ad164) l0_1.length c0_1] 26 (0, 0)) (by (with_reducible repeat first | apply bN | apply bD | apply bA); refine bR ?_ NB157_165.out _; (with_reducible repeat first | apply bN | apply bD | apply bA); refine bR ?_ NB157_165.out _; (with_reducible repeat first | apply bN | apply bD | apply bA); exact BK157.out) hg (Kd.R_ne HO_8.out BK157.out (by decide))); have n2_ := A0k (blk_grown (g := gb158) (o := .cells #[.int .i64 0, .slice none 0 0] 26 (0, 0)) (by (with_reducible repeat first | apply bN | apply bD | apply bA); refine bR ?_ NB158_165.out _; (with_reducible repeat first | apply bN | apply bD | apply bA); refine bR ?_ NB158_165.out _; (with_reducible repeat first | apply bN | apply bD | apply bA); exact BK158.out) hg (Kd.R_ne HO_8.out BK158.out (by decide))); have n3_ := A0k (blk_grown (g := gb165) (o := .cells #[.int .i64 ((rd_T40 l0_1 x25_2).f0), .int .i64 ((rd_T40 l0_1 x25_2).f1)] 40 (0, 0)) (by (with_reducible repeat first | apply bN | apply bD | apply bA); refine bP (cs := #[.int .i64 ((rd_T40 l0_1 x25_2).f0), .int .i64 0]) ?_ 1 _ rfl; (with_reducible repeat first | apply bN | apply bD | apply bA); refine bP (cs := #[.int .i64 0, .int .i64 0]) ?_ 0 _ rfl; (with_reducible repeat first | apply bN | apply bD | apply bA); exact BK165.out) hg (Kd.R_away HO_8.out (fun _ hk => hk.2))); have n4_ := A0k (hb); have n5_ := A0k (ho); clear HO_7 BK157 BK158 BK165 HB HO_8; have HO_7 := n0_; have BK157 := n1_; have BK158 := n2_; have BK165 := n3_; have HB := n4_; have HO174 := n5_; clear n0_ n1_ n2_ n3_ n4_ n5_ ho hb hg hat))
            go_roundg k2
            case measure => have := HJ2.out; have := HK2.out; omega
            case rel => exact ⟨(wrap64 (x1_2 - (ji19))), (x7_2), (y172), (wrap64 (x25_2 + 1)), (by first | rfl | (simp; done) | (simp only [← hji19] <;> (first | rfl | simp)) | (simp [*]; done)), (by first | rfl | (simp; done) | (simp [*]; done)), H', ⟨by have := HJ2.out; have := HK2.out; omega⟩, ⟨by (with_reducible repeat first | apply rA | apply rN | apply rD); exact Kd.R_mono HO_7.out (fun _ hk => hk.2)⟩, ⟨by (with_reducible repeat first | apply rA | apply rN | apply rD); exact Kd.R_mono HO174.out (fun _ hk => hk.1)⟩, ⟨by (with_reducible repeat first | apply bN | apply bD | apply bA); exact BK157.out⟩, ⟨by (with_reducible repeat first | apply bN | apply bD | apply bA); exact BK158.out⟩, ⟨by repeat (first | (with_reducible first | exact HB.out | apply pA | apply pN | apply pD | refine bS ?_ GE157.out | refine bS ?_ GE158.out | refine bS ?_ GE165.out) | exact HB.out)⟩⟩
           ·rw [if_neg c38] at H
            exact absurd H (by simp)
          ·rw [if_neg c37] at H
           have c37b0 : decide ((ji19) < ((rd_T40 l0_1 x25_2).f1)) = false := decide_eq_false c37
           clear c37
           have H' := A0k H
           clear H
           have p164 : 0 ≤ (x25_2 : Int) := of_decide_eq_true (by first | (with_reducible assumption) | assumption)
           have q164 : x25_2 < (l0_1.length : Int) := of_decide_eq_true (by first | (with_reducible assumption) | assumption)
           obtain ⟨ad164, e164, hx164_0, hx164_1⟩ := at_T40 HR0_1.out x25_2 p164 q164
           cases e164
           replace hx164_0 := (HB.out.cell (World.block_lt_of_cell? w _ hx164_0)).trans hx164_0
           replace hx164_1 := (HB.out.cell (World.block_lt_of_cell? w _ hx164_1)).trans hx164_1
           replace p164 := eq_true p164
           replace q164 := eq_true q164
           go_wp2_with (first | ((with_reducible refine gD (N := 10) rfl ?_); refine bE ?hg (N := 10) ?hd (cs := #[.int .i64 0, .int .i64 0]) (t := 40) ?hr ?_; (case hd => rfl); (case hg => rfl); (case hr => first | (go_simp; done) | (go_simp; rfl)); intro gb165 hg w44 hbox hb; have n0_ := A0k (Kd.R_below (Kd.R_elderB (by (with_reducible repeat first | apply rA | apply rN | apply rD); exact HO_7.out) gb165 (Nat.le_of_eq hg.symm)) hb); have n1_ := A0k (Kd.R_below (Kd.R_elderB (by (with_reducible repeat first | apply rA | apply rN | apply rD); exact HO_8.out) gb165 (Nat.le_of_eq hg.symm)) hb); have n2_ := A0k (bB (g := gb157) (o := .cells #[.int .i64 a0_0, .slice (some ad164) l0_1.length c0_1] 26 (0, 0)) (by (with_reducible repeat first | apply bN | apply bD | apply bA); exact BK157.out) hb); have n3_ := A0k (bB (g := gb158) (o := .cells #[.int .i64 0, .slice none 0 0] 26 (0, 0)) (by (with_reducible repeat first | apply bN | apply bD | apply bA); exact BK158.out) hb); have n4_ := A0k (pS (by repeat (first | (with_reducible first | exact HB.out | apply pA | apply pN | apply pD | refine bS ?_ GE157.out | refine bS ?_ GE158.out) | exact HB.out)) hb); have n5_ := A0k (hbox); have n6_ := A0k ((by rw [hg]; exact (pZ (by repeat (first | (with_reducible first | exact HB.out | apply pA | apply pN | apply pD | refine bS ?_ GE157.out | refine bS ?_ GE158.out) | exact HB.out))) : w.heap.size ≤ gb165)); have n7_ := A0k ((by rw [hg]; exact (pZ (by repeat (first | (with_reducible first | exact HB.out | apply pA | apply pN | apply pD | refine bS ?_ GE157.out | refine bS ?_ GE158.out) | exact HB.out))) : w.heap.size ≤ gb165)); have n8_ := A0k ((by rw [hg]; exact Nat.ne_of_lt (bL (g := gb157) (o := .cells #[.int .i64 a0_0, .slice (some ad164) l0_1.length c0_1] 26 (0, 0)) (by (with_reducible repeat first | apply bN | apply bD | apply bA); exact BK157.out)) : gb157 ≠ gb165)); have n9_ := A0k ((by rw [hg]; exact Nat.ne_of_gt (bL (g := gb157) (o := .cells #[.int .i64 a0_0, .slice (some ad164) l0_1.length c0_1] 26 (0, 0)) (by (with_reducible repeat first | apply bN | apply bD | apply bA); exact BK157.out)) : gb165 ≠ gb157)); have n10_ := A0k ((by rw [hg]; exact Nat.ne_of_lt (bL (g := gb158) (o := .cells #[.int .i64 0, .slice none 0 0] 26 (0, 0)) (by (with_reducible repeat first | apply bN | apply bD | apply bA); exact BK158.out)) : gb158 ≠ gb165)); have n11_ := A0k ((by rw [hg]; exact Nat.ne_of_gt (bL (g := gb158) (o := .cells #[.int .i64 0, .slice none 0 0] 26 (0, 0)) (by (with_reducible repeat first | apply bN | apply bD | apply bA); exact BK158.out)) : gb165 ≠ gb158)); clear HO_7 HO_8 BK157 BK158 HB; have HO_7 := n0_; have HO_8 := n1_; have BK157 := n2_; have BK158 := n3_; have HB := n4_; have BK165 := n5_; have GW165 := n6_; have GE165 := n7_; have NB157_165 := n8_; have NB165_157 := n9_; have NB158_165 := n10_; have NB165_158 := n11_; clear n0_ n1_ n2_ n3_ n4_ n5_ n6_ n7_ n8_ n9_ n10_ n11_ hb hbox hg; have hnb45 := NB165_157.out; have hnc45 := NB157_165.out; have hnb46 := NB165_158.out; have hnc46 := NB158_165.out; have hcz47_0 : w44.cell? ⟨gb165, 0, none⟩ = some (.int .i64 0) := (bC BK165.out 0).trans rfl; have hcz47_1 : w44.cell? ⟨gb165, 1, none⟩ = some (.int .i64 0) := (bC BK165.out 1).trans rfl; have hfz47_0 := bF BK165.out 0; have hfz47_1 := bF BK165.out 1))
           go_roundg k2
           case measure => have := HJ2.out; have := HK2.out; omega
           case rel => exact ⟨(wrap64 (x1_2 - (ji19))), (x7_2), (x8_2), (wrap64 (x25_2 + 1)), (by first | rfl | (simp; done) | (simp only [← hji19] <;> (first | rfl | simp)) | (simp [*]; done)), (by first | rfl | (simp; done) | (simp [*]; done)), H', ⟨by have := HJ2.out; have := HK2.out; omega⟩, ⟨by (with_reducible repeat first | apply rA | apply rN | apply rD); exact Kd.R_mono (Kd.R_far (p := ⟨gb165, 1, none⟩) (Kd.R_far (p := ⟨gb165, 0, none⟩) (Kd.R_mono HO_7.out (fun k_ hk => (⟨hk, hk.2⟩ : _ ∧ k_ ≠ gb165))) (fun _ hk => hk.2) (.int .i64 ((rd_T40 l0_1 x25_2).f0))) (fun _ hk => hk.2) (.int .i64 ((rd_T40 l0_1 x25_2).f1))) (fun _ hk => hk.1.1)⟩, ⟨by (with_reducible repeat first | apply rA | apply rN | apply rD); exact Kd.R_mono (Kd.R_far (p := ⟨gb165, 1, none⟩) (Kd.R_far (p := ⟨gb165, 0, none⟩) (Kd.R_mono HO_8.out (fun k_ hk => (⟨hk, hk.2⟩ : _ ∧ k_ ≠ gb165))) (fun _ hk => hk.2) (.int .i64 ((rd_T40 l0_1 x25_2).f0))) (fun _ hk => hk.2) (.int .i64 ((rd_T40 l0_1 x25_2).f1))) (fun _ hk => hk.1.1)⟩, ⟨by (with_reducible repeat first | apply bN | apply bD | apply bA); refine bR ?_ NB157_165.out _; (with_reducible repeat first | apply bN | apply bD | apply bA); refine bR ?_ NB157_165.out _; (with_reducible repeat first | apply bN | apply bD | apply bA); exact BK157.out⟩, ⟨by (with_reducible repeat first | apply bN | apply bD | apply bA); refine bR ?_ NB158_165.out _; (with_reducible repeat first | apply bN | apply bD | apply bA); refine bR ?_ NB158_165.out _; (with_reducible repeat first | apply bN | apply bD | apply bA); exact BK158.out⟩, ⟨by repeat (first | (with_reducible first | exact HB.out | apply pA | apply pN | apply pD | refine bS ?_ GE157.out | refine bS ?_ GE158.out | refine bS ?_ GE165.out) | exact HB.out)⟩⟩
        ·rw [if_neg c18] at H
         exact absurd H (by simp)
       ·rw [if_neg c17] at H
        exact absurd H (by simp)
      ·rw [if_neg c16] at H
       have c16b0 : decide (x25_2 < (l0_1.length : Int)) = false := decide_eq_false c16
       clear c16
       by_cases c48 : (x8_2.length : Int) = 0
       ·rw [if_pos c48] at H
        have c48b0 : ((x8_2.length : Int) == 0) = true := beq_iff_eq.mpr c48
        have c48b1 : ((x8_2.length : Int) != 0) = false := bne_eq_false_iff_eq.mpr c48
        clear c48
        simp only [Option.some.injEq, Prod.mk.injEq] at H
        obtain ⟨rfl, rfl, rfl, rfl⟩ := H
        obtain ⟨Ao49, co49, eo49⟩ := Kd.R_slice HO_8.out
        subst eo49
        have hnb50 := NB157_158.out
        have hnc50 := NB158_157.out
        have hcz51_0 : wr.cell? ⟨gb157, 0, none⟩ = some (.int .i64 a0_0) := (bC BK157.out 0).trans rfl
        have hcz51_1 : wr.cell? ⟨gb157, 1, none⟩ = some (.slice A0_1 l0_1.length c0_1) := (bC BK157.out 1).trans rfl
        have hfz51_0 := bF BK157.out 0
        have hfz51_1 := bF BK157.out 1
        obtain ⟨Ao52, co52, eo52⟩ := Kd.R_slice HO_7.out
        subst eo52
        have hcz53_0 : wr.cell? ⟨gb158, 0, none⟩ = some (.int .i64 0) := (bC BK158.out 0).trans rfl
        have hcz53_1 : wr.cell? ⟨gb158, 1, none⟩ = some (.slice none 0 0) := (bC BK158.out 1).trans rfl
        have hfz53_0 := bF BK158.out 0
        have hfz53_1 := bF BK158.out 1
        go_wp2
        refine bodyPost_ret (results_ctt rfl _ _ gb158 26 #[.int .i64 a0_0, .slice Ao52 x7_2.length co52] (0, 0) _ rfl (by (with_reducible repeat first | apply bN | apply bD | apply bA); refine bP (cs := #[.int .i64 a0_0, .slice none 0 0]) ?_ 1 _ rfl; (with_reducible repeat first | apply bN | apply bD | apply bA); refine bP (cs := #[.int .i64 0, .slice none 0 0]) ?_ 0 _ rfl; (with_reducible repeat first | apply bN | apply bD | apply bA); exact BK158.out) Tryd.underlying26 rfl (by kernel_rfl)) rfl ?_
        exact ⟨_, _, by first | rfl | (simp [errW_none, errW_some] <;> rfl) | (simp [*, errW_none, errW_some] <;> rfl), by (with_reducible repeat first | apply rA | apply rN | apply rD); exact Kd.R_mono (Kd.R_far (p := ⟨gb158, 1, none⟩) (Kd.R_far (p := ⟨gb158, 0, none⟩) (Kd.R_types HO_7.out BK158.out (by decide)) (fun _ hk => hk.2) (.int .i64 a0_0)) (fun _ hk => hk.2) (.slice Ao52 x7_2.length co52)) (fun _ hk => (by simp [Value.ownBlock])), by first | exact Kd.R_nil _ _ _ _ _ | exact Kd.N_nil _ _ _ _ _ | exact Kd.V_nil _ _ _ _ _ | exact Kd.Q_nil _ _ _ _ _ | exact Kd.S_nil _ _ _ _ _, by repeat (first | (with_reducible first | exact HB.out | apply pA | apply pN | apply pD | refine bS ?_ GE157.out | refine bS ?_ GE158.out) | exact HB.out)⟩
       ·rw [if_neg c48] at H
        have c48b0 : ((x8_2.length : Int) == 0) = false := beq_eq_false_iff_ne.mpr c48
        have c48b1 : ((x8_2.length : Int) != 0) = true := bne_iff_ne.mpr c48
        have c48b2 : ¬ (x8_2 = []) := fun h_ => c48 (by rw [h_]; rfl)
        replace H := Option.bind_eq_some_iff.mp H
        obtain ⟨⟨t160, t161⟩, A540, H⟩ := H
        replace H : (some (t160, t161, x8_2, none)) = some (r1, r2, r3, r4) := H
        have A54 := A0k A540
        clear A540
        simp only [Option.some.injEq, Prod.mk.injEq] at H
        obtain ⟨rfl, rfl, rfl, rfl⟩ := H
        obtain ⟨Ao55, co55, eo55⟩ := Kd.R_slice HO_8.out
        subst eo55
        have hnb56 := NB157_158.out
        have hnc56 := NB158_157.out
        have hcz57_0 : wr.cell? ⟨gb157, 0, none⟩ = some (.int .i64 a0_0) := (bC BK157.out 0).trans rfl
        have hcz57_1 : wr.cell? ⟨gb157, 1, none⟩ = some (.slice A0_1 l0_1.length c0_1) := (bC BK157.out 1).trans rfl
        have hfz57_0 := bF BK157.out 0
        have hfz57_1 := bF BK157.out 1
        obtain ⟨Ao58, co58, eo58⟩ := Kd.R_slice HO_7.out
        subst eo58
        go_wp2_with (first | ((with_reducible refine gC (f := 29) rfl ?_); refine gL_ (some 71) rfl rfl Tryd.func29 (by kernel_rfl) rfl #[.agg #[.int .i64 a0_0, .slice A0_1 l0_1.length c0_1], .slice Ao58 x7_2.length co58] rfl (by (try simp only [List.map_toArray, List.map_cons, List.map_nil]); first | done | rfl | (simp only [List.length_drop, List.length_take]; rfl)) ?_; (with_reducible refine (inode_Inode_changed.calls a0_0 _ _ l0_1 (fun k_ => some k_ = (.slice Ao58 x7_2.length co58 : Value).ownBlock) (.slice Ao58 x7_2.length co58) x7_2 t160 t161 w _ ?side1 ?side2 ?side3 ?side4 A54.out).mono ?_); (case side1 => repeat (first | (with_reducible first | exact HB.out | apply pA | apply pN | apply pD | refine bS ?_ GE157.out | refine bS ?_ GE158.out) | exact HB.out)); (case side2 => exact Kd.C_kept_came k40_heap HR0_1.out (by repeat (first | (with_reducible first | exact HB.out | apply pA | apply pN | apply pD | refine bS ?_ GE157.out | refine bS ?_ GE158.out) | exact HB.out)) (fun k_ hs_ => (fun e_ => Kd.R_base HO_7.out k_ e_.symm) hs_)); (case side3 => exact HC0_1.out); (case side4 => exact Kd.R_tight rfl HO_7.out); rintro e w59 ⟨v162, rfl, ho0, hb, hkp⟩; refine ⟨_, rfl, ?_⟩; have n0_ := A0k (Kd.R_mono (ok' := fun k_ => some k_ ≠ (v162 : Value).ownBlock) (Kd.R_keptB (HO_8.out) hkp (fun k_ hk_ hs_ => (hk_) hs_)) (fun k_ hk_ => fun e_ => Or.elim (ho0.1 k_ e_.symm) (fun hs_ => hk_.2.1 hs_) (fun hn_ => Nat.not_le.2 hk_.2.2 hn_))); have n1_ := A0k (blk_kept (by (with_reducible repeat first | apply bN | apply bD | apply bA); exact BK157.out) hkp (fun hs_ => (fun e_ => (Kd.R_ne HO_7.out BK157.out (by decide)) e_) hs_)); have n2_ := A0k (blk_kept (by (with_reducible repeat first | apply bN | apply bD | apply bA); exact BK158.out) hkp (fun hs_ => (fun e_ => (Kd.R_ne HO_7.out BK158.out (by decide)) e_) hs_)); have n3_ := A0k (Kd.R_mono (ok' := fun k_ => some k_ ≠ (.slice Ao55 x8_2.length co55 : Value).ownBlock) ho0 (fun k_ hk_ => Or.elim hk_ (fun hs_ => fun e_ => (((HO_8.out).1 k_ e_.symm)) hs_) (fun hn_ => (Kd.fresh' (Kd.R_lt (by (with_reducible repeat first | apply rA | apply rN | apply rD); exact HO_8.out)) k_ hn_)))); have n4_ := A0k (hb); clear HO_8 BK157 BK158 HB HO_7; have HO_8 := n0_; have BK157 := n1_; have BK158 := n2_; have HO163 := n3_; have HB := n4_; clear n0_ n1_ n2_ n3_ n4_; (try clear hb); (try clear hkp); (try clear ho0); have hcz60_0 : w59.cell? ⟨gb158, 0, none⟩ = some (.int .i64 0) := (bC BK158.out 0).trans rfl; have hcz60_1 : w59.cell? ⟨gb158, 1, none⟩ = some (.slice none 0 0) := (bC BK158.out 1).trans rfl; have hfz60_0 := bF BK158.out 0; have hfz60_1 := bF BK158.out 1; obtain ⟨Ao61, co61, eo61⟩ := Kd.R_slice HO163.out; subst eo61))
        refine bodyPost_ret (results_ctt rfl _ _ gb158 26 #[.int .i64 t160, .slice Ao61 t161.length co61] (0, 0) _ rfl (by (with_reducible repeat first | apply bN | apply bD | apply bA); refine bP (cs := #[.int .i64 t160, .slice none 0 0]) ?_ 1 _ rfl; (with_reducible repeat first | apply bN | apply bD | apply bA); refine bP (cs := #[.int .i64 0, .slice none 0 0]) ?_ 0 _ rfl; (with_reducible repeat first | apply bN | apply bD | apply bA); exact BK158.out) Tryd.underlying26 rfl (by kernel_rfl)) rfl ?_
        exact ⟨_, _, by first | rfl | (simp [errW_none, errW_some] <;> rfl) | (simp [*, errW_none, errW_some] <;> rfl), by (with_reducible repeat first | apply rA | apply rN | apply rD); exact Kd.R_mono (Kd.R_far (p := ⟨gb158, 1, none⟩) (Kd.R_far (p := ⟨gb158, 0, none⟩) (Kd.R_types HO163.out BK158.out (by decide)) (fun _ hk => hk.2) (.int .i64 t160)) (fun _ hk => hk.2) (.slice Ao61 t161.length co61)) (fun _ hk => hk.1), by (with_reducible repeat first | apply rA | apply rN | apply rD); exact Kd.R_mono (Kd.R_far (p := ⟨gb158, 1, none⟩) (Kd.R_far (p := ⟨gb158, 0, none⟩) (Kd.R_types HO_8.out BK158.out (by decide)) (fun _ hk => hk.2) (.int .i64 t160)) (fun _ hk => hk.2) (.slice Ao61 t161.length co61)) (fun _ hk => hk.1), by repeat (first | (with_reducible first | exact HB.out | apply pA | apply pN | apply pD | refine bS ?_ GE157.out | refine bS ?_ GE158.out) | exact HB.out)⟩

/-! ### posthorseref08_Sectors: function 30 -/
mutual
def posthorseref08_Sectors.l0 : Nat → List Int → Int → Int → List (S39) → Option (List Int)
 | 0, _, _, _, _ => none
 | k + 1, x3, x4, x176000, x176001 => if x4 < (x176001.length : Int) then (posthorseref08_Sectors.l1 k x3 x4 0 x176000 x176001) else (some x3)
def posthorseref08_Sectors.l1 : Nat → List Int → Int → Int → Int → List (S39) → Option (List Int)
 | 0, _, _, _, _, _ => none
 | k + 1, x3, x4, x5, x176000, x176001 => if 0 ≤ x4 then (if x4 < (x176001.length : Int) then (if x5 < ((rd_T39 x176001 x4).f1) then (if x5 < 3000 then (if x3.length < 17592186044416 then (posthorseref08_Sectors.l1 k (x3 ++ [wrap64 (((rd_T39 x176001 x4).f0) + x5)]) x4 (wrap64 (x5 + 1)) x176000 x176001) else (none)) else (posthorseref08_Sectors.l0 k x3 (wrap64 (x4 + 1)) x176000 x176001)) else (posthorseref08_Sectors.l0 k x3 (wrap64 (x4 + 1)) x176000 x176001)) else (none)) else (none)
end
def posthorseref08_Sectors.f (k : Nat) (a0_0 : Int) (l0_1 : List (S39)) : Option (List Int) := posthorseref08_Sectors.l0 k ([] : List Int) 0 a0_0 l0_1
set_option maxRecDepth 100000 in
theorem posthorseref08_Sectors.mono_l : ∀ k, (∀ y0 y1 y2 y3, LeO (posthorseref08_Sectors.l0 k y0 y1 y2 y3) (posthorseref08_Sectors.l0 (k + 1) y0 y1 y2 y3)) ∧ (∀ y0 y1 y2 y3 y4, LeO (posthorseref08_Sectors.l1 k y0 y1 y2 y3 y4) (posthorseref08_Sectors.l1 (k + 1) y0 y1 y2 y3 y4))
 | 0 => ⟨fun _ _ _ _ r h => by first | (rw [posthorseref08_Sectors.l0] at h; cases h) | simp [posthorseref08_Sectors.l0] at h, fun _ _ _ _ _ r h => by first | (rw [posthorseref08_Sectors.l1] at h; cases h) | simp [posthorseref08_Sectors.l1] at h⟩
 | k + 1 => by
  obtain ⟨ih0, ih1⟩ := posthorseref08_Sectors.mono_l k
  refine ⟨?_, ?_⟩
  ·intro y0 y1 y2 y3
   unfold posthorseref08_Sectors.l0
   repeat' first
   | (with_reducible exact ih0 _ _ _ _)
   | (with_reducible exact ih1 _ _ _ _ _)
   | (with_reducible exact LeO.refl _)
   | (with_reducible exact LeO.none _)
   | (with_reducible refine LeO.ite ?_ ?_)
   | (with_reducible refine LeO.bind ?_ (fun _ => ?_))
   | exact ih0 _ _ _ _
   | exact ih1 _ _ _ _ _
   | exact LeO.none _
   | refine LeO.ite ?_ ?_
   | refine LeO.bind ?_ (fun _ => ?_)
  ·intro y0 y1 y2 y3 y4
   unfold posthorseref08_Sectors.l1
   repeat' first
   | (with_reducible exact ih0 _ _ _ _)
   | (with_reducible exact ih1 _ _ _ _ _)
   | (with_reducible exact LeO.refl _)
   | (with_reducible exact LeO.none _)
   | (with_reducible refine LeO.ite ?_ ?_)
   | (with_reducible refine LeO.bind ?_ (fun _ => ?_))
   | exact ih0 _ _ _ _
   | exact ih1 _ _ _ _ _
   | exact LeO.none _
   | refine LeO.ite ?_ ?_
   | refine LeO.bind ?_ (fun _ => ?_)
theorem posthorseref08_Sectors.mono : ∀ a0 a1 k, LeO (posthorseref08_Sectors.f k a0 a1) (posthorseref08_Sectors.f (k + 1) a0 a1) := by
 intro a0 a1 k
 obtain ⟨ih0, ih1⟩ := posthorseref08_Sectors.mono_l k
 unfold posthorseref08_Sectors.f
 repeat' first
   | (with_reducible exact ih0 _ _ _ _)
   | (with_reducible exact ih1 _ _ _ _ _)
   | (with_reducible exact LeO.refl _)
   | (with_reducible exact LeO.none _)
   | (with_reducible refine LeO.ite ?_ ?_)
   | (with_reducible refine LeO.bind ?_ (fun _ => ?_))
   | exact ih0 _ _ _ _
   | exact ih1 _ _ _ _ _
   | exact LeO.none _
   | refine LeO.ite ?_ ?_
   | refine LeO.bind ?_ (fun _ => ?_)
open Go.Proofs.YtmncfcebjohloaaDoor.VInodePlays renaming rd_T39 → d0_
open posthorseref08_Sectors renaming l0 → Wl0, l1 → Wl1
set_option maxHeartbeats 8000000 in
set_option maxRecDepth 100000 in
theorem posthorseref08_Sectors.calls (k : Nat) (a0_0 : Int) (A0_1 : Option Addr) (c0_1 : Nat) (l0_1 : List (S39)) (r : List Int) (w : World) (hr0_1 : Kd.C k39 w A0_1 l0_1.length l0_1) (hc0_1 : l0_1.length ≤ c0_1) (h : posthorseref08_Sectors.f k a0_0 l0_1 = some r) :
  Calls Tryd.prog 30 #[.agg #[.int .i64 a0_0, .slice A0_1 l0_1.length c0_1]] w fun e w' => ∃ v0_ : Value, e = .returned (v0_) ∧ Kd.R (Kd.int .i64) 3 w' w.heap.size (fun _ => True) v0_ r ∧ Below w.heap.size w w' := by
 have hu29 := Tryd.underlying29
 have HR0_1 := A0k hr0_1
 have HC0_1 := A0k hc0_1
 clear hr0_1 hc0_1
 have HB := A0k (Below.refl w.heap.size w)
 have H : (Wl0 k ([] : List Int) 0 a0_0 l0_1) = some r := h
 clear h
 have H' := A0k H
 clear H
 go_enter Tryd.func30, Tryd.ntmps30
 go_wp2_with (first | ((with_reducible refine gD (N := 1) rfl ?_); refine bE ?hg (N := 1) ?hd (cs := #[.int .i64 a0_0, .slice A0_1 l0_1.length c0_1]) (t := 29) ?hr ?_; (case hd => rfl); (case hg => rfl); (case hr => first | (go_simp; done) | (go_simp; rfl)); intro gb175 hg w2 hbox hb; have n0_ := A0k (pS (by repeat (first | (with_reducible first | exact HB.out | apply pA | apply pN | apply pD) | exact HB.out)) hb); have n1_ := A0k (hbox); have n2_ := A0k ((by rw [hg]; exact (pZ (by repeat (first | (with_reducible first | exact HB.out | apply pA | apply pN | apply pD) | exact HB.out))) : w.heap.size ≤ gb175)); have n3_ := A0k ((by rw [hg]; exact (pZ (by repeat (first | (with_reducible first | exact HB.out | apply pA | apply pN | apply pD) | exact HB.out))) : w.heap.size ≤ gb175)); clear HB; have HB := n0_; have BK175 := n1_; have GW175 := n2_; have GE175 := n3_; clear n0_ n1_ n2_ n3_ hb hbox hg))
 go_loopg [3, 4] k (fun kq v3 v4 w' => ∃ (x3_1 : List Int) (x4_1 : Int), v4 = .int .i64 x4_1 ∧ Aside0 (Wl0 kq x3_1 x4_1 a0_0 l0_1 = some r) ∧ Aside0 (kq ≤ k) ∧ Aside0 (Kd.R (Kd.int .i64) 3 w' w.heap.size (fun _ => True) v3 x3_1) ∧ Aside0 (w'.heap[gb175]? = some (.cells #[.int .i64 a0_0, (.slice A0_1 l0_1.length c0_1)] 29 (0, 0))) ∧ Aside0 (Below w.heap.size w w'))
 case atStart => exact ⟨(([] : List Int)), (0), (by first | rfl | (simp; done) | (simp [*]; done)), H', ⟨Nat.le_refl _⟩, ⟨by first | exact Kd.R_nil _ _ _ _ _ | exact Kd.N_nil _ _ _ _ _ | exact Kd.V_nil _ _ _ _ _ | exact Kd.Q_nil _ _ _ _ _ | exact Kd.S_nil _ _ _ _ _⟩, ⟨by (with_reducible repeat first | apply bN | apply bD | apply bA); exact BK175.out⟩, ⟨by repeat (first | (with_reducible first | exact HB.out | apply pA | apply pN | apply pD | refine bS ?_ GE175.out) | exact HB.out)⟩⟩
 case round =>
  clear H'
  try clear p2
  obtain ⟨x3_1, x4_1, rfl, HA, HK1, HO_3, BK175, HB⟩ := hrel
  cases gk with
  | zero => exact absurd HA.out (by simp [Wl0])
  | succ k1 =>
   have H := HA.out
   clear HA
   simp only [Wl0] at H
   by_cases c3 : x4_1 < (l0_1.length : Int)
   ·rw [if_pos c3] at H
    have c3b0 : decide (x4_1 < (l0_1.length : Int)) = true := decide_eq_true c3
    clear c3
    have H' := A0k H
    clear H
    have hcz4_0 : wr.cell? ⟨gb175, 0, none⟩ = some (.int .i64 a0_0) := (bC BK175.out 0).trans rfl
    have hcz4_1 : wr.cell? ⟨gb175, 1, none⟩ = some (.slice A0_1 l0_1.length c0_1) := (bC BK175.out 1).trans rfl
    have hfz4_0 := bF BK175.out 0
    have hfz4_1 := bF BK175.out 1
    go_wp2
    go_loopg [3, 5] k1 (fun kq v3 v5 w' => ∃ (x3_2 : List Int) (x5_2 : Int), v5 = .int .i64 x5_2 ∧ Aside0 (Wl1 kq x3_2 x4_1 x5_2 a0_0 l0_1 = some r) ∧ Aside0 (kq ≤ k1) ∧ Aside0 (Kd.R (Kd.int .i64) 3 w' w.heap.size (fun _ => True) v3 x3_2) ∧ Aside0 (w'.heap[gb175]? = some (.cells #[.int .i64 a0_0, (.slice A0_1 l0_1.length c0_1)] 29 (0, 0))) ∧ Aside0 (Below w.heap.size w w'))
    case atStart => exact ⟨(x3_1), (0), (by first | rfl | (simp; done) | (simp [*]; done)), H', ⟨Nat.le_refl _⟩, ⟨by (with_reducible repeat first | apply rA | apply rN | apply rD); exact HO_3.out⟩, ⟨by (with_reducible repeat first | apply bN | apply bD | apply bA); exact BK175.out⟩, ⟨by repeat (first | (with_reducible first | exact HB.out | apply pA | apply pN | apply pD | refine bS ?_ GE175.out) | exact HB.out)⟩⟩
    case round =>
     clear H'
     (try clear p2); (try clear c3); (try clear c3b0); (try clear hcz4_0); (try clear hcz4_1); (try clear hfz4_0); (try clear hfz4_1); (try clear p2)
     obtain ⟨x3_2, x5_2, rfl, HA, HK2, HO_3, BK175, HB⟩ := hrel
     cases gk with
     | zero => exact absurd HA.out (by simp [Wl1])
     | succ k2 =>
      have H := HA.out
      clear HA
      simp only [Wl1] at H
      by_cases c5 : 0 ≤ x4_1
      ·rw [if_pos c5] at H
       have c5b0 : decide (0 ≤ x4_1) = true := decide_eq_true c5
       clear c5
       by_cases c6 : x4_1 < (l0_1.length : Int)
       ·rw [if_pos c6] at H
        have c6b0 : decide (x4_1 < (l0_1.length : Int)) = true := decide_eq_true c6
        clear c6
        by_cases c7 : x5_2 < ((d0_ l0_1 x4_1).f1)
        ·rw [if_pos c7] at H
         have c7b0 : decide (x5_2 < ((d0_ l0_1 x4_1).f1)) = true := decide_eq_true c7
         clear c7
         by_cases c8 : x5_2 < 3000
         ·rw [if_pos c8] at H
          have c8b0 : decide (x5_2 < 3000) = true := decide_eq_true c8
          clear c8
          by_cases c9 : x3_2.length < 17592186044416
          ·rw [if_pos c9] at H
           have LMc9 := A0k c9
           clear c9
           obtain ⟨y178, hy178⟩ : ∃ y_ : List Int, y_ = (x3_2 ++ [wrap64 (((d0_ l0_1 x4_1).f0) + x5_2)]) := ⟨_, rfl⟩
           replace H : (Wl1 k2 y178 x4_1 (wrap64 (x5_2 + 1)) a0_0 l0_1) = some r := by first | (rw [hy178]; with_reducible exact H) | (have H2_ := (Option.bind_some _ _).symm.trans H; rw [hy178]; with_reducible exact H2_) | (have H2_ := (Option.bind_some _ _).symm.trans H; with_reducible exact H2_) | with_reducible exact H | (rw [hy178]; exact H) | exact H
           have Ny178 := A0k hy178
           clear hy178
           have H' := A0k H
           clear H
           have hcz10_0 : wr.cell? ⟨gb175, 0, none⟩ = some (.int .i64 a0_0) := (bC BK175.out 0).trans rfl
           have hcz10_1 : wr.cell? ⟨gb175, 1, none⟩ = some (.slice A0_1 l0_1.length c0_1) := (bC BK175.out 1).trans rfl
           have hfz10_0 := bF BK175.out 0
           have hfz10_1 := bF BK175.out 1
           have p176 : 0 ≤ (x4_1 : Int) := of_decide_eq_true (by first | (with_reducible assumption) | assumption)
           have q176 : x4_1 < (l0_1.length : Int) := of_decide_eq_true (by first | (with_reducible assumption) | assumption)
           obtain ⟨ad176, e176, hx176_0, hx176_1⟩ := at_T39 HR0_1.out x4_1 p176 q176
           cases e176
           replace hx176_0 := (HB.out.cell (World.block_lt_of_cell? w _ hx176_0)).trans hx176_0
           replace hx176_1 := (HB.out.cell (World.block_lt_of_cell? w _ hx176_1)).trans hx176_1
           replace p176 := eq_true p176
           replace q176 := eq_true q176
           have p177 : 0 ≤ (x4_1 : Int) := of_decide_eq_true (by first | (with_reducible assumption) | assumption)
           have q177 : x4_1 < (l0_1.length : Int) := of_decide_eq_true (by first | (with_reducible assumption) | assumption)
           obtain ⟨ad177, e177, hx177_0, hx177_1⟩ := at_T39 HR0_1.out x4_1 p177 q177
           obtain rfl : ad176 = ad177 := (by injection e177)
           replace hx177_0 := (HB.out.cell (World.block_lt_of_cell? w _ hx177_0)).trans hx177_0
           replace hx177_1 := (HB.out.cell (World.block_lt_of_cell? w _ hx177_1)).trans hx177_1
           replace p177 := eq_true p177
           replace q177 := eq_true q177
           go_wp2_with (first | ((with_reducible refine gB (b := .append) (xs := #[.tmp 27, .tmp 36]) rfl ?_); at_builtin; refine Kd.R_append (Kd.int .i64) (w0 := w) w.heap.size rfl (.tmp 27) (.tmp 36) 72 3 (.int .i64 0) 8 rfl Tryd.underlying72 info3 rfl (by decide) (by omega) u3 x3_2 (wrap64 (((d0_ l0_1 x4_1).f0) + x5_2)) [.int .i64 (wrap64 (((d0_ l0_1 x4_1).f0) + x5_2))] (fun _ => True) (fun _ => False) rfl rfl ?aP (fun _ hk => hk.elim) ?aF ?aO ?aB ?aS ?aL ?_; (case aP => exact rfl); (case aB => exact (by repeat (first | (with_reducible first | exact HB.out | apply pA | apply pN | apply pD | refine bS ?_ GE175.out) | exact HB.out))); (case aF => exact (fun _ _ => trivial)); (case aO => exact (by (with_reducible repeat first | apply rA | apply rN | apply rD); exact HO_3.out)); (case aS => exact (pZ (by repeat (first | (with_reducible first | exact HB.out | apply pA | apply pN | apply pD | refine bS ?_ GE175.out) | exact HB.out)))); (case aL => have := LMc9.out; omega); intro v179 w11 ho hb hg hat; rw [← Ny178.out] at ho; have n0_ := A0k (blk_grown (g := gb175) (o := .cells #[.int .i64 a0_0, .slice (some ad176) l0_1.length c0_1] 29 (0, 0)) (by (with_reducible repeat first | apply bN | apply bD | apply bA); exact BK175.out) hg (Kd.R_ne HO_3.out BK175.out (by decide))); have n1_ := A0k (hb); have n2_ := A0k (ho); clear BK175 HB HO_3; have BK175 := n0_; have HB := n1_; have HO180 := n2_; clear n0_ n1_ n2_ ho hb hg hat))
           go_roundg k2
           case measure => have := HK1.out; have := HK2.out; omega
           case rel => exact ⟨(y178), (wrap64 (x5_2 + 1)), (by first | rfl | (simp; done) | (simp [*]; done)), H', ⟨by have := HK1.out; have := HK2.out; omega⟩, ⟨by (with_reducible repeat first | apply rA | apply rN | apply rD); exact HO180.out⟩, ⟨by (with_reducible repeat first | apply bN | apply bD | apply bA); exact BK175.out⟩, ⟨by repeat (first | (with_reducible first | exact HB.out | apply pA | apply pN | apply pD | refine bS ?_ GE175.out) | exact HB.out)⟩⟩
          ·rw [if_neg c9] at H
           exact absurd H (by simp)
         ·rw [if_neg c8] at H
          have c8b0 : decide (x5_2 < 3000) = false := decide_eq_false c8
          clear c8
          have H' := A0k H
          clear H
          have hcz12_0 : wr.cell? ⟨gb175, 0, none⟩ = some (.int .i64 a0_0) := (bC BK175.out 0).trans rfl
          have hcz12_1 : wr.cell? ⟨gb175, 1, none⟩ = some (.slice A0_1 l0_1.length c0_1) := (bC BK175.out 1).trans rfl
          have hfz12_0 := bF BK175.out 0
          have hfz12_1 := bF BK175.out 1
          have p176 : 0 ≤ (x4_1 : Int) := of_decide_eq_true (by first | (with_reducible assumption) | assumption)
          have q176 : x4_1 < (l0_1.length : Int) := of_decide_eq_true (by first | (with_reducible assumption) | assumption)
          obtain ⟨ad176, e176, hx176_0, hx176_1⟩ := at_T39 HR0_1.out x4_1 p176 q176
          cases e176
          replace hx176_0 := (HB.out.cell (World.block_lt_of_cell? w _ hx176_0)).trans hx176_0
          replace hx176_1 := (HB.out.cell (World.block_lt_of_cell? w _ hx176_1)).trans hx176_1
          replace p176 := eq_true p176
          replace q176 := eq_true q176
          go_wp2
          go_roundg k2
          case measure => have := HK1.out; have := HK2.out; omega
          case rel => exact ⟨(x3_2), (wrap64 (x4_1 + 1)), (by first | rfl | (simp; done) | (simp [*]; done)), H', ⟨by have := HK1.out; have := HK2.out; omega⟩, ⟨by (with_reducible repeat first | apply rA | apply rN | apply rD); exact HO_3.out⟩, ⟨by (with_reducible repeat first | apply bN | apply bD | apply bA); exact BK175.out⟩, ⟨by repeat (first | (with_reducible first | exact HB.out | apply pA | apply pN | apply pD | refine bS ?_ GE175.out) | exact HB.out)⟩⟩
        ·rw [if_neg c7] at H
         have c7b0 : decide (x5_2 < ((d0_ l0_1 x4_1).f1)) = false := decide_eq_false c7
         clear c7
         have H' := A0k H
         clear H
         have hcz13_0 : wr.cell? ⟨gb175, 0, none⟩ = some (.int .i64 a0_0) := (bC BK175.out 0).trans rfl
         have hcz13_1 : wr.cell? ⟨gb175, 1, none⟩ = some (.slice A0_1 l0_1.length c0_1) := (bC BK175.out 1).trans rfl
         have hfz13_0 := bF BK175.out 0
         have hfz13_1 := bF BK175.out 1
         have p176 : 0 ≤ (x4_1 : Int) := of_decide_eq_true (by first | (with_reducible assumption) | assumption)
         have q176 : x4_1 < (l0_1.length : Int) := of_decide_eq_true (by first | (with_reducible assumption) | assumption)
         obtain ⟨ad176, e176, hx176_0, hx176_1⟩ := at_T39 HR0_1.out x4_1 p176 q176
         cases e176
         replace hx176_0 := (HB.out.cell (World.block_lt_of_cell? w _ hx176_0)).trans hx176_0
         replace hx176_1 := (HB.out.cell (World.block_lt_of_cell? w _ hx176_1)).trans hx176_1
         replace p176 := eq_true p176
         replace q176 := eq_true q176
         go_wp2
         go_roundg k2
         case measure => have := HK1.out; have := HK2.out; omega
         case rel => exact ⟨(x3_2), (wrap64 (x4_1 + 1)), (by first | rfl | (simp; done) | (simp [*]; done)), H', ⟨by have := HK1.out; have := HK2.out; omega⟩, ⟨by (with_reducible repeat first | apply rA | apply rN | apply rD); exact HO_3.out⟩, ⟨by (with_reducible repeat first | apply bN | apply bD | apply bA); exact BK175.out⟩, ⟨by repeat (first | (with_reducible first | exact HB.out | apply pA | apply pN | apply pD | refine bS ?_ GE175.out) | exact HB.out)⟩⟩
       ·rw [if_neg c6] at H
        exact absurd H (by simp)
      ·rw [if_neg c5] at H
       exact absurd H (by simp)
   ·rw [if_neg c3] at H
    have c3b0 : decide (x4_1 < (l0_1.length : Int)) = false := decide_eq_false c3
    clear c3
    obtain rfl := Option.some.inj H
    have hcz14_0 : wr.cell? ⟨gb175, 0, none⟩ = some (.int .i64 a0_0) := (bC BK175.out 0).trans rfl
    have hcz14_1 : wr.cell? ⟨gb175, 1, none⟩ = some (.slice A0_1 l0_1.length c0_1) := (bC BK175.out 1).trans rfl
    have hfz14_0 := bF BK175.out 0
    have hfz14_1 := bF BK175.out 1
    go_wp2
    go_ret
    exact ⟨_, by first | rfl | (simp [errW_none, errW_some] <;> rfl) | (simp [*, errW_none, errW_some] <;> rfl), by (with_reducible repeat first | apply rA | apply rN | apply rD); exact HO_3.out, by repeat (first | (with_reducible first | exact HB.out | apply pA | apply pN | apply pD | refine bS ?_ GE175.out) | exact HB.out)⟩

end Go.Proofs.YtmncfcebjohloaaDoor.VInodePlays
