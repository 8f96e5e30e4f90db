/- Contracts of functions of this seat: each call comes to what its Lean function computes; no condition beyond what each theorem states. Printed by a program of this session's own laid over the kit's printer. -/
import Derived.Test.YtmncfcebjohloaaDoorVInodePlaysx0
import Derived.Test.YtmncfcebjohloaaDoorVInodePlaysx8
namespace Go.Proofs.YtmncfcebjohloaaDoor.VInodePlays
open Go.RowKit Go.Proofs.YtmncfcebjohloaaDoorW.PrintWords Go.Proofs.YtmncfcebjohloaaDoorW.PrintLast Go.Proofs.YtmncfcebjohloaaDoorW.PrintMore
attribute [local go_sem] max2_int min2_int max_two min_two max_three min_three max_four min_four   -- for this text's walks alone
open Go.Proofs.YtmncfcebjohloaaDoorW.PrintWords.Kd renaming R_alloc → rA
open Go.Proofs.YtmncfcebjohloaaDoorW.PrintWords.Kd renaming R_drewN → rN
open Go.Proofs.YtmncfcebjohloaaDoorW.PrintWords.Kd renaming R_drew → rD
open List renaming setIfInBounds_toArray → lS, set_cons_zero → lZ, set_cons_succ → lC
open Go.Proofs.YtmncfcebjohloaaDoorW.PrintWords renaming blk_drewN → bN, blk_drew → bD, blk_alloc → bA, below_set → bS, pw_below_drewN → pN, below_drew1 → pD, below_alloc → pA, below_step → pS, below_size → pZ, blk_frozen → bF, blk_cell → bC, blk_below → bB, blk_far → bR, blk_put → bP, blk_lt → bL, gate_dst → gD, gate_guard → gG, gate_builtin → gB, box_event → bE
open Go.Proofs.YtmncfcebjohloaaDoorW.PrintWords.Aside0 renaming mk → A0k
set_option linter.unusedVariables false
set_option linter.unusedSimpArgs false

/-! ### posthorseref08_Cut: function 8 -/
mutual
def posthorseref08_Cut.j0 : Nat → Int → Bool → Int → List (S39) → Option (Int × (List (S39)) × (List (S39)) × Int)
 | 0, _, _, _, _ => none
 | k + 1, x1, x21, x182000, x182001 => if x21 = true then (some (0, ([] : List (S39)), ([] : List (S39)), 1)) else (posthorseref08_Cut.l0 k x1 ([] : List (S39)) 0 0 x182000 x182001 x182000 ([] : List (S39)))
def posthorseref08_Cut.l0 : Nat → Int → List (S39) → Int → Int → Int → List (S39) → Int → List (S39) → Option (Int × (List (S39)) × (List (S39)) × Int)
 | 0, _, _, _, _, _, _, _, _ => none
 | k + 1, x1, x8, x9, x10, x182000, x182001, x187000, x187001 => if x10 < (x182001.length : Int) then (if 0 ≤ x10 then (if (wrap64 (x1 - x9)) > ((rd_T39 x182001 x10).f1) then (posthorseref08_Cut.j2 k x1 x8 x9 x10 ((rd_T39 x182001 x10).f1) x182000 x182001 x187000 x187001 ((rd_T39 x182001 x10).f0) ((rd_T39 x182001 x10).f1)) else (posthorseref08_Cut.j2 k x1 x8 x9 x10 (wrap64 (x1 - x9)) x182000 x182001 x187000 x187001 ((rd_T39 x182001 x10).f0) ((rd_T39 x182001 x10).f1))) else (none)) else (if (x8.length : Int) > 0 then (some (wrap64 (x187000 + 1), x187001, x8, 0)) else (some (x187000, x187001, x8, 0)))
def posthorseref08_Cut.j2 : Nat → Int → List (S39) → Int → Int → Int → Int → List (S39) → Int → List (S39) → Int → Int → Option (Int × (List (S39)) × (List (S39)) × Int)
 | 0, _, _, _, _, _, _, _, _, _, _, _ => none
 | k + 1, x1, x8, x9, x10, x12, x182000, x182001, x187000, x187001, x189000, x189001 => if x12 < 0 then (posthorseref08_Cut.j3 k x1 x8 x9 x10 0 x182000 x182001 x187000 x187001 x189000 x189001) else (posthorseref08_Cut.j3 k x1 x8 x9 x10 x12 x182000 x182001 x187000 x187001 x189000 x189001)
def posthorseref08_Cut.j3 : Nat → Int → List (S39) → Int → Int → Int → Int → List (S39) → Int → List (S39) → Int → Int → Option (Int × (List (S39)) × (List (S39)) × Int)
 | 0, _, _, _, _, _, _, _, _, _, _, _ => none
 | k + 1, x1, x8, x9, x10, x12, x182000, x182001, x187000, x187001, x189000, x189001 => if x12 > 0 then (if x187001.length < 8796093022208 then ((some (x187001 ++ [(⟨x189000, x12⟩ : S39)] : List (S39))).bind fun y189 => (if x12 < x189001 then (if x8.length < 8796093022208 then (posthorseref08_Cut.l0 k x1 (x8 ++ [(⟨wrap64 (x189000 + x12), wrap64 (x189001 - x12)⟩ : S39)]) (wrap64 (x9 + x189001)) (wrap64 (x10 + 1)) x182000 x182001 x187000 y189) else (none)) else (posthorseref08_Cut.l0 k x1 x8 (wrap64 (x9 + x189001)) (wrap64 (x10 + 1)) x182000 x182001 x187000 y189))) else (none)) else (if x12 < x189001 then (if x8.length < 8796093022208 then (posthorseref08_Cut.l0 k x1 (x8 ++ [(⟨wrap64 (x189000 + x12), wrap64 (x189001 - x12)⟩ : S39)]) (wrap64 (x9 + x189001)) (wrap64 (x10 + 1)) x182000 x182001 x187000 x187001) else (none)) else (posthorseref08_Cut.l0 k x1 x8 (wrap64 (x9 + x189001)) (wrap64 (x10 + 1)) x182000 x182001 x187000 x187001))
end
def posthorseref08_Cut.f (k : Nat) (a0_0 : Int) (l0_1 : List (S39)) (a1 : Int) : Option (Int × (List (S39)) × (List (S39)) × Int) := if a1 < 0 then (posthorseref08_Cut.j0 k a1 true a0_0 l0_1) else ((posthorseref08_Sectors.f k a0_0 l0_1).bind fun t183 => (posthorseref08_Cut.j0 k a1 (decide (a1 > (t183.length : Int))) a0_0 l0_1))
set_option maxRecDepth 100000 in
theorem posthorseref08_Cut.mono_l : ∀ k, (∀ y0 y1 y2 y3, LeO (posthorseref08_Cut.j0 k y0 y1 y2 y3) (posthorseref08_Cut.j0 (k + 1) y0 y1 y2 y3)) ∧ (∀ y0 y1 y2 y3 y4 y5 y6 y7, LeO (posthorseref08_Cut.l0 k y0 y1 y2 y3 y4 y5 y6 y7) (posthorseref08_Cut.l0 (k + 1) y0 y1 y2 y3 y4 y5 y6 y7)) ∧ (∀ y0 y1 y2 y3 y4 y5 y6 y7 y8 y9 y10, LeO (posthorseref08_Cut.j2 k y0 y1 y2 y3 y4 y5 y6 y7 y8 y9 y10) (posthorseref08_Cut.j2 (k + 1) y0 y1 y2 y3 y4 y5 y6 y7 y8 y9 y10)) ∧ (∀ y0 y1 y2 y3 y4 y5 y6 y7 y8 y9 y10, LeO (posthorseref08_Cut.j3 k y0 y1 y2 y3 y4 y5 y6 y7 y8 y9 y10) (posthorseref08_Cut.j3 (k + 1) y0 y1 y2 y3 y4 y5 y6 y7 y8 y9 y10))
 | 0 => ⟨fun _ _ _ _ r h => by first | (rw [posthorseref08_Cut.j0] at h; cases h) | simp [posthorseref08_Cut.j0] at h, fun _ _ _ _ _ _ _ _ r h => by first | (rw [posthorseref08_Cut.l0] at h; cases h) | simp [posthorseref08_Cut.l0] at h, fun _ _ _ _ _ _ _ _ _ _ _ r h => by first | (rw [posthorseref08_Cut.j2] at h; cases h) | simp [posthorseref08_Cut.j2] at h, fun _ _ _ _ _ _ _ _ _ _ _ r h => by first | (rw [posthorseref08_Cut.j3] at h; cases h) | simp [posthorseref08_Cut.j3] at h⟩
 | k + 1 => by
  obtain ⟨ih0, ih1, ih2, ih3⟩ := posthorseref08_Cut.mono_l k
  refine ⟨?_, ?_, ?_, ?_⟩
  ·intro y0 y1 y2 y3
   unfold posthorseref08_Cut.j0
   repeat' first
   | (with_reducible exact ih0 _ _ _ _)
   | (with_reducible exact ih1 _ _ _ _ _ _ _ _)
   | (with_reducible exact ih2 _ _ _ _ _ _ _ _ _ _ _)
   | (with_reducible exact ih3 _ _ _ _ _ _ _ _ _ _ _)
   | (with_reducible exact posthorseref08_Sectors.mono _ _ _)
   | (with_reducible exact LeO.refl _)
   | (with_reducible exact LeO.none _)
   | (with_reducible refine LeO.ite ?_ ?_)
   | (with_reducible refine LeO.bind ?_ (fun _ => ?_))
   | exact ih0 _ _ _ _
   | exact ih1 _ _ _ _ _ _ _ _
   | exact ih2 _ _ _ _ _ _ _ _ _ _ _
   | exact ih3 _ _ _ _ _ _ _ _ _ _ _
   | exact posthorseref08_Sectors.mono _ _ _
   | exact LeO.none _
   | refine LeO.ite ?_ ?_
   | refine LeO.bind ?_ (fun _ => ?_)
  ·intro y0 y1 y2 y3 y4 y5 y6 y7
   unfold posthorseref08_Cut.l0
   repeat' first
   | (with_reducible exact ih0 _ _ _ _)
   | (with_reducible exact ih1 _ _ _ _ _ _ _ _)
   | (with_reducible exact ih2 _ _ _ _ _ _ _ _ _ _ _)
   | (with_reducible exact ih3 _ _ _ _ _ _ _ _ _ _ _)
   | (with_reducible exact posthorseref08_Sectors.mono _ _ _)
   | (with_reducible exact LeO.refl _)
   | (with_reducible exact LeO.none _)
   | (with_reducible refine LeO.ite ?_ ?_)
   | (with_reducible refine LeO.bind ?_ (fun _ => ?_))
   | exact ih0 _ _ _ _
   | exact ih1 _ _ _ _ _ _ _ _
   | exact ih2 _ _ _ _ _ _ _ _ _ _ _
   | exact ih3 _ _ _ _ _ _ _ _ _ _ _
   | exact posthorseref08_Sectors.mono _ _ _
   | exact LeO.none _
   | refine LeO.ite ?_ ?_
   | refine LeO.bind ?_ (fun _ => ?_)
  ·intro y0 y1 y2 y3 y4 y5 y6 y7 y8 y9 y10
   unfold posthorseref08_Cut.j2
   repeat' first
   | (with_reducible exact ih0 _ _ _ _)
   | (with_reducible exact ih1 _ _ _ _ _ _ _ _)
   | (with_reducible exact ih2 _ _ _ _ _ _ _ _ _ _ _)
   | (with_reducible exact ih3 _ _ _ _ _ _ _ _ _ _ _)
   | (with_reducible exact posthorseref08_Sectors.mono _ _ _)
   | (with_reducible exact LeO.refl _)
   | (with_reducible exact LeO.none _)
   | (with_reducible refine LeO.ite ?_ ?_)
   | (with_reducible refine LeO.bind ?_ (fun _ => ?_))
   | exact ih0 _ _ _ _
   | exact ih1 _ _ _ _ _ _ _ _
   | exact ih2 _ _ _ _ _ _ _ _ _ _ _
   | exact ih3 _ _ _ _ _ _ _ _ _ _ _
   | exact posthorseref08_Sectors.mono _ _ _
   | exact LeO.none _
   | refine LeO.ite ?_ ?_
   | refine LeO.bind ?_ (fun _ => ?_)
  ·intro y0 y1 y2 y3 y4 y5 y6 y7 y8 y9 y10
   unfold posthorseref08_Cut.j3
   repeat' first
   | (with_reducible exact ih0 _ _ _ _)
   | (with_reducible exact ih1 _ _ _ _ _ _ _ _)
   | (with_reducible exact ih2 _ _ _ _ _ _ _ _ _ _ _)
   | (with_reducible exact ih3 _ _ _ _ _ _ _ _ _ _ _)
   | (with_reducible exact posthorseref08_Sectors.mono _ _ _)
   | (with_reducible exact LeO.refl _)
   | (with_reducible exact LeO.none _)
   | (with_reducible refine LeO.ite ?_ ?_)
   | (with_reducible refine LeO.bind ?_ (fun _ => ?_))
   | exact ih0 _ _ _ _
   | exact ih1 _ _ _ _ _ _ _ _
   | exact ih2 _ _ _ _ _ _ _ _ _ _ _
   | exact ih3 _ _ _ _ _ _ _ _ _ _ _
   | exact posthorseref08_Sectors.mono _ _ _
   | exact LeO.none _
   | refine LeO.ite ?_ ?_
   | refine LeO.bind ?_ (fun _ => ?_)
theorem posthorseref08_Cut.mono : ∀ a0 a1 a2 k, LeO (posthorseref08_Cut.f k a0 a1 a2) (posthorseref08_Cut.f (k + 1) a0 a1 a2) := by
 intro a0 a1 a2 k
 obtain ⟨ih0, ih1, ih2, ih3⟩ := posthorseref08_Cut.mono_l k
 unfold posthorseref08_Cut.f
 repeat' first
   | (with_reducible exact ih0 _ _ _ _)
   | (with_reducible exact ih1 _ _ _ _ _ _ _ _)
   | (with_reducible exact ih2 _ _ _ _ _ _ _ _ _ _ _)
   | (with_reducible exact ih3 _ _ _ _ _ _ _ _ _ _ _)
   | (with_reducible exact posthorseref08_Sectors.mono _ _ _)
   | (with_reducible exact LeO.refl _)
   | (with_reducible exact LeO.none _)
   | (with_reducible refine LeO.ite ?_ ?_)
   | (with_reducible refine LeO.bind ?_ (fun _ => ?_))
   | exact ih0 _ _ _ _
   | exact ih1 _ _ _ _ _ _ _ _
   | exact ih2 _ _ _ _ _ _ _ _ _ _ _
   | exact ih3 _ _ _ _ _ _ _ _ _ _ _
   | exact posthorseref08_Sectors.mono _ _ _
   | exact LeO.none _
   | refine LeO.ite ?_ ?_
   | refine LeO.bind ?_ (fun _ => ?_)
open Go.Proofs.YtmncfcebjohloaaDoor.VInodePlays renaming rd_T39 → d0_
open posthorseref08_Cut renaming j0 → Wj0, j2 → Wj2, j3 → Wj3, l0 → Wl0
set_option maxHeartbeats 8000000 in
set_option maxRecDepth 100000 in
theorem posthorseref08_Cut.calls (k : Nat) (a0_0 : Int) (A0_1 : Option Addr) (c0_1 : Nat) (l0_1 : List (S39)) (a1 : Int) (r1 : Int) (r2 : List (S39)) (r3 : List (S39)) (r4 : Int) (w : World) (hr0_1 : Kd.C k39 w A0_1 l0_1.length l0_1) (hc0_1 : l0_1.length ≤ c0_1) (h : posthorseref08_Cut.f k a0_0 l0_1 a1 = some (r1, r2, r3, r4)) :
  Calls Tryd.prog 8 #[.agg #[.int .i64 a0_0, .slice A0_1 l0_1.length c0_1], .int .i64 a1] w fun e w' => ∃ v1_ v2_ : Value, e = .returned (.tuple #[.agg #[.int .i64 r1, v1_], v2_, .int .i64 r4]) ∧ Kd.R k39 39 w' w.heap.size (fun k_ => some k_ ≠ (v2_ : Value).ownBlock) v1_ r2 ∧ Kd.R k39 39 w' w.heap.size (fun k_ => some k_ ≠ (v1_ : Value).ownBlock) v2_ r3 ∧ Below w.heap.size w w' := by
 have hu29 := Tryd.underlying29
 have hu39 := Tryd.underlying39
 have HR0_1 := A0k hr0_1
 have HC0_1 := A0k hc0_1
 clear hr0_1 hc0_1
 have HB := A0k (Below.refl w.heap.size w)
 have H : (if a1 < 0 then (Wj0 k a1 true a0_0 l0_1) else ((posthorseref08_Sectors.f k a0_0 l0_1).bind fun t183 => (Wj0 k a1 (decide (a1 > (t183.length : Int))) a0_0 l0_1))) = some (r1, r2, r3, r4) := h
 clear h
 have HC3 := A0k H
 clear H
 go_enter Tryd.func8, Tryd.ntmps8
 go_upto_region 1 with (first | ((with_reducible refine gD (N := 2) rfl ?_); (try (refine gG (by rfl) ?_; dsimp only)); refine bE ?hg (N := 2) ?hd (cs := #[.int .i64 a0_0, .slice A0_1 l0_1.length c0_1]) (t := 29) ?hr ?_; (case hd => rfl); (case hg => rfl); (case hr => first | (go_simp; done) | (go_simp; rfl)); intro gb181 hg w4 hbox hb; have n0_ := A0k (pS (by repeat (first | (with_reducible first | exact HB.out | apply pA | apply pN | apply pD) | exact HB.out)) hb); have n1_ := A0k (hbox); have n2_ := A0k ((by rw [hg]; exact (pZ (by repeat (first | (with_reducible first | exact HB.out | apply pA | apply pN | apply pD) | exact HB.out))) : w.heap.size ≤ gb181)); have n3_ := A0k ((by rw [hg]; exact (pZ (by repeat (first | (with_reducible first | exact HB.out | apply pA | apply pN | apply pD) | exact HB.out))) : w.heap.size ≤ gb181)); clear HB; have HB := n0_; have BK181 := n1_; have GW181 := n2_; have GE181 := n3_; clear n0_ n1_ n2_ n3_ hb hbox hg) | ((with_reducible refine gD (N := 4) rfl ?_); (try (refine gG (by rfl) ?_; dsimp only)); refine bE ?hg (N := 4) ?hd (cs := #[.int .i64 0, .slice none 0 0]) (t := 29) ?hr ?_; (case hd => rfl); (case hg => rfl); (case hr => first | (go_simp; done) | (go_simp; rfl)); intro gb182 hg w5 hbox hb; have n0_ := A0k (bB (g := gb181) (o := .cells #[.int .i64 a0_0, .slice A0_1 l0_1.length c0_1] 29 (0, 0)) (by (with_reducible repeat first | apply bN | apply bD | apply bA); exact BK181.out) hb); have n1_ := A0k (pS (by repeat (first | (with_reducible first | exact HB.out | apply pA | apply pN | apply pD | refine bS ?_ GE181.out) | exact HB.out)) hb); have n2_ := A0k (hbox); have n3_ := A0k ((by rw [hg]; exact (pZ (by repeat (first | (with_reducible first | exact HB.out | apply pA | apply pN | apply pD | refine bS ?_ GE181.out) | exact HB.out))) : w.heap.size ≤ gb182)); have n4_ := A0k ((by rw [hg]; exact (pZ (by repeat (first | (with_reducible first | exact HB.out | apply pA | apply pN | apply pD | refine bS ?_ GE181.out) | exact HB.out))) : w.heap.size ≤ gb182)); have n5_ := A0k ((by rw [hg]; exact Nat.ne_of_lt (bL (g := gb181) (o := .cells #[.int .i64 a0_0, .slice A0_1 l0_1.length c0_1] 29 (0, 0)) (by (with_reducible repeat first | apply bN | apply bD | apply bA); exact BK181.out)) : gb181 ≠ gb182)); have n6_ := A0k ((by rw [hg]; exact Nat.ne_of_gt (bL (g := gb181) (o := .cells #[.int .i64 a0_0, .slice A0_1 l0_1.length c0_1] 29 (0, 0)) (by (with_reducible repeat first | apply bN | apply bD | apply bA); exact BK181.out)) : gb182 ≠ gb181)); clear BK181 HB; have BK181 := n0_; have HB := n1_; have BK182 := n2_; have GW182 := n3_; have GE182 := n4_; have NB181_182 := n5_; have NB182_181 := n6_; clear n0_ n1_ n2_ n3_ n4_ n5_ n6_ hb hbox hg))
 (try simp only [Act.put, lS, lZ, lC])
 go_cut [21] (fun v21 wc => ∃ (kq : Nat) (x21_2 : Bool), v21 = .bool x21_2 ∧ Aside0 (Wj0 kq a1 x21_2 a0_0 l0_1 = some (r1, r2, r3, r4)) ∧ Aside0 (kq ≤ k) ∧ Aside0 (wc.heap[gb181]? = some (.cells #[.int .i64 a0_0, (.slice A0_1 l0_1.length c0_1)] 29 (0, 0))) ∧ Aside0 (wc.heap[gb182]? = some (.cells #[.int .i64 0, (.slice none 0 0)] 29 (0, 0))) ∧ Aside0 (Below w.heap.size w wc))
 case first =>
  as_aux_lemma =>
  have H := HC3.out
  clear HC3
  by_cases c6 : a1 < 0
  ·rw [if_pos c6] at H
   have c6b0 : decide (a1 < 0) = true := decide_eq_true c6
   clear c6
   (first | rw [c6b0] | (simp only [i64_w, i32_w]; rw [c6b0]) | skip)
   have H' := A0k H
   clear H
   go_wp2
   go_meet
   case rel => exact ⟨_, (true), (by first | rfl | (simp; done) | (simp [*]; done)), H', ⟨by first | omega | exact Nat.le_refl _⟩, ⟨by (with_reducible repeat first | apply bN | apply bD | apply bA); exact BK181.out⟩, ⟨by (with_reducible repeat first | apply bN | apply bD | apply bA); exact BK182.out⟩, ⟨by repeat (first | (with_reducible first | exact HB.out | apply pA | apply pN | apply pD | refine bS ?_ GE181.out | refine bS ?_ GE182.out) | exact HB.out)⟩⟩
  ·rw [if_neg c6] at H
   have c6b0 : decide (a1 < 0) = false := decide_eq_false c6
   clear c6
   (first | rw [c6b0] | (simp only [i64_w, i32_w]; rw [c6b0]) | skip)
   replace H := Option.bind_eq_some_iff.mp H
   obtain ⟨t183, A70, H⟩ := H
   replace H : (Wj0 k a1 (decide (a1 > (t183.length : Int))) a0_0 l0_1) = some (r1, r2, r3, r4) := H
   have A7 := A0k A70
   clear A70
   have H' := A0k H
   clear H
   have hnb8 := NB181_182.out
   have hnc8 := NB182_181.out
   have hcz9_0 : w5.cell? ⟨gb181, 0, none⟩ = some (.int .i64 a0_0) := (bC BK181.out 0).trans rfl
   have hcz9_1 : w5.cell? ⟨gb181, 1, none⟩ = some (.slice A0_1 l0_1.length c0_1) := (bC BK181.out 1).trans rfl
   have hfz9_0 := bF BK181.out 0
   have hfz9_1 := bF BK181.out 1
   go_wp2_with (first | (go_at_call 30; (with_reducible refine (posthorseref08_Sectors.calls k a0_0 _ _ l0_1 t183 _ ?side1 ?side2 A7.out).mono ?_); (case side1 => repeat (first | exact (Kd.C_below HR0_1.out HB.out) | (with_reducible refine Kd.C_alloc ?_ _) | (with_reducible refine Kd.C_drewN ?_ _) | (with_reducible refine Kd.C_drew ?_))); (case side2 => exact HC0_1.out); rintro e w10 ⟨v184, rfl, ho0, hb⟩; have n0_ := A0k (Kd.R_lower ho0 (pZ (by repeat (first | (with_reducible first | exact HB.out | apply pA | apply pN | apply pD | refine bS ?_ GE181.out | refine bS ?_ GE182.out) | exact HB.out)))); have n1_ := A0k (bB (g := gb181) (o := .cells #[.int .i64 a0_0, .slice A0_1 l0_1.length c0_1] 29 (0, 0)) (by (with_reducible repeat first | apply bN | apply bD | apply bA); exact BK181.out) hb); have n2_ := A0k (bB (g := gb182) (o := .cells #[.int .i64 0, .slice none 0 0] 29 (0, 0)) (by (with_reducible repeat first | apply bN | apply bD | apply bA); exact BK182.out) hb); have n3_ := A0k (pS (by repeat (first | (with_reducible first | exact HB.out | apply pA | apply pN | apply pD | refine bS ?_ GE181.out | refine bS ?_ GE182.out) | exact HB.out)) hb); clear BK181 BK182 HB; have HO185 := n0_; have BK181 := n1_; have BK182 := n2_; have HB := n3_; clear n0_ n1_ n2_ n3_; (try clear hb); (try clear hb2); (try clear hk); (try clear hi); (try clear ho0); obtain ⟨Ao11, co11, eo11⟩ := Kd.R_slice HO185.out; subst eo11))
   go_meet
   case rel => exact ⟨_, (decide (a1 > (t183.length : Int))), (by first | rfl | (simp; done) | (simp [*]; done)), H', ⟨by first | omega | exact Nat.le_refl _⟩, ⟨by (with_reducible repeat first | apply bN | apply bD | apply bA); exact BK181.out⟩, ⟨by (with_reducible repeat first | apply bN | apply bD | apply bA); exact BK182.out⟩, ⟨by repeat (first | (with_reducible first | exact HB.out | apply pA | apply pN | apply pD | refine bS ?_ GE181.out | refine bS ?_ GE182.out) | exact HB.out)⟩⟩
 case rest =>
  as_aux_lemma =>
  clear HC3
  (try clear p2); (try clear c6); (try clear c6b0); (try clear c8); (try clear hcz9_0); (try clear hcz9_1); (try clear hfz9_0); (try clear hfz9_1)
  obtain ⟨kq, x21_2, rfl, HA, HJ2, BK181, BK182, HB⟩ := hcut
  cases kq with
  | zero => exact absurd HA.out (by simp [Wj0])
  | succ kj2 =>
   have H := HA.out
   clear HA
   simp only [Wj0] at H
   by_cases c12 : x21_2 = true
   ·subst c12
    have H1 : (some (0, ([] : List (S39)), ([] : List (S39)), 1)) = some (r1, r2, r3, r4) := by rw [if_pos rfl] at H; exact H
    clear H
    have H := H1
    clear H1
    simp only [Option.some.injEq, Prod.mk.injEq] at H
    obtain ⟨rfl, rfl, rfl, rfl⟩ := H
    have hnb13 := NB182_181.out
    have hnc13 := NB181_182.out
    have hcz14_0 : wc.cell? ⟨gb182, 0, none⟩ = some (.int .i64 0) := (bC BK182.out 0).trans rfl
    have hcz14_1 : wc.cell? ⟨gb182, 1, none⟩ = some (.slice none 0 0) := (bC BK182.out 1).trans rfl
    have hfz14_0 := bF BK182.out 0
    have hfz14_1 := bF BK182.out 1
    go_wp2
    refine bodyPost_ret (results_ctt rfl _ _ gb182 29 #[.int .i64 0, .slice none 0 0] (0, 0) _ rfl (by (with_reducible repeat first | apply bN | apply bD | apply bA); refine bP (cs := #[.int .i64 0, .slice none 0 0]) ?_ 1 _ rfl; (with_reducible repeat first | apply bN | apply bD | apply bA); refine bP (cs := #[.int .i64 0, .slice none 0 0]) ?_ 0 _ rfl; (with_reducible repeat first | apply bN | apply bD | apply bA); exact BK182.out) Tryd.underlying29 rfl (by kernel_rfl)) rfl ?_
    exact ⟨_, _, by first | rfl | (simp [errW_none, errW_some] <;> rfl) | (simp [*, errW_none, errW_some] <;> rfl), by first | exact Kd.R_nil _ _ _ _ _ | exact Kd.N_nil _ _ _ _ _ | exact Kd.V_nil _ _ _ _ _ | exact Kd.Q_nil _ _ _ _ _ | exact Kd.S_nil _ _ _ _ _, by first | exact Kd.R_nil _ _ _ _ _ | exact Kd.N_nil _ _ _ _ _ | exact Kd.V_nil _ _ _ _ _ | exact Kd.Q_nil _ _ _ _ _ | exact Kd.S_nil _ _ _ _ _, by repeat (first | (with_reducible first | exact HB.out | apply pA | apply pN | apply pD | refine bS ?_ GE181.out | refine bS ?_ GE182.out) | exact HB.out)⟩
   ·replace c12 := Bool.eq_false_iff.mpr c12
    subst c12
    have H1 : (Wl0 kj2 a1 ([] : List (S39)) 0 0 a0_0 l0_1 a0_0 ([] : List (S39))) = some (r1, r2, r3, r4) := by rw [if_neg (show ¬ (false = true) by decide)] at H; exact H
    clear H
    have H := H1
    clear H1
    have H' := A0k H
    clear H
    have hnb15 := NB181_182.out
    have hnc15 := NB182_181.out
    have hcz16_0 : wc.cell? ⟨gb181, 0, none⟩ = some (.int .i64 a0_0) := (bC BK181.out 0).trans rfl
    have hcz16_1 : wc.cell? ⟨gb181, 1, none⟩ = some (.slice A0_1 l0_1.length c0_1) := (bC BK181.out 1).trans rfl
    have hfz16_0 := bF BK181.out 0
    have hfz16_1 := bF BK181.out 1
    go_wp2_with (first | ((with_reducible refine gD (N := 7) rfl ?_); (try (refine gG (by rfl) ?_; dsimp only)); refine bE ?hg (N := 7) ?hd (cs := #[.int .i64 0, .slice none 0 0]) (t := 29) ?hr ?_; (case hd => rfl); (case hg => rfl); (case hr => first | (go_simp; done) | (go_simp; rfl)); intro gb186 hg w17 hbox hb; have n0_ := A0k (bB (g := gb181) (o := .cells #[.int .i64 a0_0, .slice A0_1 l0_1.length c0_1] 29 (0, 0)) (by (with_reducible repeat first | apply bN | apply bD | apply bA); exact BK181.out) hb); have n1_ := A0k (bB (g := gb182) (o := .cells #[.int .i64 0, .slice none 0 0] 29 (0, 0)) (by (with_reducible repeat first | apply bN | apply bD | apply bA); exact BK182.out) hb); have n2_ := A0k (pS (by repeat (first | (with_reducible first | exact HB.out | apply pA | apply pN | apply pD | refine bS ?_ GE181.out | refine bS ?_ GE182.out) | exact HB.out)) hb); have n3_ := A0k (hbox); have n4_ := A0k ((by rw [hg]; exact (pZ (by repeat (first | (with_reducible first | exact HB.out | apply pA | apply pN | apply pD | refine bS ?_ GE181.out | refine bS ?_ GE182.out) | exact HB.out))) : w.heap.size ≤ gb186)); have n5_ := A0k ((by rw [hg]; exact (pZ (by repeat (first | (with_reducible first | exact HB.out | apply pA | apply pN | apply pD | refine bS ?_ GE181.out | refine bS ?_ GE182.out) | exact HB.out))) : w.heap.size ≤ gb186)); have n6_ := A0k ((by rw [hg]; exact Nat.ne_of_lt (bL (g := gb181) (o := .cells #[.int .i64 a0_0, .slice A0_1 l0_1.length c0_1] 29 (0, 0)) (by (with_reducible repeat first | apply bN | apply bD | apply bA); exact BK181.out)) : gb181 ≠ gb186)); have n7_ := A0k ((by rw [hg]; exact Nat.ne_of_gt (bL (g := gb181) (o := .cells #[.int .i64 a0_0, .slice A0_1 l0_1.length c0_1] 29 (0, 0)) (by (with_reducible repeat first | apply bN | apply bD | apply bA); exact BK181.out)) : gb186 ≠ gb181)); have n8_ := A0k ((by rw [hg]; exact Nat.ne_of_lt (bL (g := gb182) (o := .cells #[.int .i64 0, .slice none 0 0] 29 (0, 0)) (by (with_reducible repeat first | apply bN | apply bD | apply bA); exact BK182.out)) : gb182 ≠ gb186)); have n9_ := A0k ((by rw [hg]; exact Nat.ne_of_gt (bL (g := gb182) (o := .cells #[.int .i64 0, .slice none 0 0] 29 (0, 0)) (by (with_reducible repeat first | apply bN | apply bD | apply bA); exact BK182.out)) : gb186 ≠ gb182)); clear BK181 BK182 HB; have BK181 := n0_; have BK182 := n1_; have HB := n2_; have BK186 := n3_; have GW186 := n4_; have GE186 := n5_; have NB181_186 := n6_; have NB186_181 := n7_; have NB182_186 := n8_; have NB186_182 := n9_; clear n0_ n1_ n2_ n3_ n4_ n5_ n6_ n7_ n8_ n9_ hb hbox hg; have hnb18 := NB186_181.out; have hnc18 := NB181_186.out; have hnb19 := NB186_182.out; have hnc19 := NB182_186.out; have hcz20_0 : w17.cell? ⟨gb186, 0, none⟩ = some (.int .i64 0) := (bC BK186.out 0).trans rfl; have hcz20_1 : w17.cell? ⟨gb186, 1, none⟩ = some (.slice none 0 0) := (bC BK186.out 1).trans rfl; have hfz20_0 := bF BK186.out 0; have hfz20_1 := bF BK186.out 1))
    go_loopg [8, 9, 10] kj2 (fun kq v8 v9 v10 w' => ∃ (x8_2 : List (S39)) (x9_2 : Int) (x10_2 : Int) (qc : List (S39)) (qb : Value), v9 = .int .i64 x9_2 ∧ v10 = .int .i64 x10_2 ∧ Aside0 (Wl0 kq a1 x8_2 x9_2 x10_2 a0_0 l0_1 a0_0 qc = some (r1, r2, r3, r4)) ∧ Aside0 (kq ≤ kj2) ∧ Aside0 (Kd.R k39 39 w' w.heap.size (fun k_ => some k_ ≠ (qb : Value).ownBlock) v8 x8_2) ∧ Aside0 (Kd.R k39 39 w' w.heap.size (fun k_ => some k_ ≠ (v8 : Value).ownBlock) qb qc) ∧ Aside0 (w'.heap[gb181]? = some (.cells #[.int .i64 a0_0, (.slice A0_1 l0_1.length c0_1)] 29 (0, 0))) ∧ Aside0 (w'.heap[gb182]? = some (.cells #[.int .i64 0, (.slice none 0 0)] 29 (0, 0))) ∧ Aside0 (w'.heap[gb186]? = some (.cells #[.int .i64 a0_0, qb] 29 (0, 0))) ∧ Aside0 (Below w.heap.size w w'))
    case atStart => exact ⟨(([] : List (S39))), (0), (0), (([] : List (S39))), (.slice none 0 0), (by first | rfl | (simp; done) | (simp [*]; done)), (by first | rfl | (simp; done) | (simp [*]; done)), H', ⟨Nat.le_refl _⟩, ⟨by first | exact Kd.R_nil _ _ _ _ _ | exact Kd.N_nil _ _ _ _ _ | exact Kd.V_nil _ _ _ _ _ | exact Kd.Q_nil _ _ _ _ _ | exact Kd.S_nil _ _ _ _ _⟩, ⟨by first | exact Kd.R_nil _ _ _ _ _ | exact Kd.N_nil _ _ _ _ _ | exact Kd.V_nil _ _ _ _ _ | exact Kd.Q_nil _ _ _ _ _ | exact Kd.S_nil _ _ _ _ _⟩, ⟨by (with_reducible repeat first | apply bN | apply bD | apply bA); refine bR ?_ NB181_186.out _; (with_reducible repeat first | apply bN | apply bD | apply bA); refine bR ?_ NB181_186.out _; (with_reducible repeat first | apply bN | apply bD | apply bA); exact BK181.out⟩, ⟨by (with_reducible repeat first | apply bN | apply bD | apply bA); refine bR ?_ NB182_186.out _; (with_reducible repeat first | apply bN | apply bD | apply bA); refine bR ?_ NB182_186.out _; (with_reducible repeat first | apply bN | apply bD | apply bA); exact BK182.out⟩, ⟨by (with_reducible repeat first | apply bN | apply bD | apply bA); refine bP (cs := #[.int .i64 a0_0, .slice none 0 0]) ?_ 1 _ rfl; (with_reducible repeat first | apply bN | apply bD | apply bA); refine bP (cs := #[.int .i64 0, .slice none 0 0]) ?_ 0 _ rfl; (with_reducible repeat first | apply bN | apply bD | apply bA); exact BK186.out⟩, ⟨by repeat (first | (with_reducible first | exact HB.out | apply pA | apply pN | apply pD | refine bS ?_ GE181.out | refine bS ?_ GE182.out | refine bS ?_ GE186.out) | exact HB.out)⟩⟩
    case round =>
     clear H'
     (try clear c1); (try clear p2); (try clear c6); (try clear c6b0); (try clear c8); (try clear c12); (try clear c13); (try clear c15); (try clear c18); (try clear c19); (try clear hcz14_0); (try clear hcz14_1); (try clear hcz16_0); (try clear hcz16_1); (try clear hcz20_0); (try clear hcz20_1); (try clear hcz9_0); (try clear hcz9_1); (try clear hfz14_0); (try clear hfz14_1); (try clear hfz16_0); (try clear hfz16_1); (try clear hfz20_0); (try clear hfz20_1); (try clear hfz9_0); (try clear hfz9_1); (try clear p2)
     obtain ⟨x8_2, x9_2, x10_2, qc, qb, rfl, rfl, HA, HK2, HO_8, qa, BK181, BK182, BK186, HB⟩ := hrel
     cases gk with
     | zero => exact absurd HA.out (by simp [Wl0])
     | succ k2 =>
      have H := HA.out
      clear HA
      simp only [Wl0] at H
      by_cases c21 : x10_2 < (l0_1.length : Int)
      ·rw [if_pos c21] at H
       have c21b0 : decide (x10_2 < (l0_1.length : Int)) = true := decide_eq_true c21
       clear c21
       by_cases c22 : 0 ≤ x10_2
       ·rw [if_pos c22] at H
        have c22b0 : decide (0 ≤ x10_2) = true := decide_eq_true c22
        clear c22
        have HC23 := A0k H
        clear H
        have hnb24 := NB181_182.out
        have hnc24 := NB182_181.out
        have hnb25 := NB181_186.out
        have hnc25 := NB186_181.out
        have hcz26_0 : wr.cell? ⟨gb181, 0, none⟩ = some (.int .i64 a0_0) := (bC BK181.out 0).trans rfl
        have hcz26_1 : wr.cell? ⟨gb181, 1, none⟩ = some (.slice A0_1 l0_1.length c0_1) := (bC BK181.out 1).trans rfl
        have hfz26_0 := bF BK181.out 0
        have hfz26_1 := bF BK181.out 1
        have p187 : 0 ≤ (x10_2 : Int) := of_decide_eq_true (by first | (with_reducible assumption) | assumption)
        have q187 : x10_2 < (l0_1.length : Int) := of_decide_eq_true (by first | (with_reducible assumption) | assumption)
        obtain ⟨ad187, e187, hx187_0, hx187_1⟩ := at_T39 HR0_1.out x10_2 p187 q187
        cases e187
        replace hx187_0 := (HB.out.cell (World.block_lt_of_cell? w _ hx187_0)).trans hx187_0
        replace hx187_1 := (HB.out.cell (World.block_lt_of_cell? w _ hx187_1)).trans hx187_1
        replace p187 := eq_true p187
        replace q187 := eq_true q187
        go_upto_if 44 with (first | ((with_reducible refine gD (N := 11) rfl ?_); (try (refine gG (by rfl) ?_; dsimp only)); refine bE ?hg (N := 11) ?hd (cs := #[.int .i64 0, .int .i64 0]) (t := 39) ?hr ?_; (case hd => rfl); (case hg => rfl); (case hr => first | (go_simp; done) | (go_simp; rfl)); intro gb188 hg w27 hbox hb; have n0_ := A0k (Kd.R_below (Kd.R_elderB (by (with_reducible repeat first | apply rA | apply rN | apply rD); exact HO_8.out) gb188 (Nat.le_of_eq hg.symm)) hb); have n1_ := A0k (Kd.R_below (Kd.R_elderB (by (with_reducible repeat first | apply rA | apply rN | apply rD); exact qa.out) gb188 (Nat.le_of_eq hg.symm)) hb); have n2_ := A0k (bB (g := gb181) (o := .cells #[.int .i64 a0_0, .slice (some ad187) l0_1.length c0_1] 29 (0, 0)) (by (with_reducible repeat first | apply bN | apply bD | apply bA); exact BK181.out) hb); have n3_ := A0k (bB (g := gb182) (o := .cells #[.int .i64 0, .slice none 0 0] 29 (0, 0)) (by (with_reducible repeat first | apply bN | apply bD | apply bA); exact BK182.out) hb); have n4_ := A0k (bB (g := gb186) (o := .cells #[.int .i64 a0_0, qb] 29 (0, 0)) (by (with_reducible repeat first | apply bN | apply bD | apply bA); exact BK186.out) hb); have n5_ := A0k (pS (by repeat (first | (with_reducible first | exact HB.out | apply pA | apply pN | apply pD | refine bS ?_ GE181.out | refine bS ?_ GE182.out | refine bS ?_ GE186.out) | exact HB.out)) hb); have n6_ := A0k (hbox); have n7_ := A0k ((by rw [hg]; exact (pZ (by repeat (first | (with_reducible first | exact HB.out | apply pA | apply pN | apply pD | refine bS ?_ GE181.out | refine bS ?_ GE182.out | refine bS ?_ GE186.out) | exact HB.out))) : w.heap.size ≤ gb188)); have n8_ := A0k ((by rw [hg]; exact (pZ (by repeat (first | (with_reducible first | exact HB.out | apply pA | apply pN | apply pD | refine bS ?_ GE181.out | refine bS ?_ GE182.out | refine bS ?_ GE186.out) | exact HB.out))) : w.heap.size ≤ gb188)); have n9_ := A0k ((by rw [hg]; exact Nat.ne_of_lt (bL (g := gb181) (o := .cells #[.int .i64 a0_0, .slice (some ad187) l0_1.length c0_1] 29 (0, 0)) (by (with_reducible repeat first | apply bN | apply bD | apply bA); exact BK181.out)) : gb181 ≠ gb188)); have n10_ := A0k ((by rw [hg]; exact Nat.ne_of_gt (bL (g := gb181) (o := .cells #[.int .i64 a0_0, .slice (some ad187) l0_1.length c0_1] 29 (0, 0)) (by (with_reducible repeat first | apply bN | apply bD | apply bA); exact BK181.out)) : gb188 ≠ gb181)); have n11_ := A0k ((by rw [hg]; exact Nat.ne_of_lt (bL (g := gb182) (o := .cells #[.int .i64 0, .slice none 0 0] 29 (0, 0)) (by (with_reducible repeat first | apply bN | apply bD | apply bA); exact BK182.out)) : gb182 ≠ gb188)); have n12_ := A0k ((by rw [hg]; exact Nat.ne_of_gt (bL (g := gb182) (o := .cells #[.int .i64 0, .slice none 0 0] 29 (0, 0)) (by (with_reducible repeat first | apply bN | apply bD | apply bA); exact BK182.out)) : gb188 ≠ gb182)); have n13_ := A0k ((by rw [hg]; exact Nat.ne_of_lt (bL (g := gb186) (o := .cells #[.int .i64 a0_0, qb] 29 (0, 0)) (by (with_reducible repeat first | apply bN | apply bD | apply bA); exact BK186.out)) : gb186 ≠ gb188)); have n14_ := A0k ((by rw [hg]; exact Nat.ne_of_gt (bL (g := gb186) (o := .cells #[.int .i64 a0_0, qb] 29 (0, 0)) (by (with_reducible repeat first | apply bN | apply bD | apply bA); exact BK186.out)) : gb188 ≠ gb186)); clear HO_8 qa BK181 BK182 BK186 HB; have HO_8 := n0_; have qa := n1_; have BK181 := n2_; have BK182 := n3_; have BK186 := n4_; have HB := n5_; have BK188 := n6_; have GW188 := n7_; have GE188 := n8_; have NB181_188 := n9_; have NB188_181 := n10_; have NB182_188 := n11_; have NB188_182 := n12_; have NB186_188 := n13_; have NB188_186 := n14_; clear n0_ n1_ n2_ n3_ n4_ n5_ n6_ n7_ n8_ n9_ n10_ n11_ n12_ n13_ n14_ hb hbox hg; have hnb28 := NB188_181.out; have hnc28 := NB181_188.out; have hnb29 := NB188_182.out; have hnc29 := NB182_188.out; have hnb30 := NB188_186.out; have hnc30 := NB186_188.out; have hcz31_0 : w27.cell? ⟨gb188, 0, none⟩ = some (.int .i64 0) := (bC BK188.out 0).trans rfl; have hcz31_1 : w27.cell? ⟨gb188, 1, none⟩ = some (.int .i64 0) := (bC BK188.out 1).trans rfl; have hfz31_0 := bF BK188.out 0; have hfz31_1 := bF BK188.out 1))
        (try simp only [Act.put, lS, lZ, lC])
        go_cut [12] (fun v12 wc => ∃ (kq : Nat) (x12_22 : Int), v12 = .int .i64 x12_22 ∧ Aside0 (Wj2 kq a1 x8_2 x9_2 x10_2 x12_22 a0_0 l0_1 a0_0 qc ((d0_ l0_1 x10_2).f0) ((d0_ l0_1 x10_2).f1) = some (r1, r2, r3, r4)) ∧ Aside0 (kq ≤ k2) ∧ Aside0 (Kd.R k39 39 wc w.heap.size (fun k_ => some k_ ≠ (qb : Value).ownBlock ∧ k_ ≠ gb188) u8 x8_2) ∧ Aside0 (Kd.R k39 39 wc w.heap.size (fun k_ => some k_ ≠ (u8 : Value).ownBlock ∧ k_ ≠ gb188) qb qc) ∧ Aside0 (wc.heap[gb181]? = some (.cells #[.int .i64 a0_0, (.slice (some ad187) l0_1.length c0_1)] 29 (0, 0))) ∧ Aside0 (wc.heap[gb182]? = some (.cells #[.int .i64 0, (.slice none 0 0)] 29 (0, 0))) ∧ Aside0 (wc.heap[gb186]? = some (.cells #[.int .i64 a0_0, qb] 29 (0, 0))) ∧ Aside0 (wc.heap[gb188]? = some (.cells #[.int .i64 ((d0_ l0_1 x10_2).f0), .int .i64 ((d0_ l0_1 x10_2).f1)] 39 (0, 0))) ∧ Aside0 (Below w.heap.size w wc))
        case first =>
         as_aux_lemma =>
         have H := HC23.out
         clear HC23
         by_cases c32 : (wrap64 (a1 - x9_2)) > ((d0_ l0_1 x10_2).f1)
         ·rw [if_pos c32] at H
          have c32b0 : decide (((d0_ l0_1 x10_2).f1) < (wrap64 (a1 - x9_2))) = true := decide_eq_true c32
          clear c32
          (first | rw [c32b0] | (simp only [i64_w, i32_w]; rw [c32b0]) | skip)
          have H' := A0k H
          clear H
          have hnb33 := NB188_181.out
          have hnc33 := NB181_188.out
          have hnb34 := NB188_182.out
          have hnc34 := NB182_188.out
          have hnb35 := NB188_186.out
          have hnc35 := NB186_188.out
          have hcz36_0 : w27.cell? ⟨gb188, 0, none⟩ = some (.int .i64 0) := (bC BK188.out 0).trans rfl
          have hcz36_1 : w27.cell? ⟨gb188, 1, none⟩ = some (.int .i64 0) := (bC BK188.out 1).trans rfl
          have hfz36_0 := bF BK188.out 0
          have hfz36_1 := bF BK188.out 1
          go_wp2
          go_meet
          case rel => exact ⟨_, ((d0_ l0_1 x10_2).f1), (by first | rfl | (simp; done) | (simp [*]; done)), H', ⟨by have := HJ2.out; have := HK2.out; first | omega | exact Nat.le_refl _⟩, ⟨by (with_reducible repeat first | apply rA | apply rN | apply rD); exact Kd.R_mono (Kd.R_far (p := ⟨gb188, 1, none⟩) (Kd.R_far (p := ⟨gb188, 0, none⟩) (Kd.R_mono HO_8.out (fun k_ hk => (⟨hk, hk.2⟩ : _ ∧ k_ ≠ gb188))) (fun _ hk => hk.2) (.int .i64 ((d0_ l0_1 x10_2).f0))) (fun _ hk => hk.2) (.int .i64 ((d0_ l0_1 x10_2).f1))) (fun _ hk => ⟨hk.1.1, hk.1.2⟩)⟩, ⟨by (with_reducible repeat first | apply rA | apply rN | apply rD); exact Kd.R_mono (Kd.R_far (p := ⟨gb188, 1, none⟩) (Kd.R_far (p := ⟨gb188, 0, none⟩) (Kd.R_mono qa.out (fun k_ hk => (⟨hk, hk.2⟩ : _ ∧ k_ ≠ gb188))) (fun _ hk => hk.2) (.int .i64 ((d0_ l0_1 x10_2).f0))) (fun _ hk => hk.2) (.int .i64 ((d0_ l0_1 x10_2).f1))) (fun _ hk => ⟨hk.1.1, hk.1.2⟩)⟩, ⟨by (with_reducible repeat first | apply bN | apply bD | apply bA); refine bR ?_ NB181_188.out _; (with_reducible repeat first | apply bN | apply bD | apply bA); refine bR ?_ NB181_188.out _; (with_reducible repeat first | apply bN | apply bD | apply bA); exact BK181.out⟩, ⟨by (with_reducible repeat first | apply bN | apply bD | apply bA); refine bR ?_ NB182_188.out _; (with_reducible repeat first | apply bN | apply bD | apply bA); refine bR ?_ NB182_188.out _; (with_reducible repeat first | apply bN | apply bD | apply bA); exact BK182.out⟩, ⟨by (with_reducible repeat first | apply bN | apply bD | apply bA); refine bR ?_ NB186_188.out _; (with_reducible repeat first | apply bN | apply bD | apply bA); refine bR ?_ NB186_188.out _; (with_reducible repeat first | apply bN | apply bD | apply bA); exact BK186.out⟩, ⟨by (with_reducible repeat first | apply bN | apply bD | apply bA); refine bP (cs := #[.int .i64 ((d0_ l0_1 x10_2).f0), .int .i64 0]) ?_ 1 _ rfl; (with_reducible repeat first | apply bN | apply bD | apply bA); refine bP (cs := #[.int .i64 0, .int .i64 0]) ?_ 0 _ rfl; (with_reducible repeat first | apply bN | apply bD | apply bA); exact BK188.out⟩, ⟨by repeat (first | (with_reducible first | exact HB.out | apply pA | apply pN | apply pD | refine bS ?_ GE181.out | refine bS ?_ GE182.out | refine bS ?_ GE186.out | refine bS ?_ GE188.out) | exact HB.out)⟩⟩
         ·rw [if_neg c32] at H
          have c32b0 : decide (((d0_ l0_1 x10_2).f1) < (wrap64 (a1 - x9_2))) = false := decide_eq_false c32
          clear c32
          (first | rw [c32b0] | (simp only [i64_w, i32_w]; rw [c32b0]) | skip)
          have H' := A0k H
          clear H
          go_wp2
          go_meet
          case rel => exact ⟨_, (wrap64 (a1 - x9_2)), (by first | rfl | (simp; done) | (simp [*]; done)), H', ⟨by have := HJ2.out; have := HK2.out; first | omega | exact Nat.le_refl _⟩, ⟨by (with_reducible repeat first | apply rA | apply rN | apply rD); exact Kd.R_mono (Kd.R_far (p := ⟨gb188, 1, none⟩) (Kd.R_far (p := ⟨gb188, 0, none⟩) (Kd.R_mono HO_8.out (fun k_ hk => (⟨hk, hk.2⟩ : _ ∧ k_ ≠ gb188))) (fun _ hk => hk.2) (.int .i64 ((d0_ l0_1 x10_2).f0))) (fun _ hk => hk.2) (.int .i64 ((d0_ l0_1 x10_2).f1))) (fun _ hk => ⟨hk.1.1, hk.1.2⟩)⟩, ⟨by (with_reducible repeat first | apply rA | apply rN | apply rD); exact Kd.R_mono (Kd.R_far (p := ⟨gb188, 1, none⟩) (Kd.R_far (p := ⟨gb188, 0, none⟩) (Kd.R_mono qa.out (fun k_ hk => (⟨hk, hk.2⟩ : _ ∧ k_ ≠ gb188))) (fun _ hk => hk.2) (.int .i64 ((d0_ l0_1 x10_2).f0))) (fun _ hk => hk.2) (.int .i64 ((d0_ l0_1 x10_2).f1))) (fun _ hk => ⟨hk.1.1, hk.1.2⟩)⟩, ⟨by (with_reducible repeat first | apply bN | apply bD | apply bA); refine bR ?_ NB181_188.out _; (with_reducible repeat first | apply bN | apply bD | apply bA); refine bR ?_ NB181_188.out _; (with_reducible repeat first | apply bN | apply bD | apply bA); exact BK181.out⟩, ⟨by (with_reducible repeat first | apply bN | apply bD | apply bA); refine bR ?_ NB182_188.out _; (with_reducible repeat first | apply bN | apply bD | apply bA); refine bR ?_ NB182_188.out _; (with_reducible repeat first | apply bN | apply bD | apply bA); exact BK182.out⟩, ⟨by (with_reducible repeat first | apply bN | apply bD | apply bA); refine bR ?_ NB186_188.out _; (with_reducible repeat first | apply bN | apply bD | apply bA); refine bR ?_ NB186_188.out _; (with_reducible repeat first | apply bN | apply bD | apply bA); exact BK186.out⟩, ⟨by (with_reducible repeat first | apply bN | apply bD | apply bA); refine bP (cs := #[.int .i64 ((d0_ l0_1 x10_2).f0), .int .i64 0]) ?_ 1 _ rfl; (with_reducible repeat first | apply bN | apply bD | apply bA); refine bP (cs := #[.int .i64 0, .int .i64 0]) ?_ 0 _ rfl; (with_reducible repeat first | apply bN | apply bD | apply bA); exact BK188.out⟩, ⟨by repeat (first | (with_reducible first | exact HB.out | apply pA | apply pN | apply pD | refine bS ?_ GE181.out | refine bS ?_ GE182.out | refine bS ?_ GE186.out | refine bS ?_ GE188.out) | exact HB.out)⟩⟩
        case rest =>
         as_aux_lemma =>
         clear HC23
         (try clear c1); (try clear p1); (try clear q1); (try clear hx1); (try clear c2); (try clear p2); (try clear c3); (try clear c6); (try clear c6b0); (try clear p6); (try clear c8); (try clear c12); (try clear c13); (try clear c15); (try clear c18); (try clear p18); (try clear q18); (try clear hx18); (try clear c19); (try clear c21); (try clear c21b0); (try clear c22); (try clear c22b0); (try clear c24); (try clear c25); (try clear c28); (try clear c29); (try clear c30); (try clear c32); (try clear c32b0); (try clear c33); (try clear c34); (try clear c35); (try clear hcz14_0); (try clear hcz14_1); (try clear hcz16_0); (try clear hcz16_1); (try clear hcz20_0); (try clear hcz20_1); (try clear hcz26_0); (try clear hcz26_1); (try clear hcz31_0); (try clear hcz31_1); (try clear hcz36_0); (try clear hcz36_1); (try clear hcz9_0); (try clear hcz9_1); (try clear hfz14_0); (try clear hfz14_1); (try clear hfz16_0); (try clear hfz16_1); (try clear hfz20_0); (try clear hfz20_1); (try clear hfz26_0); (try clear hfz26_1); (try clear hfz31_0); (try clear hfz31_1); (try clear hfz36_0); (try clear hfz36_1); (try clear hfz9_0); (try clear hfz9_1); (try clear hx187_0); (try clear hx187_1); (try clear p187); (try clear p2); (try clear q187)
         obtain ⟨kq, x12_22, rfl, HA, HJ22, HO_8, qa, BK181, BK182, BK186, BK188, HB⟩ := hcut
         cases kq with
         | zero => exact absurd HA.out (by simp [Wj2])
         | succ kj22 =>
          have H := HA.out
          clear HA
          simp only [Wj2] at H
          have HC37 := A0k H
          clear H
          go_upto_if 48 with (fail)
          go_cut [12] (fun v12 wc => ∃ (kq : Nat) (x12_36 : Int), v12 = .int .i64 x12_36 ∧ Aside0 (Wj3 kq a1 x8_2 x9_2 x10_2 x12_36 a0_0 l0_1 a0_0 qc ((d0_ l0_1 x10_2).f0) ((d0_ l0_1 x10_2).f1) = some (r1, r2, r3, r4)) ∧ Aside0 (kq ≤ kj22) ∧ Aside0 (Kd.R k39 39 wc w.heap.size (fun k_ => some k_ ≠ (qb : Value).ownBlock ∧ k_ ≠ gb188) u8 x8_2) ∧ Aside0 (Kd.R k39 39 wc w.heap.size (fun k_ => some k_ ≠ (u8 : Value).ownBlock ∧ k_ ≠ gb188) qb qc) ∧ Aside0 (wc.heap[gb181]? = some (.cells #[.int .i64 a0_0, (.slice (some ad187) l0_1.length c0_1)] 29 (0, 0))) ∧ Aside0 (wc.heap[gb182]? = some (.cells #[.int .i64 0, (.slice none 0 0)] 29 (0, 0))) ∧ Aside0 (wc.heap[gb186]? = some (.cells #[.int .i64 a0_0, qb] 29 (0, 0))) ∧ Aside0 (wc.heap[gb188]? = some (.cells #[.int .i64 ((d0_ l0_1 x10_2).f0), .int .i64 ((d0_ l0_1 x10_2).f1)] 39 (0, 0))) ∧ Aside0 (Below w.heap.size w wc))
          case first =>
           as_aux_lemma =>
           have H := HC37.out
           clear HC37
           by_cases c38 : x12_22 < 0
           ·rw [if_pos c38] at H
            have c38b0 : decide (x12_22 < 0) = true := decide_eq_true c38
            clear c38
            (first | rw [c38b0] | (simp only [i64_w, i32_w]; rw [c38b0]) | skip)
            have H' := A0k H
            clear H
            go_wp2
            go_meet
            case rel => exact ⟨_, (0), (by first | rfl | (simp; done) | (simp [*]; done)), H', ⟨by have := HJ2.out; have := HK2.out; have := HJ22.out; first | omega | exact Nat.le_refl _⟩, ⟨by (with_reducible repeat first | apply rA | apply rN | apply rD); exact HO_8.out⟩, ⟨by (with_reducible repeat first | apply rA | apply rN | apply rD); exact qa.out⟩, ⟨by (with_reducible repeat first | apply bN | apply bD | apply bA); exact BK181.out⟩, ⟨by (with_reducible repeat first | apply bN | apply bD | apply bA); exact BK182.out⟩, ⟨by (with_reducible repeat first | apply bN | apply bD | apply bA); exact BK186.out⟩, ⟨by (with_reducible repeat first | apply bN | apply bD | apply bA); exact BK188.out⟩, ⟨by repeat (first | (with_reducible first | exact HB.out | apply pA | apply pN | apply pD | refine bS ?_ GE181.out | refine bS ?_ GE182.out | refine bS ?_ GE186.out | refine bS ?_ GE188.out) | exact HB.out)⟩⟩
           ·rw [if_neg c38] at H
            have c38b0 : decide (x12_22 < 0) = false := decide_eq_false c38
            clear c38
            (first | rw [c38b0] | (simp only [i64_w, i32_w]; rw [c38b0]) | skip)
            have H' := A0k H
            clear H
            go_wp2
            go_meet
            case rel => exact ⟨_, (x12_22), (by first | rfl | (simp; done) | (simp [*]; done)), H', ⟨by have := HJ2.out; have := HK2.out; have := HJ22.out; first | omega | exact Nat.le_refl _⟩, ⟨by (with_reducible repeat first | apply rA | apply rN | apply rD); exact HO_8.out⟩, ⟨by (with_reducible repeat first | apply rA | apply rN | apply rD); exact qa.out⟩, ⟨by (with_reducible repeat first | apply bN | apply bD | apply bA); exact BK181.out⟩, ⟨by (with_reducible repeat first | apply bN | apply bD | apply bA); exact BK182.out⟩, ⟨by (with_reducible repeat first | apply bN | apply bD | apply bA); exact BK186.out⟩, ⟨by (with_reducible repeat first | apply bN | apply bD | apply bA); exact BK188.out⟩, ⟨by repeat (first | (with_reducible first | exact HB.out | apply pA | apply pN | apply pD | refine bS ?_ GE181.out | refine bS ?_ GE182.out | refine bS ?_ GE186.out | refine bS ?_ GE188.out) | exact HB.out)⟩⟩
          case rest =>
           as_aux_lemma =>
           clear HC37
           (try clear c1); (try clear p1); (try clear q1); (try clear hx1); (try clear c2); (try clear p2); (try clear c3); (try clear c6); (try clear c6b0); (try clear p6); (try clear c8); (try clear c12); (try clear c13); (try clear c15); (try clear c18); (try clear p18); (try clear q18); (try clear hx18); (try clear c19); (try clear c21); (try clear c21b0); (try clear c22); (try clear c22b0); (try clear c24); (try clear c25); (try clear c28); (try clear c29); (try clear c30); (try clear c32); (try clear c32b0); (try clear c33); (try clear c34); (try clear c35); (try clear c38); (try clear c38b0); (try clear hcz14_0); (try clear hcz14_1); (try clear hcz16_0); (try clear hcz16_1); (try clear hcz20_0); (try clear hcz20_1); (try clear hcz26_0); (try clear hcz26_1); (try clear hcz31_0); (try clear hcz31_1); (try clear hcz36_0); (try clear hcz36_1); (try clear hcz9_0); (try clear hcz9_1); (try clear hfz14_0); (try clear hfz14_1); (try clear hfz16_0); (try clear hfz16_1); (try clear hfz20_0); (try clear hfz20_1); (try clear hfz26_0); (try clear hfz26_1); (try clear hfz31_0); (try clear hfz31_1); (try clear hfz36_0); (try clear hfz36_1); (try clear hfz9_0); (try clear hfz9_1); (try clear hx187_0); (try clear hx187_1); (try clear p1); (try clear p18); (try clear p187); (try clear p2); (try clear p6); (try clear q1); (try clear q18); (try clear q187)
           obtain ⟨kq, x12_36, rfl, HA, HJ36, HO_8, qa, BK181, BK182, BK186, BK188, HB⟩ := hcut
           cases kq with
           | zero => exact absurd HA.out (by simp [Wj3])
           | succ kj36 =>
            have H := HA.out
            clear HA
            simp only [Wj3] at H
            by_cases c39 : x12_36 > 0
            ·rw [if_pos c39] at H
             have c39b0 : decide (0 < x12_36) = true := decide_eq_true c39
             clear c39
             by_cases c40 : qc.length < 8796093022208
             ·rw [if_pos c40] at H
              have LMc40 := A0k c40
              clear c40
              obtain ⟨y189, hy189⟩ : ∃ y_ : List (S39), y_ = (qc ++ [(⟨((d0_ l0_1 x10_2).f0), x12_36⟩ : S39)]) := ⟨_, rfl⟩
              replace H : (if x12_36 < ((d0_ l0_1 x10_2).f1) then (if x8_2.length < 8796093022208 then (Wl0 kj36 a1 (x8_2 ++ [(⟨wrap64 (((d0_ l0_1 x10_2).f0) + x12_36), wrap64 (((d0_ l0_1 x10_2).f1) - x12_36)⟩ : S39)]) (wrap64 (x9_2 + ((d0_ l0_1 x10_2).f1))) (wrap64 (x10_2 + 1)) a0_0 l0_1 a0_0 y189) else (none)) else (Wl0 kj36 a1 x8_2 (wrap64 (x9_2 + ((d0_ l0_1 x10_2).f1))) (wrap64 (x10_2 + 1)) a0_0 l0_1 a0_0 y189)) = some (r1, r2, r3, r4) := by first | (rw [hy189]; with_reducible exact H) | (have H2_ := (Option.bind_some _ _).symm.trans H; rw [hy189]; with_reducible exact H2_) | (have H2_ := (Option.bind_some _ _).symm.trans H; with_reducible exact H2_) | with_reducible exact H | (rw [hy189]; exact H) | exact H
              have Ny189 := A0k hy189
              clear hy189
              by_cases c41 : x12_36 < ((d0_ l0_1 x10_2).f1)
              ·rw [if_pos c41] at H
               have c41b0 : decide (x12_36 < ((d0_ l0_1 x10_2).f1)) = true := decide_eq_true c41
               clear c41
               by_cases c42 : x8_2.length < 8796093022208
               ·rw [if_pos c42] at H
                have LMc42 := A0k c42
                clear c42
                obtain ⟨y192, hy192⟩ : ∃ y_ : List (S39), y_ = (x8_2 ++ [(⟨wrap64 (((d0_ l0_1 x10_2).f0) + x12_36), wrap64 (((d0_ l0_1 x10_2).f1) - x12_36)⟩ : S39)]) := ⟨_, rfl⟩
                replace H : (Wl0 kj36 a1 y192 (wrap64 (x9_2 + ((d0_ l0_1 x10_2).f1))) (wrap64 (x10_2 + 1)) a0_0 l0_1 a0_0 y189) = some (r1, r2, r3, r4) := by first | (rw [hy192]; with_reducible exact H) | (have H2_ := (Option.bind_some _ _).symm.trans H; rw [hy192]; with_reducible exact H2_) | (have H2_ := (Option.bind_some _ _).symm.trans H; with_reducible exact H2_) | with_reducible exact H | (rw [hy192]; exact H) | exact H
                have Ny192 := A0k hy192
                clear hy192
                have H' := A0k H
                clear H
                have hnb43 := NB186_181.out
                have hnc43 := NB181_186.out
                have hnb44 := NB186_182.out
                have hnc44 := NB182_186.out
                have hnb45 := NB186_188.out
                have hnc45 := NB188_186.out
                have hcz46_0 : wc.cell? ⟨gb186, 0, none⟩ = some (.int .i64 a0_0) := (bC BK186.out 0).trans rfl
                have hcz46_1 : wc.cell? ⟨gb186, 1, none⟩ = some (qb) := (bC BK186.out 1).trans rfl
                have hfz46_0 := bF BK186.out 0
                have hfz46_1 := bF BK186.out 1
                have hnb47 := NB188_181.out
                have hnc47 := NB181_188.out
                have hnb48 := NB188_182.out
                have hnc48 := NB182_188.out
                have hcz49_0 : wc.cell? ⟨gb188, 0, none⟩ = some (.int .i64 ((d0_ l0_1 x10_2).f0)) := (bC BK188.out 0).trans rfl
                have hcz49_1 : wc.cell? ⟨gb188, 1, none⟩ = some (.int .i64 ((d0_ l0_1 x10_2).f1)) := (bC BK188.out 1).trans rfl
                have hfz49_0 := bF BK188.out 0
                have hfz49_1 := bF BK188.out 1
                go_wp2_with (first | ((with_reducible refine gB (b := .append) (xs := #[.tmp 52, .tmp 57]) rfl ?_); (try (refine gG (by rfl) ?_; dsimp only)); at_builtin; refine Kd.R_append k39 (w0 := w) w.heap.size rfl (.tmp 52) (.tmp 57) 27 39 (.agg #[(.int .i64 0), (.int .i64 0)]) 16 rfl Tryd.underlying27 info39 rfl (by decide) (by omega) qb qc (⟨((d0_ l0_1 x10_2).f0), x12_36⟩ : S39) [.int .i64 ((d0_ l0_1 x10_2).f0), .int .i64 x12_36] (fun k_ => some k_ ≠ (u8 : Value).ownBlock ∧ k_ ≠ gb188) (fun _ => False) rfl rfl ?aP (fun _ hk => hk.elim) ?aF ?aO ?aB ?aS ?aL ?_; (case aP => exact k39_mkM _ _ _ (⟨((d0_ l0_1 x10_2).f0), x12_36⟩ : S39)); (case aB => exact (by repeat (first | (with_reducible first | exact HB.out | apply pA | apply pN | apply pD | refine bS ?_ GE181.out | refine bS ?_ GE182.out | refine bS ?_ GE186.out | refine bS ?_ GE188.out) | exact HB.out))); (case aF => exact (fun k_ hk => ⟨Kd.fresh' (Kd.R_lt (by (with_reducible repeat first | apply rA | apply rN | apply rD); exact HO_8.out)) k_ hk, Kd.freshB (g := gb188) (o := .cells #[.int .i64 ((d0_ l0_1 x10_2).f0), .int .i64 ((d0_ l0_1 x10_2).f1)] 39 (0, 0)) (by (with_reducible repeat first | apply bN | apply bD | apply bA); exact BK188.out) k_ hk⟩)); (case aO => exact (by (with_reducible repeat first | apply rA | apply rN | apply rD); exact qa.out)); (case aS => exact (pZ (by repeat (first | (with_reducible first | exact HB.out | apply pA | apply pN | apply pD | refine bS ?_ GE181.out | refine bS ?_ GE182.out | refine bS ?_ GE186.out | refine bS ?_ GE188.out) | exact HB.out)))); (case aL => have := LMc40.out; omega); intro v190 w50 ho hb hg hat; rw [← Ny189.out] at ho; have n0_ := A0k (Kd.R_after (ok := (fun k_ => k_ ≠ gb188)) (by (with_reducible repeat first | apply rA | apply rN | apply rD); exact Kd.R_mono HO_8.out (fun _ hk => ⟨hk.2, hk.1⟩)) hg hat); have n1_ := A0k (blk_grown (g := gb181) (o := .cells #[.int .i64 a0_0, .slice (some ad187) l0_1.length c0_1] 29 (0, 0)) (by (with_reducible repeat first | apply bN | apply bD | apply bA); exact BK181.out) hg (Kd.R_ne qa.out BK181.out (by decide))); have n2_ := A0k (blk_grown (g := gb182) (o := .cells #[.int .i64 0, .slice none 0 0] 29 (0, 0)) (by (with_reducible repeat first | apply bN | apply bD | apply bA); exact BK182.out) hg (Kd.R_ne qa.out BK182.out (by decide))); have n3_ := A0k (blk_grown (g := gb186) (o := .cells #[.int .i64 a0_0, qb] 29 (0, 0)) (by (with_reducible repeat first | apply bN | apply bD | apply bA); exact BK186.out) hg (Kd.R_ne qa.out BK186.out (by decide))); have n4_ := A0k (blk_grown (g := gb188) (o := .cells #[.int .i64 ((d0_ l0_1 x10_2).f0), .int .i64 ((d0_ l0_1 x10_2).f1)] 39 (0, 0)) (by (with_reducible repeat first | apply bN | apply bD | apply bA); exact BK188.out) hg (Kd.R_away qa.out (fun _ hk => hk.2))); have n5_ := A0k (hb); have n6_ := A0k (ho); clear HO_8 BK181 BK182 BK186 BK188 HB qa; have HO_8 := n0_; have BK181 := n1_; have BK182 := n2_; have BK186 := n3_; have BK188 := n4_; have HB := n5_; have HO191 := n6_; clear n0_ n1_ n2_ n3_ n4_ n5_ n6_ ho hb hg hat; obtain ⟨Ao51, co51, eo51⟩ := Kd.R_slice HO191.out; subst eo51; have hcz52_0 : w50.cell? ⟨gb186, 0, none⟩ = some (.int .i64 a0_0) := (bC BK186.out 0).trans rfl; have hcz52_1 : w50.cell? ⟨gb186, 1, none⟩ = some (qb) := (bC BK186.out 1).trans rfl; have hfz52_0 := bF BK186.out 0; have hfz52_1 := bF BK186.out 1; have hcz53_0 : w50.cell? ⟨gb188, 0, none⟩ = some (.int .i64 ((d0_ l0_1 x10_2).f0)) := (bC BK188.out 0).trans rfl; have hcz53_1 : w50.cell? ⟨gb188, 1, none⟩ = some (.int .i64 ((d0_ l0_1 x10_2).f1)) := (bC BK188.out 1).trans rfl; have hfz53_0 := bF BK188.out 0; have hfz53_1 := bF BK188.out 1) | ((with_reducible refine gB (b := .append) (xs := #[.tmp 64, .tmp 74]) rfl ?_); (try (refine gG (by rfl) ?_; dsimp only)); at_builtin; refine Kd.R_append k39 (w0 := w) w.heap.size rfl (.tmp 64) (.tmp 74) 27 39 (.agg #[(.int .i64 0), (.int .i64 0)]) 16 rfl Tryd.underlying27 info39 rfl (by decide) (by omega) u8 x8_2 (⟨wrap64 (((d0_ l0_1 x10_2).f0) + x12_36), wrap64 (((d0_ l0_1 x10_2).f1) - x12_36)⟩ : S39) [.int .i64 (wrap64 (((d0_ l0_1 x10_2).f0) + x12_36)), .int .i64 (wrap64 (((d0_ l0_1 x10_2).f1) - x12_36))] (fun k_ => some k_ ≠ (.slice Ao51 y189.length co51 : Value).ownBlock ∧ k_ ≠ gb188) (fun _ => False) rfl (by first | (go_simp; done) | (go_simp; rfl)) ?aP (fun _ hk => hk.elim) ?aF ?aO ?aB ?aS ?aL ?_; (case aP => exact k39_mkM _ _ _ (⟨wrap64 (((d0_ l0_1 x10_2).f0) + x12_36), wrap64 (((d0_ l0_1 x10_2).f1) - x12_36)⟩ : S39)); (case aB => exact (by repeat (first | (with_reducible first | exact HB.out | apply pA | apply pN | apply pD | refine bS ?_ GE181.out | refine bS ?_ GE182.out | refine bS ?_ GE186.out | refine bS ?_ GE188.out) | exact HB.out))); (case aF => exact (fun k_ hk => ⟨Kd.fresh' (Kd.R_lt (by (with_reducible repeat first | apply rA | apply rN | apply rD); exact (Kd.R_mono (Kd.R_far (p := ⟨gb186, 1, none⟩) (Kd.R_types HO191.out BK186.out (by decide)) (fun _ hk => hk.2) (.slice Ao51 y189.length co51)) (fun _ h_ => h_.1)))) k_ hk, Kd.freshB (g := gb188) (o := .cells #[.int .i64 ((d0_ l0_1 x10_2).f0), .int .i64 ((d0_ l0_1 x10_2).f1)] 39 (0, 0)) (by (with_reducible repeat first | apply bN | apply bD | apply bA); refine bR ?_ NB188_186.out _; (with_reducible repeat first | apply bN | apply bD | apply bA); exact BK188.out) k_ hk⟩)); (case aO => exact (by (with_reducible repeat first | apply rA | apply rN | apply rD); exact Kd.R_mono (Kd.R_far (p := ⟨gb186, 1, none⟩) (Kd.R_types HO_8.out BK186.out (by decide)) (fun _ hk => hk.2) (.slice Ao51 y189.length co51)) (fun _ hk => ⟨hk.1.2, hk.1.1⟩))); (case aS => exact (pZ (by repeat (first | (with_reducible first | exact HB.out | apply pA | apply pN | apply pD | refine bS ?_ GE181.out | refine bS ?_ GE182.out | refine bS ?_ GE186.out | refine bS ?_ GE188.out) | exact HB.out)))); (case aL => have := LMc42.out; omega); intro v193 w54 ho hb hg hat; rw [← Ny192.out] at ho; have n0_ := A0k (blk_grown (g := gb181) (o := .cells #[.int .i64 a0_0, .slice (some ad187) l0_1.length c0_1] 29 (0, 0)) (by (with_reducible repeat first | apply bN | apply bD | apply bA); refine bR ?_ NB181_186.out _; (with_reducible repeat first | apply bN | apply bD | apply bA); exact BK181.out) hg (Kd.R_ne HO_8.out BK181.out (by decide))); have n1_ := A0k (blk_grown (g := gb182) (o := .cells #[.int .i64 0, .slice none 0 0] 29 (0, 0)) (by (with_reducible repeat first | apply bN | apply bD | apply bA); refine bR ?_ NB182_186.out _; (with_reducible repeat first | apply bN | apply bD | apply bA); exact BK182.out) hg (Kd.R_ne HO_8.out BK182.out (by decide))); have n2_ := A0k (blk_grown (g := gb186) (o := .cells #[.int .i64 a0_0, .slice Ao51 y189.length co51] 29 (0, 0)) (by (with_reducible repeat first | apply bN | apply bD | apply bA); refine bP (cs := #[.int .i64 a0_0, qb]) ?_ 1 _ rfl; (with_reducible repeat first | apply bN | apply bD | apply bA); exact BK186.out) hg (Kd.R_ne HO_8.out BK186.out (by decide))); have n3_ := A0k (blk_grown (g := gb188) (o := .cells #[.int .i64 ((d0_ l0_1 x10_2).f0), .int .i64 ((d0_ l0_1 x10_2).f1)] 39 (0, 0)) (by (with_reducible repeat first | apply bN | apply bD | apply bA); refine bR ?_ NB188_186.out _; (with_reducible repeat first | apply bN | apply bD | apply bA); exact BK188.out) hg (Kd.R_away HO_8.out (fun _ hk => hk.1))); have n4_ := A0k (Kd.R_after (ok := (fun k_ => k_ ≠ gb188)) (by (with_reducible repeat first | apply rA | apply rN | apply rD); exact Kd.R_mono (Kd.R_far (p := ⟨gb186, 1, none⟩) (Kd.R_types HO191.out BK186.out (by decide)) (fun _ hk => hk.2) (.slice Ao51 y189.length co51)) (fun _ hk => ⟨hk.1.2, hk.1.1⟩)) hg hat); have n5_ := A0k (hb); have n6_ := A0k (ho); clear BK181 BK182 BK186 BK188 HO191 HB HO_8; have BK181 := n0_; have BK182 := n1_; have BK186 := n2_; have BK188 := n3_; have HO191 := n4_; have HB := n5_; have HO194 := n6_; clear n0_ n1_ n2_ n3_ n4_ n5_ n6_ ho hb hg hat; have hcz55_0 : w54.cell? ⟨gb188, 0, none⟩ = some (.int .i64 ((d0_ l0_1 x10_2).f0)) := (bC BK188.out 0).trans rfl; have hcz55_1 : w54.cell? ⟨gb188, 1, none⟩ = some (.int .i64 ((d0_ l0_1 x10_2).f1)) := (bC BK188.out 1).trans rfl; have hfz55_0 := bF BK188.out 0; have hfz55_1 := bF BK188.out 1))
                go_roundg kj36
                case measure => have := HJ2.out; have := HK2.out; have := HJ22.out; have := HJ36.out; omega
                case rel => exact ⟨(y192), (wrap64 (x9_2 + ((d0_ l0_1 x10_2).f1))), (wrap64 (x10_2 + 1)), (y189), (.slice Ao51 y189.length co51), (by first | rfl | (simp; done) | (simp [*]; done)), (by first | rfl | (simp; done) | (simp [*]; done)), H', ⟨by have := HJ2.out; have := HK2.out; have := HJ22.out; have := HJ36.out; omega⟩, ⟨by (with_reducible repeat first | apply rA | apply rN | apply rD); exact Kd.R_mono HO194.out (fun _ hk => hk.1)⟩, ⟨by (with_reducible repeat first | apply rA | apply rN | apply rD); exact Kd.R_mono HO191.out (fun _ hk => hk.2)⟩, ⟨by (with_reducible repeat first | apply bN | apply bD | apply bA); exact BK181.out⟩, ⟨by (with_reducible repeat first | apply bN | apply bD | apply bA); exact BK182.out⟩, ⟨by (with_reducible repeat first | apply bN | apply bD | apply bA); exact BK186.out⟩, ⟨by repeat (first | (with_reducible first | exact HB.out | apply pA | apply pN | apply pD | refine bS ?_ GE181.out | refine bS ?_ GE182.out | refine bS ?_ GE186.out | refine bS ?_ GE188.out) | exact HB.out)⟩⟩
               ·rw [if_neg c42] at H
                exact absurd H (by simp)
              ·rw [if_neg c41] at H
               have c41b0 : decide (x12_36 < ((d0_ l0_1 x10_2).f1)) = false := decide_eq_false c41
               clear c41
               have H' := A0k H
               clear H
               have hnb56 := NB186_181.out
               have hnc56 := NB181_186.out
               have hnb57 := NB186_182.out
               have hnc57 := NB182_186.out
               have hnb58 := NB186_188.out
               have hnc58 := NB188_186.out
               have hcz59_0 : wc.cell? ⟨gb186, 0, none⟩ = some (.int .i64 a0_0) := (bC BK186.out 0).trans rfl
               have hcz59_1 : wc.cell? ⟨gb186, 1, none⟩ = some (qb) := (bC BK186.out 1).trans rfl
               have hfz59_0 := bF BK186.out 0
               have hfz59_1 := bF BK186.out 1
               have hnb60 := NB188_181.out
               have hnc60 := NB181_188.out
               have hnb61 := NB188_182.out
               have hnc61 := NB182_188.out
               have hcz62_0 : wc.cell? ⟨gb188, 0, none⟩ = some (.int .i64 ((d0_ l0_1 x10_2).f0)) := (bC BK188.out 0).trans rfl
               have hcz62_1 : wc.cell? ⟨gb188, 1, none⟩ = some (.int .i64 ((d0_ l0_1 x10_2).f1)) := (bC BK188.out 1).trans rfl
               have hfz62_0 := bF BK188.out 0
               have hfz62_1 := bF BK188.out 1
               go_wp2_with (first | ((with_reducible refine gB (b := .append) (xs := #[.tmp 52, .tmp 57]) rfl ?_); (try (refine gG (by rfl) ?_; dsimp only)); at_builtin; refine Kd.R_append k39 (w0 := w) w.heap.size rfl (.tmp 52) (.tmp 57) 27 39 (.agg #[(.int .i64 0), (.int .i64 0)]) 16 rfl Tryd.underlying27 info39 rfl (by decide) (by omega) qb qc (⟨((d0_ l0_1 x10_2).f0), x12_36⟩ : S39) [.int .i64 ((d0_ l0_1 x10_2).f0), .int .i64 x12_36] (fun k_ => some k_ ≠ (u8 : Value).ownBlock ∧ k_ ≠ gb188) (fun _ => False) rfl rfl ?aP (fun _ hk => hk.elim) ?aF ?aO ?aB ?aS ?aL ?_; (case aP => exact k39_mkM _ _ _ (⟨((d0_ l0_1 x10_2).f0), x12_36⟩ : S39)); (case aB => exact (by repeat (first | (with_reducible first | exact HB.out | apply pA | apply pN | apply pD | refine bS ?_ GE181.out | refine bS ?_ GE182.out | refine bS ?_ GE186.out | refine bS ?_ GE188.out) | exact HB.out))); (case aF => exact (fun k_ hk => ⟨Kd.fresh' (Kd.R_lt (by (with_reducible repeat first | apply rA | apply rN | apply rD); exact HO_8.out)) k_ hk, Kd.freshB (g := gb188) (o := .cells #[.int .i64 ((d0_ l0_1 x10_2).f0), .int .i64 ((d0_ l0_1 x10_2).f1)] 39 (0, 0)) (by (with_reducible repeat first | apply bN | apply bD | apply bA); exact BK188.out) k_ hk⟩)); (case aO => exact (by (with_reducible repeat first | apply rA | apply rN | apply rD); exact qa.out)); (case aS => exact (pZ (by repeat (first | (with_reducible first | exact HB.out | apply pA | apply pN | apply pD | refine bS ?_ GE181.out | refine bS ?_ GE182.out | refine bS ?_ GE186.out | refine bS ?_ GE188.out) | exact HB.out)))); (case aL => have := LMc40.out; omega); intro v190 w63 ho hb hg hat; rw [← Ny189.out] at ho; have n0_ := A0k (Kd.R_after (ok := (fun k_ => k_ ≠ gb188)) (by (with_reducible repeat first | apply rA | apply rN | apply rD); exact Kd.R_mono HO_8.out (fun _ hk => ⟨hk.2, hk.1⟩)) hg hat); have n1_ := A0k (blk_grown (g := gb181) (o := .cells #[.int .i64 a0_0, .slice (some ad187) l0_1.length c0_1] 29 (0, 0)) (by (with_reducible repeat first | apply bN | apply bD | apply bA); exact BK181.out) hg (Kd.R_ne qa.out BK181.out (by decide))); have n2_ := A0k (blk_grown (g := gb182) (o := .cells #[.int .i64 0, .slice none 0 0] 29 (0, 0)) (by (with_reducible repeat first | apply bN | apply bD | apply bA); exact BK182.out) hg (Kd.R_ne qa.out BK182.out (by decide))); have n3_ := A0k (blk_grown (g := gb186) (o := .cells #[.int .i64 a0_0, qb] 29 (0, 0)) (by (with_reducible repeat first | apply bN | apply bD | apply bA); exact BK186.out) hg (Kd.R_ne qa.out BK186.out (by decide))); have n4_ := A0k (blk_grown (g := gb188) (o := .cells #[.int .i64 ((d0_ l0_1 x10_2).f0), .int .i64 ((d0_ l0_1 x10_2).f1)] 39 (0, 0)) (by (with_reducible repeat first | apply bN | apply bD | apply bA); exact BK188.out) hg (Kd.R_away qa.out (fun _ hk => hk.2))); have n5_ := A0k (hb); have n6_ := A0k (ho); clear HO_8 BK181 BK182 BK186 BK188 HB qa; have HO_8 := n0_; have BK181 := n1_; have BK182 := n2_; have BK186 := n3_; have BK188 := n4_; have HB := n5_; have HO191 := n6_; clear n0_ n1_ n2_ n3_ n4_ n5_ n6_ ho hb hg hat; obtain ⟨Ao64, co64, eo64⟩ := Kd.R_slice HO191.out; subst eo64; have hcz65_0 : w63.cell? ⟨gb186, 0, none⟩ = some (.int .i64 a0_0) := (bC BK186.out 0).trans rfl; have hcz65_1 : w63.cell? ⟨gb186, 1, none⟩ = some (qb) := (bC BK186.out 1).trans rfl; have hfz65_0 := bF BK186.out 0; have hfz65_1 := bF BK186.out 1; have hcz66_0 : w63.cell? ⟨gb188, 0, none⟩ = some (.int .i64 ((d0_ l0_1 x10_2).f0)) := (bC BK188.out 0).trans rfl; have hcz66_1 : w63.cell? ⟨gb188, 1, none⟩ = some (.int .i64 ((d0_ l0_1 x10_2).f1)) := (bC BK188.out 1).trans rfl; have hfz66_0 := bF BK188.out 0; have hfz66_1 := bF BK188.out 1))
               go_roundg kj36
               case measure => have := HJ2.out; have := HK2.out; have := HJ22.out; have := HJ36.out; omega
               case rel => exact ⟨(x8_2), (wrap64 (x9_2 + ((d0_ l0_1 x10_2).f1))), (wrap64 (x10_2 + 1)), (y189), (.slice Ao64 y189.length co64), (by first | rfl | (simp; done) | (simp [*]; done)), (by first | rfl | (simp; done) | (simp [*]; done)), H', ⟨by have := HJ2.out; have := HK2.out; have := HJ22.out; have := HJ36.out; omega⟩, ⟨by (with_reducible repeat first | apply rA | apply rN | apply rD); exact Kd.R_mono (Kd.R_far (p := ⟨gb186, 1, none⟩) (Kd.R_types HO_8.out BK186.out (by decide)) (fun _ hk => hk.2) (.slice Ao64 y189.length co64)) (fun _ hk => hk.1.2)⟩, ⟨by (with_reducible repeat first | apply rA | apply rN | apply rD); exact Kd.R_mono (Kd.R_far (p := ⟨gb186, 1, none⟩) (Kd.R_types HO191.out BK186.out (by decide)) (fun _ hk => hk.2) (.slice Ao64 y189.length co64)) (fun _ hk => hk.1.1)⟩, ⟨by (with_reducible repeat first | apply bN | apply bD | apply bA); refine bR ?_ NB181_186.out _; (with_reducible repeat first | apply bN | apply bD | apply bA); exact BK181.out⟩, ⟨by (with_reducible repeat first | apply bN | apply bD | apply bA); refine bR ?_ NB182_186.out _; (with_reducible repeat first | apply bN | apply bD | apply bA); exact BK182.out⟩, ⟨by (with_reducible repeat first | apply bN | apply bD | apply bA); refine bP (cs := #[.int .i64 a0_0, qb]) ?_ 1 _ rfl; (with_reducible repeat first | apply bN | apply bD | apply bA); exact BK186.out⟩, ⟨by repeat (first | (with_reducible first | exact HB.out | apply pA | apply pN | apply pD | refine bS ?_ GE181.out | refine bS ?_ GE182.out | refine bS ?_ GE186.out | refine bS ?_ GE188.out) | exact HB.out)⟩⟩
             ·rw [if_neg c40] at H
              exact absurd H (by simp)
            ·rw [if_neg c39] at H
             have c39b0 : decide (0 < x12_36) = false := decide_eq_false c39
             clear c39
             by_cases c67 : x12_36 < ((d0_ l0_1 x10_2).f1)
             ·rw [if_pos c67] at H
              have c67b0 : decide (x12_36 < ((d0_ l0_1 x10_2).f1)) = true := decide_eq_true c67
              clear c67
              by_cases c68 : x8_2.length < 8796093022208
              ·rw [if_pos c68] at H
               have LMc68 := A0k c68
               clear c68
               obtain ⟨y195, hy195⟩ : ∃ y_ : List (S39), y_ = (x8_2 ++ [(⟨wrap64 (((d0_ l0_1 x10_2).f0) + x12_36), wrap64 (((d0_ l0_1 x10_2).f1) - x12_36)⟩ : S39)]) := ⟨_, rfl⟩
               replace H : (Wl0 kj36 a1 y195 (wrap64 (x9_2 + ((d0_ l0_1 x10_2).f1))) (wrap64 (x10_2 + 1)) a0_0 l0_1 a0_0 qc) = some (r1, r2, r3, r4) := by first | (rw [hy195]; with_reducible exact H) | (have H2_ := (Option.bind_some _ _).symm.trans H; rw [hy195]; with_reducible exact H2_) | (have H2_ := (Option.bind_some _ _).symm.trans H; with_reducible exact H2_) | with_reducible exact H | (rw [hy195]; exact H) | exact H
               have Ny195 := A0k hy195
               clear hy195
               have H' := A0k H
               clear H
               have hnb69 := NB188_181.out
               have hnc69 := NB181_188.out
               have hnb70 := NB188_182.out
               have hnc70 := NB182_188.out
               have hnb71 := NB188_186.out
               have hnc71 := NB186_188.out
               have hcz72_0 : wc.cell? ⟨gb188, 0, none⟩ = some (.int .i64 ((d0_ l0_1 x10_2).f0)) := (bC BK188.out 0).trans rfl
               have hcz72_1 : wc.cell? ⟨gb188, 1, none⟩ = some (.int .i64 ((d0_ l0_1 x10_2).f1)) := (bC BK188.out 1).trans rfl
               have hfz72_0 := bF BK188.out 0
               have hfz72_1 := bF BK188.out 1
               go_wp2_with (first | ((with_reducible refine gB (b := .append) (xs := #[.tmp 64, .tmp 74]) rfl ?_); (try (refine gG (by rfl) ?_; dsimp only)); at_builtin; refine Kd.R_append k39 (w0 := w) w.heap.size rfl (.tmp 64) (.tmp 74) 27 39 (.agg #[(.int .i64 0), (.int .i64 0)]) 16 rfl Tryd.underlying27 info39 rfl (by decide) (by omega) u8 x8_2 (⟨wrap64 (((d0_ l0_1 x10_2).f0) + x12_36), wrap64 (((d0_ l0_1 x10_2).f1) - x12_36)⟩ : S39) [.int .i64 (wrap64 (((d0_ l0_1 x10_2).f0) + x12_36)), .int .i64 (wrap64 (((d0_ l0_1 x10_2).f1) - x12_36))] (fun k_ => some k_ ≠ (qb : Value).ownBlock ∧ k_ ≠ gb188) (fun _ => False) rfl rfl ?aP (fun _ hk => hk.elim) ?aF ?aO ?aB ?aS ?aL ?_; (case aP => exact k39_mkM _ _ _ (⟨wrap64 (((d0_ l0_1 x10_2).f0) + x12_36), wrap64 (((d0_ l0_1 x10_2).f1) - x12_36)⟩ : S39)); (case aB => exact (by repeat (first | (with_reducible first | exact HB.out | apply pA | apply pN | apply pD | refine bS ?_ GE181.out | refine bS ?_ GE182.out | refine bS ?_ GE186.out | refine bS ?_ GE188.out) | exact HB.out))); (case aF => exact (fun k_ hk => ⟨Kd.fresh' (Kd.R_lt (by (with_reducible repeat first | apply rA | apply rN | apply rD); exact qa.out)) k_ hk, Kd.freshB (g := gb188) (o := .cells #[.int .i64 ((d0_ l0_1 x10_2).f0), .int .i64 ((d0_ l0_1 x10_2).f1)] 39 (0, 0)) (by (with_reducible repeat first | apply bN | apply bD | apply bA); exact BK188.out) k_ hk⟩)); (case aO => exact (by (with_reducible repeat first | apply rA | apply rN | apply rD); exact HO_8.out)); (case aS => exact (pZ (by repeat (first | (with_reducible first | exact HB.out | apply pA | apply pN | apply pD | refine bS ?_ GE181.out | refine bS ?_ GE182.out | refine bS ?_ GE186.out | refine bS ?_ GE188.out) | exact HB.out)))); (case aL => have := LMc68.out; omega); intro v196 w73 ho hb hg hat; rw [← Ny195.out] at ho; have n0_ := A0k (Kd.R_after (ok := (fun k_ => k_ ≠ gb188)) (by (with_reducible repeat first | apply rA | apply rN | apply rD); exact Kd.R_mono qa.out (fun _ hk => ⟨hk.2, hk.1⟩)) hg hat); have n1_ := A0k (blk_grown (g := gb181) (o := .cells #[.int .i64 a0_0, .slice (some ad187) l0_1.length c0_1] 29 (0, 0)) (by (with_reducible repeat first | apply bN | apply bD | apply bA); exact BK181.out) hg (Kd.R_ne HO_8.out BK181.out (by decide))); have n2_ := A0k (blk_grown (g := gb182) (o := .cells #[.int .i64 0, .slice none 0 0] 29 (0, 0)) (by (with_reducible repeat first | apply bN | apply bD | apply bA); exact BK182.out) hg (Kd.R_ne HO_8.out BK182.out (by decide))); have n3_ := A0k (blk_grown (g := gb186) (o := .cells #[.int .i64 a0_0, qb] 29 (0, 0)) (by (with_reducible repeat first | apply bN | apply bD | apply bA); exact BK186.out) hg (Kd.R_ne HO_8.out BK186.out (by decide))); have n4_ := A0k (blk_grown (g := gb188) (o := .cells #[.int .i64 ((d0_ l0_1 x10_2).f0), .int .i64 ((d0_ l0_1 x10_2).f1)] 39 (0, 0)) (by (with_reducible repeat first | apply bN | apply bD | apply bA); exact BK188.out) hg (Kd.R_away HO_8.out (fun _ hk => hk.2))); have n5_ := A0k (hb); have n6_ := A0k (ho); clear qa BK181 BK182 BK186 BK188 HB HO_8; have qa := n0_; have BK181 := n1_; have BK182 := n2_; have BK186 := n3_; have BK188 := n4_; have HB := n5_; have HO197 := n6_; clear n0_ n1_ n2_ n3_ n4_ n5_ n6_ ho hb hg hat; have hcz74_0 : w73.cell? ⟨gb188, 0, none⟩ = some (.int .i64 ((d0_ l0_1 x10_2).f0)) := (bC BK188.out 0).trans rfl; have hcz74_1 : w73.cell? ⟨gb188, 1, none⟩ = some (.int .i64 ((d0_ l0_1 x10_2).f1)) := (bC BK188.out 1).trans rfl; have hfz74_0 := bF BK188.out 0; have hfz74_1 := bF BK188.out 1))
               go_roundg kj36
               case measure => have := HJ2.out; have := HK2.out; have := HJ22.out; have := HJ36.out; omega
               case rel => exact ⟨(y195), (wrap64 (x9_2 + ((d0_ l0_1 x10_2).f1))), (wrap64 (x10_2 + 1)), (qc), (qb), (by first | rfl | (simp; done) | (simp [*]; done)), (by first | rfl | (simp; done) | (simp [*]; done)), H', ⟨by have := HJ2.out; have := HK2.out; have := HJ22.out; have := HJ36.out; omega⟩, ⟨by (with_reducible repeat first | apply rA | apply rN | apply rD); exact Kd.R_mono HO197.out (fun _ hk => hk.1)⟩, ⟨by (with_reducible repeat first | apply rA | apply rN | apply rD); exact Kd.R_mono qa.out (fun _ hk => hk.2)⟩, ⟨by (with_reducible repeat first | apply bN | apply bD | apply bA); exact BK181.out⟩, ⟨by (with_reducible repeat first | apply bN | apply bD | apply bA); exact BK182.out⟩, ⟨by (with_reducible repeat first | apply bN | apply bD | apply bA); exact BK186.out⟩, ⟨by repeat (first | (with_reducible first | exact HB.out | apply pA | apply pN | apply pD | refine bS ?_ GE181.out | refine bS ?_ GE182.out | refine bS ?_ GE186.out | refine bS ?_ GE188.out) | exact HB.out)⟩⟩
              ·rw [if_neg c68] at H
               exact absurd H (by simp)
             ·rw [if_neg c67] at H
              have c67b0 : decide (x12_36 < ((d0_ l0_1 x10_2).f1)) = false := decide_eq_false c67
              clear c67
              have H' := A0k H
              clear H
              have hnb75 := NB188_181.out
              have hnc75 := NB181_188.out
              have hnb76 := NB188_182.out
              have hnc76 := NB182_188.out
              have hnb77 := NB188_186.out
              have hnc77 := NB186_188.out
              have hcz78_0 : wc.cell? ⟨gb188, 0, none⟩ = some (.int .i64 ((d0_ l0_1 x10_2).f0)) := (bC BK188.out 0).trans rfl
              have hcz78_1 : wc.cell? ⟨gb188, 1, none⟩ = some (.int .i64 ((d0_ l0_1 x10_2).f1)) := (bC BK188.out 1).trans rfl
              have hfz78_0 := bF BK188.out 0
              have hfz78_1 := bF BK188.out 1
              go_wp2
              go_roundg kj36
              case measure => have := HJ2.out; have := HK2.out; have := HJ22.out; have := HJ36.out; omega
              case rel => exact ⟨(x8_2), (wrap64 (x9_2 + ((d0_ l0_1 x10_2).f1))), (wrap64 (x10_2 + 1)), (qc), (qb), (by first | rfl | (simp; done) | (simp [*]; done)), (by first | rfl | (simp; done) | (simp [*]; done)), H', ⟨by have := HJ2.out; have := HK2.out; have := HJ22.out; have := HJ36.out; omega⟩, ⟨by (with_reducible repeat first | apply rA | apply rN | apply rD); exact Kd.R_mono HO_8.out (fun _ hk => hk.1)⟩, ⟨by (with_reducible repeat first | apply rA | apply rN | apply rD); exact Kd.R_mono qa.out (fun _ hk => hk.1)⟩, ⟨by (with_reducible repeat first | apply bN | apply bD | apply bA); exact BK181.out⟩, ⟨by (with_reducible repeat first | apply bN | apply bD | apply bA); exact BK182.out⟩, ⟨by (with_reducible repeat first | apply bN | apply bD | apply bA); exact BK186.out⟩, ⟨by repeat (first | (with_reducible first | exact HB.out | apply pA | apply pN | apply pD | refine bS ?_ GE181.out | refine bS ?_ GE182.out | refine bS ?_ GE186.out | refine bS ?_ GE188.out) | exact HB.out)⟩⟩
       ·rw [if_neg c22] at H
        exact absurd H (by simp)
      ·rw [if_neg c21] at H
       have c21b0 : decide (x10_2 < (l0_1.length : Int)) = false := decide_eq_false c21
       clear c21
       by_cases c79 : (x8_2.length : Int) > 0
       ·rw [if_pos c79] at H
        have c79b0 : decide (0 < (x8_2.length : Int)) = true := decide_eq_true c79
        have c79b1 : decide (0 < x8_2.length) = true := decide_eq_true (by omega)
        clear c79
        simp only [Option.some.injEq, Prod.mk.injEq] at H
        obtain ⟨rfl, rfl, rfl, rfl⟩ := H
        have hnb80 := NB181_182.out
        have hnc80 := NB182_181.out
        have hnb81 := NB181_186.out
        have hnc81 := NB186_181.out
        have hcz82_0 : wr.cell? ⟨gb181, 0, none⟩ = some (.int .i64 a0_0) := (bC BK181.out 0).trans rfl
        have hcz82_1 : wr.cell? ⟨gb181, 1, none⟩ = some (.slice A0_1 l0_1.length c0_1) := (bC BK181.out 1).trans rfl
        have hfz82_0 := bF BK181.out 0
        have hfz82_1 := bF BK181.out 1
        obtain ⟨Ao83, co83, eo83⟩ := Kd.R_slice HO_8.out
        subst eo83
        have hnb84 := NB186_182.out
        have hnc84 := NB182_186.out
        have hcz85_0 : wr.cell? ⟨gb186, 0, none⟩ = some (.int .i64 a0_0) := (bC BK186.out 0).trans rfl
        have hcz85_1 : wr.cell? ⟨gb186, 1, none⟩ = some (qb) := (bC BK186.out 1).trans rfl
        have hfz85_0 := bF BK186.out 0
        have hfz85_1 := bF BK186.out 1
        have hcz86_0 : wr.cell? ⟨gb182, 0, none⟩ = some (.int .i64 0) := (bC BK182.out 0).trans rfl
        have hcz86_1 : wr.cell? ⟨gb182, 1, none⟩ = some (.slice none 0 0) := (bC BK182.out 1).trans rfl
        have hfz86_0 := bF BK182.out 0
        have hfz86_1 := bF BK182.out 1
        obtain ⟨Ao87, co87, eo87⟩ := Kd.R_slice qa.out
        subst eo87
        go_wp2
        refine bodyPost_ret (results_ctt rfl _ _ gb182 29 #[.int .i64 (wrap64 (a0_0 + 1)), .slice Ao87 qc.length co87] (0, 0) _ rfl (by (with_reducible repeat first | apply bN | apply bD | apply bA); refine bP (cs := #[.int .i64 (wrap64 (a0_0 + 1)), .slice none 0 0]) ?_ 1 _ rfl; (with_reducible repeat first | apply bN | apply bD | apply bA); refine bP (cs := #[.int .i64 0, .slice none 0 0]) ?_ 0 _ rfl; (with_reducible repeat first | apply bN | apply bD | apply bA); refine bR ?_ NB182_186.out _; (with_reducible repeat first | apply bN | apply bD | apply bA); exact BK182.out) Tryd.underlying29 rfl (by kernel_rfl)) rfl ?_
        exact ⟨_, _, by first | rfl | (simp [errW_none, errW_some] <;> rfl) | (simp [*, errW_none, errW_some] <;> rfl), by (with_reducible repeat first | apply rA | apply rN | apply rD); exact Kd.R_mono (Kd.R_far (p := ⟨gb182, 1, none⟩) (Kd.R_far (p := ⟨gb182, 0, none⟩) (Kd.R_far (p := ⟨gb186, 0, none⟩) (Kd.R_types (Kd.R_types qa.out BK186.out (by decide)) BK182.out (by decide)) (fun _ hk => hk.1.2) (.int .i64 (wrap64 (a0_0 + 1)))) (fun _ hk => hk.2) (.int .i64 (wrap64 (a0_0 + 1)))) (fun _ hk => hk.2) (.slice Ao87 qc.length co87)) (fun _ hk => hk.1.1), by (with_reducible repeat first | apply rA | apply rN | apply rD); exact Kd.R_mono (Kd.R_far (p := ⟨gb182, 1, none⟩) (Kd.R_far (p := ⟨gb182, 0, none⟩) (Kd.R_far (p := ⟨gb186, 0, none⟩) (Kd.R_types (Kd.R_types HO_8.out BK186.out (by decide)) BK182.out (by decide)) (fun _ hk => hk.1.2) (.int .i64 (wrap64 (a0_0 + 1)))) (fun _ hk => hk.2) (.int .i64 (wrap64 (a0_0 + 1)))) (fun _ hk => hk.2) (.slice Ao87 qc.length co87)) (fun _ hk => hk.1.1), by repeat (first | (with_reducible first | exact HB.out | apply pA | apply pN | apply pD | refine bS ?_ GE181.out | refine bS ?_ GE182.out | refine bS ?_ GE186.out) | exact HB.out)⟩
       ·rw [if_neg c79] at H
        have c79b0 : decide (0 < (x8_2.length : Int)) = false := decide_eq_false c79
        have c79b1 : decide (0 < x8_2.length) = false := decide_eq_false (by omega)
        clear c79
        simp only [Option.some.injEq, Prod.mk.injEq] at H
        obtain ⟨rfl, rfl, rfl, rfl⟩ := H
        have hnb88 := NB181_182.out
        have hnc88 := NB182_181.out
        have hnb89 := NB181_186.out
        have hnc89 := NB186_181.out
        have hcz90_0 : wr.cell? ⟨gb181, 0, none⟩ = some (.int .i64 a0_0) := (bC BK181.out 0).trans rfl
        have hcz90_1 : wr.cell? ⟨gb181, 1, none⟩ = some (.slice A0_1 l0_1.length c0_1) := (bC BK181.out 1).trans rfl
        have hfz90_0 := bF BK181.out 0
        have hfz90_1 := bF BK181.out 1
        obtain ⟨Ao91, co91, eo91⟩ := Kd.R_slice HO_8.out
        subst eo91
        have hnb92 := NB186_182.out
        have hnc92 := NB182_186.out
        have hcz93_0 : wr.cell? ⟨gb186, 0, none⟩ = some (.int .i64 a0_0) := (bC BK186.out 0).trans rfl
        have hcz93_1 : wr.cell? ⟨gb186, 1, none⟩ = some (qb) := (bC BK186.out 1).trans rfl
        have hfz93_0 := bF BK186.out 0
        have hfz93_1 := bF BK186.out 1
        have hcz94_0 : wr.cell? ⟨gb182, 0, none⟩ = some (.int .i64 0) := (bC BK182.out 0).trans rfl
        have hcz94_1 : wr.cell? ⟨gb182, 1, none⟩ = some (.slice none 0 0) := (bC BK182.out 1).trans rfl
        have hfz94_0 := bF BK182.out 0
        have hfz94_1 := bF BK182.out 1
        obtain ⟨Ao95, co95, eo95⟩ := Kd.R_slice qa.out
        subst eo95
        go_wp2
        refine bodyPost_ret (results_ctt rfl _ _ gb182 29 #[.int .i64 a0_0, .slice Ao95 qc.length co95] (0, 0) _ rfl (by (with_reducible repeat first | apply bN | apply bD | apply bA); refine bP (cs := #[.int .i64 a0_0, .slice none 0 0]) ?_ 1 _ rfl; (with_reducible repeat first | apply bN | apply bD | apply bA); refine bP (cs := #[.int .i64 0, .slice none 0 0]) ?_ 0 _ rfl; (with_reducible repeat first | apply bN | apply bD | apply bA); exact BK182.out) Tryd.underlying29 rfl (by kernel_rfl)) rfl ?_
        exact ⟨_, _, by first | rfl | (simp [errW_none, errW_some] <;> rfl) | (simp [*, errW_none, errW_some] <;> rfl), by (with_reducible repeat first | apply rA | apply rN | apply rD); exact Kd.R_mono (Kd.R_far (p := ⟨gb182, 1, none⟩) (Kd.R_far (p := ⟨gb182, 0, none⟩) (Kd.R_types qa.out BK182.out (by decide)) (fun _ hk => hk.2) (.int .i64 a0_0)) (fun _ hk => hk.2) (.slice Ao95 qc.length co95)) (fun _ hk => hk.1), by (with_reducible repeat first | apply rA | apply rN | apply rD); exact Kd.R_mono (Kd.R_far (p := ⟨gb182, 1, none⟩) (Kd.R_far (p := ⟨gb182, 0, none⟩) (Kd.R_types HO_8.out BK182.out (by decide)) (fun _ hk => hk.2) (.int .i64 a0_0)) (fun _ hk => hk.2) (.slice Ao95 qc.length co95)) (fun _ hk => hk.1), by repeat (first | (with_reducible first | exact HB.out | apply pA | apply pN | apply pD | refine bS ?_ GE181.out | refine bS ?_ GE182.out | refine bS ?_ GE186.out) | exact HB.out)⟩

end Go.Proofs.YtmncfcebjohloaaDoor.VInodePlays
