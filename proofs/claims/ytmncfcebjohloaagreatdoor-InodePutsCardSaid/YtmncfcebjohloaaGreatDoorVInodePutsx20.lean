/- Contracts of functions of this seat: each call comes to what its Lean function computes; no condition beyond what each theorem states. Printed by a program of this session's own laid over the kit's printer. -/
import Derived.Test.YtmncfcebjohloaaGreatDoorVInodePutsx0
namespace Go.Proofs.YtmncfcebjohloaaGreatDoor.VInodePuts
open Go.RowKit Go.Proofs.YtmncfcebjohloaaGreatDoorW.PrintWords Go.Proofs.YtmncfcebjohloaaGreatDoorW.PrintLast Go.Proofs.YtmncfcebjohloaaGreatDoorW.PrintMore
attribute [local go_sem] max2_int min2_int max_two min_two max_three min_three max_four min_four   -- for this text's walks alone
open Go.Proofs.YtmncfcebjohloaaGreatDoorW.PrintWords.Kd renaming R_alloc → rA
open Go.Proofs.YtmncfcebjohloaaGreatDoorW.PrintWords.Kd renaming R_drewN → rN
open Go.Proofs.YtmncfcebjohloaaGreatDoorW.PrintWords.Kd renaming R_drew → rD
open List renaming setIfInBounds_toArray → lS, set_cons_zero → lZ, set_cons_succ → lC
open Go.Proofs.YtmncfcebjohloaaGreatDoorW.PrintWords renaming blk_drewN → bN, blk_drew → bD, blk_alloc → bA, below_set → bS, pw_below_drewN → pN, below_drew1 → pD, below_alloc → pA, below_step → pS, below_size → pZ, blk_frozen → bF, blk_cell → bC, blk_below → bB, blk_far → bR, blk_put → bP, blk_lt → bL, gate_dst → gD, gate_guard → gG, box_event → bE
open Go.Proofs.YtmncfcebjohloaaGreatDoorW.PrintWords.Aside0 renaming mk → A0k
set_option linter.unusedVariables false
set_option linter.unusedSimpArgs false

/-! ### posthorseref08_Right: function 11 -/
mutual
def posthorseref08_Right.j0 : Nat → Int → Bool → Int → List (S56) → Option (Bool)
 | 0, _, _, _, _ => none
 | k + 1, x1, x30, x186000, x186001 => if x30 = true then (some false) else (if 0 ≤ x1 then (if (x1 : Int).toNat ≤ 281474976710656 then (posthorseref08_Right.l0 k x1 (List.replicate (x1 : Int).toNat false) 0 x186000 x186001) else (none)) else (none))
def posthorseref08_Right.l0 : Nat → Int → List Bool → Int → Int → List (S56) → Option (Bool)
 | 0, _, _, _, _, _ => none
 | k + 1, x1, x5, x6, x186000, x186001 => if x6 < (x186001.length : Int) then (if 0 ≤ x6 then (if ((rd_T56 x186001 x6).f1) < 1 then (posthorseref08_Right.j2 k x1 x5 x6 true x186000 x186001 ((rd_T56 x186001 x6).f0) ((rd_T56 x186001 x6).f1)) else (if ((rd_T56 x186001 x6).f0) < 0 then (posthorseref08_Right.j2 k x1 x5 x6 true x186000 x186001 ((rd_T56 x186001 x6).f0) ((rd_T56 x186001 x6).f1)) else (if ((rd_T56 x186001 x6).f1) > x1 then (posthorseref08_Right.j2 k x1 x5 x6 true x186000 x186001 ((rd_T56 x186001 x6).f0) ((rd_T56 x186001 x6).f1)) else (posthorseref08_Right.j2 k x1 x5 x6 (decide (((rd_T56 x186001 x6).f0) > (wrap64 (x1 - ((rd_T56 x186001 x6).f1))))) x186000 x186001 ((rd_T56 x186001 x6).f0) ((rd_T56 x186001 x6).f1))))) else (none)) else (some true)
def posthorseref08_Right.j2 : Nat → Int → List Bool → Int → Bool → Int → List (S56) → Int → Int → Option (Bool)
 | 0, _, _, _, _, _, _, _, _ => none
 | k + 1, x1, x5, x6, x67, x186000, x186001, x191000, x191001 => if x67 = true then (some false) else (posthorseref08_Right.l1 k x1 x5 x6 x191000 x186000 x186001 x191000 x191001)
def posthorseref08_Right.l1 : Nat → Int → List Bool → Int → Int → Int → List (S56) → Int → Int → Option (Bool)
 | 0, _, _, _, _, _, _, _, _ => none
 | k + 1, x1, x5, x6, x8, x186000, x186001, x191000, x191001 => if x8 < (wrap64 (x191000 + x191001)) then (if 0 ≤ x8 then (if x8 < (x5.length : Int) then (if rdOf false x5 x8 = true then (some false) else (posthorseref08_Right.l1 k x1 (x5.set (x8 : Int).toNat true) x6 (wrap64 (x8 + 1)) x186000 x186001 x191000 x191001)) else (none)) else (none)) else (posthorseref08_Right.l0 k x1 x5 (wrap64 (x6 + 1)) x186000 x186001)
end
def posthorseref08_Right.f (k : Nat) (a0_0 : Int) (l0_1 : List (S56)) (a1 : Int) : Option (Bool) := if a1 < 1 then (posthorseref08_Right.j0 k a1 true a0_0 l0_1) else (if a1 > 2048 then (posthorseref08_Right.j0 k a1 true a0_0 l0_1) else (if a0_0 < 0 then (posthorseref08_Right.j0 k a1 true a0_0 l0_1) else (if a0_0 ≥ 281474976710656 then (posthorseref08_Right.j0 k a1 true a0_0 l0_1) else (posthorseref08_Right.j0 k a1 (decide ((l0_1.length : Int) > 36)) a0_0 l0_1))))
set_option maxRecDepth 100000 in
theorem posthorseref08_Right.mono_l : ∀ k, (∀ y0 y1 y2 y3, LeO (posthorseref08_Right.j0 k y0 y1 y2 y3) (posthorseref08_Right.j0 (k + 1) y0 y1 y2 y3)) ∧ (∀ y0 y1 y2 y3 y4, LeO (posthorseref08_Right.l0 k y0 y1 y2 y3 y4) (posthorseref08_Right.l0 (k + 1) y0 y1 y2 y3 y4)) ∧ (∀ y0 y1 y2 y3 y4 y5 y6 y7, LeO (posthorseref08_Right.j2 k y0 y1 y2 y3 y4 y5 y6 y7) (posthorseref08_Right.j2 (k + 1) y0 y1 y2 y3 y4 y5 y6 y7)) ∧ (∀ y0 y1 y2 y3 y4 y5 y6 y7, LeO (posthorseref08_Right.l1 k y0 y1 y2 y3 y4 y5 y6 y7) (posthorseref08_Right.l1 (k + 1) y0 y1 y2 y3 y4 y5 y6 y7))
 | 0 => ⟨fun _ _ _ _ r h => by first | (rw [posthorseref08_Right.j0] at h; cases h) | simp [posthorseref08_Right.j0] at h, fun _ _ _ _ _ r h => by first | (rw [posthorseref08_Right.l0] at h; cases h) | simp [posthorseref08_Right.l0] at h, fun _ _ _ _ _ _ _ _ r h => by first | (rw [posthorseref08_Right.j2] at h; cases h) | simp [posthorseref08_Right.j2] at h, fun _ _ _ _ _ _ _ _ r h => by first | (rw [posthorseref08_Right.l1] at h; cases h) | simp [posthorseref08_Right.l1] at h⟩
 | k + 1 => by
  obtain ⟨ih0, ih1, ih2, ih3⟩ := posthorseref08_Right.mono_l k
  refine ⟨?_, ?_, ?_, ?_⟩
  ·intro y0 y1 y2 y3
   unfold posthorseref08_Right.j0
   repeat' first
   | (with_reducible exact ih0 _ _ _ _)
   | (with_reducible exact ih1 _ _ _ _ _)
   | (with_reducible exact ih2 _ _ _ _ _ _ _ _)
   | (with_reducible exact ih3 _ _ _ _ _ _ _ _)
   | (with_reducible exact LeO.refl _)
   | (with_reducible exact LeO.none _)
   | (with_reducible refine LeO.ite ?_ ?_)
   | (with_reducible refine LeO.bind ?_ (fun _ => ?_))
   | exact ih0 _ _ _ _
   | exact ih1 _ _ _ _ _
   | exact ih2 _ _ _ _ _ _ _ _
   | exact ih3 _ _ _ _ _ _ _ _
   | exact LeO.none _
   | refine LeO.ite ?_ ?_
   | refine LeO.bind ?_ (fun _ => ?_)
  ·intro y0 y1 y2 y3 y4
   unfold posthorseref08_Right.l0
   repeat' first
   | (with_reducible exact ih0 _ _ _ _)
   | (with_reducible exact ih1 _ _ _ _ _)
   | (with_reducible exact ih2 _ _ _ _ _ _ _ _)
   | (with_reducible exact ih3 _ _ _ _ _ _ _ _)
   | (with_reducible exact LeO.refl _)
   | (with_reducible exact LeO.none _)
   | (with_reducible refine LeO.ite ?_ ?_)
   | (with_reducible refine LeO.bind ?_ (fun _ => ?_))
   | exact ih0 _ _ _ _
   | exact ih1 _ _ _ _ _
   | exact ih2 _ _ _ _ _ _ _ _
   | exact ih3 _ _ _ _ _ _ _ _
   | exact LeO.none _
   | refine LeO.ite ?_ ?_
   | refine LeO.bind ?_ (fun _ => ?_)
  ·intro y0 y1 y2 y3 y4 y5 y6 y7
   unfold posthorseref08_Right.j2
   repeat' first
   | (with_reducible exact ih0 _ _ _ _)
   | (with_reducible exact ih1 _ _ _ _ _)
   | (with_reducible exact ih2 _ _ _ _ _ _ _ _)
   | (with_reducible exact ih3 _ _ _ _ _ _ _ _)
   | (with_reducible exact LeO.refl _)
   | (with_reducible exact LeO.none _)
   | (with_reducible refine LeO.ite ?_ ?_)
   | (with_reducible refine LeO.bind ?_ (fun _ => ?_))
   | exact ih0 _ _ _ _
   | exact ih1 _ _ _ _ _
   | exact ih2 _ _ _ _ _ _ _ _
   | exact ih3 _ _ _ _ _ _ _ _
   | exact LeO.none _
   | refine LeO.ite ?_ ?_
   | refine LeO.bind ?_ (fun _ => ?_)
  ·intro y0 y1 y2 y3 y4 y5 y6 y7
   unfold posthorseref08_Right.l1
   repeat' first
   | (with_reducible exact ih0 _ _ _ _)
   | (with_reducible exact ih1 _ _ _ _ _)
   | (with_reducible exact ih2 _ _ _ _ _ _ _ _)
   | (with_reducible exact ih3 _ _ _ _ _ _ _ _)
   | (with_reducible exact LeO.refl _)
   | (with_reducible exact LeO.none _)
   | (with_reducible refine LeO.ite ?_ ?_)
   | (with_reducible refine LeO.bind ?_ (fun _ => ?_))
   | exact ih0 _ _ _ _
   | exact ih1 _ _ _ _ _
   | exact ih2 _ _ _ _ _ _ _ _
   | exact ih3 _ _ _ _ _ _ _ _
   | exact LeO.none _
   | refine LeO.ite ?_ ?_
   | refine LeO.bind ?_ (fun _ => ?_)
theorem posthorseref08_Right.mono : ∀ a0 a1 a2 k, LeO (posthorseref08_Right.f k a0 a1 a2) (posthorseref08_Right.f (k + 1) a0 a1 a2) := by
 intro a0 a1 a2 k
 obtain ⟨ih0, ih1, ih2, ih3⟩ := posthorseref08_Right.mono_l k
 unfold posthorseref08_Right.f
 repeat' first
   | (with_reducible exact ih0 _ _ _ _)
   | (with_reducible exact ih1 _ _ _ _ _)
   | (with_reducible exact ih2 _ _ _ _ _ _ _ _)
   | (with_reducible exact ih3 _ _ _ _ _ _ _ _)
   | (with_reducible exact LeO.refl _)
   | (with_reducible exact LeO.none _)
   | (with_reducible refine LeO.ite ?_ ?_)
   | (with_reducible refine LeO.bind ?_ (fun _ => ?_))
   | exact ih0 _ _ _ _
   | exact ih1 _ _ _ _ _
   | exact ih2 _ _ _ _ _ _ _ _
   | exact ih3 _ _ _ _ _ _ _ _
   | exact LeO.none _
   | refine LeO.ite ?_ ?_
   | refine LeO.bind ?_ (fun _ => ?_)
open Go.Proofs.YtmncfcebjohloaaGreatDoor.VInodePuts renaming rd_T56 → d0_
open posthorseref08_Right renaming j0 → Wj0, j2 → Wj2, l0 → Wl0, l1 → Wl1
set_option maxHeartbeats 8000000 in
set_option maxRecDepth 100000 in
theorem posthorseref08_Right.calls (k : Nat) (a0_0 : Int) (A0_1 : Option Addr) (c0_1 : Nat) (l0_1 : List (S56)) (a1 : Int) (r : Bool) (w : World) (hr0_1 : Kd.C k56 w A0_1 l0_1.length l0_1) (hc0_1 : l0_1.length ≤ c0_1) (h : posthorseref08_Right.f k a0_0 l0_1 a1 = some r) :
  Calls Tryz.prog 11 #[.agg #[.int .i64 a0_0, .slice A0_1 l0_1.length c0_1], .int .i64 a1] w fun e w' => e = .returned (.bool r) ∧ Below w.heap.size w w' := by
 have hu29 := Tryz.underlying29
 have hu56 := Tryz.underlying56
 have HR0_1 := A0k hr0_1
 have HC0_1 := A0k hc0_1
 clear hr0_1 hc0_1
 have HB := A0k (Below.refl w.heap.size w)
 have H : (if a1 < 1 then (Wj0 k a1 true a0_0 l0_1) else (if a1 > 2048 then (Wj0 k a1 true a0_0 l0_1) else (if a0_0 < 0 then (Wj0 k a1 true a0_0 l0_1) else (if a0_0 ≥ 281474976710656 then (Wj0 k a1 true a0_0 l0_1) else (Wj0 k a1 (decide ((l0_1.length : Int) > 36)) a0_0 l0_1))))) = some r := h
 clear h
 have HC3 := A0k H
 clear H
 go_enter Tryz.func11, Tryz.ntmps11
 go_upto_region 1 with (first | ((with_reducible refine gD (N := 2) rfl ?_); (try (refine gG (by rfl) ?_; dsimp only)); refine bE ?hg (N := 2) ?hd (cs := #[.int .i64 a0_0, .slice A0_1 l0_1.length c0_1]) (t := 29) ?hr ?_; (case hd => rfl); (case hg => rfl); (case hr => first | (go_simp; done) | (go_simp; rfl)); intro gb185 hg w4 hbox hb; have n0_ := A0k (pS (by repeat (first | (with_reducible first | exact HB.out | apply pA | apply pN | apply pD) | exact HB.out)) hb); have n1_ := A0k (hbox); have n2_ := A0k ((by rw [hg]; exact (pZ (by repeat (first | (with_reducible first | exact HB.out | apply pA | apply pN | apply pD) | exact HB.out))) : w.heap.size ≤ gb185)); have n3_ := A0k ((by rw [hg]; exact (pZ (by repeat (first | (with_reducible first | exact HB.out | apply pA | apply pN | apply pD) | exact HB.out))) : w.heap.size ≤ gb185)); clear HB; have HB := n0_; have BK185 := n1_; have GW185 := n2_; have GE185 := n3_; clear n0_ n1_ n2_ n3_ hb hbox hg))
 (try simp only [Act.put, lS, lZ, lC])
 go_cut [30] (fun v30 wc => ∃ (kq : Nat) (x30_2 : Bool), v30 = .bool x30_2 ∧ Aside0 (Wj0 kq a1 x30_2 a0_0 l0_1 = some r) ∧ Aside0 (kq ≤ k) ∧ Aside0 (wc.heap[gb185]? = some (.cells #[.int .i64 a0_0, (.slice A0_1 l0_1.length c0_1)] 29 (0, 0))) ∧ Aside0 (Below w.heap.size w wc))
 case first =>
  have H := HC3.out
  clear HC3
  by_cases c5 : a1 < 1
  ·rw [if_pos c5] at H
   have c5b0 : decide (a1 < 1) = true := decide_eq_true c5
   clear c5
   (first | rw [c5b0] | (simp only [i64_w, i32_w]; rw [c5b0]) | skip)
   have H' := A0k H
   clear H
   go_wp2
   go_meet
   case rel => exact ⟨_, (true), (by first | rfl | (simp; done) | (simp [*]; done)), H', ⟨by first | omega | exact Nat.le_refl _⟩, ⟨by (with_reducible repeat first | apply bN | apply bD | apply bA); exact BK185.out⟩, ⟨by repeat (first | (with_reducible first | exact HB.out | apply pA | apply pN | apply pD | refine bS ?_ GE185.out) | exact HB.out)⟩⟩
  ·rw [if_neg c5] at H
   have c5b0 : decide (a1 < 1) = false := decide_eq_false c5
   clear c5
   (first | rw [c5b0] | (simp only [i64_w, i32_w]; rw [c5b0]) | skip)
   by_cases c6 : a1 > 2048
   ·rw [if_pos c6] at H
    have c6b0 : decide (2048 < a1) = true := decide_eq_true c6
    clear c6
    have H' := A0k H
    clear H
    go_wp2
    go_meet
    case rel => exact ⟨_, (true), (by first | rfl | (simp; done) | (simp [*]; done)), H', ⟨by first | omega | exact Nat.le_refl _⟩, ⟨by (with_reducible repeat first | apply bN | apply bD | apply bA); exact BK185.out⟩, ⟨by repeat (first | (with_reducible first | exact HB.out | apply pA | apply pN | apply pD | refine bS ?_ GE185.out) | exact HB.out)⟩⟩
   ·rw [if_neg c6] at H
    have c6b0 : decide (2048 < a1) = false := decide_eq_false c6
    clear c6
    by_cases c7 : a0_0 < 0
    ·rw [if_pos c7] at H
     have c7b0 : decide (a0_0 < 0) = true := decide_eq_true c7
     clear c7
     have H' := A0k H
     clear H
     have hcz8_0 : w4.cell? ⟨gb185, 0, none⟩ = some (.int .i64 a0_0) := (bC BK185.out 0).trans rfl
     have hcz8_1 : w4.cell? ⟨gb185, 1, none⟩ = some (.slice A0_1 l0_1.length c0_1) := (bC BK185.out 1).trans rfl
     have hfz8_0 := bF BK185.out 0
     have hfz8_1 := bF BK185.out 1
     go_wp2
     go_meet
     case rel => exact ⟨_, (true), (by first | rfl | (simp; done) | (simp [*]; done)), H', ⟨by first | omega | exact Nat.le_refl _⟩, ⟨by (with_reducible repeat first | apply bN | apply bD | apply bA); exact BK185.out⟩, ⟨by repeat (first | (with_reducible first | exact HB.out | apply pA | apply pN | apply pD | refine bS ?_ GE185.out) | exact HB.out)⟩⟩
    ·rw [if_neg c7] at H
     have c7b0 : decide (a0_0 < 0) = false := decide_eq_false c7
     clear c7
     by_cases c9 : a0_0 ≥ 281474976710656
     ·rw [if_pos c9] at H
      have c9b0 : decide (281474976710656 ≤ a0_0) = true := decide_eq_true c9
      clear c9
      have H' := A0k H
      clear H
      have hcz10_0 : w4.cell? ⟨gb185, 0, none⟩ = some (.int .i64 a0_0) := (bC BK185.out 0).trans rfl
      have hcz10_1 : w4.cell? ⟨gb185, 1, none⟩ = some (.slice A0_1 l0_1.length c0_1) := (bC BK185.out 1).trans rfl
      have hfz10_0 := bF BK185.out 0
      have hfz10_1 := bF BK185.out 1
      go_wp2
      go_meet
      case rel => exact ⟨_, (true), (by first | rfl | (simp; done) | (simp [*]; done)), H', ⟨by first | omega | exact Nat.le_refl _⟩, ⟨by (with_reducible repeat first | apply bN | apply bD | apply bA); exact BK185.out⟩, ⟨by repeat (first | (with_reducible first | exact HB.out | apply pA | apply pN | apply pD | refine bS ?_ GE185.out) | exact HB.out)⟩⟩
     ·rw [if_neg c9] at H
      have c9b0 : decide (281474976710656 ≤ a0_0) = false := decide_eq_false c9
      clear c9
      have H' := A0k H
      clear H
      have hcz11_0 : w4.cell? ⟨gb185, 0, none⟩ = some (.int .i64 a0_0) := (bC BK185.out 0).trans rfl
      have hcz11_1 : w4.cell? ⟨gb185, 1, none⟩ = some (.slice A0_1 l0_1.length c0_1) := (bC BK185.out 1).trans rfl
      have hfz11_0 := bF BK185.out 0
      have hfz11_1 := bF BK185.out 1
      go_wp2
      go_meet
      case rel => exact ⟨_, (decide ((l0_1.length : Int) > 36)), (by first | rfl | (simp; done) | (simp [*]; done)), H', ⟨by first | omega | exact Nat.le_refl _⟩, ⟨by (with_reducible repeat first | apply bN | apply bD | apply bA); exact BK185.out⟩, ⟨by repeat (first | (with_reducible first | exact HB.out | apply pA | apply pN | apply pD | refine bS ?_ GE185.out) | exact HB.out)⟩⟩
 case rest =>
  clear HC3
  (try clear c1); (try clear p2); (try clear c5); (try clear c5b0); (try clear c6); (try clear c6b0); (try clear c7); (try clear c7b0); (try clear c9); (try clear c9b0); (try clear c11); (try clear hcz10_0); (try clear hcz10_1); (try clear hcz11_0); (try clear hcz11_1); (try clear hcz8_0); (try clear hcz8_1); (try clear hfz10_0); (try clear hfz10_1); (try clear hfz11_0); (try clear hfz11_1); (try clear hfz8_0); (try clear hfz8_1)
  obtain ⟨kq, x30_2, rfl, HA, HJ2, BK185, HB⟩ := hcut
  cases kq with
  | zero => exact absurd HA.out (by simp [Wj0])
  | succ kj2 =>
   have H := HA.out
   clear HA
   simp only [Wj0] at H
   by_cases c12 : x30_2 = true
   ·subst c12
    have H1 : (some false) = some r := by rw [if_pos rfl] at H; exact H
    clear H
    have H := H1
    clear H1
    obtain rfl := Option.some.inj H
    go_wp2
    go_ret
    exact ⟨by first | rfl | (simp [errW_none, errW_some] <;> rfl) | (simp [*, errW_none, errW_some] <;> rfl), by repeat (first | (with_reducible first | exact HB.out | apply pA | apply pN | apply pD | refine bS ?_ GE185.out) | exact HB.out)⟩
   ·replace c12 := Bool.eq_false_iff.mpr c12
    subst c12
    have H1 : (if 0 ≤ a1 then (if (a1 : Int).toNat ≤ 281474976710656 then (Wl0 kj2 a1 (List.replicate (a1 : Int).toNat false) 0 a0_0 l0_1) else (none)) else (none)) = some r := by rw [if_neg (show ¬ (false = true) by decide)] at H; exact H
    clear H
    have H := H1
    clear H1
    by_cases c13 : 0 ≤ a1
    ·rw [if_pos c13] at H
     have c13b0 := eq_true c13
     try (have c13sa0 := c13b0; simp only [ByteArray.size_append, Int.natCast_add] at c13sa0)
     have c13b1 : decide (0 ≤ a1) = true := decide_eq_true c13
     clear c13
     by_cases c14 : (a1 : Int).toNat ≤ 281474976710656
     ·rw [if_pos c14] at H
      have c14b0 := eq_true c14
      try (have c14sa0 := c14b0; simp only [ByteArray.size_append, Int.natCast_add] at c14sa0)
      have c14b1 : decide ((a1 : Int).toNat ≤ 281474976710656) = true := decide_eq_true c14
      clear c14
      obtain ⟨y186, hy186⟩ : ∃ y_ : List Bool, y_ = (List.replicate (a1 : Int).toNat false) := ⟨_, rfl⟩
      replace H : (Wl0 kj2 a1 y186 0 a0_0 l0_1) = some r := by first | (rw [hy186]; with_reducible exact H) | (have H2_ := (Option.bind_some _ _).symm.trans H; rw [hy186]; with_reducible exact H2_) | (have H2_ := (Option.bind_some _ _).symm.trans H; with_reducible exact H2_) | with_reducible exact H | (rw [hy186]; exact H) | exact H
      have Ny186 := A0k hy186
      clear hy186
      have H' := A0k H
      clear H
      go_wp2_with (first | ((with_reducible refine gD (N := 32) rfl ?_); (try (refine gG (by rfl) ?_; dsimp only)); refine Kd.R_make Kd.bool _ 4 rfl (N := 32) rfl 72 _ _ rfl a1 rfl rfl Tryz.underlying72 (.bool false) 1 info4 rfl (by decide) (by omega) false (ok := fun _ => True) (okp := fun _ => True) rfl (fun _ hk => hk) trivial (of_decide_eq_true (by first | (with_reducible assumption) | assumption)) (Nat.le_trans (Nat.mul_le_mul_right _ (of_decide_eq_true (by first | (with_reducible assumption) | assumption) : a1.toNat ≤ 281474976710656)) (by omega)) (Below.refl _ _) (Nat.le_refl _) ?_; intro v187 w15 ho16 hb hg_ hnew_; clear hg_ hnew_; (first | rw [← Ny186.out] at ho16 | (simp only [Int.reduceToNat] at ho16; rw [← Ny186.out] at ho16)); have n0_ := A0k (Kd.R_lower ho16 (pZ (by repeat (first | (with_reducible first | exact HB.out | apply pA | apply pN | apply pD | refine bS ?_ GE185.out) | exact HB.out)))); have n1_ := A0k (bB (g := gb185) (o := .cells #[.int .i64 a0_0, .slice A0_1 l0_1.length c0_1] 29 (0, 0)) (by (with_reducible repeat first | apply bN | apply bD | apply bA); exact BK185.out) hb); have n2_ := A0k (pS (by repeat (first | (with_reducible first | exact HB.out | apply pA | apply pN | apply pD | refine bS ?_ GE185.out) | exact HB.out)) hb); clear BK185 HB; have HO188 := n0_; have BK185 := n1_; have HB := n2_; clear n0_ n1_ n2_ hb ho16))
      go_loopg [6] kj2 (fun kq v6 w' => ∃ (x5_2 : List Bool) (x6_2 : Int), v6 = .int .i64 x6_2 ∧ Aside0 (Wl0 kq a1 x5_2 x6_2 a0_0 l0_1 = some r) ∧ Aside0 (kq ≤ kj2) ∧ Aside0 (Kd.R Kd.bool 4 w' w.heap.size (fun _ => True) v187 x5_2) ∧ Aside0 (w'.heap[gb185]? = some (.cells #[.int .i64 a0_0, (.slice A0_1 l0_1.length c0_1)] 29 (0, 0))) ∧ Aside0 (Below w.heap.size w w'))
      case atStart => exact ⟨(y186), (0), (by first | rfl | (simp; done) | (simp [*]; done)), H', ⟨Nat.le_refl _⟩, ⟨by (with_reducible repeat first | apply rA | apply rN | apply rD); exact HO188.out⟩, ⟨by (with_reducible repeat first | apply bN | apply bD | apply bA); exact BK185.out⟩, ⟨by repeat (first | (with_reducible first | exact HB.out | apply pA | apply pN | apply pD | refine bS ?_ GE185.out) | exact HB.out)⟩⟩
      case round =>
       clear H'
       (try clear c1); (try clear p2); (try clear c5); (try clear c5b0); (try clear c6); (try clear c6b0); (try clear c7); (try clear c7b0); (try clear c9); (try clear c9b0); (try clear c11); (try clear c12); (try clear c13); (try clear c13b0); (try clear c13b1); (try clear c14); (try clear c14b0); (try clear c14b1); (try clear hcz10_0); (try clear hcz10_1); (try clear hcz11_0); (try clear hcz11_1); (try clear hcz8_0); (try clear hcz8_1); (try clear hfz10_0); (try clear hfz10_1); (try clear hfz11_0); (try clear hfz11_1); (try clear hfz8_0); (try clear hfz8_1); (try clear p2)
       obtain ⟨x5_2, x6_2, rfl, HA, HK2, HO_5, BK185, HB⟩ := hrel
       cases gk with
       | zero => exact absurd HA.out (by simp [Wl0])
       | succ k2 =>
        have H := HA.out
        clear HA
        simp only [Wl0] at H
        by_cases c17 : x6_2 < (l0_1.length : Int)
        ·rw [if_pos c17] at H
         have c17b0 : decide (x6_2 < (l0_1.length : Int)) = true := decide_eq_true c17
         clear c17
         by_cases c18 : 0 ≤ x6_2
         ·rw [if_pos c18] at H
          have c18b0 : decide (0 ≤ x6_2) = true := decide_eq_true c18
          clear c18
          have HC19 := A0k H
          clear H
          have hcz20_0 : wr.cell? ⟨gb185, 0, none⟩ = some (.int .i64 a0_0) := (bC BK185.out 0).trans rfl
          have hcz20_1 : wr.cell? ⟨gb185, 1, none⟩ = some (.slice A0_1 l0_1.length c0_1) := (bC BK185.out 1).trans rfl
          have hfz20_0 := bF BK185.out 0
          have hfz20_1 := bF BK185.out 1
          have p189 : 0 ≤ (x6_2 : Int) := of_decide_eq_true (by first | (with_reducible assumption) | assumption)
          have q189 : x6_2 < (l0_1.length : Int) := of_decide_eq_true (by first | (with_reducible assumption) | assumption)
          obtain ⟨ad189, e189, hx189_0, hx189_1⟩ := at_T56 HR0_1.out x6_2 p189 q189
          cases e189
          replace hx189_0 := (HB.out.cell (World.block_lt_of_cell? w _ hx189_0)).trans hx189_0
          replace hx189_1 := (HB.out.cell (World.block_lt_of_cell? w _ hx189_1)).trans hx189_1
          replace p189 := eq_true p189
          replace q189 := eq_true q189
          go_upto_region 8 with (first | ((with_reducible refine gD (N := 7) rfl ?_); (try (refine gG (by rfl) ?_; dsimp only)); refine bE ?hg (N := 7) ?hd (cs := #[.int .i64 0, .int .i64 0]) (t := 56) ?hr ?_; (case hd => rfl); (case hg => rfl); (case hr => first | (go_simp; done) | (go_simp; rfl)); intro gb190 hg w21 hbox hb; have n0_ := A0k (Kd.R_below (by (with_reducible repeat first | apply rA | apply rN | apply rD); exact HO_5.out) hb); have n1_ := A0k (bB (g := gb185) (o := .cells #[.int .i64 a0_0, .slice (some ad189) l0_1.length c0_1] 29 (0, 0)) (by (with_reducible repeat first | apply bN | apply bD | apply bA); exact BK185.out) hb); have n2_ := A0k (pS (by repeat (first | (with_reducible first | exact HB.out | apply pA | apply pN | apply pD | refine bS ?_ GE185.out) | exact HB.out)) hb); have n3_ := A0k (hbox); have n4_ := A0k ((by rw [hg]; exact (pZ (by repeat (first | (with_reducible first | exact HB.out | apply pA | apply pN | apply pD | refine bS ?_ GE185.out) | exact HB.out))) : w.heap.size ≤ gb190)); have n5_ := A0k ((by rw [hg]; exact (pZ (by repeat (first | (with_reducible first | exact HB.out | apply pA | apply pN | apply pD | refine bS ?_ GE185.out) | exact HB.out))) : w.heap.size ≤ gb190)); have n6_ := A0k ((by rw [hg]; exact Nat.ne_of_lt (bL (g := gb185) (o := .cells #[.int .i64 a0_0, .slice (some ad189) l0_1.length c0_1] 29 (0, 0)) (by (with_reducible repeat first | apply bN | apply bD | apply bA); exact BK185.out)) : gb185 ≠ gb190)); have n7_ := A0k ((by rw [hg]; exact Nat.ne_of_gt (bL (g := gb185) (o := .cells #[.int .i64 a0_0, .slice (some ad189) l0_1.length c0_1] 29 (0, 0)) (by (with_reducible repeat first | apply bN | apply bD | apply bA); exact BK185.out)) : gb190 ≠ gb185)); clear HO_5 BK185 HB; have HO_5 := n0_; have BK185 := n1_; have HB := n2_; have BK190 := n3_; have GW190 := n4_; have GE190 := n5_; have NB185_190 := n6_; have NB190_185 := n7_; clear n0_ n1_ n2_ n3_ n4_ n5_ n6_ n7_ hb hbox hg; have hnb22 := NB190_185.out; have hnc22 := NB185_190.out; have hcz23_0 : w21.cell? ⟨gb190, 0, none⟩ = some (.int .i64 0) := (bC BK190.out 0).trans rfl; have hcz23_1 : w21.cell? ⟨gb190, 1, none⟩ = some (.int .i64 0) := (bC BK190.out 1).trans rfl; have hfz23_0 := bF BK190.out 0; have hfz23_1 := bF BK190.out 1))
          (try simp only [Act.put, lS, lZ, lC])
          go_cut [67] (fun v67 wc => ∃ (kq : Nat) (x67_18 : Bool), v67 = .bool x67_18 ∧ Aside0 (Wj2 kq a1 x5_2 x6_2 x67_18 a0_0 l0_1 ((d0_ l0_1 x6_2).f0) ((d0_ l0_1 x6_2).f1) = some r) ∧ Aside0 (kq ≤ k2) ∧ Aside0 (Kd.R Kd.bool 4 wc w.heap.size (fun _ => True) v187 x5_2) ∧ Aside0 (wc.heap[gb185]? = some (.cells #[.int .i64 a0_0, (.slice (some ad189) l0_1.length c0_1)] 29 (0, 0))) ∧ Aside0 (wc.heap[gb190]? = some (.cells #[.int .i64 ((d0_ l0_1 x6_2).f0), .int .i64 ((d0_ l0_1 x6_2).f1)] 56 (0, 0))) ∧ Aside0 (Below w.heap.size w wc))
          case first =>
           have H := HC19.out
           clear HC19
           by_cases c24 : ((d0_ l0_1 x6_2).f1) < 1
           ·rw [if_pos c24] at H
            have c24b0 : decide (((d0_ l0_1 x6_2).f1) < 1) = true := decide_eq_true c24
            clear c24
            (first | rw [c24b0] | (simp only [i64_w, i32_w]; rw [c24b0]) | skip)
            have H' := A0k H
            clear H
            have hnb25 := NB190_185.out
            have hnc25 := NB185_190.out
            have hcz26_0 : w21.cell? ⟨gb190, 0, none⟩ = some (.int .i64 0) := (bC BK190.out 0).trans rfl
            have hcz26_1 : w21.cell? ⟨gb190, 1, none⟩ = some (.int .i64 0) := (bC BK190.out 1).trans rfl
            have hfz26_0 := bF BK190.out 0
            have hfz26_1 := bF BK190.out 1
            go_wp2
            go_meet
            case rel => exact ⟨_, (true), (by first | rfl | (simp; done) | (simp [*]; done)), H', ⟨by have := HJ2.out; have := HK2.out; first | omega | exact Nat.le_refl _⟩, ⟨by (with_reducible repeat first | apply rA | apply rN | apply rD); exact Kd.R_mono (Kd.R_far (p := ⟨gb190, 1, none⟩) (Kd.R_far (p := ⟨gb190, 0, none⟩) (Kd.R_types HO_5.out BK190.out (by decide)) (fun _ hk => hk.2) (.int .i64 ((d0_ l0_1 x6_2).f0))) (fun _ hk => hk.2) (.int .i64 ((d0_ l0_1 x6_2).f1))) (fun _ hk => trivial)⟩, ⟨by (with_reducible repeat first | apply bN | apply bD | apply bA); refine bR ?_ NB185_190.out _; (with_reducible repeat first | apply bN | apply bD | apply bA); refine bR ?_ NB185_190.out _; (with_reducible repeat first | apply bN | apply bD | apply bA); exact BK185.out⟩, ⟨by (with_reducible repeat first | apply bN | apply bD | apply bA); refine bP (cs := #[.int .i64 ((d0_ l0_1 x6_2).f0), .int .i64 0]) ?_ 1 _ rfl; (with_reducible repeat first | apply bN | apply bD | apply bA); refine bP (cs := #[.int .i64 0, .int .i64 0]) ?_ 0 _ rfl; (with_reducible repeat first | apply bN | apply bD | apply bA); exact BK190.out⟩, ⟨by repeat (first | (with_reducible first | exact HB.out | apply pA | apply pN | apply pD | refine bS ?_ GE185.out | refine bS ?_ GE190.out) | exact HB.out)⟩⟩
           ·rw [if_neg c24] at H
            have c24b0 : decide (((d0_ l0_1 x6_2).f1) < 1) = false := decide_eq_false c24
            clear c24
            (first | rw [c24b0] | (simp only [i64_w, i32_w]; rw [c24b0]) | skip)
            by_cases c27 : ((d0_ l0_1 x6_2).f0) < 0
            ·rw [if_pos c27] at H
             have c27b0 : decide (((d0_ l0_1 x6_2).f0) < 0) = true := decide_eq_true c27
             clear c27
             have H' := A0k H
             clear H
             have hnb28 := NB190_185.out
             have hnc28 := NB185_190.out
             have hcz29_0 : w21.cell? ⟨gb190, 0, none⟩ = some (.int .i64 0) := (bC BK190.out 0).trans rfl
             have hcz29_1 : w21.cell? ⟨gb190, 1, none⟩ = some (.int .i64 0) := (bC BK190.out 1).trans rfl
             have hfz29_0 := bF BK190.out 0
             have hfz29_1 := bF BK190.out 1
             go_wp2
             go_meet
             case rel => exact ⟨_, (true), (by first | rfl | (simp; done) | (simp [*]; done)), H', ⟨by have := HJ2.out; have := HK2.out; first | omega | exact Nat.le_refl _⟩, ⟨by (with_reducible repeat first | apply rA | apply rN | apply rD); exact Kd.R_mono (Kd.R_far (p := ⟨gb190, 1, none⟩) (Kd.R_far (p := ⟨gb190, 0, none⟩) (Kd.R_types HO_5.out BK190.out (by decide)) (fun _ hk => hk.2) (.int .i64 ((d0_ l0_1 x6_2).f0))) (fun _ hk => hk.2) (.int .i64 ((d0_ l0_1 x6_2).f1))) (fun _ hk => trivial)⟩, ⟨by (with_reducible repeat first | apply bN | apply bD | apply bA); refine bR ?_ NB185_190.out _; (with_reducible repeat first | apply bN | apply bD | apply bA); refine bR ?_ NB185_190.out _; (with_reducible repeat first | apply bN | apply bD | apply bA); exact BK185.out⟩, ⟨by (with_reducible repeat first | apply bN | apply bD | apply bA); refine bP (cs := #[.int .i64 ((d0_ l0_1 x6_2).f0), .int .i64 0]) ?_ 1 _ rfl; (with_reducible repeat first | apply bN | apply bD | apply bA); refine bP (cs := #[.int .i64 0, .int .i64 0]) ?_ 0 _ rfl; (with_reducible repeat first | apply bN | apply bD | apply bA); exact BK190.out⟩, ⟨by repeat (first | (with_reducible first | exact HB.out | apply pA | apply pN | apply pD | refine bS ?_ GE185.out | refine bS ?_ GE190.out) | exact HB.out)⟩⟩
            ·rw [if_neg c27] at H
             have c27b0 : decide (((d0_ l0_1 x6_2).f0) < 0) = false := decide_eq_false c27
             clear c27
             by_cases c30 : ((d0_ l0_1 x6_2).f1) > a1
             ·rw [if_pos c30] at H
              have c30b0 : decide (a1 < ((d0_ l0_1 x6_2).f1)) = true := decide_eq_true c30
              clear c30
              have H' := A0k H
              clear H
              have hnb31 := NB190_185.out
              have hnc31 := NB185_190.out
              have hcz32_0 : w21.cell? ⟨gb190, 0, none⟩ = some (.int .i64 0) := (bC BK190.out 0).trans rfl
              have hcz32_1 : w21.cell? ⟨gb190, 1, none⟩ = some (.int .i64 0) := (bC BK190.out 1).trans rfl
              have hfz32_0 := bF BK190.out 0
              have hfz32_1 := bF BK190.out 1
              go_wp2
              go_meet
              case rel => exact ⟨_, (true), (by first | rfl | (simp; done) | (simp [*]; done)), H', ⟨by have := HJ2.out; have := HK2.out; first | omega | exact Nat.le_refl _⟩, ⟨by (with_reducible repeat first | apply rA | apply rN | apply rD); exact Kd.R_mono (Kd.R_far (p := ⟨gb190, 1, none⟩) (Kd.R_far (p := ⟨gb190, 0, none⟩) (Kd.R_types HO_5.out BK190.out (by decide)) (fun _ hk => hk.2) (.int .i64 ((d0_ l0_1 x6_2).f0))) (fun _ hk => hk.2) (.int .i64 ((d0_ l0_1 x6_2).f1))) (fun _ hk => trivial)⟩, ⟨by (with_reducible repeat first | apply bN | apply bD | apply bA); refine bR ?_ NB185_190.out _; (with_reducible repeat first | apply bN | apply bD | apply bA); refine bR ?_ NB185_190.out _; (with_reducible repeat first | apply bN | apply bD | apply bA); exact BK185.out⟩, ⟨by (with_reducible repeat first | apply bN | apply bD | apply bA); refine bP (cs := #[.int .i64 ((d0_ l0_1 x6_2).f0), .int .i64 0]) ?_ 1 _ rfl; (with_reducible repeat first | apply bN | apply bD | apply bA); refine bP (cs := #[.int .i64 0, .int .i64 0]) ?_ 0 _ rfl; (with_reducible repeat first | apply bN | apply bD | apply bA); exact BK190.out⟩, ⟨by repeat (first | (with_reducible first | exact HB.out | apply pA | apply pN | apply pD | refine bS ?_ GE185.out | refine bS ?_ GE190.out) | exact HB.out)⟩⟩
             ·rw [if_neg c30] at H
              have c30b0 : decide (a1 < ((d0_ l0_1 x6_2).f1)) = false := decide_eq_false c30
              clear c30
              have H' := A0k H
              clear H
              have hnb33 := NB190_185.out
              have hnc33 := NB185_190.out
              have hcz34_0 : w21.cell? ⟨gb190, 0, none⟩ = some (.int .i64 0) := (bC BK190.out 0).trans rfl
              have hcz34_1 : w21.cell? ⟨gb190, 1, none⟩ = some (.int .i64 0) := (bC BK190.out 1).trans rfl
              have hfz34_0 := bF BK190.out 0
              have hfz34_1 := bF BK190.out 1
              go_wp2
              go_meet
              case rel => exact ⟨_, (decide (((d0_ l0_1 x6_2).f0) > (wrap64 (a1 - ((d0_ l0_1 x6_2).f1))))), (by first | rfl | (simp; done) | (simp [*]; done)), H', ⟨by have := HJ2.out; have := HK2.out; first | omega | exact Nat.le_refl _⟩, ⟨by (with_reducible repeat first | apply rA | apply rN | apply rD); exact Kd.R_mono (Kd.R_far (p := ⟨gb190, 1, none⟩) (Kd.R_far (p := ⟨gb190, 0, none⟩) (Kd.R_types HO_5.out BK190.out (by decide)) (fun _ hk => hk.2) (.int .i64 ((d0_ l0_1 x6_2).f0))) (fun _ hk => hk.2) (.int .i64 ((d0_ l0_1 x6_2).f1))) (fun _ hk => trivial)⟩, ⟨by (with_reducible repeat first | apply bN | apply bD | apply bA); refine bR ?_ NB185_190.out _; (with_reducible repeat first | apply bN | apply bD | apply bA); refine bR ?_ NB185_190.out _; (with_reducible repeat first | apply bN | apply bD | apply bA); exact BK185.out⟩, ⟨by (with_reducible repeat first | apply bN | apply bD | apply bA); refine bP (cs := #[.int .i64 ((d0_ l0_1 x6_2).f0), .int .i64 0]) ?_ 1 _ rfl; (with_reducible repeat first | apply bN | apply bD | apply bA); refine bP (cs := #[.int .i64 0, .int .i64 0]) ?_ 0 _ rfl; (with_reducible repeat first | apply bN | apply bD | apply bA); exact BK190.out⟩, ⟨by repeat (first | (with_reducible first | exact HB.out | apply pA | apply pN | apply pD | refine bS ?_ GE185.out | refine bS ?_ GE190.out) | exact HB.out)⟩⟩
          case rest =>
           clear HC19
           (try clear c1); (try clear p1); (try clear q1); (try clear hx1); (try clear c2); (try clear p2); (try clear c3); (try clear c5); (try clear c5b0); (try clear c6); (try clear c6b0); (try clear p6); (try clear c7); (try clear c7b0); (try clear c9); (try clear c9b0); (try clear c11); (try clear c12); (try clear c13); (try clear c13b0); (try clear c13b1); (try clear c14); (try clear c14b0); (try clear c14b1); (try clear c17); (try clear c17b0); (try clear c18); (try clear c18b0); (try clear p18); (try clear q18); (try clear hx18); (try clear c22); (try clear c24); (try clear c24b0); (try clear c25); (try clear c27); (try clear c27b0); (try clear c28); (try clear c30); (try clear c30b0); (try clear c31); (try clear c33); (try clear hcz10_0); (try clear hcz10_1); (try clear hcz11_0); (try clear hcz11_1); (try clear hcz20_0); (try clear hcz20_1); (try clear hcz23_0); (try clear hcz23_1); (try clear hcz26_0); (try clear hcz26_1); (try clear hcz29_0); (try clear hcz29_1); (try clear hcz32_0); (try clear hcz32_1); (try clear hcz34_0); (try clear hcz34_1); (try clear hcz8_0); (try clear hcz8_1); (try clear hfz10_0); (try clear hfz10_1); (try clear hfz11_0); (try clear hfz11_1); (try clear hfz20_0); (try clear hfz20_1); (try clear hfz23_0); (try clear hfz23_1); (try clear hfz26_0); (try clear hfz26_1); (try clear hfz29_0); (try clear hfz29_1); (try clear hfz32_0); (try clear hfz32_1); (try clear hfz34_0); (try clear hfz34_1); (try clear hfz8_0); (try clear hfz8_1); (try clear hx189_0); (try clear hx189_1); (try clear p189); (try clear p2); (try clear q189)
           obtain ⟨kq, x67_18, rfl, HA, HJ18, HO_5, BK185, BK190, HB⟩ := hcut
           cases kq with
           | zero => exact absurd HA.out (by simp [Wj2])
           | succ kj18 =>
            have H := HA.out
            clear HA
            simp only [Wj2] at H
            by_cases c35 : x67_18 = true
            ·subst c35
             have H1 : (some false) = some r := by rw [if_pos rfl] at H; exact H
             clear H
             have H := H1
             clear H1
             obtain rfl := Option.some.inj H
             go_wp2
             go_ret
             exact ⟨by first | rfl | (simp [errW_none, errW_some] <;> rfl) | (simp [*, errW_none, errW_some] <;> rfl), by repeat (first | (with_reducible first | exact HB.out | apply pA | apply pN | apply pD | refine bS ?_ GE185.out | refine bS ?_ GE190.out) | exact HB.out)⟩
            ·replace c35 := Bool.eq_false_iff.mpr c35
             subst c35
             have H1 : (Wl1 kj18 a1 x5_2 x6_2 ((d0_ l0_1 x6_2).f0) a0_0 l0_1 ((d0_ l0_1 x6_2).f0) ((d0_ l0_1 x6_2).f1)) = some r := by rw [if_neg (show ¬ (false = true) by decide)] at H; exact H
             clear H
             have H := H1
             clear H1
             have H' := A0k H
             clear H
             have hnb36 := NB190_185.out
             have hnc36 := NB185_190.out
             have hcz37_0 : wc.cell? ⟨gb190, 0, none⟩ = some (.int .i64 ((d0_ l0_1 x6_2).f0)) := (bC BK190.out 0).trans rfl
             have hcz37_1 : wc.cell? ⟨gb190, 1, none⟩ = some (.int .i64 ((d0_ l0_1 x6_2).f1)) := (bC BK190.out 1).trans rfl
             have hfz37_0 := bF BK190.out 0
             have hfz37_1 := bF BK190.out 1
             go_wp2
             go_loopg [8] kj18 (fun kq v8 w' => ∃ (x5_4 : List Bool) (x8_4 : Int), v8 = .int .i64 x8_4 ∧ Aside0 (Wl1 kq a1 x5_4 x6_2 x8_4 a0_0 l0_1 ((d0_ l0_1 x6_2).f0) ((d0_ l0_1 x6_2).f1) = some r) ∧ Aside0 (kq ≤ kj18) ∧ Aside0 (Kd.R Kd.bool 4 w' w.heap.size (fun _ => True) v187 x5_4) ∧ Aside0 (w'.heap[gb185]? = some (.cells #[.int .i64 a0_0, (.slice (some ad189) l0_1.length c0_1)] 29 (0, 0))) ∧ Aside0 (w'.heap[gb190]? = some (.cells #[.int .i64 ((d0_ l0_1 x6_2).f0), .int .i64 ((d0_ l0_1 x6_2).f1)] 56 (0, 0))) ∧ Aside0 (Below w.heap.size w w'))
             case atStart => exact ⟨(x5_2), (((d0_ l0_1 x6_2).f0)), (by first | rfl | (simp; done) | (simp [*]; done)), H', ⟨Nat.le_refl _⟩, ⟨by (with_reducible repeat first | apply rA | apply rN | apply rD); exact HO_5.out⟩, ⟨by (with_reducible repeat first | apply bN | apply bD | apply bA); exact BK185.out⟩, ⟨by (with_reducible repeat first | apply bN | apply bD | apply bA); exact BK190.out⟩, ⟨by repeat (first | (with_reducible first | exact HB.out | apply pA | apply pN | apply pD | refine bS ?_ GE185.out | refine bS ?_ GE190.out) | exact HB.out)⟩⟩
             case round =>
              clear H'
              (try clear c1); (try clear p1); (try clear q1); (try clear hx1); (try clear c2); (try clear p2); (try clear c3); (try clear c5); (try clear c5b0); (try clear c6); (try clear c6b0); (try clear p6); (try clear c7); (try clear c7b0); (try clear c9); (try clear c9b0); (try clear c11); (try clear c12); (try clear c13); (try clear c13b0); (try clear c13b1); (try clear c14); (try clear c14b0); (try clear c14b1); (try clear c17); (try clear c17b0); (try clear c18); (try clear c18b0); (try clear p18); (try clear q18); (try clear hx18); (try clear c22); (try clear c24); (try clear c24b0); (try clear c25); (try clear c27); (try clear c27b0); (try clear c28); (try clear c30); (try clear c30b0); (try clear c31); (try clear c33); (try clear c35); (try clear c36); (try clear hcz10_0); (try clear hcz10_1); (try clear hcz11_0); (try clear hcz11_1); (try clear hcz20_0); (try clear hcz20_1); (try clear hcz23_0); (try clear hcz23_1); (try clear hcz26_0); (try clear hcz26_1); (try clear hcz29_0); (try clear hcz29_1); (try clear hcz32_0); (try clear hcz32_1); (try clear hcz34_0); (try clear hcz34_1); (try clear hcz37_0); (try clear hcz37_1); (try clear hcz8_0); (try clear hcz8_1); (try clear hfz10_0); (try clear hfz10_1); (try clear hfz11_0); (try clear hfz11_1); (try clear hfz20_0); (try clear hfz20_1); (try clear hfz23_0); (try clear hfz23_1); (try clear hfz26_0); (try clear hfz26_1); (try clear hfz29_0); (try clear hfz29_1); (try clear hfz32_0); (try clear hfz32_1); (try clear hfz34_0); (try clear hfz34_1); (try clear hfz37_0); (try clear hfz37_1); (try clear hfz8_0); (try clear hfz8_1); (try clear hx189_0); (try clear hx189_1); (try clear p1); (try clear p18); (try clear p189); (try clear p2); (try clear p6); (try clear q1); (try clear q18); (try clear q189)
              obtain ⟨x5_4, x8_4, rfl, HA, HK4, HO_5, BK185, BK190, HB⟩ := hrel
              cases gk with
              | zero => exact absurd HA.out (by simp [Wl1])
              | succ k4 =>
               have H := HA.out
               clear HA
               simp only [Wl1] at H
               by_cases c38 : x8_4 < (wrap64 (((d0_ l0_1 x6_2).f0) + ((d0_ l0_1 x6_2).f1)))
               ·rw [if_pos c38] at H
                have c38b0 : decide (x8_4 < (wrap64 (((d0_ l0_1 x6_2).f0) + ((d0_ l0_1 x6_2).f1)))) = true := decide_eq_true c38
                clear c38
                by_cases c39 : 0 ≤ x8_4
                ·rw [if_pos c39] at H
                 have c39b0 : decide (0 ≤ x8_4) = true := decide_eq_true c39
                 clear c39
                 by_cases c40 : x8_4 < (x5_4.length : Int)
                 ·rw [if_pos c40] at H
                  have c40b0 : decide (x8_4 < (x5_4.length : Int)) = true := decide_eq_true c40
                  clear c40
                  obtain ⟨bq41, hbq41⟩ : ∃ b_ : Bool, b_ = (rdOf false x5_4 x8_4) := ⟨_, rfl⟩
                  replace H : (if bq41 = true then (some false) else (Wl1 k4 a1 (x5_4.set (x8_4 : Int).toNat true) x6_2 (wrap64 (x8_4 + 1)) a0_0 l0_1 ((d0_ l0_1 x6_2).f0) ((d0_ l0_1 x6_2).f1))) = some r := by rw [← hbq41] at H; exact H
                  have Nbq41 := A0k hbq41
                  clear hbq41
                  by_cases c42 : bq41 = true
                  ·subst c42
                   have H1 : (some false) = some r := by rw [if_pos rfl] at H; exact H
                   clear H
                   have H := H1
                   clear H1
                   obtain rfl := Option.some.inj H
                   have hnb43 := NB190_185.out
                   have hnc43 := NB185_190.out
                   have hcz44_0 : wr.cell? ⟨gb190, 0, none⟩ = some (.int .i64 ((d0_ l0_1 x6_2).f0)) := (bC BK190.out 0).trans rfl
                   have hcz44_1 : wr.cell? ⟨gb190, 1, none⟩ = some (.int .i64 ((d0_ l0_1 x6_2).f1)) := (bC BK190.out 1).trans rfl
                   have hfz44_0 := bF BK190.out 0
                   have hfz44_1 := bF BK190.out 1
                   obtain ⟨Ao45, co45, eo45⟩ := Kd.R_slice HO_5.out
                   subst eo45
                   have p191 : 0 ≤ (x8_4 : Int) := of_decide_eq_true (by first | (with_reducible assumption) | assumption)
                   have q191 : x8_4 < (x5_4.length : Int) := of_decide_eq_true (by first | (with_reducible assumption) | assumption)
                   obtain ⟨ad191, e191, hx191_0⟩ := Kd.at_bool (Kd.R_reads' HO_5.out).2.2 x8_4 p191 q191
                   (try rw [← Nbq41.out] at hx191_0)
                   cases e191
                   replace p191 := eq_true p191
                   replace q191 := eq_true q191
                   go_wp2
                   go_ret
                   exact ⟨by first | rfl | (simp [errW_none, errW_some] <;> rfl) | (simp [*, errW_none, errW_some] <;> rfl), by repeat (first | (with_reducible first | exact HB.out | apply pA | apply pN | apply pD | refine bS ?_ GE185.out | refine bS ?_ GE190.out) | exact HB.out)⟩
                  ·replace c42 := Bool.eq_false_iff.mpr c42
                   subst c42
                   have H1 : (Wl1 k4 a1 (x5_4.set (x8_4 : Int).toNat true) x6_2 (wrap64 (x8_4 + 1)) a0_0 l0_1 ((d0_ l0_1 x6_2).f0) ((d0_ l0_1 x6_2).f1)) = some r := by rw [if_neg (show ¬ (false = true) by decide)] at H; exact H
                   clear H
                   have H := H1
                   clear H1
                   obtain ⟨y192, hy192⟩ : ∃ y_ : List Bool, y_ = (x5_4.set (x8_4 : Int).toNat true) := ⟨_, rfl⟩
                   replace H : (Wl1 k4 a1 y192 x6_2 (wrap64 (x8_4 + 1)) a0_0 l0_1 ((d0_ l0_1 x6_2).f0) ((d0_ l0_1 x6_2).f1)) = some r := by first | (rw [hy192]; with_reducible exact H) | (have H2_ := (Option.bind_some _ _).symm.trans H; rw [hy192]; with_reducible exact H2_) | (have H2_ := (Option.bind_some _ _).symm.trans H; with_reducible exact H2_) | with_reducible exact H | (rw [hy192]; exact H) | exact H
                   have Ny192 := A0k hy192
                   clear hy192
                   have H' := A0k H
                   clear H
                   have hnb47 := NB190_185.out
                   have hnc47 := NB185_190.out
                   have hcz48_0 : wr.cell? ⟨gb190, 0, none⟩ = some (.int .i64 ((d0_ l0_1 x6_2).f0)) := (bC BK190.out 0).trans rfl
                   have hcz48_1 : wr.cell? ⟨gb190, 1, none⟩ = some (.int .i64 ((d0_ l0_1 x6_2).f1)) := (bC BK190.out 1).trans rfl
                   have hfz48_0 := bF BK190.out 0
                   have hfz48_1 := bF BK190.out 1
                   obtain ⟨Ao49, co49, eo49⟩ := Kd.R_slice HO_5.out
                   subst eo49
                   have p191 : 0 ≤ (x8_4 : Int) := of_decide_eq_true (by first | (with_reducible assumption) | assumption)
                   have q191 : x8_4 < (x5_4.length : Int) := of_decide_eq_true (by first | (with_reducible assumption) | assumption)
                   obtain ⟨ad191, e191, hx191_0⟩ := Kd.at_bool (Kd.R_reads' HO_5.out).2.2 x8_4 p191 q191
                   (try rw [← Nbq41.out] at hx191_0)
                   cases e191
                   replace p191 := eq_true p191
                   replace q191 := eq_true q191
                   have p46 : 0 ≤ (x8_4 : Int) := of_decide_eq_true (by first | (with_reducible assumption) | assumption)
                   have q46 : (x8_4 : Int) < ((x5_4.length : Int) : Int) := of_decide_eq_true (by first | (with_reducible assumption) | assumption)
                   obtain ⟨go46, co46, eo46, gb46, gl46, cl46, HG46⟩ := Kd.R_form HO_5.out (by omega)
                   (first | cases eo46 | (injection eo46 with ea_ en_ ec_; (first | subst ea_ | (injection ea_ with ea_; subst ea_)); subst ec_; clear en_))
                   have GB46 := A0k gb46
                   have GG46 := A0k HG46
                   clear gb46 gl46 HG46
                   (first | simp only [add_plain] at hx191_0 | skip)
                   obtain ⟨hx46_0, hf46_0⟩ := Kd.R_celln false HO_5.out (x8_4 : Int) p46 q46
                   replace p46 := eq_true p46
                   replace q46 := eq_true q46
                   have HP50 := Kd.R_putg HO_5.out (x8_4 : Int) true
                   go_wp2_with (first | ((with_reducible refine gate_store (t := 4) (p := 85) rfl ?_); refine store_event (t := 4) (p := 85) (v := ?vo_w51) (w1 := (wr.setCell ⟨go46, (x8_4 : Int).toNat, none⟩ (.bool true))) ?hg ?ho ?hn ?hr ?_; (case ho => rfl); (case hg => rfl); (case hn => rfl); (case hr => first | (go_simp; done) | (go_simp; rfl)); intro w51 hw; have hg : wr.grownBy w51 (some go46) := (by rw [hw]; exact HP50.2); have hp_ : Kd.R Kd.bool 4 w51 w.heap.size (fun _ => True) (.slice (some ⟨go46, 0, none⟩) x5_4.length co49) y192 := (by rw [hw, Ny192.out]; exact HP50.1); clear HP50; have n0_ := A0k (hp_); have n1_ := A0k (blk_grown (g := gb185) (o := .cells #[.int .i64 a0_0, .slice (some ad189) l0_1.length c0_1] 29 (0, 0)) (by (with_reducible repeat first | apply bN | apply bD | apply bA); exact BK185.out) hg (Kd.R_ne HO_5.out BK185.out (by decide))); have n2_ := A0k (blk_grown (g := gb190) (o := .cells #[.int .i64 ((d0_ l0_1 x6_2).f0), .int .i64 ((d0_ l0_1 x6_2).f1)] 56 (0, 0)) (by (with_reducible repeat first | apply bN | apply bD | apply bA); exact BK190.out) hg (Kd.R_ne HO_5.out BK190.out (by decide))); have n3_ := A0k ((by rw [hw]; exact bS (HB.out) GB46.out : Below w.heap.size w w51)); clear HO_5 BK185 BK190 HB; have HO_5 := n0_; have BK185 := n1_; have BK190 := n2_; have HB := n3_; clear n0_ n1_ n2_ n3_ hg hw hp_))
                   go_roundg k4
                   case measure => have := HJ2.out; have := HK2.out; have := HJ18.out; have := HK4.out; omega
                   case rel => exact ⟨(y192), (wrap64 (x8_4 + 1)), (by first | rfl | (simp; done) | (simp [*]; done)), H', ⟨by have := HJ2.out; have := HK2.out; have := HJ18.out; have := HK4.out; omega⟩, ⟨by (with_reducible repeat first | apply rA | apply rN | apply rD); exact HO_5.out⟩, ⟨by (with_reducible repeat first | apply bN | apply bD | apply bA); exact BK185.out⟩, ⟨by (with_reducible repeat first | apply bN | apply bD | apply bA); exact BK190.out⟩, ⟨by repeat (first | (with_reducible first | exact HB.out | apply pA | apply pN | apply pD | refine bS ?_ GE185.out | refine bS ?_ GE190.out) | exact HB.out)⟩⟩
                 ·rw [if_neg c40] at H
                  exact absurd H (by simp)
                ·rw [if_neg c39] at H
                 exact absurd H (by simp)
               ·rw [if_neg c38] at H
                have c38b0 : decide (x8_4 < (wrap64 (((d0_ l0_1 x6_2).f0) + ((d0_ l0_1 x6_2).f1)))) = false := decide_eq_false c38
                clear c38
                have H' := A0k H
                clear H
                have hnb52 := NB190_185.out
                have hnc52 := NB185_190.out
                have hcz53_0 : wr.cell? ⟨gb190, 0, none⟩ = some (.int .i64 ((d0_ l0_1 x6_2).f0)) := (bC BK190.out 0).trans rfl
                have hcz53_1 : wr.cell? ⟨gb190, 1, none⟩ = some (.int .i64 ((d0_ l0_1 x6_2).f1)) := (bC BK190.out 1).trans rfl
                have hfz53_0 := bF BK190.out 0
                have hfz53_1 := bF BK190.out 1
                go_wp2
                go_roundg k4
                case measure => have := HJ2.out; have := HK2.out; have := HJ18.out; have := HK4.out; omega
                case rel => exact ⟨(x5_4), (wrap64 (x6_2 + 1)), (by first | rfl | (simp; done) | (simp [*]; done)), H', ⟨by have := HJ2.out; have := HK2.out; have := HJ18.out; have := HK4.out; omega⟩, ⟨by (with_reducible repeat first | apply rA | apply rN | apply rD); exact HO_5.out⟩, ⟨by (with_reducible repeat first | apply bN | apply bD | apply bA); exact BK185.out⟩, ⟨by repeat (first | (with_reducible first | exact HB.out | apply pA | apply pN | apply pD | refine bS ?_ GE185.out | refine bS ?_ GE190.out) | exact HB.out)⟩⟩
         ·rw [if_neg c18] at H
          exact absurd H (by simp)
        ·rw [if_neg c17] at H
         have c17b0 : decide (x6_2 < (l0_1.length : Int)) = false := decide_eq_false c17
         clear c17
         obtain rfl := Option.some.inj H
         have hcz54_0 : wr.cell? ⟨gb185, 0, none⟩ = some (.int .i64 a0_0) := (bC BK185.out 0).trans rfl
         have hcz54_1 : wr.cell? ⟨gb185, 1, none⟩ = some (.slice A0_1 l0_1.length c0_1) := (bC BK185.out 1).trans rfl
         have hfz54_0 := bF BK185.out 0
         have hfz54_1 := bF BK185.out 1
         go_wp2
         go_ret
         exact ⟨by first | rfl | (simp [errW_none, errW_some] <;> rfl) | (simp [*, errW_none, errW_some] <;> rfl), by repeat (first | (with_reducible first | exact HB.out | apply pA | apply pN | apply pD | refine bS ?_ GE185.out) | exact HB.out)⟩
     ·rw [if_neg c14] at H
      exact absurd H (by simp)
    ·rw [if_neg c13] at H
     exact absurd H (by simp)

end Go.Proofs.YtmncfcebjohloaaGreatDoor.VInodePuts
