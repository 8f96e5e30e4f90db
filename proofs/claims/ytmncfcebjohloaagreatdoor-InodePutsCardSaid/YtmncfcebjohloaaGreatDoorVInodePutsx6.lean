/- Contracts of functions of this seat: each call comes to what its Lean function computes; no condition beyond what each theorem states. Printed by a program of this session's own laid over the kit's printer. -/
import Derived.Test.YtmncfcebjohloaaGreatDoorVInodePutsx0
import Derived.Test.YtmncfcebjohloaaGreatDoorVInodePutsx2
import Derived.Test.YtmncfcebjohloaaGreatDoorVInodePutsx3
import Derived.Test.YtmncfcebjohloaaGreatDoorVInodePutsx4
import Derived.Test.YtmncfcebjohloaaGreatDoorVInodePutsx5
namespace Go.Proofs.YtmncfcebjohloaaGreatDoor.VInodePuts
open Go.RowKit Go.Proofs.YtmncfcebjohloaaGreatDoorW.PrintWords Go.Proofs.YtmncfcebjohloaaGreatDoorW.PrintLast Go.Proofs.YtmncfcebjohloaaGreatDoorW.PrintMore
attribute [local go_sem] max2_int min2_int max_two min_two max_three min_three max_four min_four   -- for this text's walks alone
open Go.Proofs.YtmncfcebjohloaaGreatDoorW.PrintWords.Kd renaming R_alloc → rA
open Go.Proofs.YtmncfcebjohloaaGreatDoorW.PrintWords.Kd renaming R_drewN → rN
open Go.Proofs.YtmncfcebjohloaaGreatDoorW.PrintWords.Kd renaming R_drew → rD
open List renaming setIfInBounds_toArray → lS, set_cons_zero → lZ, set_cons_succ → lC
open Bool renaming true → T, false → F
open Go.Proofs.YtmncfcebjohloaaGreatDoorW.PrintLast renaming goesL_ → gL_
open Go.Proofs.YtmncfcebjohloaaGreatDoorW.PrintWords renaming blk_drewN → bN, blk_drew → bD, blk_alloc → bA, below_set → bS, pw_below_drewN → pN, below_drew1 → pD, below_alloc → pA, below_step → pS, below_size → pZ, blk_frozen → bF, blk_cell → bC, blk_below → bB, blk_far → bR, blk_put → bP, blk_lt → bL, gate_dst → gD, gate_callee → gC, gate_builtin → gB, box_event → bE
open Go.Proofs.YtmncfcebjohloaaGreatDoorW.PrintWords.Aside0 renaming mk → A0k
set_option linter.unusedVariables false
set_option linter.unusedSimpArgs false

/-! ### inode_Grow: function 16 -/
mutual
def inode_Grow.j0 : Nat → Bool → Int → List (S51) → Int → Int → Option (Int × (List (S51)) × Option Int)
 | 0, _, _, _, _, _ => none
 | k + 1, x15, x107000, x107001, x108000, x108001 => if x15 = true then (some (0, ([] : List (S51)), some 1)) else ((inode_Extent.f x107001).bind fun t111 => (if (t111.length : Int) > 0 then (if 0 ≤ (wrap64 ((t111.length : Int) - 1)) then (if (wrap64 ((t111.length : Int) - 1)) < (t111.length : Int) then (inode_Grow.j1 k t111 (t111.length : Int) ((wrap64 (((rd_T51 t111 (wrap64 ((t111.length : Int) - 1))).f0) + ((rd_T51 t111 (wrap64 ((t111.length : Int) - 1))).f1))) == x108000) x107000 x107001 x108000 x108001) else (none)) else (none)) else (inode_Grow.j1 k t111 (t111.length : Int) false x107000 x107001 x108000 x108001)))
def inode_Grow.j1 : Nat → List (S51) → Int → Bool → Int → List (S51) → Int → Int → Option (Int × (List (S51)) × Option Int)
 | 0, _, _, _, _, _, _, _ => none
 | k + 1, x6, x7, x27, x107000, x107001, x108000, x108001 => if x27 = true then (if 0 ≤ (wrap64 (x7 - 1)) then (if (wrap64 (x7 - 1)) < (x6.length : Int) then ((inode_Inode_changed.f x107000 x107001 (x6.set ((wrap64 (x7 - 1)) : Int).toNat (⟨(rd_T51 x6 (wrap64 (x7 - 1))).f0, wrap64 (((rd_T51 x6 (wrap64 (x7 - 1))).f1) + x108001)⟩ : S51))).bind fun bt118 => (some (bt118.1, bt118.2, none))) else (none)) else (none)) else (if x7 ≥ 36 then (some (0, ([] : List (S51)), some 19)) else (if x6.length < 8796093022208 then ((inode_Inode_changed.f x107000 x107001 (x6 ++ [(⟨x108000, x108001⟩ : S51)])).bind fun bt125 => (some (bt125.1, bt125.2, none))) else (none)))
end
def inode_Grow.f (k : Nat) (a0_0 : Int) (l0_1 : List (S51)) (a1_0 : Int) (a1_1 : Int) : Option (Int × (List (S51)) × Option Int) := (inode_Extent_there.f a1_0 a1_1 2048).bind fun t109 => (if t109 = true then ((inode_Inode_meets.f a0_0 l0_1 a1_0 a1_1).bind fun t110 => (inode_Grow.j0 k t110 a0_0 l0_1 a1_0 a1_1)) else (inode_Grow.j0 k true a0_0 l0_1 a1_0 a1_1))
set_option maxRecDepth 100000 in
theorem inode_Grow.mono_l : ∀ k, (∀ y0 y1 y2 y3 y4, LeO (inode_Grow.j0 k y0 y1 y2 y3 y4) (inode_Grow.j0 (k + 1) y0 y1 y2 y3 y4)) ∧ (∀ y0 y1 y2 y3 y4 y5 y6, LeO (inode_Grow.j1 k y0 y1 y2 y3 y4 y5 y6) (inode_Grow.j1 (k + 1) y0 y1 y2 y3 y4 y5 y6))
 | 0 => ⟨fun _ _ _ _ _ r h => by first | (rw [inode_Grow.j0] at h; cases h) | simp [inode_Grow.j0] at h, fun _ _ _ _ _ _ _ r h => by first | (rw [inode_Grow.j1] at h; cases h) | simp [inode_Grow.j1] at h⟩
 | k + 1 => by
  obtain ⟨ih0, ih1⟩ := inode_Grow.mono_l k
  refine ⟨?_, ?_⟩
  ·intro y0 y1 y2 y3 y4
   unfold inode_Grow.j0
   repeat' first
   | (with_reducible exact ih0 _ _ _ _ _)
   | (with_reducible exact ih1 _ _ _ _ _ _ _)
   | (with_reducible exact LeO.refl _)
   | (with_reducible exact LeO.none _)
   | (with_reducible refine LeO.ite ?_ ?_)
   | (with_reducible refine LeO.bind ?_ (fun _ => ?_))
   | exact ih0 _ _ _ _ _
   | exact ih1 _ _ _ _ _ _ _
   | exact LeO.none _
   | refine LeO.ite ?_ ?_
   | refine LeO.bind ?_ (fun _ => ?_)
  ·intro y0 y1 y2 y3 y4 y5 y6
   unfold inode_Grow.j1
   repeat' first
   | (with_reducible exact ih0 _ _ _ _ _)
   | (with_reducible exact ih1 _ _ _ _ _ _ _)
   | (with_reducible exact LeO.refl _)
   | (with_reducible exact LeO.none _)
   | (with_reducible refine LeO.ite ?_ ?_)
   | (with_reducible refine LeO.bind ?_ (fun _ => ?_))
   | exact ih0 _ _ _ _ _
   | exact ih1 _ _ _ _ _ _ _
   | exact LeO.none _
   | refine LeO.ite ?_ ?_
   | refine LeO.bind ?_ (fun _ => ?_)
theorem inode_Grow.mono : ∀ a0 a1 a2 a3 k, LeO (inode_Grow.f k a0 a1 a2 a3) (inode_Grow.f (k + 1) a0 a1 a2 a3) := by
 intro a0 a1 a2 a3 k
 obtain ⟨ih0, ih1⟩ := inode_Grow.mono_l k
 unfold inode_Grow.f
 repeat' first
   | (with_reducible exact ih0 _ _ _ _ _)
   | (with_reducible exact ih1 _ _ _ _ _ _ _)
   | (with_reducible exact LeO.refl _)
   | (with_reducible exact LeO.none _)
   | (with_reducible refine LeO.ite ?_ ?_)
   | (with_reducible refine LeO.bind ?_ (fun _ => ?_))
   | exact ih0 _ _ _ _ _
   | exact ih1 _ _ _ _ _ _ _
   | exact LeO.none _
   | refine LeO.ite ?_ ?_
   | refine LeO.bind ?_ (fun _ => ?_)
def inode_Grow.T6 : Bool × List (List Nat × List Nat) := (true, [([], []), ([0], [0]), ([1], [1]), ([2], [2]), ([2], [2]), ([4, 2], [2, 4]), ([3, 5, 2], [2, 3, 5]), ([6, 2], [2, 6]), ([7, 2], [2, 7]), ([2], [2]), ([2], [2]), ([10, 2], [2, 10]), ([9, 11, 2], [2, 9, 11]), ([12, 2], [2, 12]), ([13, 2], [2, 13]), ([8, 14, 2], [2, 8, 14]), ([2], [2]), ([16, 2], [2, 16]), ([15, 17, 2], [2, 15, 17]), ([2, 18], [2, 18]), ([19, 2], [19])])
def inode_Grow.B6 : List Nat := [0, 1, 3, 7, 7, 23, 63, 127, 255, 7, 7, 1031, 3591, 7687, 15879, 32767, 7, 65543, 262143, 524287, 1048575]
theorem inode_Grow.tab6 : rtab .any (opsOf Tryz.f16 6) = inode_Grow.T6 := by kernel_rfl
theorem inode_Grow.bits6 : waitsOk inode_Grow.T6.2 inode_Grow.B6 = true := by kernel_rfl
def inode_Grow.T7 : Bool × List (List Nat × List Nat) := (true, [([], []), ([], []), ([1], [1]), ([0, 2], [0, 2]), ([3], [3]), ([4], [4]), ([], []), ([6], [6]), ([5, 7], [5, 7]), ([0, 2, 0, 1, 2, 3, 4, 5, 6, 7, 8], [0, 2]), ([9, 0, 1, 2, 3, 4, 5, 6, 7, 8], [9]), ([10, 8, 0, 1, 2, 3, 4, 5, 6, 7, 8], [8, 10])])
def inode_Grow.B7 : List Nat := [0, 0, 2, 7, 15, 31, 0, 64, 255, 511, 1023, 2047]
theorem inode_Grow.tab7 : rtab .any (opsOf Tryz.f16 7) = inode_Grow.T7 := by kernel_rfl
theorem inode_Grow.bits7 : waitsOk inode_Grow.T7.2 inode_Grow.B7 = true := by kernel_rfl
open Go.Proofs.YtmncfcebjohloaaGreatDoor.VInodePuts renaming rd_T51 → d0_
open inode_Grow renaming j0 → Wj0, j1 → Wj1
set_option maxHeartbeats 8000000 in
set_option maxRecDepth 100000 in
theorem inode_Grow.calls (k : Nat) (a0_0 : Int) (A0_1 : Option Addr) (c0_1 : Nat) (l0_1 : List (S51)) (a1_0 : Int) (a1_1 : Int) (r1 : Int) (r2 : List (S51)) (r3 : Option Int) (w : World) (hr0_1 : Kd.C k51 w A0_1 l0_1.length l0_1) (hc0_1 : l0_1.length ≤ c0_1) (h : inode_Grow.f k a0_0 l0_1 a1_0 a1_1 = some (r1, r2, r3)) :
  Calls Tryz.prog 16 #[.agg #[.int .i64 a0_0, .slice A0_1 l0_1.length c0_1], .agg #[.int .i64 a1_0, .int .i64 a1_1]] w fun e w' => ∃ v1_ : Value, e = .returned (.tuple #[.agg #[.int .i64 r1, v1_], errW r3]) ∧ Kd.R k51 51 w' w.heap.size (fun _ => True) v1_ r2 ∧ Below w.heap.size w w' := by
 have hu26 := Tryz.underlying26
 have hu51 := Tryz.underlying51
 have hu33 := Tryz.underlying33
 have hu57 := Tryz.underlying57
 have HR0_1 := A0k hr0_1
 have HC0_1 := A0k hc0_1
 clear hr0_1 hc0_1
 have HB := A0k (Below.refl w.heap.size w)
 have H : ((inode_Extent_there.f a1_0 a1_1 2048).bind fun t109 => (if t109 = true then ((inode_Inode_meets.f a0_0 l0_1 a1_0 a1_1).bind fun t110 => (Wj0 k t110 a0_0 l0_1 a1_0 a1_1)) else (Wj0 k true a0_0 l0_1 a1_0 a1_1))) = some (r1, r2, r3) := h
 clear h
 have HC3 := A0k H
 clear H
 go_enter Tryz.func16, Tryz.ntmps16
 go_upto_region 1 with (first | ((with_reducible refine gD (N := 2) rfl ?_); refine bE ?hg (N := 2) ?hd (cs := #[.int .i64 a0_0, .slice A0_1 l0_1.length c0_1]) (t := 26) ?hr ?_; (case hd => rfl); (case hg => rfl); (case hr => first | (go_simp; done) | (go_simp; rfl)); intro gb106 hg w4 hbox hb; have n0_ := A0k (pS (by repeat (first | (with_reducible first | exact HB.out | apply pA | apply pN | apply pD) | exact HB.out)) hb); have n1_ := A0k (hbox); have n2_ := A0k ((by rw [hg]; exact (pZ (by repeat (first | (with_reducible first | exact HB.out | apply pA | apply pN | apply pD) | exact HB.out))) : w.heap.size ≤ gb106)); have n3_ := A0k ((by rw [hg]; exact (pZ (by repeat (first | (with_reducible first | exact HB.out | apply pA | apply pN | apply pD) | exact HB.out))) : w.heap.size ≤ gb106)); clear HB; have HB := n0_; have BK106 := n1_; have GW106 := n2_; have GE106 := n3_; clear n0_ n1_ n2_ n3_ hb hbox hg) | ((with_reducible refine gD (N := 3) rfl ?_); refine bE ?hg (N := 3) ?hd (cs := #[.int .i64 a1_0, .int .i64 a1_1]) (t := 51) ?hr ?_; (case hd => rfl); (case hg => rfl); (case hr => first | (go_simp; done) | (go_simp; rfl)); intro gb107 hg w5 hbox hb; have n0_ := A0k (bB (g := gb106) (o := .cells #[.int .i64 a0_0, .slice A0_1 l0_1.length c0_1] 26 (0, 0)) (by (with_reducible repeat first | apply bN | apply bD | apply bA); exact BK106.out) hb); have n1_ := A0k (pS (by repeat (first | (with_reducible first | exact HB.out | apply pA | apply pN | apply pD | refine bS ?_ GE106.out) | exact HB.out)) hb); have n2_ := A0k (hbox); have n3_ := A0k ((by rw [hg]; exact (pZ (by repeat (first | (with_reducible first | exact HB.out | apply pA | apply pN | apply pD | refine bS ?_ GE106.out) | exact HB.out))) : w.heap.size ≤ gb107)); have n4_ := A0k ((by rw [hg]; exact (pZ (by repeat (first | (with_reducible first | exact HB.out | apply pA | apply pN | apply pD | refine bS ?_ GE106.out) | exact HB.out))) : w.heap.size ≤ gb107)); have n5_ := A0k ((by rw [hg]; exact Nat.ne_of_lt (bL (g := gb106) (o := .cells #[.int .i64 a0_0, .slice A0_1 l0_1.length c0_1] 26 (0, 0)) (by (with_reducible repeat first | apply bN | apply bD | apply bA); exact BK106.out)) : gb106 ≠ gb107)); have n6_ := A0k ((by rw [hg]; exact Nat.ne_of_gt (bL (g := gb106) (o := .cells #[.int .i64 a0_0, .slice A0_1 l0_1.length c0_1] 26 (0, 0)) (by (with_reducible repeat first | apply bN | apply bD | apply bA); exact BK106.out)) : gb107 ≠ gb106)); clear BK106 HB; have BK106 := n0_; have HB := n1_; have BK107 := n2_; have GW107 := n3_; have GE107 := n4_; have NB106_107 := n5_; have NB107_106 := n6_; clear n0_ n1_ n2_ n3_ n4_ n5_ n6_ hb hbox hg) | ((with_reducible refine gD (N := 4) rfl ?_); refine bE ?hg (N := 4) ?hd (cs := #[.int .i64 0, .slice none 0 0]) (t := 26) ?hr ?_; (case hd => rfl); (case hg => rfl); (case hr => first | (go_simp; done) | (go_simp; rfl)); intro gb108 hg w6 hbox hb; have n0_ := A0k (bB (g := gb106) (o := .cells #[.int .i64 a0_0, .slice A0_1 l0_1.length c0_1] 26 (0, 0)) (by (with_reducible repeat first | apply bN | apply bD | apply bA); exact BK106.out) hb); have n1_ := A0k (bB (g := gb107) (o := .cells #[.int .i64 a1_0, .int .i64 a1_1] 51 (0, 0)) (by (with_reducible repeat first | apply bN | apply bD | apply bA); exact BK107.out) hb); have n2_ := A0k (pS (by repeat (first | (with_reducible first | exact HB.out | apply pA | apply pN | apply pD | refine bS ?_ GE106.out | refine bS ?_ GE107.out) | exact HB.out)) hb); have n3_ := A0k (hbox); have n4_ := A0k ((by rw [hg]; exact (pZ (by repeat (first | (with_reducible first | exact HB.out | apply pA | apply pN | apply pD | refine bS ?_ GE106.out | refine bS ?_ GE107.out) | exact HB.out))) : w.heap.size ≤ gb108)); have n5_ := A0k ((by rw [hg]; exact (pZ (by repeat (first | (with_reducible first | exact HB.out | apply pA | apply pN | apply pD | refine bS ?_ GE106.out | refine bS ?_ GE107.out) | exact HB.out))) : w.heap.size ≤ gb108)); have n6_ := A0k ((by rw [hg]; exact Nat.ne_of_lt (bL (g := gb106) (o := .cells #[.int .i64 a0_0, .slice A0_1 l0_1.length c0_1] 26 (0, 0)) (by (with_reducible repeat first | apply bN | apply bD | apply bA); exact BK106.out)) : gb106 ≠ gb108)); have n7_ := A0k ((by rw [hg]; exact Nat.ne_of_gt (bL (g := gb106) (o := .cells #[.int .i64 a0_0, .slice A0_1 l0_1.length c0_1] 26 (0, 0)) (by (with_reducible repeat first | apply bN | apply bD | apply bA); exact BK106.out)) : gb108 ≠ gb106)); have n8_ := A0k ((by rw [hg]; exact Nat.ne_of_lt (bL (g := gb107) (o := .cells #[.int .i64 a1_0, .int .i64 a1_1] 51 (0, 0)) (by (with_reducible repeat first | apply bN | apply bD | apply bA); exact BK107.out)) : gb107 ≠ gb108)); have n9_ := A0k ((by rw [hg]; exact Nat.ne_of_gt (bL (g := gb107) (o := .cells #[.int .i64 a1_0, .int .i64 a1_1] 51 (0, 0)) (by (with_reducible repeat first | apply bN | apply bD | apply bA); exact BK107.out)) : gb108 ≠ gb107)); clear BK106 BK107 HB; have BK106 := n0_; have BK107 := n1_; have HB := n2_; have BK108 := n3_; have GW108 := n4_; have GE108 := n5_; have NB106_108 := n6_; have NB108_106 := n7_; have NB107_108 := n8_; have NB108_107 := n9_; clear n0_ n1_ n2_ n3_ n4_ n5_ n6_ n7_ n8_ n9_ hb hbox hg))
 (try simp only [Act.put, lS, lZ, lC])
 go_cut [15] (fun v15 wc => ∃ (kq : Nat) (x15_2 : Bool), v15 = .bool x15_2 ∧ Aside0 (Wj0 kq x15_2 a0_0 l0_1 a1_0 a1_1 = some (r1, r2, r3)) ∧ Aside0 (kq ≤ k) ∧ Aside0 (wc.heap[gb106]? = some (.cells #[.int .i64 a0_0, (.slice A0_1 l0_1.length c0_1)] 26 (0, 0))) ∧ Aside0 (wc.heap[gb107]? = some (.cells #[.int .i64 a1_0, .int .i64 a1_1] 51 (0, 0))) ∧ Aside0 (wc.heap[gb108]? = some (.cells #[.int .i64 0, (.slice none 0 0)] 26 (0, 0))) ∧ Aside0 (Below w.heap.size w wc))
 case first =>
  have H := HC3.out
  clear HC3
  replace H := Option.bind_eq_some_iff.mp H
  obtain ⟨t109, A70, H⟩ := H
  replace H : (if t109 = true then ((inode_Inode_meets.f a0_0 l0_1 a1_0 a1_1).bind fun t110 => (Wj0 k t110 a0_0 l0_1 a1_0 a1_1)) else (Wj0 k true a0_0 l0_1 a1_0 a1_1)) = some (r1, r2, r3) := H
  have A7 := A0k A70
  clear A70
  by_cases c8 : t109 = true
  ·subst c8
   have H1 : ((inode_Inode_meets.f a0_0 l0_1 a1_0 a1_1).bind fun t110 => (Wj0 k t110 a0_0 l0_1 a1_0 a1_1)) = some (r1, r2, r3) := by rw [if_pos rfl] at H; exact H
   clear H
   have H := H1
   clear H1
   replace H := Option.bind_eq_some_iff.mp H
   obtain ⟨t110, A90, H⟩ := H
   replace H : (Wj0 k t110 a0_0 l0_1 a1_0 a1_1) = some (r1, r2, r3) := H
   have A9 := A0k A90
   clear A90
   have H' := A0k H
   clear H
   have hnb10 := NB107_106.out
   have hnc10 := NB106_107.out
   have hnb11 := NB107_108.out
   have hnc11 := NB108_107.out
   have hcz12_0 : w6.cell? ⟨gb107, 0, none⟩ = some (.int .i64 a1_0) := (bC BK107.out 0).trans rfl
   have hcz12_1 : w6.cell? ⟨gb107, 1, none⟩ = some (.int .i64 a1_1) := (bC BK107.out 1).trans rfl
   have hfz12_0 := bF BK107.out 0
   have hfz12_1 := bF BK107.out 1
   go_wp2_with (first | ((with_reducible refine gC (f := 25) rfl ?_); refine gL_ (some 9) rfl rfl Tryz.func25 (by kernel_rfl) rfl #[.agg #[.int .i64 a1_0, .int .i64 a1_1], .int .i64 2048] rfl (by (try simp only [List.map_toArray, List.map_cons, List.map_nil]); first | done | rfl | (simp only [List.length_drop, List.length_take]; rfl)) ?_; (with_reducible refine (inode_Extent_there.calls a1_0 a1_1 2048 true _ A7.out).mono ?_); rintro e w13 ⟨rfl, hb⟩; refine ⟨_, rfl, ?_⟩; have n0_ := A0k (bB (g := gb106) (o := .cells #[.int .i64 a0_0, .slice A0_1 l0_1.length c0_1] 26 (0, 0)) (by (with_reducible repeat first | apply bN | apply bD | apply bA); exact BK106.out) hb); have n1_ := A0k (bB (g := gb107) (o := .cells #[.int .i64 a1_0, .int .i64 a1_1] 51 (0, 0)) (by (with_reducible repeat first | apply bN | apply bD | apply bA); exact BK107.out) hb); have n2_ := A0k (bB (g := gb108) (o := .cells #[.int .i64 0, .slice none 0 0] 26 (0, 0)) (by (with_reducible repeat first | apply bN | apply bD | apply bA); exact BK108.out) hb); have n3_ := A0k (pS (by repeat (first | (with_reducible first | exact HB.out | apply pA | apply pN | apply pD | refine bS ?_ GE106.out | refine bS ?_ GE107.out | refine bS ?_ GE108.out) | exact HB.out)) hb); clear BK106 BK107 BK108 HB; have BK106 := n0_; have BK107 := n1_; have BK108 := n2_; have HB := n3_; clear n0_ n1_ n2_ n3_; (try clear hb); (try clear hb2); (try clear hk); (try clear hi); have hnb14 := NB106_108.out; have hnc14 := NB108_106.out; have hcz15_0 : w13.cell? ⟨gb106, 0, none⟩ = some (.int .i64 a0_0) := (bC BK106.out 0).trans rfl; have hcz15_1 : w13.cell? ⟨gb106, 1, none⟩ = some (.slice A0_1 l0_1.length c0_1) := (bC BK106.out 1).trans rfl; have hfz15_0 := bF BK106.out 0; have hfz15_1 := bF BK106.out 1; have hcz16_0 : w13.cell? ⟨gb107, 0, none⟩ = some (.int .i64 a1_0) := (bC BK107.out 0).trans rfl; have hcz16_1 : w13.cell? ⟨gb107, 1, none⟩ = some (.int .i64 a1_1) := (bC BK107.out 1).trans rfl; have hfz16_0 := bF BK107.out 0; have hfz16_1 := bF BK107.out 1) | (go_at_call 36; (with_reducible refine (inode_Inode_meets.calls a0_0 _ _ l0_1 a1_0 a1_1 t110 _ ?side1 ?side2 A9.out).mono ?_); (case side1 => repeat (first | exact (Kd.C_below HR0_1.out HB.out) | (with_reducible refine Kd.C_alloc ?_ _) | (with_reducible refine Kd.C_drewN ?_ _) | (with_reducible refine Kd.C_drew ?_))); (case side2 => exact HC0_1.out); rintro e w17 ⟨rfl, hb⟩; have n0_ := A0k (bB (g := gb106) (o := .cells #[.int .i64 a0_0, .slice A0_1 l0_1.length c0_1] 26 (0, 0)) (by (with_reducible repeat first | apply bN | apply bD | apply bA); exact BK106.out) hb); have n1_ := A0k (bB (g := gb107) (o := .cells #[.int .i64 a1_0, .int .i64 a1_1] 51 (0, 0)) (by (with_reducible repeat first | apply bN | apply bD | apply bA); exact BK107.out) hb); have n2_ := A0k (bB (g := gb108) (o := .cells #[.int .i64 0, .slice none 0 0] 26 (0, 0)) (by (with_reducible repeat first | apply bN | apply bD | apply bA); exact BK108.out) hb); have n3_ := A0k (pS (by repeat (first | (with_reducible first | exact HB.out | apply pA | apply pN | apply pD | refine bS ?_ GE106.out | refine bS ?_ GE107.out | refine bS ?_ GE108.out) | exact HB.out)) hb); clear BK106 BK107 BK108 HB; have BK106 := n0_; have BK107 := n1_; have BK108 := n2_; have HB := n3_; clear n0_ n1_ n2_ n3_; (try clear hb); (try clear hb2); (try clear hk); (try clear hi)))
   go_meet
   case rel => exact ⟨_, (t110), (by first | rfl | (simp; done) | (simp [*]; done)), H', ⟨by first | omega | exact Nat.le_refl _⟩, ⟨by (with_reducible repeat first | apply bN | apply bD | apply bA); exact BK106.out⟩, ⟨by (with_reducible repeat first | apply bN | apply bD | apply bA); exact BK107.out⟩, ⟨by (with_reducible repeat first | apply bN | apply bD | apply bA); exact BK108.out⟩, ⟨by repeat (first | (with_reducible first | exact HB.out | apply pA | apply pN | apply pD | refine bS ?_ GE106.out | refine bS ?_ GE107.out | refine bS ?_ GE108.out) | exact HB.out)⟩⟩
  ·replace c8 := Bool.eq_false_iff.mpr c8
   subst c8
   have H1 : (Wj0 k true a0_0 l0_1 a1_0 a1_1) = some (r1, r2, r3) := by rw [if_neg (show ¬ (false = true) by decide)] at H; exact H
   clear H
   have H := H1
   clear H1
   have H' := A0k H
   clear H
   have hnb18 := NB107_106.out
   have hnc18 := NB106_107.out
   have hnb19 := NB107_108.out
   have hnc19 := NB108_107.out
   have hcz20_0 : w6.cell? ⟨gb107, 0, none⟩ = some (.int .i64 a1_0) := (bC BK107.out 0).trans rfl
   have hcz20_1 : w6.cell? ⟨gb107, 1, none⟩ = some (.int .i64 a1_1) := (bC BK107.out 1).trans rfl
   have hfz20_0 := bF BK107.out 0
   have hfz20_1 := bF BK107.out 1
   go_wp2_with (first | ((with_reducible refine gC (f := 25) rfl ?_); refine gL_ (some 9) rfl rfl Tryz.func25 (by kernel_rfl) rfl #[.agg #[.int .i64 a1_0, .int .i64 a1_1], .int .i64 2048] rfl (by (try simp only [List.map_toArray, List.map_cons, List.map_nil]); first | done | rfl | (simp only [List.length_drop, List.length_take]; rfl)) ?_; (with_reducible refine (inode_Extent_there.calls a1_0 a1_1 2048 false _ A7.out).mono ?_); rintro e w21 ⟨rfl, hb⟩; refine ⟨_, rfl, ?_⟩; have n0_ := A0k (bB (g := gb106) (o := .cells #[.int .i64 a0_0, .slice A0_1 l0_1.length c0_1] 26 (0, 0)) (by (with_reducible repeat first | apply bN | apply bD | apply bA); exact BK106.out) hb); have n1_ := A0k (bB (g := gb107) (o := .cells #[.int .i64 a1_0, .int .i64 a1_1] 51 (0, 0)) (by (with_reducible repeat first | apply bN | apply bD | apply bA); exact BK107.out) hb); have n2_ := A0k (bB (g := gb108) (o := .cells #[.int .i64 0, .slice none 0 0] 26 (0, 0)) (by (with_reducible repeat first | apply bN | apply bD | apply bA); exact BK108.out) hb); have n3_ := A0k (pS (by repeat (first | (with_reducible first | exact HB.out | apply pA | apply pN | apply pD | refine bS ?_ GE106.out | refine bS ?_ GE107.out | refine bS ?_ GE108.out) | exact HB.out)) hb); clear BK106 BK107 BK108 HB; have BK106 := n0_; have BK107 := n1_; have BK108 := n2_; have HB := n3_; clear n0_ n1_ n2_ n3_; (try clear hb); (try clear hb2); (try clear hk); (try clear hi)))
   go_meet
   case rel => exact ⟨_, (true), (by first | rfl | (simp; done) | (simp [*]; done)), H', ⟨by first | omega | exact Nat.le_refl _⟩, ⟨by (with_reducible repeat first | apply bN | apply bD | apply bA); exact BK106.out⟩, ⟨by (with_reducible repeat first | apply bN | apply bD | apply bA); exact BK107.out⟩, ⟨by (with_reducible repeat first | apply bN | apply bD | apply bA); exact BK108.out⟩, ⟨by repeat (first | (with_reducible first | exact HB.out | apply pA | apply pN | apply pD | refine bS ?_ GE106.out | refine bS ?_ GE107.out | refine bS ?_ GE108.out) | exact HB.out)⟩⟩
 case rest =>
  clear HC3
  (try clear c1); (try clear c2); (try clear p2); (try clear c8); (try clear c10); (try clear c11); (try clear c14); (try clear c16); (try clear c18); (try clear c19); (try clear hcz12_0); (try clear hcz12_1); (try clear hcz15_0); (try clear hcz15_1); (try clear hcz16_0); (try clear hcz16_1); (try clear hcz20_0); (try clear hcz20_1); (try clear hfz12_0); (try clear hfz12_1); (try clear hfz15_0); (try clear hfz15_1); (try clear hfz16_0); (try clear hfz16_1); (try clear hfz20_0); (try clear hfz20_1)
  obtain ⟨kq, x15_2, rfl, HA, HJ2, BK106, BK107, BK108, HB⟩ := hcut
  cases kq with
  | zero => exact absurd HA.out (by simp [Wj0])
  | succ kj2 =>
   have H := HA.out
   clear HA
   simp only [Wj0] at H
   by_cases c22 : x15_2 = true
   ·subst c22
    have H1 : (some (0, ([] : List (S51)), some 1)) = some (r1, r2, r3) := by rw [if_pos rfl] at H; exact H
    clear H
    have H := H1
    clear H1
    simp only [Option.some.injEq, Prod.mk.injEq] at H
    obtain ⟨rfl, rfl, rfl⟩ := H
    have hnb23 := NB108_106.out
    have hnc23 := NB106_108.out
    have hnb24 := NB108_107.out
    have hnc24 := NB107_108.out
    have hcz25_0 : wc.cell? ⟨gb108, 0, none⟩ = some (.int .i64 0) := (bC BK108.out 0).trans rfl
    have hcz25_1 : wc.cell? ⟨gb108, 1, none⟩ = some (.slice none 0 0) := (bC BK108.out 1).trans rfl
    have hfz25_0 := bF BK108.out 0
    have hfz25_1 := bF BK108.out 1
    go_wp2
    refine bodyPost_ret (results_ct rfl _ _ gb108 26 #[.int .i64 0, .slice none 0 0] (0, 0) _ rfl (by (with_reducible repeat first | apply bN | apply bD | apply bA); refine bP (cs := #[.int .i64 0, .slice none 0 0]) ?_ 1 _ rfl; (with_reducible repeat first | apply bN | apply bD | apply bA); refine bP (cs := #[.int .i64 0, .slice none 0 0]) ?_ 0 _ rfl; (with_reducible repeat first | apply bN | apply bD | apply bA); exact BK108.out) Tryz.underlying26 rfl (by kernel_rfl)) rfl ?_
    exact ⟨_, by first | rfl | (simp [errW_none, errW_some] <;> rfl) | (simp [*, errW_none, errW_some] <;> rfl), by first | exact Kd.R_nil _ _ _ _ _ | exact Kd.N_nil _ _ _ _ _ | exact Kd.V_nil _ _ _ _ _ | exact Kd.Q_nil _ _ _ _ _ | exact Kd.S_nil _ _ _ _ _, by repeat (first | (with_reducible first | exact HB.out | apply pA | apply pN | apply pD | refine bS ?_ GE106.out | refine bS ?_ GE107.out | refine bS ?_ GE108.out) | exact HB.out)⟩
   ·replace c22 := Bool.eq_false_iff.mpr c22
    subst c22
    have H1 : ((inode_Extent.f l0_1).bind fun t111 => (if (t111.length : Int) > 0 then (if 0 ≤ (wrap64 ((t111.length : Int) - 1)) then (if (wrap64 ((t111.length : Int) - 1)) < (t111.length : Int) then (Wj1 kj2 t111 (t111.length : Int) ((wrap64 (((d0_ t111 (wrap64 ((t111.length : Int) - 1))).f0) + ((d0_ t111 (wrap64 ((t111.length : Int) - 1))).f1))) == a1_0) a0_0 l0_1 a1_0 a1_1) else (none)) else (none)) else (Wj1 kj2 t111 (t111.length : Int) false a0_0 l0_1 a1_0 a1_1))) = some (r1, r2, r3) := by rw [if_neg (show ¬ (false = true) by decide)] at H; exact H
    clear H
    have H := H1
    clear H1
    replace H := Option.bind_eq_some_iff.mp H
    obtain ⟨t111, A260, H⟩ := H
    replace H : (if (t111.length : Int) > 0 then (if 0 ≤ (wrap64 ((t111.length : Int) - 1)) then (if (wrap64 ((t111.length : Int) - 1)) < (t111.length : Int) then (Wj1 kj2 t111 (t111.length : Int) ((wrap64 (((d0_ t111 (wrap64 ((t111.length : Int) - 1))).f0) + ((d0_ t111 (wrap64 ((t111.length : Int) - 1))).f1))) == a1_0) a0_0 l0_1 a1_0 a1_1) else (none)) else (none)) else (Wj1 kj2 t111 (t111.length : Int) false a0_0 l0_1 a1_0 a1_1)) = some (r1, r2, r3) := H
    have A26 := A0k A260
    clear A260
    have HC27 := A0k H
    clear H
    have hnb28 := NB106_107.out
    have hnc28 := NB107_106.out
    have hnb29 := NB106_108.out
    have hnc29 := NB108_106.out
    have hcz30_0 : wc.cell? ⟨gb106, 0, none⟩ = some (.int .i64 a0_0) := (bC BK106.out 0).trans rfl
    have hcz30_1 : wc.cell? ⟨gb106, 1, none⟩ = some (.slice A0_1 l0_1.length c0_1) := (bC BK106.out 1).trans rfl
    have hfz30_0 := bF BK106.out 0
    have hfz30_1 := bF BK106.out 1
    go_upto_region 6 with (first | ((with_reducible refine gC (f := 37) rfl ?_); refine gL_ (some 20) rfl rfl Tryz.func37 (by kernel_rfl) rfl #[.slice A0_1 l0_1.length c0_1] rfl (by (try simp only [List.map_toArray, List.map_cons, List.map_nil]); first | done | rfl | (simp only [List.length_drop, List.length_take]; rfl)) ?_; (with_reducible refine (inode_Extent.calls _ _ l0_1 t111 _ ?side1 ?side2 A26.out).mono ?_); (case side1 => repeat (first | exact (Kd.C_below HR0_1.out HB.out) | (with_reducible refine Kd.C_alloc ?_ _) | (with_reducible refine Kd.C_drewN ?_ _) | (with_reducible refine Kd.C_drew ?_))); (case side2 => exact HC0_1.out); rintro e w31 ⟨v112, rfl, ho0, hb⟩; refine ⟨_, rfl, ?_⟩; have n0_ := A0k (Kd.R_lower (Kd.R_newB ho0 (g := gb107) (o := .cells #[.int .i64 a1_0, .int .i64 a1_1] 51 (0, 0)) (by (with_reducible repeat first | apply bN | apply bD | apply bA); exact BK107.out)) (pZ (by repeat (first | (with_reducible first | exact HB.out | apply pA | apply pN | apply pD | refine bS ?_ GE106.out | refine bS ?_ GE107.out | refine bS ?_ GE108.out) | exact HB.out)))); have n1_ := A0k (bB (g := gb106) (o := .cells #[.int .i64 a0_0, .slice A0_1 l0_1.length c0_1] 26 (0, 0)) (by (with_reducible repeat first | apply bN | apply bD | apply bA); exact BK106.out) hb); have n2_ := A0k (bB (g := gb107) (o := .cells #[.int .i64 a1_0, .int .i64 a1_1] 51 (0, 0)) (by (with_reducible repeat first | apply bN | apply bD | apply bA); exact BK107.out) hb); have n3_ := A0k (bB (g := gb108) (o := .cells #[.int .i64 0, .slice none 0 0] 26 (0, 0)) (by (with_reducible repeat first | apply bN | apply bD | apply bA); exact BK108.out) hb); have n4_ := A0k (pS (by repeat (first | (with_reducible first | exact HB.out | apply pA | apply pN | apply pD | refine bS ?_ GE106.out | refine bS ?_ GE107.out | refine bS ?_ GE108.out) | exact HB.out)) hb); clear BK106 BK107 BK108 HB; have HO113 := n0_; have BK106 := n1_; have BK107 := n2_; have BK108 := n3_; have HB := n4_; clear n0_ n1_ n2_ n3_ n4_; (try clear hb); (try clear hb2); (try clear hk); (try clear hi); (try clear ho0); obtain ⟨Ao32, co32, eo32⟩ := Kd.R_slice HO113.out; subst eo32))
    (try simp only [Act.put, lS, lZ, lC])
    go_cut [27] (fun v27 wc => ∃ (kq : Nat) (x27_26 : Bool), v27 = .bool x27_26 ∧ Aside0 (Wj1 kq t111 (t111.length : Int) x27_26 a0_0 l0_1 a1_0 a1_1 = some (r1, r2, r3)) ∧ Aside0 (kq ≤ kj2) ∧ Aside0 (Kd.R k51 51 wc w.heap.size (fun k_ => k_ ≠ gb107) (.slice Ao32 t111.length co32) t111) ∧ Aside0 (wc.heap[gb106]? = some (.cells #[.int .i64 a0_0, (.slice A0_1 l0_1.length c0_1)] 26 (0, 0))) ∧ Aside0 (wc.heap[gb107]? = some (.cells #[.int .i64 a1_0, .int .i64 a1_1] 51 (0, 0))) ∧ Aside0 (wc.heap[gb108]? = some (.cells #[.int .i64 0, (.slice none 0 0)] 26 (0, 0))) ∧ Aside0 (Below w.heap.size w wc))
    case first =>
     have H := HC27.out
     clear HC27
     by_cases c33 : (t111.length : Int) > 0
     ·rw [if_pos c33] at H
      have c33b0 : decide (0 < (t111.length : Int)) = true := decide_eq_true c33
      have c33b1 : decide (0 < t111.length) = true := decide_eq_true (by omega)
      clear c33
      (first | rw [c33b0] | (simp only [i64_w, i32_w]; rw [c33b0]) | skip)
      obtain ⟨ji34, hji34⟩ : ∃ j_ : Int, (wrap64 ((t111.length : Int) - 1)) = j_ := ⟨_, rfl⟩
      replace H : (if 0 ≤ (ji34) then (if (ji34) < (t111.length : Int) then (Wj1 kj2 t111 (t111.length : Int) ((wrap64 (((d0_ t111 (ji34)).f0) + ((d0_ t111 (ji34)).f1))) == a1_0) a0_0 l0_1 a1_0 a1_1) else (none)) else (none)) = some (r1, r2, r3) := by first | (rw [hji34] at H; exact H) | (simp only [hji34] at H ⊢; exact H)
      have hji34w : (IntKind.i64.wrap ((t111.length : Int) - 1)) = ji34 := (i64_w _).trans hji34
      by_cases c35 : 0 ≤ (ji34)
      ·rw [if_pos c35] at H
       have c35b0 : decide (0 ≤ (ji34)) = true := decide_eq_true c35
       clear c35
       by_cases c36 : (ji34) < (t111.length : Int)
       ·rw [if_pos c36] at H
        have c36b0 : decide ((ji34) < (t111.length : Int)) = true := decide_eq_true c36
        clear c36
        have H' := A0k H
        clear H
        try go_wp2
        have n0_ := A0k (Kd.R_drew HO113.out)
        have n1_ := A0k (bD BK106.out)
        have n2_ := A0k (bD BK107.out)
        have n3_ := A0k (bD BK108.out)
        have n4_ := A0k (pD HB.out)
        clear HO113
        clear BK106
        clear BK107
        clear BK108
        clear HB
        have HO113 := n0_
        have BK106 := n1_
        have BK107 := n2_
        have BK108 := n3_
        have HB := n4_
        clear n0_ n1_ n2_ n3_ n4_
        have p114 : 0 ≤ ((ji34) : Int) := of_decide_eq_true (by first | (with_reducible assumption) | assumption)
        have q114 : (ji34) < (t111.length : Int) := of_decide_eq_true (by first | (with_reducible assumption) | assumption)
        obtain ⟨ad114, e114, hx114_0, hx114_1⟩ := at_T51 (Kd.R_reads' HO113.out).2.2 (ji34) p114 q114
        cases e114
        replace p114 := eq_true p114
        replace q114 := eq_true q114
        have p115 : 0 ≤ ((ji34) : Int) := of_decide_eq_true (by first | (with_reducible assumption) | assumption)
        have q115 : (ji34) < (t111.length : Int) := of_decide_eq_true (by first | (with_reducible assumption) | assumption)
        obtain ⟨ad115, e115, hx115_0, hx115_1⟩ := at_T51 (Kd.R_reads' HO113.out).2.2 (ji34) p115 q115
        obtain rfl : ad114 = ad115 := (by injection e115)
        replace p115 := eq_true p115
        replace q115 := eq_true q115
        refine start_ (n := 21) (S := fun w' => w'.cell? ⟨gb107, 0, none⟩ = some (.int .i64 a1_0) ∧ w'.cell? ⟨gb107, 1, none⟩ = some (.int .i64 a1_1) ∧ w'.cell? (ad114.add (((ji34)).toNat * 2)) = some (.int .i64 ((d0_ t111 (ji34)).f0)) ∧ w'.cell? ⟨(ad114.add (((ji34)).toNat * 2)).block, (ad114.add (((ji34)).toNat * 2)).off + 1, none⟩ = some (.int .i64 ((d0_ t111 (ji34)).f1)) ∧ w'.cell? (ad114.add (((ji34)).toNat * 2)) = some (.int .i64 ((d0_ t111 (ji34)).f0)) ∧ w'.cell? ⟨(ad114.add (((ji34)).toNat * 2)).block, (ad114.add (((ji34)).toNat * 2)).off + 1, none⟩ = some (.int .i64 ((d0_ t111 (ji34)).f1))) (ds := []) #[F, F, F, F, F, F, F, F, F, F, F, F, F, F, F, F, F, F, F, F, F] (by kernel_rfl) rfl rfl ⟨(bC BK107.out 0).trans rfl, (bC BK107.out 1).trans rfl, hx114_0, hx114_1, hx115_0, hx115_1⟩ (fun hHeld => ?_); refine with_tabW inode_Grow.tab6 inode_Grow.bits6 (fun HT_ HW_ => ?_)
        generalize w31.drew = w37 at HO113 BK106 BK107 BK108 HB hx114_0 hx114_1 hx115_0 hx115_1 hHeld ⊢
        refine pure_ (i := 0) (N := some 28) (v := ?_) (a' := ?_) #[T, F, F, F, F, F, F, F, F, F, F, F, F, F, F, F, F, F, F, F, F] rfl rfl (any_of HT_.out (by kernel_rfl)) (fun _ _ _ h => h) (Or.inl ⟨by rfl, ?_⟩) ?_ ?_
        rotate_left
        ·intro w'
         go_simp
         with_reducible rfl
        rotate_left
        ·simp only [Act.put, lS, lZ, lC, i64_w, i32_w]
         rfl
        refine pure_ (i := 1) (N := some 29) (v := ?_) (a' := ?_) #[T, T, F, F, F, F, F, F, F, F, F, F, F, F, F, F, F, F, F, F, F] rfl rfl (any_of HT_.out (by kernel_rfl)) (fun _ _ _ h => h) (Or.inl ⟨by rfl, ?_⟩) ?_ ?_
        rotate_left
        ·intro w'
         go_simp
         with_reducible rfl
        rotate_left
        ·simp only [Act.put, lS, lZ, lC, i64_w, i32_w]
         rfl
        refine pure_ (i := 2) (N := some 30) (v := ?_) (a' := ?_) #[T, T, T, F, F, F, F, F, F, F, F, F, F, F, F, F, F, F, F, F, F] rfl rfl (any_of HT_.out (by kernel_rfl)) (fun _ _ _ h => h) (Or.inl ⟨by rfl, ?_⟩) ?_ ?_
        rotate_left
        ·intro w'
         go_simp
         with_reducible rfl
        rotate_left
        ·simp only [Act.put, lS, lZ, lC, i64_w, i32_w]
         rfl
        refine pure_ (i := 3) (N := some 31) (v := ?_) (a' := ?_) #[T, T, T, T, F, F, F, F, F, F, F, F, F, F, F, F, F, F, F, F, F] rfl rfl (any_of HT_.out (by kernel_rfl)) (fun _ _ _ h => h) (Or.inl ⟨by rfl, ?_⟩) ?_ ?_
        rotate_left
        ·intro w'
         go_simp
         with_reducible rfl
        rotate_left
        ·simp only [Act.put, lS, lZ, lC, i64_w, i32_w]
         rfl
        refine pure_ (i := 4) (N := some 32) (v := ?_) (a' := ?_) #[T, T, T, T, T, F, F, F, F, F, F, F, F, F, F, F, F, F, F, F, F] rfl rfl (any_of HT_.out (by kernel_rfl)) (fun _ _ _ h => h) (Or.inl ⟨by rfl, ?_⟩) ?_ ?_
        rotate_left
        ·intro w'
         go_simp
         with_reducible rfl
        rotate_left
        ·simp only [Act.put, lS, lZ, lC, i64_w, i32_w]
         rfl
        refine pure_ (i := 5) (N := some 33) (v := ?_) (a' := ?_) #[T, T, T, T, T, T, F, F, F, F, F, F, F, F, F, F, F, F, F, F, F] rfl rfl (any_of HT_.out (by kernel_rfl)) (fun _ _ _ h => h) (Or.inl ⟨by rfl, ?_⟩) ?_ ?_
        rotate_left
        ·intro w'
         go_simp
         with_reducible rfl
        rotate_left
        ·simp only [Act.put, lS, lZ, lC, i64_w, i32_w]
         rfl
        refine pure_ (i := 6) (N := some 34) (v := ?_) (a' := ?_) #[T, T, T, T, T, T, T, F, F, F, F, F, F, F, F, F, F, F, F, F, F] rfl rfl (any_of HT_.out (by kernel_rfl)) (fun _ _ _ h => h) (Or.inl ⟨by rfl, ?_⟩) ?_ ?_
        rotate_left
        ·intro w'
         go_simp
         with_reducible rfl
        rotate_left
        ·simp only [Act.put, lS, lZ, lC, i64_w, i32_w]
         rfl
        refine pure_ (i := 7) (N := some 35) (v := ?_) (a' := ?_) #[T, T, T, T, T, T, T, T, F, F, F, F, F, F, F, F, F, F, F, F, F] rfl rfl (any_of HT_.out (by kernel_rfl)) (fun _ _ _ h => h) (Or.inl ⟨by rfl, ?_⟩) ?_ ?_
        rotate_left
        ·intro w'
         go_simp
         with_reducible rfl
        rotate_left
        ·simp only [Act.put, lS, lZ, lC, i64_w, i32_w]
         rfl
        refine pure_ (i := 9) (N := some 37) (v := ?_) (a' := ?_) #[T, T, T, T, T, T, T, T, F, T, F, F, F, F, F, F, F, F, F, F, F] rfl rfl (any_of HT_.out (by kernel_rfl)) (fun _ _ _ h => h) (Or.inl ⟨by rfl, ?_⟩) ?_ ?_
        rotate_left
        ·intro w'
         go_simp
         with_reducible rfl
        rotate_left
        ·simp only [Act.put, lS, lZ, lC, i64_w, i32_w]
         rfl
        refine pure_ (i := 10) (N := some 38) (v := ?_) (a' := ?_) #[T, T, T, T, T, T, T, T, F, T, T, F, F, F, F, F, F, F, F, F, F] rfl rfl (any_of HT_.out (by kernel_rfl)) (fun _ _ _ h => h) (Or.inl ⟨by rfl, ?_⟩) ?_ ?_
        rotate_left
        ·intro w'
         go_simp
         with_reducible rfl
        rotate_left
        ·simp only [Act.put, lS, lZ, lC, i64_w, i32_w]
         rfl
        refine pure_ (i := 11) (N := some 39) (v := ?_) (a' := ?_) #[T, T, T, T, T, T, T, T, F, T, T, T, F, F, F, F, F, F, F, F, F] rfl rfl (any_of HT_.out (by kernel_rfl)) (fun _ _ _ h => h) (Or.inl ⟨by rfl, ?_⟩) ?_ ?_
        rotate_left
        ·intro w'
         go_simp
         with_reducible rfl
        rotate_left
        ·simp only [Act.put, lS, lZ, lC, i64_w, i32_w]
         rfl
        refine pure_ (i := 12) (N := some 40) (v := ?_) (a' := ?_) #[T, T, T, T, T, T, T, T, F, T, T, T, T, F, F, F, F, F, F, F, F] rfl rfl (any_of HT_.out (by kernel_rfl)) (fun _ _ _ h => h) (Or.inl ⟨by rfl, ?_⟩) ?_ ?_
        rotate_left
        ·intro w'
         go_simp
         with_reducible rfl
        rotate_left
        ·simp only [Act.put, lS, lZ, lC, i64_w, i32_w]
         rfl
        refine pure_ (i := 13) (N := some 41) (v := ?_) (a' := ?_) #[T, T, T, T, T, T, T, T, F, T, T, T, T, T, F, F, F, F, F, F, F] rfl rfl (any_of HT_.out (by kernel_rfl)) (fun _ _ _ h => h) (Or.inl ⟨by rfl, ?_⟩) ?_ ?_
        rotate_left
        ·intro w'
         go_simp
         with_reducible rfl
        rotate_left
        ·simp only [Act.put, lS, lZ, lC, i64_w, i32_w]
         rfl
        refine pure_ (i := 16) (N := some 44) (v := ?_) (a' := ?_) #[T, T, T, T, T, T, T, T, F, T, T, T, T, T, F, F, T, F, F, F, F] rfl rfl (any_of HT_.out (by kernel_rfl)) (fun _ _ _ h => h) (Or.inl ⟨by rfl, ?_⟩) ?_ ?_
        rotate_left
        ·intro w'
         go_simp
         with_reducible rfl
        rotate_left
        ·simp only [Act.put, lS, lZ, lC, i64_w, i32_w]
         rfl
        refine take_ (i := 8) (N := some 36) (v := ?_) (a' := ?_) #[T, T, T, T, T, T, T, T, T, T, T, T, T, T, F, F, T, F, F, F, F] rfl rfl (take_ofW HT_.out HW_.out (by kernel_rfl)) (fun _ _ _ h => h) (Or.inl ⟨by rfl, ?_⟩) hHeld ?_ ?_
        rotate_left; (· rintro w' ⟨s0, s1, s2, s3, s4, s5⟩; go_simp; with_reducible rfl); rotate_left; (· simp only [Act.put, lS, lZ, lC, i64_w, i32_w]; rfl)
        refine take_ (i := 14) (N := some 42) (v := ?_) (a' := ?_) #[T, T, T, T, T, T, T, T, T, T, T, T, T, T, T, F, T, F, F, F, F] rfl rfl (take_ofW HT_.out HW_.out (by kernel_rfl)) (fun _ _ _ h => h) (Or.inl ⟨by rfl, ?_⟩) hHeld ?_ ?_
        rotate_left; (· rintro w' ⟨s0, s1, s2, s3, s4, s5⟩; go_simp; with_reducible rfl); rotate_left; (· simp only [Act.put, lS, lZ, lC, i64_w, i32_w]; rfl)
        refine pure_ (i := 15) (N := some 43) (v := ?_) (a' := ?_) #[T, T, T, T, T, T, T, T, T, T, T, T, T, T, T, T, T, F, F, F, F] rfl rfl (any_of HT_.out (by kernel_rfl)) (fun _ _ _ h => h) (Or.inl ⟨by rfl, ?_⟩) ?_ ?_
        rotate_left
        ·intro w'
         go_simp
         with_reducible rfl
        rotate_left
        ·simp only [Act.put, lS, lZ, lC, i64_w, i32_w]
         rfl
        refine take_ (i := 17) (N := some 45) (v := ?_) (a' := ?_) #[T, T, T, T, T, T, T, T, T, T, T, T, T, T, T, T, T, T, F, F, F] rfl rfl (take_ofW HT_.out HW_.out (by kernel_rfl)) (fun _ _ _ h => h) (Or.inl ⟨by rfl, ?_⟩) hHeld ?_ ?_
        rotate_left; (· rintro w' ⟨s0, s1, s2, s3, s4, s5⟩; go_simp; with_reducible rfl); rotate_left; (· simp only [Act.put, lS, lZ, lC, i64_w, i32_w]; rfl)
        refine pure_ (i := 18) (N := some 46) (v := ?_) (a' := ?_) #[T, T, T, T, T, T, T, T, T, T, T, T, T, T, T, T, T, T, T, F, F] rfl rfl (any_of HT_.out (by kernel_rfl)) (fun _ _ _ h => h) (Or.inl ⟨by rfl, ?_⟩) ?_ ?_
        rotate_left
        ·intro w'
         go_simp
         with_reducible rfl
        rotate_left
        ·simp only [Act.put, lS, lZ, lC, i64_w, i32_w]
         rfl
        refine pure_ (i := 19) (N := some 47) (v := ?_) (a' := ?_) #[T, T, T, T, T, T, T, T, T, T, T, T, T, T, T, T, T, T, T, T, F] rfl rfl (any_of HT_.out (by kernel_rfl)) (fun _ _ _ h => h) (Or.inl ⟨by rfl, ?_⟩) ?_ ?_
        rotate_left
        ·intro w'
         go_simp
         with_reducible rfl
        rotate_left
        ·simp only [Act.put, lS, lZ, lC, i64_w, i32_w]
         rfl
        refine pure_ (i := 20) (N := some 27) (v := ?_) (a' := ?_) #[T, T, T, T, T, T, T, T, T, T, T, T, T, T, T, T, T, T, T, T, T] rfl rfl (any_of HT_.out (by kernel_rfl)) (fun _ _ _ h => h) (Or.inl ⟨by rfl, ?_⟩) ?_ ?_
        rotate_left
        ·intro w'
         go_simp
         with_reducible rfl
        rotate_left
        ·simp only [Act.put, lS, lZ, lC, i64_w, i32_w]
         rfl
        refine done_ (done_of HT_.out (by kernel_rfl)) ?_
        try go_wp2
        go_meet
        case rel => exact ⟨_, (((wrap64 (((d0_ t111 (ji34)).f0) + ((d0_ t111 (ji34)).f1))) == a1_0)), (by first | rfl | (simp; done) | (simp only [← hji34] <;> (first | rfl | simp)) | (simp [*]; done)), H', ⟨by have := HJ2.out; first | omega | exact Nat.le_refl _⟩, ⟨by (with_reducible repeat first | apply rA | apply rN | apply rD); exact Kd.R_mono HO113.out (fun _ hk => hk.2)⟩, ⟨by (with_reducible repeat first | apply bN | apply bD | apply bA); exact BK106.out⟩, ⟨by (with_reducible repeat first | apply bN | apply bD | apply bA); exact BK107.out⟩, ⟨by (with_reducible repeat first | apply bN | apply bD | apply bA); exact BK108.out⟩, ⟨by repeat (first | (with_reducible first | exact HB.out | apply pA | apply pN | apply pD | refine bS ?_ GE106.out | refine bS ?_ GE107.out | refine bS ?_ GE108.out) | exact HB.out)⟩⟩
       ·rw [if_neg c36] at H
        exact absurd H (by simp)
      ·rw [if_neg c35] at H
       exact absurd H (by simp)
     ·rw [if_neg c33] at H
      have c33b0 : decide (0 < (t111.length : Int)) = false := decide_eq_false c33
      have c33b1 : decide (0 < t111.length) = false := decide_eq_false (by omega)
      clear c33
      (first | rw [c33b0] | (simp only [i64_w, i32_w]; rw [c33b0]) | skip)
      have H' := A0k H
      clear H
      try go_wp2
      have n0_ := A0k (Kd.R_drew HO113.out)
      have n1_ := A0k (bD BK106.out)
      have n2_ := A0k (bD BK107.out)
      have n3_ := A0k (bD BK108.out)
      have n4_ := A0k (pD HB.out)
      clear HO113
      clear BK106
      clear BK107
      clear BK108
      clear HB
      have HO113 := n0_
      have BK106 := n1_
      have BK107 := n2_
      have BK108 := n3_
      have HB := n4_
      clear n0_ n1_ n2_ n3_ n4_
      refine start_ (n := 21) (S := fun w' => True) (ds := []) #[F, F, F, F, F, F, F, F, F, F, F, F, F, F, F, F, F, F, F, F, F] (by kernel_rfl) rfl rfl trivial (fun hHeld => ?_); refine with_tabW inode_Grow.tab6 inode_Grow.bits6 (fun HT_ HW_ => ?_)
      generalize w31.drew = w38 at HO113 BK106 BK107 BK108 HB hHeld ⊢
      refine pure_ (i := 0) (N := some 28) (v := ?_) (a' := ?_) #[T, F, F, F, F, F, F, F, F, F, F, F, F, F, F, F, F, F, F, F, F] rfl rfl (any_of HT_.out (by kernel_rfl)) (fun _ _ _ h => h) (Or.inl ⟨by rfl, ?_⟩) ?_ ?_
      rotate_left
      ·intro w'
       go_simp
       with_reducible rfl
      rotate_left
      ·simp only [Act.put, lS, lZ, lC, i64_w, i32_w]
       rfl
      refine pure_ (i := 1) (N := some 29) (v := ?_) (a' := ?_) #[T, T, F, F, F, F, F, F, F, F, F, F, F, F, F, F, F, F, F, F, F] rfl rfl (any_of HT_.out (by kernel_rfl)) (fun _ _ _ h => h) (Or.inl ⟨by rfl, ?_⟩) ?_ ?_
      rotate_left
      ·intro w'
       go_simp
       with_reducible rfl
      rotate_left
      ·simp only [Act.put, lS, lZ, lC, i64_w, i32_w]
       rfl
      refine pure_ (i := 2) (N := some 30) (v := ?_) (a' := ?_) #[T, T, T, F, F, F, F, F, F, F, F, F, F, F, F, F, F, F, F, F, F] rfl rfl (any_of HT_.out (by kernel_rfl)) (fun _ _ _ h => h) (Or.inl ⟨by rfl, ?_⟩) ?_ ?_
      rotate_left
      ·intro w'
       go_simp
       with_reducible rfl
      rotate_left
      ·simp only [Act.put, lS, lZ, lC, i64_w, i32_w]
       rfl
      refine pure_ (i := 3) (N := some 31) (v := undef) (a' := ?_) #[T, T, T, T, F, F, F, F, F, F, F, F, F, F, F, F, F, F, F, F, F] rfl rfl (any_of HT_.out (by kernel_rfl)) (fun _ _ _ h => h) (Or.inr ⟨by rfl, rfl⟩) ?_ ?_
      rotate_left
      ·simp only [Act.put, lS, lZ, lC, i64_w, i32_w]
       rfl
      refine pure_ (i := 4) (N := some 32) (v := undef) (a' := ?_) #[T, T, T, T, T, F, F, F, F, F, F, F, F, F, F, F, F, F, F, F, F] rfl rfl (any_of HT_.out (by kernel_rfl)) (fun _ _ _ h => h) (Or.inr ⟨by rfl, rfl⟩) ?_ ?_
      rotate_left
      ·simp only [Act.put, lS, lZ, lC, i64_w, i32_w]
       rfl
      refine pure_ (i := 5) (N := some 33) (v := undef) (a' := ?_) #[T, T, T, T, T, T, F, F, F, F, F, F, F, F, F, F, F, F, F, F, F] rfl rfl (any_of HT_.out (by kernel_rfl)) (fun _ _ _ h => h) (Or.inr ⟨by rfl, rfl⟩) ?_ ?_
      rotate_left
      ·simp only [Act.put, lS, lZ, lC, i64_w, i32_w]
       rfl
      refine pure_ (i := 6) (N := some 34) (v := undef) (a' := ?_) #[T, T, T, T, T, T, T, F, F, F, F, F, F, F, F, F, F, F, F, F, F] rfl rfl (any_of HT_.out (by kernel_rfl)) (fun _ _ _ h => h) (Or.inr ⟨by rfl, rfl⟩) ?_ ?_
      rotate_left
      ·simp only [Act.put, lS, lZ, lC, i64_w, i32_w]
       rfl
      refine pure_ (i := 7) (N := some 35) (v := undef) (a' := ?_) #[T, T, T, T, T, T, T, T, F, F, F, F, F, F, F, F, F, F, F, F, F] rfl rfl (any_of HT_.out (by kernel_rfl)) (fun _ _ _ h => h) (Or.inr ⟨by rfl, rfl⟩) ?_ ?_
      rotate_left
      ·simp only [Act.put, lS, lZ, lC, i64_w, i32_w]
       rfl
      refine pure_ (i := 8) (N := some 36) (v := undef) (a' := ?_) #[T, T, T, T, T, T, T, T, T, F, F, F, F, F, F, F, F, F, F, F, F] rfl rfl (any_of HT_.out (by kernel_rfl)) (fun _ _ _ h => h) (Or.inr ⟨by rfl, rfl⟩) ?_ ?_
      rotate_left
      ·simp only [Act.put, lS, lZ, lC, i64_w, i32_w]
       rfl
      refine pure_ (i := 9) (N := some 37) (v := undef) (a' := ?_) #[T, T, T, T, T, T, T, T, T, T, F, F, F, F, F, F, F, F, F, F, F] rfl rfl (any_of HT_.out (by kernel_rfl)) (fun _ _ _ h => h) (Or.inr ⟨by rfl, rfl⟩) ?_ ?_
      rotate_left
      ·simp only [Act.put, lS, lZ, lC, i64_w, i32_w]
       rfl
      refine pure_ (i := 10) (N := some 38) (v := undef) (a' := ?_) #[T, T, T, T, T, T, T, T, T, T, T, F, F, F, F, F, F, F, F, F, F] rfl rfl (any_of HT_.out (by kernel_rfl)) (fun _ _ _ h => h) (Or.inr ⟨by rfl, rfl⟩) ?_ ?_
      rotate_left
      ·simp only [Act.put, lS, lZ, lC, i64_w, i32_w]
       rfl
      refine pure_ (i := 11) (N := some 39) (v := undef) (a' := ?_) #[T, T, T, T, T, T, T, T, T, T, T, T, F, F, F, F, F, F, F, F, F] rfl rfl (any_of HT_.out (by kernel_rfl)) (fun _ _ _ h => h) (Or.inr ⟨by rfl, rfl⟩) ?_ ?_
      rotate_left
      ·simp only [Act.put, lS, lZ, lC, i64_w, i32_w]
       rfl
      refine pure_ (i := 12) (N := some 40) (v := undef) (a' := ?_) #[T, T, T, T, T, T, T, T, T, T, T, T, T, F, F, F, F, F, F, F, F] rfl rfl (any_of HT_.out (by kernel_rfl)) (fun _ _ _ h => h) (Or.inr ⟨by rfl, rfl⟩) ?_ ?_
      rotate_left
      ·simp only [Act.put, lS, lZ, lC, i64_w, i32_w]
       rfl
      refine pure_ (i := 13) (N := some 41) (v := undef) (a' := ?_) #[T, T, T, T, T, T, T, T, T, T, T, T, T, T, F, F, F, F, F, F, F] rfl rfl (any_of HT_.out (by kernel_rfl)) (fun _ _ _ h => h) (Or.inr ⟨by rfl, rfl⟩) ?_ ?_
      rotate_left
      ·simp only [Act.put, lS, lZ, lC, i64_w, i32_w]
       rfl
      refine pure_ (i := 14) (N := some 42) (v := undef) (a' := ?_) #[T, T, T, T, T, T, T, T, T, T, T, T, T, T, T, F, F, F, F, F, F] rfl rfl (any_of HT_.out (by kernel_rfl)) (fun _ _ _ h => h) (Or.inr ⟨by rfl, rfl⟩) ?_ ?_
      rotate_left
      ·simp only [Act.put, lS, lZ, lC, i64_w, i32_w]
       rfl
      refine pure_ (i := 15) (N := some 43) (v := undef) (a' := ?_) #[T, T, T, T, T, T, T, T, T, T, T, T, T, T, T, T, F, F, F, F, F] rfl rfl (any_of HT_.out (by kernel_rfl)) (fun _ _ _ h => h) (Or.inr ⟨by rfl, rfl⟩) ?_ ?_
      rotate_left
      ·simp only [Act.put, lS, lZ, lC, i64_w, i32_w]
       rfl
      refine pure_ (i := 16) (N := some 44) (v := undef) (a' := ?_) #[T, T, T, T, T, T, T, T, T, T, T, T, T, T, T, T, T, F, F, F, F] rfl rfl (any_of HT_.out (by kernel_rfl)) (fun _ _ _ h => h) (Or.inr ⟨by rfl, rfl⟩) ?_ ?_
      rotate_left
      ·simp only [Act.put, lS, lZ, lC, i64_w, i32_w]
       rfl
      refine pure_ (i := 17) (N := some 45) (v := undef) (a' := ?_) #[T, T, T, T, T, T, T, T, T, T, T, T, T, T, T, T, T, T, F, F, F] rfl rfl (any_of HT_.out (by kernel_rfl)) (fun _ _ _ h => h) (Or.inr ⟨by rfl, rfl⟩) ?_ ?_
      rotate_left
      ·simp only [Act.put, lS, lZ, lC, i64_w, i32_w]
       rfl
      refine pure_ (i := 18) (N := some 46) (v := undef) (a' := ?_) #[T, T, T, T, T, T, T, T, T, T, T, T, T, T, T, T, T, T, T, F, F] rfl rfl (any_of HT_.out (by kernel_rfl)) (fun _ _ _ h => h) (Or.inr ⟨by rfl, rfl⟩) ?_ ?_
      rotate_left
      ·simp only [Act.put, lS, lZ, lC, i64_w, i32_w]
       rfl
      refine pure_ (i := 19) (N := some 47) (v := ?_) (a' := ?_) #[T, T, T, T, T, T, T, T, T, T, T, T, T, T, T, T, T, T, T, T, F] rfl rfl (any_of HT_.out (by kernel_rfl)) (fun _ _ _ h => h) (Or.inl ⟨by rfl, ?_⟩) ?_ ?_
      rotate_left
      ·intro w'
       go_simp
       with_reducible rfl
      rotate_left
      ·simp only [Act.put, lS, lZ, lC, i64_w, i32_w]
       rfl
      refine pure_ (i := 20) (N := some 27) (v := ?_) (a' := ?_) #[T, T, T, T, T, T, T, T, T, T, T, T, T, T, T, T, T, T, T, T, T] rfl rfl (any_of HT_.out (by kernel_rfl)) (fun _ _ _ h => h) (Or.inl ⟨by rfl, ?_⟩) ?_ ?_
      rotate_left
      ·intro w'
       go_simp
       with_reducible rfl
      rotate_left
      ·simp only [Act.put, lS, lZ, lC, i64_w, i32_w]
       rfl
      refine done_ (done_of HT_.out (by kernel_rfl)) ?_
      try go_wp2
      go_meet
      case rel => exact ⟨_, (false), (by first | rfl | (simp; done) | (simp [*]; done)), H', ⟨by have := HJ2.out; first | omega | exact Nat.le_refl _⟩, ⟨by (with_reducible repeat first | apply rA | apply rN | apply rD); exact Kd.R_mono HO113.out (fun _ hk => hk.2)⟩, ⟨by (with_reducible repeat first | apply bN | apply bD | apply bA); exact BK106.out⟩, ⟨by (with_reducible repeat first | apply bN | apply bD | apply bA); exact BK107.out⟩, ⟨by (with_reducible repeat first | apply bN | apply bD | apply bA); exact BK108.out⟩, ⟨by repeat (first | (with_reducible first | exact HB.out | apply pA | apply pN | apply pD | refine bS ?_ GE106.out | refine bS ?_ GE107.out | refine bS ?_ GE108.out) | exact HB.out)⟩⟩
    case rest =>
     clear HC27
     (try clear c1); (try clear p1); (try clear q1); (try clear hx1); (try clear c2); (try clear p2); (try clear c3); (try clear p6); (try clear c8); (try clear c10); (try clear c11); (try clear p11); (try clear q11); (try clear hx11); (try clear c14); (try clear c16); (try clear c18); (try clear c19); (try clear c22); (try clear c23); (try clear c24); (try clear c25); (try clear c28); (try clear c29); (try clear c33); (try clear c33b0); (try clear c33b1); (try clear c35); (try clear c35b0); (try clear c36); (try clear c36b0); (try clear c37); (try clear hcz12_0); (try clear hcz12_1); (try clear hcz15_0); (try clear hcz15_1); (try clear hcz16_0); (try clear hcz16_1); (try clear hcz20_0); (try clear hcz20_1); (try clear hcz25_0); (try clear hcz25_1); (try clear hcz30_0); (try clear hcz30_1); (try clear hfz12_0); (try clear hfz12_1); (try clear hfz15_0); (try clear hfz15_1); (try clear hfz16_0); (try clear hfz16_1); (try clear hfz20_0); (try clear hfz20_1); (try clear hfz25_0); (try clear hfz25_1); (try clear hfz30_0); (try clear hfz30_1); (try clear hx114_0); (try clear hx114_1); (try clear hx115_0); (try clear hx115_1); (try clear p114); (try clear p115); (try clear p2); (try clear q114); (try clear q115)
     obtain ⟨kq, x27_26, rfl, HA, HJ26, HO_6, BK106, BK107, BK108, HB⟩ := hcut
     cases kq with
     | zero => exact absurd HA.out (by simp [Wj1])
     | succ kj26 =>
      have H := HA.out
      clear HA
      simp only [Wj1] at H
      by_cases c39 : x27_26 = true
      ·subst c39
       have H1 : (if 0 ≤ (wrap64 ((t111.length : Int) - 1)) then (if (wrap64 ((t111.length : Int) - 1)) < (t111.length : Int) then ((inode_Inode_changed.f a0_0 l0_1 (t111.set ((wrap64 ((t111.length : Int) - 1)) : Int).toNat (⟨(d0_ t111 (wrap64 ((t111.length : Int) - 1))).f0, wrap64 (((d0_ t111 (wrap64 ((t111.length : Int) - 1))).f1) + a1_1)⟩ : S51))).bind fun bt118 => (some (bt118.1, bt118.2, none))) else (none)) else (none)) = some (r1, r2, r3) := by rw [if_pos rfl] at H; exact H
       clear H
       have H := H1
       clear H1
       obtain ⟨ji40, hji40⟩ : ∃ j_ : Int, (wrap64 ((t111.length : Int) - 1)) = j_ := ⟨_, rfl⟩
       replace H : (if 0 ≤ (ji40) then (if (ji40) < (t111.length : Int) then ((inode_Inode_changed.f a0_0 l0_1 (t111.set ((ji40) : Int).toNat (⟨(d0_ t111 (ji40)).f0, wrap64 (((d0_ t111 (ji40)).f1) + a1_1)⟩ : S51))).bind fun bt118 => (some (bt118.1, bt118.2, none))) else (none)) else (none)) = some (r1, r2, r3) := by first | (rw [hji40] at H; exact H) | (simp only [hji40] at H ⊢; exact H)
       have hji40w : (IntKind.i64.wrap ((t111.length : Int) - 1)) = ji40 := (i64_w _).trans hji40
       by_cases c41 : 0 ≤ (ji40)
       ·rw [if_pos c41] at H
        have c41b0 : decide (0 ≤ (ji40)) = true := decide_eq_true c41
        clear c41
        by_cases c42 : (ji40) < (t111.length : Int)
        ·rw [if_pos c42] at H
         have c42b0 : decide ((ji40) < (t111.length : Int)) = true := decide_eq_true c42
         clear c42
         obtain ⟨y117, hy117⟩ : ∃ y_ : List (S51), y_ = (t111.set ((ji40) : Int).toNat (⟨(d0_ t111 (ji40)).f0, wrap64 (((d0_ t111 (ji40)).f1) + a1_1)⟩ : S51)) := ⟨_, rfl⟩
         replace H : ((inode_Inode_changed.f a0_0 l0_1 y117).bind fun bt118 => (some (bt118.1, bt118.2, none))) = some (r1, r2, r3) := by first | (rw [hy117]; with_reducible exact H) | (have H2_ := (Option.bind_some _ _).symm.trans H; rw [hy117]; with_reducible exact H2_) | (have H2_ := (Option.bind_some _ _).symm.trans H; with_reducible exact H2_) | with_reducible exact H | (rw [hy117]; exact H) | exact H
         have Ny117 := A0k hy117
         clear hy117
         replace H := Option.bind_eq_some_iff.mp H
         obtain ⟨⟨t118, t119⟩, A440, H⟩ := H
         replace H : (some (t118, t119, none)) = some (r1, r2, r3) := H
         have A44 := A0k A440
         clear A440
         simp only [Option.some.injEq, Prod.mk.injEq] at H
         obtain ⟨rfl, rfl, rfl⟩ := H
         try go_wp2
         have n0_ := A0k (Kd.R_drew HO_6.out)
         have n1_ := A0k (bD BK106.out)
         have n2_ := A0k (bD BK107.out)
         have n3_ := A0k (bD BK108.out)
         have n4_ := A0k (pD HB.out)
         clear HO_6
         clear BK106
         clear BK107
         clear BK108
         clear HB
         have HO_6 := n0_
         have BK106 := n1_
         have BK107 := n2_
         have BK108 := n3_
         have HB := n4_
         clear n0_ n1_ n2_ n3_ n4_
         have p116 : 0 ≤ ((ji40) : Int) := of_decide_eq_true (by first | (with_reducible assumption) | assumption)
         have q116 : (ji40) < (t111.length : Int) := of_decide_eq_true (by first | (with_reducible assumption) | assumption)
         obtain ⟨ad116, e116, hx116_0, hx116_1⟩ := at_T51 (Kd.R_reads' HO_6.out).2.2 (ji40) p116 q116
         cases e116
         replace p116 := eq_true p116
         replace q116 := eq_true q116
         have p43 : 0 ≤ ((ji40) : Int) := of_decide_eq_true (by first | (with_reducible assumption) | assumption)
         have q43 : ((ji40) : Int) < ((t111.length : Int) : Int) := of_decide_eq_true (by first | (with_reducible assumption) | assumption)
         obtain ⟨go43, co43, eo43, gb43, gl43, cl43, HG43⟩ := Kd.R_form HO_6.out (by omega)
         (first | cases eo43 | (injection eo43 with ea_ en_ ec_; (first | subst ea_ | (injection ea_ with ea_; subst ea_)); subst ec_; clear en_))
         have GB43 := A0k gb43
         have GG43 := A0k HG43
         clear gb43 gl43 HG43
         (first | simp only [add_plain] at hx116_0 | skip)
         (first | simp only [add_plain] at hx116_1 | skip)
         obtain ⟨ce43, hcl43, hM43, hcc43, hfr43⟩ := Kd.R_elem HO_6.out z51 ((ji40) : Int) p43 q43
         obtain rfl := k51_openM hM43
         have hx43_0 : World.cell? _ ⟨go43, ((ji40) : Int).toNat * 2, none⟩ = some (.int .i64 ((d0_ t111 (ji40)).f0)) := hcc43 0 _ rfl
         have hx43_1 : World.cell? _ ⟨go43, ((ji40) : Int).toNat * 2 + 1, none⟩ = some (.int .i64 ((d0_ t111 (ji40)).f1)) := hcc43 1 _ rfl
         have hf43_0 : World.frozen? _ ⟨go43, ((ji40) : Int).toNat * 2, none⟩ = false := hfr43 0
         have hf43_1 : World.frozen? _ ⟨go43, ((ji40) : Int).toNat * 2 + 1, none⟩ = false := hfr43 1
         clear hcl43 hcc43 hfr43 hM43
         replace p43 := eq_true p43
         replace q43 := eq_true q43
         obtain ⟨ce46, hcl46, hM46, hcc46, hfr46⟩ := Kd.R_elem HO_6.out z51 ((ji40) : Int) (of_decide_eq_true (by first | (with_reducible assumption) | assumption)) (by have h_ : ((ji40) : Int) < ((t111.length : Int) : Int) := of_decide_eq_true (by first | (with_reducible assumption) | assumption); first | exact h_ | (have e_ := (Kd.R_reads' HO_6.out).1; omega) | simpa using h_)
         obtain rfl := k51_openM hM46
         have HP46 := (Kd.R_seg HO_6.out ((ji40) : Int) (of_decide_eq_true (by first | (with_reducible assumption) | assumption)) (by have h_ : ((ji40) : Int) < ((t111.length : Int) : Int) := of_decide_eq_true (by first | (with_reducible assumption) | assumption); first | exact h_ | (have e_ := (Kd.R_reads' HO_6.out).1; omega) | simpa using h_) (seg := [.int .i64 (wrap64 (((d0_ t111 (ji40)).f1) + a1_1))]) (j := 1) hcl46 hcc46 (show 2 ≤ 2 from by decide) (x' := (⟨(d0_ t111 (ji40)).f0, wrap64 (((d0_ t111 (ji40)).f1) + a1_1)⟩ : S51)) (k51_mkM _ _ _ (⟨(d0_ t111 (ji40)).f0, wrap64 (((d0_ t111 (ji40)).f1) + a1_1)⟩ : S51) ) (fun _ hk => hk)).1
         rw [← Ny117.out] at HP46
         have HQ46 := A0k HP46
         clear hcl46 hcc46 hfr46 hM46 HP46
         refine start_ (n := 12) (S := fun w' => w'.cell? ⟨gb107, 0, none⟩ = some (.int .i64 a1_0) ∧ w'.cell? ⟨gb107, 1, none⟩ = some (.int .i64 a1_1) ∧ w'.cell? ⟨go43, ((ji40)).toNat * 2, none⟩ = some (.int .i64 ((d0_ t111 (ji40)).f0)) ∧ w'.cell? ⟨go43, ((ji40)).toNat * 2 + 1, none⟩ = some (.int .i64 ((d0_ t111 (ji40)).f1))) (ds := [11]) #[F, F, F, F, F, F, F, F, F, F, F, F] (by kernel_rfl) rfl rfl ⟨(bC BK107.out 0).trans rfl, (bC BK107.out 1).trans rfl, hx116_0, hx116_1⟩ (fun hHeld => ?_); refine with_tabW inode_Grow.tab7 inode_Grow.bits7 (fun HT_ HW_ => ?_)
         generalize wc.drew = w45 at HO_6 BK106 BK107 BK108 HB GG43 HQ46 hf43_0 hf43_1 hx116_0 hx116_1 hx43_0 hx43_1 hHeld ⊢
         refine pure_ (i := 0) (N := some 48) (v := ?_) (a' := ?_) #[T, F, F, F, F, F, F, F, F, F, F, F] rfl rfl (any_of HT_.out (by kernel_rfl)) (fun _ _ _ h => h) (Or.inl ⟨by rfl, ?_⟩) ?_ ?_
         rotate_left
         ·intro w'
          go_simp
          with_reducible rfl
         rotate_left
         ·simp only [Act.put, lS, lZ, lC, i64_w, i32_w]
          rfl
         refine pure_ (i := 1) (N := some 49) (v := ?_) (a' := ?_) #[T, T, F, F, F, F, F, F, F, F, F, F] rfl rfl (any_of HT_.out (by kernel_rfl)) (fun _ _ _ h => h) (Or.inl ⟨by rfl, ?_⟩) ?_ ?_
         rotate_left
         ·intro w'
          go_simp
          with_reducible rfl
         rotate_left
         ·simp only [Act.put, lS, lZ, lC, i64_w, i32_w]
          rfl
         refine pure_ (i := 2) (N := some 50) (v := ?_) (a' := ?_) #[T, T, T, F, F, F, F, F, F, F, F, F] rfl rfl (any_of HT_.out (by kernel_rfl)) (fun _ _ _ h => h) (Or.inl ⟨by rfl, ?_⟩) ?_ ?_
         rotate_left
         ·intro w'
          go_simp
          with_reducible rfl
         rotate_left
         ·simp only [Act.put, lS, lZ, lC, i64_w, i32_w]
          rfl
         refine pure_ (i := 3) (N := some 51) (v := ?_) (a' := ?_) #[T, T, T, T, F, F, F, F, F, F, F, F] rfl rfl (any_of HT_.out (by kernel_rfl)) (fun _ _ _ h => h) (Or.inl ⟨by rfl, ?_⟩) ?_ ?_
         rotate_left
         ·intro w'
          go_simp
          with_reducible rfl
         rotate_left
         ·simp only [Act.put, lS, lZ, lC, i64_w, i32_w]
          rfl
         refine pure_ (i := 4) (N := some 52) (v := ?_) (a' := ?_) #[T, T, T, T, T, F, F, F, F, F, F, F] rfl rfl (any_of HT_.out (by kernel_rfl)) (fun _ _ _ h => h) (Or.inl ⟨by rfl, ?_⟩) ?_ ?_
         rotate_left
         ·intro w'
          go_simp
          with_reducible rfl
         rotate_left
         ·simp only [Act.put, lS, lZ, lC, i64_w, i32_w]
          rfl
         refine pure_ (i := 6) (N := some 54) (v := ?_) (a' := ?_) #[T, T, T, T, T, F, T, F, F, F, F, F] rfl rfl (any_of HT_.out (by kernel_rfl)) (fun _ _ _ h => h) (Or.inl ⟨by rfl, ?_⟩) ?_ ?_
         rotate_left
         ·intro w'
          go_simp
          with_reducible rfl
         rotate_left
         ·simp only [Act.put, lS, lZ, lC, i64_w, i32_w]
          rfl
         refine take_ (i := 5) (N := some 53) (v := ?_) (a' := ?_) #[T, T, T, T, T, T, T, F, F, F, F, F] rfl rfl (take_ofW HT_.out HW_.out (by kernel_rfl)) (fun _ _ _ h => h) (Or.inl ⟨by rfl, ?_⟩) hHeld ?_ ?_
         rotate_left; (· rintro w' ⟨s0, s1, s2, s3⟩; go_simp; with_reducible rfl); rotate_left; (· simp only [Act.put, lS, lZ, lC, i64_w, i32_w]; rfl)
         refine take_ (i := 7) (N := some 55) (v := ?_) (a' := ?_) #[T, T, T, T, T, T, T, T, F, F, F, F] rfl rfl (take_ofW HT_.out HW_.out (by kernel_rfl)) (fun _ _ _ h => h) (Or.inl ⟨by rfl, ?_⟩) hHeld ?_ ?_
         rotate_left; (· rintro w' ⟨s0, s1, s2, s3⟩; go_simp; with_reducible rfl); rotate_left; (· simp only [Act.put, lS, lZ, lC, i64_w, i32_w]; rfl)
         refine pure_ (i := 8) (N := some 56) (v := ?_) (a' := ?_) #[T, T, T, T, T, T, T, T, T, F, F, F] rfl rfl (any_of HT_.out (by kernel_rfl)) (fun _ _ _ h => h) (Or.inl ⟨by rfl, ?_⟩) ?_ ?_
         rotate_left
         ·intro w'
          go_simp
          with_reducible rfl
         rotate_left
         ·simp only [Act.put, lS, lZ, lC, i64_w, i32_w]
          rfl
         refine pure_ (i := 9) (N := some 57) (v := ?_) (a' := ?_) #[T, T, T, T, T, T, T, T, T, T, F, F] rfl rfl (any_of HT_.out (by kernel_rfl)) (fun _ _ _ h => h) (Or.inl ⟨by rfl, ?_⟩) ?_ ?_
         rotate_left
         ·intro w'
          go_simp
          with_reducible rfl
         rotate_left
         ·simp only [Act.put, lS, lZ, lC, i64_w, i32_w]
          rfl
         refine pure_ (i := 10) (N := some 58) (v := ?_) (a' := ?_) #[T, T, T, T, T, T, T, T, T, T, T, F] rfl rfl (any_of HT_.out (by kernel_rfl)) (fun _ _ _ h => h) (Or.inl ⟨by rfl, ?_⟩) ?_ ?_
         rotate_left
         ·intro w'
          go_simp
          with_reducible rfl
         rotate_left
         ·simp only [Act.put, lS, lZ, lC, i64_w, i32_w]
          rfl
         refine last_ (i := 11) (N := none) #[T, T, T, T, T, T, T, T, T, T, T, T] rfl rfl (one_of HT_.out (by kernel_rfl)) (by decide) (fun K hK => ?_)
         refine skip_ (w1 := ?_) (by rfl) rfl ?_ ?_
         rotate_left
         ·go_simp
          rfl
         refine hK.out _ _ ?_
         clear hK K
         refine done_ (done_of HT_.out (by kernel_rfl)) ?_
         have n0_ : Aside0 (Kd.R k51 51 (w45.setCell ⟨go43, ((ji40) : Int).toNat * 2 + 1, none⟩ (.int .i64 (wrap64 (((d0_ t111 (ji40)).f1) + a1_1)))) w.heap.size (fun k_ => k_ ≠ gb107) (.slice (some ⟨go43, 0, none⟩) t111.length co32) y117) := ⟨by (with_reducible repeat first | apply rA | apply rN | apply rD); exact HQ46.out⟩
         have n1_ : Aside0 ((w45.setCell ⟨go43, ((ji40) : Int).toNat * 2 + 1, none⟩ (.int .i64 (wrap64 (((d0_ t111 (ji40)).f1) + a1_1)))).heap[gb106]? = some (.cells #[.int .i64 a0_0, .slice A0_1 l0_1.length c0_1] 26 (0, 0))) := ⟨by (with_reducible repeat first | apply bN | apply bD | apply bA); refine bR ?_ (by have h_ := Kd.R_ne HO_6.out BK106.out (by decide); intro e_; exact h_ (by rw [e_]; rfl)) _; (with_reducible repeat first | apply bN | apply bD | apply bA); exact BK106.out⟩
         have n2_ : Aside0 ((w45.setCell ⟨go43, ((ji40) : Int).toNat * 2 + 1, none⟩ (.int .i64 (wrap64 (((d0_ t111 (ji40)).f1) + a1_1)))).heap[gb107]? = some (.cells #[.int .i64 a1_0, .int .i64 a1_1] 51 (0, 0))) := ⟨by (with_reducible repeat first | apply bN | apply bD | apply bA); refine bR ?_ (by have h_ := Kd.R_away HO_6.out (fun _ hk => hk); intro e_; exact h_ (by rw [e_]; rfl)) _; (with_reducible repeat first | apply bN | apply bD | apply bA); exact BK107.out⟩
         have n3_ : Aside0 ((w45.setCell ⟨go43, ((ji40) : Int).toNat * 2 + 1, none⟩ (.int .i64 (wrap64 (((d0_ t111 (ji40)).f1) + a1_1)))).heap[gb108]? = some (.cells #[.int .i64 0, .slice none 0 0] 26 (0, 0))) := ⟨by (with_reducible repeat first | apply bN | apply bD | apply bA); refine bR ?_ (by have h_ := Kd.R_ne HO_6.out BK108.out (by decide); intro e_; exact h_ (by rw [e_]; rfl)) _; (with_reducible repeat first | apply bN | apply bD | apply bA); exact BK108.out⟩
         have n4_ : Aside0 (Below w.heap.size w (w45.setCell ⟨go43, ((ji40) : Int).toNat * 2 + 1, none⟩ (.int .i64 (wrap64 (((d0_ t111 (ji40)).f1) + a1_1))))) := ⟨by repeat (first | (with_reducible first | exact HB.out | apply pA | apply pN | apply pD | refine bS ?_ GB43.out | refine bS ?_ GE106.out | refine bS ?_ GE107.out | refine bS ?_ GE108.out) | exact HB.out)⟩
         (try clear HO_6)
         (try clear BK106)
         (try clear BK107)
         (try clear BK108)
         (try clear HB)
         generalize (w45.setCell ⟨go43, ((ji40) : Int).toNat * 2 + 1, none⟩ (.int .i64 (wrap64 (((d0_ t111 (ji40)).f1) + a1_1)))) = w47 at n0_ n1_ n2_ n3_ n4_ ⊢
         have HO_6 := n0_
         have BK106 := n1_
         have BK107 := n2_
         have BK108 := n3_
         have HB := n4_
         clear n0_ n1_ n2_ n3_ n4_
         have hnb48 := NB106_107.out
         have hnc48 := NB107_106.out
         have hnb49 := NB106_108.out
         have hnc49 := NB108_106.out
         have hcz50_0 : w47.cell? ⟨gb106, 0, none⟩ = some (.int .i64 a0_0) := (bC BK106.out 0).trans rfl
         have hcz50_1 : w47.cell? ⟨gb106, 1, none⟩ = some (.slice A0_1 l0_1.length c0_1) := (bC BK106.out 1).trans rfl
         have hfz50_0 := bF BK106.out 0
         have hfz50_1 := bF BK106.out 1
         try go_wp2_with (first | ((with_reducible refine gC (f := 38) rfl ?_); refine gL_ (some 66) rfl rfl Tryz.func38 (by kernel_rfl) rfl #[.agg #[.int .i64 a0_0, .slice A0_1 l0_1.length c0_1], .slice (some ⟨go43, 0, none⟩) t111.length co32] rfl (by (try simp only [List.map_toArray, List.map_cons, List.map_nil]); first | done | rfl | (simp only [List.length_drop, List.length_take]; rfl)) ?_; (with_reducible refine (inode_Inode_changed.calls a0_0 _ _ l0_1 (fun k_ => some k_ = (.slice (some ⟨go43, 0, none⟩) t111.length co32 : Value).ownBlock) (.slice (some ⟨go43, 0, none⟩) t111.length co32) y117 t118 t119 w _ ?side1 ?side2 ?side3 ?side4 A44.out).mono ?_); (case side1 => repeat (first | (with_reducible first | exact HB.out | apply pA | apply pN | apply pD | refine bS ?_ GE106.out | refine bS ?_ GE107.out | refine bS ?_ GE108.out) | exact HB.out)); (case side2 => exact Kd.C_kept_came k51_heap HR0_1.out (by repeat (first | (with_reducible first | exact HB.out | apply pA | apply pN | apply pD | refine bS ?_ GE106.out | refine bS ?_ GE107.out | refine bS ?_ GE108.out) | exact HB.out)) (fun k_ hs_ => (fun e_ => Kd.R_base HO_6.out k_ e_.symm) hs_)); (case side3 => exact HC0_1.out); (case side4 => exact Kd.R_tight rfl HO_6.out); rintro e w51 ⟨v120, rfl, ho0, hb, hkp⟩; refine ⟨_, rfl, ?_⟩; have n0_ := A0k (blk_kept (by (with_reducible repeat first | apply bN | apply bD | apply bA); exact BK106.out) hkp (fun hs_ => (fun e_ => (Kd.R_ne HO_6.out BK106.out (by decide)) e_) hs_)); have n1_ := A0k (blk_kept (by (with_reducible repeat first | apply bN | apply bD | apply bA); exact BK107.out) hkp (fun hs_ => (fun e_ => (Kd.R_away HO_6.out (fun _ hk => hk)) e_) hs_)); have n2_ := A0k (blk_kept (by (with_reducible repeat first | apply bN | apply bD | apply bA); exact BK108.out) hkp (fun hs_ => (fun e_ => (Kd.R_ne HO_6.out BK108.out (by decide)) e_) hs_)); have n3_ := A0k (Kd.R_mono (ok' := fun k_ => k_ ≠ gb107) ho0 (fun k_ hk_ => Or.elim hk_ (fun hs_ => fun e_ => (Kd.R_away HO_6.out (fun _ hk => hk)) (by rw [← e_]; exact hs_)) (fun hn_ => (Kd.freshB (g := gb107) (o := .cells #[.int .i64 a1_0, .int .i64 a1_1] 51 (0, 0)) (by (with_reducible repeat first | apply bN | apply bD | apply bA); exact BK107.out) k_ hn_)))); have n4_ := A0k (hb); clear BK106 BK107 BK108 HB HO_6; have BK106 := n0_; have BK107 := n1_; have BK108 := n2_; have HO121 := n3_; have HB := n4_; clear n0_ n1_ n2_ n3_ n4_; (try clear hb); (try clear hkp); (try clear ho0); have hnb52 := NB108_107.out; have hnc52 := NB107_108.out; have hcz53_0 : w51.cell? ⟨gb108, 0, none⟩ = some (.int .i64 0) := (bC BK108.out 0).trans rfl; have hcz53_1 : w51.cell? ⟨gb108, 1, none⟩ = some (.slice none 0 0) := (bC BK108.out 1).trans rfl; have hfz53_0 := bF BK108.out 0; have hfz53_1 := bF BK108.out 1; obtain ⟨Ao54, co54, eo54⟩ := Kd.R_slice HO121.out; subst eo54))
         refine bodyPost_ret (results_ct rfl _ _ gb108 26 #[.int .i64 t118, .slice Ao54 t119.length co54] (0, 0) _ rfl (by (with_reducible repeat first | apply bN | apply bD | apply bA); refine bP (cs := #[.int .i64 t118, .slice none 0 0]) ?_ 1 _ rfl; (with_reducible repeat first | apply bN | apply bD | apply bA); refine bP (cs := #[.int .i64 0, .slice none 0 0]) ?_ 0 _ rfl; (with_reducible repeat first | apply bN | apply bD | apply bA); exact BK108.out) Tryz.underlying26 rfl (by kernel_rfl)) rfl ?_
         exact ⟨_, by first | rfl | (simp [errW_none, errW_some] <;> rfl) | (simp only [← hji40]; first | rfl | (simp [errW_none, errW_some] <;> rfl)) | (simp [*, errW_none, errW_some] <;> rfl), by (with_reducible repeat first | apply rA | apply rN | apply rD); exact Kd.R_mono (Kd.R_far (p := ⟨gb108, 1, none⟩) (Kd.R_far (p := ⟨gb108, 0, none⟩) (Kd.R_types HO121.out BK108.out (by decide)) (fun _ hk => hk.2) (.int .i64 t118)) (fun _ hk => hk.2) (.slice Ao54 t119.length co54)) (fun _ hk => trivial), by repeat (first | (with_reducible first | exact HB.out | apply pA | apply pN | apply pD | refine bS ?_ GE106.out | refine bS ?_ GE107.out | refine bS ?_ GE108.out) | exact HB.out)⟩
        ·rw [if_neg c42] at H
         exact absurd H (by simp)
       ·rw [if_neg c41] at H
        exact absurd H (by simp)
      ·replace c39 := Bool.eq_false_iff.mpr c39
       subst c39
       have H1 : (if (t111.length : Int) ≥ 36 then (some (0, ([] : List (S51)), some 19)) else (if t111.length < 8796093022208 then ((inode_Inode_changed.f a0_0 l0_1 (t111 ++ [(⟨a1_0, a1_1⟩ : S51)])).bind fun bt125 => (some (bt125.1, bt125.2, none))) else (none))) = some (r1, r2, r3) := by rw [if_neg (show ¬ (false = true) by decide)] at H; exact H
       clear H
       have H := H1
       clear H1
       by_cases c55 : (t111.length : Int) ≥ 36
       ·rw [if_pos c55] at H
        have c55b0 : decide (36 ≤ (t111.length : Int)) = true := decide_eq_true c55
        have c55b1 : decide (36 ≤ t111.length) = true := decide_eq_true (by omega)
        clear c55
        simp only [Option.some.injEq, Prod.mk.injEq] at H
        obtain ⟨rfl, rfl, rfl⟩ := H
        have hnb56 := NB108_106.out
        have hnc56 := NB106_108.out
        have hnb57 := NB108_107.out
        have hnc57 := NB107_108.out
        have hcz58_0 : wc.cell? ⟨gb108, 0, none⟩ = some (.int .i64 0) := (bC BK108.out 0).trans rfl
        have hcz58_1 : wc.cell? ⟨gb108, 1, none⟩ = some (.slice none 0 0) := (bC BK108.out 1).trans rfl
        have hfz58_0 := bF BK108.out 0
        have hfz58_1 := bF BK108.out 1
        go_wp2
        refine bodyPost_ret (results_ct rfl _ _ gb108 26 #[.int .i64 0, .slice none 0 0] (0, 0) _ rfl (by (with_reducible repeat first | apply bN | apply bD | apply bA); refine bP (cs := #[.int .i64 0, .slice none 0 0]) ?_ 1 _ rfl; (with_reducible repeat first | apply bN | apply bD | apply bA); refine bP (cs := #[.int .i64 0, .slice none 0 0]) ?_ 0 _ rfl; (with_reducible repeat first | apply bN | apply bD | apply bA); exact BK108.out) Tryz.underlying26 rfl (by kernel_rfl)) rfl ?_
        exact ⟨_, by first | rfl | (simp [errW_none, errW_some] <;> rfl) | (simp [*, errW_none, errW_some] <;> rfl), by first | exact Kd.R_nil _ _ _ _ _ | exact Kd.N_nil _ _ _ _ _ | exact Kd.V_nil _ _ _ _ _ | exact Kd.Q_nil _ _ _ _ _ | exact Kd.S_nil _ _ _ _ _, by repeat (first | (with_reducible first | exact HB.out | apply pA | apply pN | apply pD | refine bS ?_ GE106.out | refine bS ?_ GE107.out | refine bS ?_ GE108.out) | exact HB.out)⟩
       ·rw [if_neg c55] at H
        have c55b0 : decide (36 ≤ (t111.length : Int)) = false := decide_eq_false c55
        have c55b1 : decide (36 ≤ t111.length) = false := decide_eq_false (by omega)
        clear c55
        by_cases c59 : t111.length < 8796093022208
        ·rw [if_pos c59] at H
         have LMc59 := A0k c59
         clear c59
         obtain ⟨y122, hy122⟩ : ∃ y_ : List (S51), y_ = (t111 ++ [(⟨a1_0, a1_1⟩ : S51)]) := ⟨_, rfl⟩
         replace H : ((inode_Inode_changed.f a0_0 l0_1 y122).bind fun bt125 => (some (bt125.1, bt125.2, none))) = some (r1, r2, r3) := by first | (rw [hy122]; with_reducible exact H) | (have H2_ := (Option.bind_some _ _).symm.trans H; rw [hy122]; with_reducible exact H2_) | (have H2_ := (Option.bind_some _ _).symm.trans H; with_reducible exact H2_) | with_reducible exact H | (rw [hy122]; exact H) | exact H
         have Ny122 := A0k hy122
         clear hy122
         replace H := Option.bind_eq_some_iff.mp H
         obtain ⟨⟨t125, t126⟩, A600, H⟩ := H
         replace H : (some (t125, t126, none)) = some (r1, r2, r3) := H
         have A60 := A0k A600
         clear A600
         simp only [Option.some.injEq, Prod.mk.injEq] at H
         obtain ⟨rfl, rfl, rfl⟩ := H
         have hnb61 := NB107_106.out
         have hnc61 := NB106_107.out
         have hnb62 := NB107_108.out
         have hnc62 := NB108_107.out
         have hcz63_0 : wc.cell? ⟨gb107, 0, none⟩ = some (.int .i64 a1_0) := (bC BK107.out 0).trans rfl
         have hcz63_1 : wc.cell? ⟨gb107, 1, none⟩ = some (.int .i64 a1_1) := (bC BK107.out 1).trans rfl
         have hfz63_0 := bF BK107.out 0
         have hfz63_1 := bF BK107.out 1
         go_wp2_with (first | ((with_reducible refine gB (b := .append) (xs := #[.tmp 23, .tmp 25]) rfl ?_); at_builtin; refine Kd.R_append k51 (w0 := w) w.heap.size rfl (.tmp 23) (.tmp 25) 24 51 (.agg #[(.int .i64 0), (.int .i64 0)]) 16 rfl Tryz.underlying24 info51 rfl (by decide) (by omega) (.slice Ao32 t111.length co32) t111 (⟨a1_0, a1_1⟩ : S51) [.int .i64 a1_0, .int .i64 a1_1] (fun k_ => k_ ≠ gb107) (fun _ => False) rfl rfl ?aP (fun _ hk => hk.elim) ?aF ?aO ?aB ?aS ?aL ?_; (case aP => exact k51_mkM _ _ _ (⟨a1_0, a1_1⟩ : S51)); (case aB => exact (by repeat (first | (with_reducible first | exact HB.out | apply pA | apply pN | apply pD | refine bS ?_ GE106.out | refine bS ?_ GE107.out | refine bS ?_ GE108.out) | exact HB.out))); (case aF => exact (fun k_ hk => Kd.freshB (g := gb107) (o := .cells #[.int .i64 a1_0, .int .i64 a1_1] 51 (0, 0)) (by (with_reducible repeat first | apply bN | apply bD | apply bA); exact BK107.out) k_ hk)); (case aO => exact (by (with_reducible repeat first | apply rA | apply rN | apply rD); exact HO_6.out)); (case aS => exact (pZ (by repeat (first | (with_reducible first | exact HB.out | apply pA | apply pN | apply pD | refine bS ?_ GE106.out | refine bS ?_ GE107.out | refine bS ?_ GE108.out) | exact HB.out)))); (case aL => have := LMc59.out; omega); intro v123 w64 ho hb hg hat; rw [← Ny122.out] at ho; have n0_ := A0k (blk_grown (g := gb106) (o := .cells #[.int .i64 a0_0, .slice A0_1 l0_1.length c0_1] 26 (0, 0)) (by (with_reducible repeat first | apply bN | apply bD | apply bA); exact BK106.out) hg (Kd.R_ne HO_6.out BK106.out (by decide))); have n1_ := A0k (blk_grown (g := gb107) (o := .cells #[.int .i64 a1_0, .int .i64 a1_1] 51 (0, 0)) (by (with_reducible repeat first | apply bN | apply bD | apply bA); exact BK107.out) hg (Kd.R_away HO_6.out (fun _ hk => hk))); have n2_ := A0k (blk_grown (g := gb108) (o := .cells #[.int .i64 0, .slice none 0 0] 26 (0, 0)) (by (with_reducible repeat first | apply bN | apply bD | apply bA); exact BK108.out) hg (Kd.R_ne HO_6.out BK108.out (by decide))); have n3_ := A0k (hb); have n4_ := A0k (ho); clear BK106 BK107 BK108 HB HO_6; have BK106 := n0_; have BK107 := n1_; have BK108 := n2_; have HB := n3_; have HO124 := n4_; clear n0_ n1_ n2_ n3_ n4_ ho hb hg hat; have hnb65 := NB106_108.out; have hnc65 := NB108_106.out; have hcz66_0 : w64.cell? ⟨gb106, 0, none⟩ = some (.int .i64 a0_0) := (bC BK106.out 0).trans rfl; have hcz66_1 : w64.cell? ⟨gb106, 1, none⟩ = some (.slice A0_1 l0_1.length c0_1) := (bC BK106.out 1).trans rfl; have hfz66_0 := bF BK106.out 0; have hfz66_1 := bF BK106.out 1; obtain ⟨Ao67, co67, eo67⟩ := Kd.R_slice HO124.out; subst eo67) | ((with_reducible refine gC (f := 38) rfl ?_); refine gL_ (some 66) rfl rfl Tryz.func38 (by kernel_rfl) rfl #[.agg #[.int .i64 a0_0, .slice A0_1 l0_1.length c0_1], .slice Ao67 y122.length co67] rfl (by (try simp only [List.map_toArray, List.map_cons, List.map_nil]); first | done | rfl | (simp only [List.length_drop, List.length_take]; rfl)) ?_; (with_reducible refine (inode_Inode_changed.calls a0_0 _ _ l0_1 (fun k_ => some k_ = (.slice Ao67 y122.length co67 : Value).ownBlock) (.slice Ao67 y122.length co67) y122 t125 t126 w _ ?side1 ?side2 ?side3 ?side4 A60.out).mono ?_); (case side1 => repeat (first | (with_reducible first | exact HB.out | apply pA | apply pN | apply pD | refine bS ?_ GE106.out | refine bS ?_ GE107.out | refine bS ?_ GE108.out) | exact HB.out)); (case side2 => exact Kd.C_kept_came k51_heap HR0_1.out (by repeat (first | (with_reducible first | exact HB.out | apply pA | apply pN | apply pD | refine bS ?_ GE106.out | refine bS ?_ GE107.out | refine bS ?_ GE108.out) | exact HB.out)) (fun k_ hs_ => (fun e_ => Kd.R_base HO124.out k_ e_.symm) hs_)); (case side3 => exact HC0_1.out); (case side4 => exact Kd.R_tight rfl HO124.out); rintro e w68 ⟨v127, rfl, ho0, hb, hkp⟩; refine ⟨_, rfl, ?_⟩; have n0_ := A0k (blk_kept (by (with_reducible repeat first | apply bN | apply bD | apply bA); exact BK106.out) hkp (fun hs_ => (fun e_ => (Kd.R_ne HO124.out BK106.out (by decide)) e_) hs_)); have n1_ := A0k (blk_kept (by (with_reducible repeat first | apply bN | apply bD | apply bA); exact BK107.out) hkp (fun hs_ => (fun e_ => (Kd.R_away HO124.out (fun _ hk => hk)) e_) hs_)); have n2_ := A0k (blk_kept (by (with_reducible repeat first | apply bN | apply bD | apply bA); exact BK108.out) hkp (fun hs_ => (fun e_ => (Kd.R_ne HO124.out BK108.out (by decide)) e_) hs_)); have n3_ := A0k (Kd.R_mono (ok' := fun k_ => k_ ≠ gb107) ho0 (fun k_ hk_ => Or.elim hk_ (fun hs_ => fun e_ => (Kd.R_away HO124.out (fun _ hk => hk)) (by rw [← e_]; exact hs_)) (fun hn_ => (Kd.freshB (g := gb107) (o := .cells #[.int .i64 a1_0, .int .i64 a1_1] 51 (0, 0)) (by (with_reducible repeat first | apply bN | apply bD | apply bA); exact BK107.out) k_ hn_)))); have n4_ := A0k (hb); clear BK106 BK107 BK108 HB HO124; have BK106 := n0_; have BK107 := n1_; have BK108 := n2_; have HO128 := n3_; have HB := n4_; clear n0_ n1_ n2_ n3_ n4_; (try clear hb); (try clear hkp); (try clear ho0); have hcz69_0 : w68.cell? ⟨gb108, 0, none⟩ = some (.int .i64 0) := (bC BK108.out 0).trans rfl; have hcz69_1 : w68.cell? ⟨gb108, 1, none⟩ = some (.slice none 0 0) := (bC BK108.out 1).trans rfl; have hfz69_0 := bF BK108.out 0; have hfz69_1 := bF BK108.out 1; obtain ⟨Ao70, co70, eo70⟩ := Kd.R_slice HO128.out; subst eo70))
         refine bodyPost_ret (results_ct rfl _ _ gb108 26 #[.int .i64 t125, .slice Ao70 t126.length co70] (0, 0) _ rfl (by (with_reducible repeat first | apply bN | apply bD | apply bA); refine bP (cs := #[.int .i64 t125, .slice none 0 0]) ?_ 1 _ rfl; (with_reducible repeat first | apply bN | apply bD | apply bA); refine bP (cs := #[.int .i64 0, .slice none 0 0]) ?_ 0 _ rfl; (with_reducible repeat first | apply bN | apply bD | apply bA); exact BK108.out) Tryz.underlying26 rfl (by kernel_rfl)) rfl ?_
         exact ⟨_, by first | rfl | (simp [errW_none, errW_some] <;> rfl) | (simp [*, errW_none, errW_some] <;> rfl), by (with_reducible repeat first | apply rA | apply rN | apply rD); exact Kd.R_mono (Kd.R_far (p := ⟨gb108, 1, none⟩) (Kd.R_far (p := ⟨gb108, 0, none⟩) (Kd.R_types HO128.out BK108.out (by decide)) (fun _ hk => hk.2) (.int .i64 t125)) (fun _ hk => hk.2) (.slice Ao70 t126.length co70)) (fun _ hk => trivial), by repeat (first | (with_reducible first | exact HB.out | apply pA | apply pN | apply pD | refine bS ?_ GE106.out | refine bS ?_ GE107.out | refine bS ?_ GE108.out) | exact HB.out)⟩
        ·rw [if_neg c59] at H
         exact absurd H (by simp)

end Go.Proofs.YtmncfcebjohloaaGreatDoor.VInodePuts
