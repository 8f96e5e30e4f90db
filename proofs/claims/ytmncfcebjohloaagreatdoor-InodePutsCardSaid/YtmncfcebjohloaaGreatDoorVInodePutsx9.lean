/- Contracts of functions of this seat: each call comes to what its Lean function computes; no condition beyond what each theorem states. Printed by a program of this session's own laid over the kit's printer. -/
import Derived.Test.YtmncfcebjohloaaGreatDoorVInodePutsx0
import Derived.Test.YtmncfcebjohloaaGreatDoorVInodePutsx2
import Derived.Test.YtmncfcebjohloaaGreatDoorVInodePutsx3
namespace Go.Proofs.YtmncfcebjohloaaGreatDoor.VInodePuts
open Go.RowKit Go.Proofs.YtmncfcebjohloaaGreatDoorW.PrintWords Go.Proofs.YtmncfcebjohloaaGreatDoorW.PrintLast Go.Proofs.YtmncfcebjohloaaGreatDoorW.PrintMore
attribute [local go_sem] max2_int min2_int max_two min_two max_three min_three max_four min_four   -- for this text's walks alone
set_option linter.unusedVariables false
set_option linter.unusedSimpArgs false

-- @GIVEN inode_Right
/-! ### inode_Right: by hand -/
/-- Are extents there, and do they not meet, nor any of those ahead of them? -/
def rightFrom (s : Int) : List ExtS → List ExtS → Option Bool
 | _, [] => some true
 | pre, x :: xs => (inode_Extent_there.f x.f0 x.f1 s).bind fun t => if t = true then ((anyMeets x.f0 x.f1 pre).bind fun m => if m = true then some false else rightFrom s (pre ++ [x]) xs) else some false
def inode_Right.f (v : Int) (l : List ExtS) (s : Int) : Option Bool := if s < 1 ∨ s > 2048 ∨ v < 0 ∨ v > 281474976710655 ∨ (l.length : Int) > 36 then some false else rightFrom s [] l
theorem rightTests {v s n : Int} (h : s < 1 ∨ s > 2048 ∨ v < 0 ∨ v > 281474976710655 ∨ n > 36) :
  (decide (s < 1) = true) ∨ (decide (s < 1) = false ∧ decide (2048 < s) = true) ∨ (decide (s < 1) = false ∧ decide (2048 < s) = false ∧ decide (v < 0) = true) ∨ (decide (s < 1) = false ∧ decide (2048 < s) = false ∧ decide (v < 0) = false ∧ decide (281474976710655 < v) = true) ∨ (decide (s < 1) = false ∧ decide (2048 < s) = false ∧ decide (v < 0) = false ∧ decide (281474976710655 < v) = false ∧ decide (36 < n) = true) := by
 simp only [decide_eq_true_eq, decide_eq_false_iff_not]; omega
theorem containsMeetsN (A : Option Addr) (c n : Nat) (l : List ExtS) (a b : Int) (r : Bool) (w : World) (hn : l.length = n) (hr : Kd.C k51 w A n l) (hl : l.length < 8796093022208) (h : anyMeets a b l = some r) :
  Calls Tryz.prog 26 #[.slice A n c, .func (.func 27) #[.agg #[.int .i64 a, .int .i64 b]] #[]] w fun e w' => e = .returned (.bool r) ∧ Below w.heap.size w w' := by
 subst hn
 exact containsMeets A c l a b r w hr hl h
set_option maxHeartbeats 8000000 in
set_option maxRecDepth 100000 in
theorem inode_Right.calls (a0_0 : Int) (A0_1 : Option Addr) (c0_1 : Nat) (l0_1 : List ExtS) (a1 : Int) (r : Bool) (w : World) (hr0_1 : Kd.C k51 w A0_1 l0_1.length l0_1) (hc0_1 : l0_1.length ≤ c0_1) (h : inode_Right.f a0_0 l0_1 a1 = some r) :
  Calls Tryz.prog 10 #[.agg #[.int .i64 a0_0, .slice A0_1 l0_1.length c0_1], .int .i64 a1] w fun e w' => e = .returned (.bool r) ∧ Below w.heap.size w w' := by
 unfold inode_Right.f at h
 by_cases hc : a1 < 1 ∨ a1 > 2048 ∨ a0_0 < 0 ∨ a0_0 > 281474976710655 ∨ (l0_1.length : Int) > 36
 ·rw [if_pos hc] at h
  obtain rfl := Option.some.inj h
  clear h hr0_1 hc0_1
  rcases rightTests hc with t1 | ⟨t1, t2⟩ | ⟨t1, t2, t3⟩ | ⟨t1, t2, t3, t4⟩ | ⟨t1, t2, t3, t4, t5⟩
  all_goals
   clear hc
   go_enter Tryz.func10, Tryz.ntmps10
   go_wp2_with fail
   go_ret
   exact ⟨rfl, below_alloc (Below.refl _ _) _⟩
 rw [if_neg hc] at h
 have t1 : decide (a1 < 1) = false := decide_eq_false (by omega)
 have t2 : decide (2048 < a1) = false := decide_eq_false (by omega)
 have t3 : decide (a0_0 < 0) = false := decide_eq_false (by omega)
 have t4 : decide (281474976710655 < a0_0) = false := decide_eq_false (by omega)
 have t5 : decide (36 < (l0_1.length : Int)) = false := decide_eq_false (by omega)
 have HN := Aside0.mk (show l0_1.length ≤ 36 by omega)
 have HCAP := Aside0.mk hc0_1
 have HH := Aside0.mk h
 have HB0 := Aside0.mk (below_alloc (Below.refl w.heap.size w) (.cells #[.int .i64 a0_0, .slice A0_1 l0_1.length c0_1] 26))
 have HX0 := Aside0.mk (heap_alloc_new w (.cells #[.int .i64 a0_0, .slice A0_1 l0_1.length c0_1] 26))
 have HR := Aside0.mk (fun (W : World) (hb : Below w.heap.size w W) => Kd.C_below hr0_1 hb)
 have hmf : ∀ (fn : Fn) (first cap : Array Value) (w : World), (Instr.makeFunc fn first cap).run Tryz.prog w = .ok (.func fn first cap) w := fun _ _ _ _ => rfl
 clear h hc hc0_1
 have HR0 := Aside0.mk hr0_1
 clear hr0_1
 go_enter Tryz.func10, Tryz.ntmps10
 go_wp2_with fail
 clear t1 t2 t3 t4 t5
 go_loopg [5, 6, 32] (l0_1.length + 1) (fun kq v5 v6 v32 w' => ∃ i : Nat, v32 = .int .i64 (i : Int) ∧ Aside0 (i ≤ l0_1.length ∧ kq = l0_1.length - i + 1) ∧ Aside0 (rightFrom a1 (l0_1.take i) (l0_1.drop i) = some r) ∧ Aside0 (w'.heap[w.heap.size]? = some (.cells #[.int .i64 a0_0, .slice A0_1 l0_1.length c0_1] 26 (0, 0))) ∧ Aside0 (Below w.heap.size w w'))
 case atStart => exact ⟨0, rfl, ⟨by omega, by omega⟩, by rw [List.drop_zero, List.take_zero]; exact HH, HX0, HB0⟩
 case round =>
  clear HH HX0 HB0
  obtain ⟨i, rfl, HI, HH, HX, HB⟩ := hrel
  by_cases c1 : i < l0_1.length
  ·have e1 : decide ((i : Int) < (l0_1.length : Int)) = true := decide_eq_true (by omega)
   have p1 := eq_true (show (0 : Int) ≤ (i : Int) by omega)
   have p2 := eq_true (show (i : Int) < (l0_1.length : Int) by omega)
   have p3 := eq_true c1
   have p4 := eq_true (show (i : Int) ≤ (c0_1 : Int) by have := HCAP.out; omega)
   have p5 := eq_true (show i ≤ c0_1 by have := HCAP.out; omega)
   have HI1 := Aside0.mk (show wrap64 ((i : Int) + 1) = ((i + 1 : Nat) : Int) by have := HN.out; unfold wrap64; omega)
   obtain ⟨ad, rfl, hx0, hx1⟩ := at_T51 (HR.out wr HB.out) (i : Int) (by omega) (by omega)
   rw [show ((i : Int)).toNat = i from rfl] at hx0 hx1
   have hd : l0_1.drop i = rd_T51 l0_1 (i : Int) :: l0_1.drop (i + 1) := by
    unfold rd_T51
    rw [List.drop_eq_getElem_cons c1, Int.toNat_natCast, List.getD_eq_getElem?_getD, List.getElem?_eq_getElem c1]; rfl
   have htk : l0_1.take i ++ [rd_T51 l0_1 (i : Int)] = l0_1.take (i + 1) := by
    unfold rd_T51
    rw [List.take_succ_eq_append_getElem c1, Int.toNat_natCast, List.getD_eq_getElem?_getD, List.getElem?_eq_getElem c1]; rfl
   have HTL := Aside0.mk (show (l0_1.take i).length = i by rw [List.length_take]; omega)
   have H := HH.out
   rw [hd, rightFrom, htk] at H
   clear hd htk HH
   generalize rd_T51 l0_1 (i : Int) = x at *
   obtain ⟨t, ht, H⟩ := Option.bind_eq_some_iff.mp H
   have HT := Aside0.mk ht
   clear ht
   have HBd := Aside0.mk (below_alloc HB.out (.cells #[.int .i64 x.f0, .int .i64 x.f1] 51)).drew
   have HXd := Aside0.mk (show (wr.alloc (.cells #[.int .i64 x.f0, .int .i64 x.f1] 51)).drew.heap[w.heap.size]? = _ from (Below.heap_alloc wr (.cells #[.int .i64 x.f0, .int .i64 x.f1] 51) _ (blk_lt HX.out)).trans HX.out)
   have HZd := Aside0.mk (show (wr.alloc (.cells #[.int .i64 x.f0, .int .i64 x.f1] 51)).drew.heap[wr.heap.size]? = _ from heap_alloc_new wr (.cells #[.int .i64 x.f0, .int .i64 x.f1] 51))
   cases t with
   | false =>
    rw [if_neg (by decide)] at H
    obtain rfl := Option.some.inj H
    clear H
    go_wp2_with fail
    refine start_ (n := 13) (S := fun w' => w'.cell? ⟨wr.heap.size, 0, none⟩ = some (.int .i64 x.f0) ∧ w'.cell? ⟨wr.heap.size, 1, none⟩ = some (.int .i64 x.f1) ∧ w'.cell? ⟨w.heap.size, 0, none⟩ = some (.int .i64 a0_0) ∧ w'.cell? ⟨w.heap.size, 1, none⟩ = some (.slice (some ad) l0_1.length c0_1)) (ds := []) #[false, false, false, false, false, false, false, false, false, false, false, false, false] (by kernel_rfl) rfl rfl ⟨(blk_cell HZd.out 0).trans rfl, (blk_cell HZd.out 1).trans rfl, (blk_cell HXd.out 0).trans rfl, (blk_cell HXd.out 1).trans rfl⟩ (fun hHeld => ?_)
    refine pure_ (i := 1) (N := some 38) (v := ?_) (a' := ?_) #[false, true, false, false, false, false, false, false, false, false, false, false, false] rfl rfl (by kernel_rfl) (fun _ _ _ h => h) (Or.inl ⟨by rfl, ?_⟩) ?_ ?_
    rotate_left
    ·intro w'
     go_simp
     with_reducible rfl
    rotate_left
    ·simp only [Act.put, List.setIfInBounds_toArray, List.set_cons_zero, List.set_cons_succ, i64_w, i32_w]
     rfl
    refine take_ (i := 0) (N := some 37) (v := ?_) (a' := ?_) #[true, true, false, false, false, false, false, false, false, false, false, false, false] rfl rfl (by kernel_rfl) (fun _ _ _ h => h) (Or.inl ⟨by rfl, ?_⟩) hHeld ?_ ?_
    rotate_left
    ·rintro w' ⟨s0, s1, s2, s3⟩
     go_simp
     with_reducible rfl
    rotate_left
    ·simp only [Act.put, List.setIfInBounds_toArray, List.set_cons_zero, List.set_cons_succ, i64_w, i32_w]
     rfl
    refine one_ (i := 2) (N := some 39) #[true, true, true, false, false, false, false, false, false, false, false, false, false] rfl rfl (by kernel_rfl) (by decide) (fun K hK => ?_)
    refine goes_ Tryz.func25 (by kernel_rfl) rfl #[.agg #[.int .i64 x.f0, .int .i64 x.f1], .int .i64 a1] (by rfl) rfl rfl (by simp only [List.map_toArray, List.map_cons, List.map_nil]; rfl) ?_
    with_reducible refine (inode_Extent_there.calls x.f0 x.f1 a1 false _ HT.out).mono ?_
    rintro e_ w5 ⟨rfl, hb5⟩
    refine ⟨_, rfl, ?_⟩
    have HB5 := Aside0.mk (below_step HBd.out hb5)
    have HX5 := Aside0.mk (blk_below HXd.out hb5)
    have HZ5 := Aside0.mk (blk_below HZd.out hb5)
    clear hb5
    refine hK.out _ _ ⟨(blk_cell HZ5.out 0).trans rfl, (blk_cell HZ5.out 1).trans rfl, (blk_cell HX5.out 0).trans rfl, (blk_cell HX5.out 1).trans rfl⟩ (fun hHeld => ?_)
    clear hK K
    refine norm_ (a' := ?_) ?_ ?_
    rotate_left
    ·show Act.put _ (some 39) _ = _
     simp only [Act.put, List.setIfInBounds_toArray, List.set_cons_zero, List.set_cons_succ, i64_w, i32_w]
     rfl
    refine pure_ (i := 3) (N := some 40) (v := ?_) (a' := ?_) #[true, true, true, true, false, false, false, false, false, false, false, false, false] rfl rfl (by kernel_rfl) (fun _ _ _ h => h) (Or.inl ⟨by rfl, ?_⟩) ?_ ?_
    rotate_left
    ·intro w'
     go_simp
     with_reducible rfl
    rotate_left
    ·simp only [Act.put, List.setIfInBounds_toArray, List.set_cons_zero, List.set_cons_succ, i64_w, i32_w]
     rfl
    refine pure_ (i := 4) (N := some 41) (v := ?_) (a' := ?_) #[true, true, true, true, true, false, false, false, false, false, false, false, false] rfl rfl (by kernel_rfl) (fun _ _ _ h => h) (Or.inl ⟨by rfl, ?_⟩) ?_ ?_
    rotate_left
    ·intro w'
     go_simp
     with_reducible rfl
    rotate_left
    ·simp only [Act.put, List.setIfInBounds_toArray, List.set_cons_zero, List.set_cons_succ, i64_w, i32_w]
     rfl
    refine pure_ (i := 5) (N := some 42) (v := undef) (a' := ?_) #[true, true, true, true, true, true, false, false, false, false, false, false, false] rfl rfl (by kernel_rfl) (fun _ _ _ h => h) (Or.inr ⟨by rfl, rfl⟩) ?_ ?_
    rotate_left
    ·simp only [Act.put, List.setIfInBounds_toArray, List.set_cons_zero, List.set_cons_succ, i64_w, i32_w]
     rfl
    refine pure_ (i := 6) (N := some 43) (v := undef) (a' := ?_) #[true, true, true, true, true, true, true, false, false, false, false, false, false] rfl rfl (by kernel_rfl) (fun _ _ _ h => h) (Or.inr ⟨by rfl, rfl⟩) ?_ ?_
    rotate_left
    ·simp only [Act.put, List.setIfInBounds_toArray, List.set_cons_zero, List.set_cons_succ, i64_w, i32_w]
     rfl
    refine pure_ (i := 7) (N := some 44) (v := undef) (a' := ?_) #[true, true, true, true, true, true, true, true, false, false, false, false, false] rfl rfl (by kernel_rfl) (fun _ _ _ h => h) (Or.inr ⟨by rfl, rfl⟩) ?_ ?_
    rotate_left
    ·simp only [Act.put, List.setIfInBounds_toArray, List.set_cons_zero, List.set_cons_succ, i64_w, i32_w]
     rfl
    refine pure_ (i := 8) (N := some 45) (v := undef) (a' := ?_) #[true, true, true, true, true, true, true, true, true, false, false, false, false] rfl rfl (by kernel_rfl) (fun _ _ _ h => h) (Or.inr ⟨by rfl, rfl⟩) ?_ ?_
    rotate_left
    ·simp only [Act.put, List.setIfInBounds_toArray, List.set_cons_zero, List.set_cons_succ, i64_w, i32_w]
     rfl
    refine pure_ (i := 9) (N := some 46) (v := undef) (a' := ?_) #[true, true, true, true, true, true, true, true, true, true, false, false, false] rfl rfl (by kernel_rfl) (fun _ _ _ h => h) (Or.inr ⟨by rfl, rfl⟩) ?_ ?_
    rotate_left
    ·simp only [Act.put, List.setIfInBounds_toArray, List.set_cons_zero, List.set_cons_succ, i64_w, i32_w]
     rfl
    refine pure_ (i := 10) (N := some 47) (v := undef) (a' := ?_) #[true, true, true, true, true, true, true, true, true, true, true, false, false] rfl rfl (by kernel_rfl) (fun _ _ _ h => h) (Or.inr ⟨by rfl, rfl⟩) ?_ ?_
    rotate_left
    ·simp only [Act.put, List.setIfInBounds_toArray, List.set_cons_zero, List.set_cons_succ, i64_w, i32_w]
     rfl
    refine pure_ (i := 11) (N := some 48) (v := undef) (a' := ?_) #[true, true, true, true, true, true, true, true, true, true, true, true, false] rfl rfl (by kernel_rfl) (fun _ _ _ h => h) (Or.inr ⟨by rfl, rfl⟩) ?_ ?_
    rotate_left
    ·simp only [Act.put, List.setIfInBounds_toArray, List.set_cons_zero, List.set_cons_succ, i64_w, i32_w]
     rfl
    refine pure_ (i := 12) (N := some 49) (v := ?_) (a' := ?_) #[true, true, true, true, true, true, true, true, true, true, true, true, true] rfl rfl (by kernel_rfl) (fun _ _ _ h => h) (Or.inl ⟨by rfl, ?_⟩) ?_ ?_
    rotate_left
    ·intro w'
     go_simp
     with_reducible rfl
    rotate_left
    ·simp only [Act.put, List.setIfInBounds_toArray, List.set_cons_zero, List.set_cons_succ, i64_w, i32_w]
     rfl
    refine done_ (by kernel_rfl) ?_
    go_wp2_with fail
    go_ret
    exact ⟨rfl, HB5.out⟩
   | true =>
    rw [if_pos rfl] at H
    obtain ⟨m, hm, H⟩ := Option.bind_eq_some_iff.mp H
    have HM := Aside0.mk hm
    clear hm
    have HRt := Aside0.mk (fun (W : World) (hb : Below w.heap.size w W) => show Kd.C k51 W (some ad) i (l0_1.take i) from by have := Kd.C_take (m := i) (HR.out W hb) (by omega); rwa [HTL.out] at this)
    cases m with
    | true =>
     rw [if_pos rfl] at H
     obtain rfl := Option.some.inj H
     clear H
     go_wp2_with fail
     refine start_ (n := 13) (S := fun w' => w'.cell? ⟨wr.heap.size, 0, none⟩ = some (.int .i64 x.f0) ∧ w'.cell? ⟨wr.heap.size, 1, none⟩ = some (.int .i64 x.f1) ∧ w'.cell? ⟨w.heap.size, 0, none⟩ = some (.int .i64 a0_0) ∧ w'.cell? ⟨w.heap.size, 1, none⟩ = some (.slice (some ad) l0_1.length c0_1)) (ds := []) #[false, false, false, false, false, false, false, false, false, false, false, false, false] (by kernel_rfl) rfl rfl ⟨(blk_cell HZd.out 0).trans rfl, (blk_cell HZd.out 1).trans rfl, (blk_cell HXd.out 0).trans rfl, (blk_cell HXd.out 1).trans rfl⟩ (fun hHeld => ?_)
     refine pure_ (i := 1) (N := some 38) (v := ?_) (a' := ?_) #[false, true, false, false, false, false, false, false, false, false, false, false, false] rfl rfl (by kernel_rfl) (fun _ _ _ h => h) (Or.inl ⟨by rfl, ?_⟩) ?_ ?_
     rotate_left
     ·intro w'
      go_simp
      with_reducible rfl
     rotate_left
     ·simp only [Act.put, List.setIfInBounds_toArray, List.set_cons_zero, List.set_cons_succ, i64_w, i32_w]
      rfl
     refine take_ (i := 0) (N := some 37) (v := ?_) (a' := ?_) #[true, true, false, false, false, false, false, false, false, false, false, false, false] rfl rfl (by kernel_rfl) (fun _ _ _ h => h) (Or.inl ⟨by rfl, ?_⟩) hHeld ?_ ?_
     rotate_left
     ·rintro w' ⟨s0, s1, s2, s3⟩
      go_simp
      with_reducible rfl
     rotate_left
     ·simp only [Act.put, List.setIfInBounds_toArray, List.set_cons_zero, List.set_cons_succ, i64_w, i32_w]
      rfl
     refine one_ (i := 2) (N := some 39) #[true, true, true, false, false, false, false, false, false, false, false, false, false] rfl rfl (by kernel_rfl) (by decide) (fun K hK => ?_)
     refine goes_ Tryz.func25 (by kernel_rfl) rfl #[.agg #[.int .i64 x.f0, .int .i64 x.f1], .int .i64 a1] (by rfl) rfl rfl (by simp only [List.map_toArray, List.map_cons, List.map_nil]; rfl) ?_
     with_reducible refine (inode_Extent_there.calls x.f0 x.f1 a1 true _ HT.out).mono ?_
     rintro e_ w5 ⟨rfl, hb5⟩
     refine ⟨_, rfl, ?_⟩
     have HB5 := Aside0.mk (below_step HBd.out hb5)
     have HX5 := Aside0.mk (blk_below HXd.out hb5)
     have HZ5 := Aside0.mk (blk_below HZd.out hb5)
     clear hb5
     refine hK.out _ _ ⟨(blk_cell HZ5.out 0).trans rfl, (blk_cell HZ5.out 1).trans rfl, (blk_cell HX5.out 0).trans rfl, (blk_cell HX5.out 1).trans rfl⟩ (fun hHeld => ?_)
     clear hK K
     refine norm_ (a' := ?_) ?_ ?_
     rotate_left
     ·show Act.put _ (some 39) _ = _
      simp only [Act.put, List.setIfInBounds_toArray, List.set_cons_zero, List.set_cons_succ, i64_w, i32_w]
      rfl
     refine pure_ (i := 3) (N := some 40) (v := ?_) (a' := ?_) #[true, true, true, true, false, false, false, false, false, false, false, false, false] rfl rfl (by kernel_rfl) (fun _ _ _ h => h) (Or.inl ⟨by rfl, ?_⟩) ?_ ?_
     rotate_left
     ·intro w'
      go_simp
      with_reducible rfl
     rotate_left
     ·simp only [Act.put, List.setIfInBounds_toArray, List.set_cons_zero, List.set_cons_succ, i64_w, i32_w]
      rfl
     refine pure_ (i := 4) (N := some 41) (v := ?_) (a' := ?_) #[true, true, true, true, true, false, false, false, false, false, false, false, false] rfl rfl (by kernel_rfl) (fun _ _ _ h => h) (Or.inl ⟨by rfl, ?_⟩) ?_ ?_
     rotate_left
     ·intro w'
      go_simp
      with_reducible rfl
     rotate_left
     ·simp only [Act.put, List.setIfInBounds_toArray, List.set_cons_zero, List.set_cons_succ, i64_w, i32_w]
      rfl
     refine pure_ (i := 5) (N := some 42) (v := ?_) (a' := ?_) #[true, true, true, true, true, true, false, false, false, false, false, false, false] rfl rfl (by kernel_rfl) (fun _ _ _ h => h) (Or.inl ⟨by rfl, ?_⟩) ?_ ?_
     rotate_left
     ·intro w'
      go_simp
      with_reducible rfl
     rotate_left
     ·simp only [Act.put, List.setIfInBounds_toArray, List.set_cons_zero, List.set_cons_succ, i64_w, i32_w]
      rfl
     refine pure_ (i := 7) (N := some 44) (v := ?_) (a' := ?_) #[true, true, true, true, true, true, false, true, false, false, false, false, false] rfl rfl (by kernel_rfl) (fun _ _ _ h => h) (Or.inl ⟨by rfl, ?_⟩) ?_ ?_
     rotate_left
     ·intro w'
      go_simp
      with_reducible rfl
     rotate_left
     ·simp only [Act.put, List.setIfInBounds_toArray, List.set_cons_zero, List.set_cons_succ, i64_w, i32_w]
      rfl
     refine take_ (i := 6) (N := some 43) (v := ?_) (a' := ?_) #[true, true, true, true, true, true, true, true, false, false, false, false, false] rfl rfl (by kernel_rfl) (fun _ _ _ h => h) (Or.inl ⟨by rfl, ?_⟩) hHeld ?_ ?_
     rotate_left
     ·rintro w' ⟨s0, s1, s2, s3⟩
      go_simp
      with_reducible rfl
     rotate_left
     ·simp only [Act.put, List.setIfInBounds_toArray, List.set_cons_zero, List.set_cons_succ, i64_w, i32_w]
      rfl
     refine pure_ (i := 8) (N := some 45) (v := ?_) (a' := ?_) #[true, true, true, true, true, true, true, true, true, false, false, false, false] rfl rfl (by kernel_rfl) (fun _ _ _ h => h) (Or.inl ⟨by rfl, ?_⟩) ?_ ?_
     rotate_left
     ·intro w'
      go_simp
      with_reducible rfl
     rotate_left
     ·simp only [Act.put, List.setIfInBounds_toArray, List.set_cons_zero, List.set_cons_succ, i64_w, i32_w]
      rfl
     refine take_ (i := 9) (N := some 46) (v := ?_) (a' := ?_) #[true, true, true, true, true, true, true, true, true, true, false, false, false] rfl rfl (by kernel_rfl) (fun _ _ _ h => h) (Or.inl ⟨by rfl, ?_⟩) hHeld ?_ ?_
     rotate_left
     ·rintro w' ⟨s0, s1, s2, s3⟩
      go_simp
      with_reducible rfl
     rotate_left
     ·simp only [Act.put, List.setIfInBounds_toArray, List.set_cons_zero, List.set_cons_succ, i64_w, i32_w]
      rfl
     refine pure_ (i := 10) (N := some 47) (v := ?_) (a' := ?_) #[true, true, true, true, true, true, true, true, true, true, true, false, false] rfl rfl (by kernel_rfl) (fun _ _ _ h => h) (Or.inl ⟨by rfl, ?_⟩) ?_ ?_
     rotate_left
     ·intro w'
      go_simp
      with_reducible rfl
     rotate_left
     ·simp only [Act.put, List.setIfInBounds_toArray, List.set_cons_zero, List.set_cons_succ, i64_w, i32_w]
      rfl
     refine one_ (i := 11) (N := some 48) #[true, true, true, true, true, true, true, true, true, true, true, true, false] rfl rfl (by kernel_rfl) (by decide) (fun K hK => ?_)
     refine goes_ Tryz.func26 (by kernel_rfl) rfl #[.slice (some ad) i c0_1, .func (.func 27) #[.agg #[.int .i64 x.f0, .int .i64 x.f1]] #[]] (by rfl) rfl rfl (by simp only [List.map_toArray, List.map_cons, List.map_nil]; rfl) ?_
     with_reducible refine (containsMeetsN (some ad) c0_1 i (l0_1.take i) x.f0 x.f1 true _ HTL.out (HRt.out _ HB5.out) (by have := HN.out; have := HTL.out; omega) HM.out).mono ?_
     rintro e_ w6 ⟨rfl, hb6⟩
     refine ⟨_, rfl, ?_⟩
     have HB6 := Aside0.mk (below_step HB5.out hb6)
     have HX6 := Aside0.mk (blk_below HX5.out hb6)
     have HZ6 := Aside0.mk (blk_below HZ5.out hb6)
     clear hb6
     refine hK.out _ _ ⟨(blk_cell HZ6.out 0).trans rfl, (blk_cell HZ6.out 1).trans rfl, (blk_cell HX6.out 0).trans rfl, (blk_cell HX6.out 1).trans rfl⟩ (fun hHeld => ?_)
     clear hK K
     refine norm_ (a' := ?_) ?_ ?_
     rotate_left
     ·show Act.put _ (some 48) _ = _
      simp only [Act.put, List.setIfInBounds_toArray, List.set_cons_zero, List.set_cons_succ, i64_w, i32_w]
      rfl
     refine pure_ (i := 12) (N := some 49) (v := ?_) (a' := ?_) #[true, true, true, true, true, true, true, true, true, true, true, true, true] rfl rfl (by kernel_rfl) (fun _ _ _ h => h) (Or.inl ⟨by rfl, ?_⟩) ?_ ?_
     rotate_left
     ·intro w'
      go_simp
      with_reducible rfl
     rotate_left
     ·simp only [Act.put, List.setIfInBounds_toArray, List.set_cons_zero, List.set_cons_succ, i64_w, i32_w]
      rfl
     refine done_ (by kernel_rfl) ?_
     go_wp2_with fail
     go_ret
     exact ⟨rfl, HB6.out⟩
    | false =>
     rw [if_neg (by decide)] at H
     have H' := Aside0.mk H
     clear H
     go_wp2_with fail
     refine start_ (n := 13) (S := fun w' => w'.cell? ⟨wr.heap.size, 0, none⟩ = some (.int .i64 x.f0) ∧ w'.cell? ⟨wr.heap.size, 1, none⟩ = some (.int .i64 x.f1) ∧ w'.cell? ⟨w.heap.size, 0, none⟩ = some (.int .i64 a0_0) ∧ w'.cell? ⟨w.heap.size, 1, none⟩ = some (.slice (some ad) l0_1.length c0_1)) (ds := []) #[false, false, false, false, false, false, false, false, false, false, false, false, false] (by kernel_rfl) rfl rfl ⟨(blk_cell HZd.out 0).trans rfl, (blk_cell HZd.out 1).trans rfl, (blk_cell HXd.out 0).trans rfl, (blk_cell HXd.out 1).trans rfl⟩ (fun hHeld => ?_)
     refine pure_ (i := 1) (N := some 38) (v := ?_) (a' := ?_) #[false, true, false, false, false, false, false, false, false, false, false, false, false] rfl rfl (by kernel_rfl) (fun _ _ _ h => h) (Or.inl ⟨by rfl, ?_⟩) ?_ ?_
     rotate_left
     ·intro w'
      go_simp
      with_reducible rfl
     rotate_left
     ·simp only [Act.put, List.setIfInBounds_toArray, List.set_cons_zero, List.set_cons_succ, i64_w, i32_w]
      rfl
     refine take_ (i := 0) (N := some 37) (v := ?_) (a' := ?_) #[true, true, false, false, false, false, false, false, false, false, false, false, false] rfl rfl (by kernel_rfl) (fun _ _ _ h => h) (Or.inl ⟨by rfl, ?_⟩) hHeld ?_ ?_
     rotate_left
     ·rintro w' ⟨s0, s1, s2, s3⟩
      go_simp
      with_reducible rfl
     rotate_left
     ·simp only [Act.put, List.setIfInBounds_toArray, List.set_cons_zero, List.set_cons_succ, i64_w, i32_w]
      rfl
     refine one_ (i := 2) (N := some 39) #[true, true, true, false, false, false, false, false, false, false, false, false, false] rfl rfl (by kernel_rfl) (by decide) (fun K hK => ?_)
     refine goes_ Tryz.func25 (by kernel_rfl) rfl #[.agg #[.int .i64 x.f0, .int .i64 x.f1], .int .i64 a1] (by rfl) rfl rfl (by simp only [List.map_toArray, List.map_cons, List.map_nil]; rfl) ?_
     with_reducible refine (inode_Extent_there.calls x.f0 x.f1 a1 true _ HT.out).mono ?_
     rintro e_ w5 ⟨rfl, hb5⟩
     refine ⟨_, rfl, ?_⟩
     have HB5 := Aside0.mk (below_step HBd.out hb5)
     have HX5 := Aside0.mk (blk_below HXd.out hb5)
     have HZ5 := Aside0.mk (blk_below HZd.out hb5)
     clear hb5
     refine hK.out _ _ ⟨(blk_cell HZ5.out 0).trans rfl, (blk_cell HZ5.out 1).trans rfl, (blk_cell HX5.out 0).trans rfl, (blk_cell HX5.out 1).trans rfl⟩ (fun hHeld => ?_)
     clear hK K
     refine norm_ (a' := ?_) ?_ ?_
     rotate_left
     ·show Act.put _ (some 39) _ = _
      simp only [Act.put, List.setIfInBounds_toArray, List.set_cons_zero, List.set_cons_succ, i64_w, i32_w]
      rfl
     refine pure_ (i := 3) (N := some 40) (v := ?_) (a' := ?_) #[true, true, true, true, false, false, false, false, false, false, false, false, false] rfl rfl (by kernel_rfl) (fun _ _ _ h => h) (Or.inl ⟨by rfl, ?_⟩) ?_ ?_
     rotate_left
     ·intro w'
      go_simp
      with_reducible rfl
     rotate_left
     ·simp only [Act.put, List.setIfInBounds_toArray, List.set_cons_zero, List.set_cons_succ, i64_w, i32_w]
      rfl
     refine pure_ (i := 4) (N := some 41) (v := ?_) (a' := ?_) #[true, true, true, true, true, false, false, false, false, false, false, false, false] rfl rfl (by kernel_rfl) (fun _ _ _ h => h) (Or.inl ⟨by rfl, ?_⟩) ?_ ?_
     rotate_left
     ·intro w'
      go_simp
      with_reducible rfl
     rotate_left
     ·simp only [Act.put, List.setIfInBounds_toArray, List.set_cons_zero, List.set_cons_succ, i64_w, i32_w]
      rfl
     refine pure_ (i := 5) (N := some 42) (v := ?_) (a' := ?_) #[true, true, true, true, true, true, false, false, false, false, false, false, false] rfl rfl (by kernel_rfl) (fun _ _ _ h => h) (Or.inl ⟨by rfl, ?_⟩) ?_ ?_
     rotate_left
     ·intro w'
      go_simp
      with_reducible rfl
     rotate_left
     ·simp only [Act.put, List.setIfInBounds_toArray, List.set_cons_zero, List.set_cons_succ, i64_w, i32_w]
      rfl
     refine pure_ (i := 7) (N := some 44) (v := ?_) (a' := ?_) #[true, true, true, true, true, true, false, true, false, false, false, false, false] rfl rfl (by kernel_rfl) (fun _ _ _ h => h) (Or.inl ⟨by rfl, ?_⟩) ?_ ?_
     rotate_left
     ·intro w'
      go_simp
      with_reducible rfl
     rotate_left
     ·simp only [Act.put, List.setIfInBounds_toArray, List.set_cons_zero, List.set_cons_succ, i64_w, i32_w]
      rfl
     refine take_ (i := 6) (N := some 43) (v := ?_) (a' := ?_) #[true, true, true, true, true, true, true, true, false, false, false, false, false] rfl rfl (by kernel_rfl) (fun _ _ _ h => h) (Or.inl ⟨by rfl, ?_⟩) hHeld ?_ ?_
     rotate_left
     ·rintro w' ⟨s0, s1, s2, s3⟩
      go_simp
      with_reducible rfl
     rotate_left
     ·simp only [Act.put, List.setIfInBounds_toArray, List.set_cons_zero, List.set_cons_succ, i64_w, i32_w]
      rfl
     refine pure_ (i := 8) (N := some 45) (v := ?_) (a' := ?_) #[true, true, true, true, true, true, true, true, true, false, false, false, false] rfl rfl (by kernel_rfl) (fun _ _ _ h => h) (Or.inl ⟨by rfl, ?_⟩) ?_ ?_
     rotate_left
     ·intro w'
      go_simp
      with_reducible rfl
     rotate_left
     ·simp only [Act.put, List.setIfInBounds_toArray, List.set_cons_zero, List.set_cons_succ, i64_w, i32_w]
      rfl
     refine take_ (i := 9) (N := some 46) (v := ?_) (a' := ?_) #[true, true, true, true, true, true, true, true, true, true, false, false, false] rfl rfl (by kernel_rfl) (fun _ _ _ h => h) (Or.inl ⟨by rfl, ?_⟩) hHeld ?_ ?_
     rotate_left
     ·rintro w' ⟨s0, s1, s2, s3⟩
      go_simp
      with_reducible rfl
     rotate_left
     ·simp only [Act.put, List.setIfInBounds_toArray, List.set_cons_zero, List.set_cons_succ, i64_w, i32_w]
      rfl
     refine pure_ (i := 10) (N := some 47) (v := ?_) (a' := ?_) #[true, true, true, true, true, true, true, true, true, true, true, false, false] rfl rfl (by kernel_rfl) (fun _ _ _ h => h) (Or.inl ⟨by rfl, ?_⟩) ?_ ?_
     rotate_left
     ·intro w'
      go_simp
      with_reducible rfl
     rotate_left
     ·simp only [Act.put, List.setIfInBounds_toArray, List.set_cons_zero, List.set_cons_succ, i64_w, i32_w]
      rfl
     refine one_ (i := 11) (N := some 48) #[true, true, true, true, true, true, true, true, true, true, true, true, false] rfl rfl (by kernel_rfl) (by decide) (fun K hK => ?_)
     refine goes_ Tryz.func26 (by kernel_rfl) rfl #[.slice (some ad) i c0_1, .func (.func 27) #[.agg #[.int .i64 x.f0, .int .i64 x.f1]] #[]] (by rfl) rfl rfl (by simp only [List.map_toArray, List.map_cons, List.map_nil]; rfl) ?_
     with_reducible refine (containsMeetsN (some ad) c0_1 i (l0_1.take i) x.f0 x.f1 false _ HTL.out (HRt.out _ HB5.out) (by have := HN.out; have := HTL.out; omega) HM.out).mono ?_
     rintro e_ w6 ⟨rfl, hb6⟩
     refine ⟨_, rfl, ?_⟩
     have HB6 := Aside0.mk (below_step HB5.out hb6)
     have HX6 := Aside0.mk (blk_below HX5.out hb6)
     have HZ6 := Aside0.mk (blk_below HZ5.out hb6)
     clear hb6
     refine hK.out _ _ ⟨(blk_cell HZ6.out 0).trans rfl, (blk_cell HZ6.out 1).trans rfl, (blk_cell HX6.out 0).trans rfl, (blk_cell HX6.out 1).trans rfl⟩ (fun hHeld => ?_)
     clear hK K
     refine norm_ (a' := ?_) ?_ ?_
     rotate_left
     ·show Act.put _ (some 48) _ = _
      simp only [Act.put, List.setIfInBounds_toArray, List.set_cons_zero, List.set_cons_succ, i64_w, i32_w]
      rfl
     refine pure_ (i := 12) (N := some 49) (v := ?_) (a' := ?_) #[true, true, true, true, true, true, true, true, true, true, true, true, true] rfl rfl (by kernel_rfl) (fun _ _ _ h => h) (Or.inl ⟨by rfl, ?_⟩) ?_ ?_
     rotate_left
     ·intro w'
      go_simp
      with_reducible rfl
     rotate_left
     ·simp only [Act.put, List.setIfInBounds_toArray, List.set_cons_zero, List.set_cons_succ, i64_w, i32_w]
      rfl
     refine done_ (by kernel_rfl) ?_
     go_wp2_with fail
     go_roundg (l0_1.length - i)
     case measure => have := HI.out; omega
     case rel => exact ⟨i + 1, (by first | rfl | rw [HI1.out]), ⟨by omega, by omega⟩, H', HX6, HB6⟩
  ·have e1 : decide ((i : Int) < (l0_1.length : Int)) = false := decide_eq_false (by omega)
   have H := HH.out
   rw [List.drop_eq_nil_of_le (by omega), rightFrom] at H
   obtain rfl := Option.some.inj H
   go_wp2_with fail
   go_ret
   exact ⟨rfl, HB.out⟩


end Go.Proofs.YtmncfcebjohloaaGreatDoor.VInodePuts
