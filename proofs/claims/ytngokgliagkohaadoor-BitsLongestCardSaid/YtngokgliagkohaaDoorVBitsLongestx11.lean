/- Contracts of functions of this seat: each call comes to what its Lean function computes; no condition beyond what each theorem states. Printed by a program of this session's own laid over the kit's printer. -/
import Derived.Test.YtngokgliagkohaaDoorVBitsLongestx0
import Derived.Test.YtngokgliagkohaaDoorVBitsLongestx1
import Derived.Test.YtngokgliagkohaaDoorVBitsLongestx5
import Derived.Test.YtngokgliagkohaaDoorVBitsLongestx9
import Derived.Test.YtngokgliagkohaaDoorVBitsLongestx10
namespace Go.Proofs.YtngokgliagkohaaDoor.VBitsLongest
open Go.RowKit Go.Proofs.YtngokgliagkohaaDoorW.PrintWords Go.Proofs.YtngokgliagkohaaDoorW.PrintLast Go.Proofs.YtngokgliagkohaaDoorW.PrintMore
attribute [local go_sem] max2_int min2_int max_two min_two max_three min_three max_four min_four   -- for this text's walks alone
set_option linter.unusedVariables false
set_option linter.unusedSimpArgs false

-- @GIVEN posthorselaw07_BitsLongest
/-! ### posthorselaw07_BitsLongest: by hand -/
abbrev Act := S36
def posthorselaw07_BitsLongest.f (k : Nat) (a0 : Int) (l1 : List Act) : Option Bool := posthorselaw07_speaks.f k
theorem longest_n (a : Int) : ∃ n : Nat, wrap64 (1 + Go.bits .and .i64 a 63) = (n : Int) ∧ 1 ≤ n ∧ n ≤ 64 := by
  have := andm_ a 63 (by decide) 6 (by decide)
  rw [show Go.bits .and .i64 a 63 = a % 64 from this]
  refine ⟨(1 + a % 64).toNat, ?_, by omega, by omega⟩
  unfold wrap64; omega
theorem turnL_len (l : List Bool) (i n : Int) (b : Bool) (o : Int) {m : Nat} (h : l.length = m) : (turnL l i n b o).length = m := by
  unfold turnL
  split
  · rename_i he
    unfold turnE at he
    split at he
    · rename_i hc
      rw [setRun_len _ _ _ _ (by omega)]; exact h
    · cases he
  · exact h
theorem lon_run (l : List Bool) : ∀ (k i a0 m0 long : Nat), long ≤ m0 → long ≤ i → m0 ≤ (lonL l k i a0 m0 long).2 ∧ (∀ n : Int, n = ((lonL l k i a0 m0 long).2 : Int) + 1 → runL l n k i long = (0, false)) ∧ (m0 < (lonL l k i a0 m0 long).2 → runL l ((lonL l k i a0 m0 long).2 : Int) k i long = (((lonL l k i a0 m0 long).1 : Int), true)) ∧ (m0 = (lonL l k i a0 m0 long).2 → (lonL l k i a0 m0 long).1 = a0)
  | 0, i, a0, m0, long, _, _ => ⟨Nat.le_refl _, fun _ _ => rfl, fun h => absurd h (Nat.lt_irrefl _), fun _ => rfl⟩
  | k + 1, i, a0, m0, long, h, hi => by
    by_cases c : i < l.length
    · cases hb : l.getD i false with
      | true =>
        have e : lonL l (k + 1) i a0 m0 long = lonL l k (i + 1) a0 m0 0 := by rw [lonL, if_pos c, if_pos hb]
        have e2 : ∀ n, runL l n (k + 1) i long = runL l n k (i + 1) 0 := fun n => by rw [runL, if_pos c, if_pos hb]
        simp only [e, e2]
        exact lon_run l k (i + 1) a0 m0 0 (Nat.zero_le _) (Nat.zero_le _)
      | false =>
        have hb' : ¬ l.getD i false = true := by rw [hb]; simp
        have e2 : ∀ n, runL l n (k + 1) i long = if ((long + 1 : Nat) : Int) = n then (((i : Int) - n + 1), true) else runL l n k (i + 1) (long + 1) := fun n => by rw [runL, if_pos c, if_neg hb']
        by_cases cn : m0 < long + 1
        · have e : lonL l (k + 1) i a0 m0 long = lonL l k (i + 1) (i - long) (long + 1) (long + 1) := by rw [lonL, if_pos c, if_neg hb', if_pos cn]
          simp only [e, e2]
          obtain ⟨h1, h2, h3, h4⟩ := lon_run l k (i + 1) (i - long) (long + 1) (long + 1) (Nat.le_refl _) (by omega)
          generalize lonL l k (i + 1) (i - long) (long + 1) (long + 1) = R at *
          refine ⟨by omega, fun n hn => ?_, fun _ => ?_, fun hm => by omega⟩
          · rw [if_neg (by omega)]; exact h2 n hn
          · by_cases c2 : long + 1 = R.2
            · rw [if_pos (by omega), h4 c2]
              congr 1
              omega
            · rw [if_neg (by omega)]; exact h3 (by omega)
        · have e : lonL l (k + 1) i a0 m0 long = lonL l k (i + 1) a0 m0 (long + 1) := by rw [lonL, if_pos c, if_neg hb', if_neg cn]
          simp only [e, e2]
          obtain ⟨h1, h2, h3, h4⟩ := lon_run l k (i + 1) a0 m0 (long + 1) (by omega) (by omega)
          generalize lonL l k (i + 1) a0 m0 (long + 1) = R at *
          refine ⟨h1, fun n hn => ?_, fun hm => ?_, h4⟩
          · rw [if_neg (by omega)]; exact h2 n hn
          · rw [if_neg (by omega)]; exact h3 hm
    · have e : lonL l (k + 1) i a0 m0 long = (a0, m0) := by rw [lonL, if_neg c]
      have e2 : ∀ n, runL l n (k + 1) i long = (0, false) := fun n => by rw [runL, if_neg c]
      simp only [e, e2]
      exact ⟨Nat.le_refl _, by intros; trivial, fun h => absurd h (Nat.lt_irrefl _), by intros; trivial⟩
theorem lon_mono (l : List Bool) : ∀ (k i a0 m0 long : Nat), m0 ≤ (lonL l k i a0 m0 long).2
  | 0, _, _, _, _ => Nat.le_refl _
  | k + 1, i, a0, m0, long => by
    rw [lonL]
    split
    · split
      · exact lon_mono l k _ _ _ _
      · split
        · have := lon_mono l k (i + 1) (i - long) (long + 1) (long + 1); omega
        · exact lon_mono l k _ _ _ _
    · exact Nat.le_refl _
theorem drop_count (l : List Bool) (i : Nat) (c : i < l.length) : (l.drop i).count false = (if l.getD i false = true then 0 else 1) + (l.drop (i + 1)).count false := by
  rw [List.drop_eq_getElem_cons c, List.count_cons, List.getD_eq_getElem?_getD, List.getElem?_eq_getElem c]
  cases l[i] <;> simp [Nat.add_comm]
theorem lon_count (l : List Bool) : ∀ (k i a0 m0 long : Nat), (lonL l k i a0 m0 long).2 ≤ max m0 (long + (l.drop i).count false) ∧ (l.length < i + k → (lonL l k i a0 m0 long).2 = 0 → (l.drop i).count false = 0)
  | 0, i, a0, m0, long => ⟨Nat.le_max_left _ _, fun h _ => by rw [List.drop_eq_nil_of_le (by omega)]; rfl⟩
  | k + 1, i, a0, m0, long => by
    by_cases c : i < l.length
    · have hd := drop_count l i c
      cases hb : l.getD i false with
      | true =>
        have e : lonL l (k + 1) i a0 m0 long = lonL l k (i + 1) a0 m0 0 := by rw [lonL, if_pos c, if_pos hb]
        rw [if_pos hb] at hd
        have ih := lon_count l k (i + 1) a0 m0 0
        rw [e, hd]
        exact ⟨by omega, fun h1 h2 => by have := ih.2 (by omega) h2; omega⟩
      | false =>
        have hb' : ¬ l.getD i false = true := by rw [hb]; simp
        rw [if_neg hb'] at hd
        by_cases cn : m0 < long + 1
        · have e : lonL l (k + 1) i a0 m0 long = lonL l k (i + 1) (i - long) (long + 1) (long + 1) := by rw [lonL, if_pos c, if_neg hb', if_pos cn]
          have ih := lon_count l k (i + 1) (i - long) (long + 1) (long + 1)
          have hm := (lon_mono l k (i + 1) (i - long) (long + 1) (long + 1))
          rw [e, hd]
          exact ⟨by omega, fun h1 h2 => by omega⟩
        · have e : lonL l (k + 1) i a0 m0 long = lonL l k (i + 1) a0 m0 (long + 1) := by rw [lonL, if_pos c, if_neg hb', if_neg cn]
          have ih := lon_count l k (i + 1) a0 m0 (long + 1)
          have hm := (lon_mono l k (i + 1) a0 m0 (long + 1))
          rw [e, hd]
          exact ⟨by omega, fun h1 h2 => by omega⟩
    · rw [List.drop_eq_nil_of_le (by omega)]
      exact ⟨by rw [lonL, if_neg c]; omega, fun _ _ => rfl⟩
/-- What Longest, Run and Size say of one set. -/
theorem lon_all (l : List Bool) : (lonOf l).2 ≤ l.count false ∧ ((lonOf l).2 = 0 → l.count false = 0 ∧ (lonOf l).1 = 0) ∧ ((lonOf l).2 ≠ 0 → runOf l ((lonOf l).2 : Int) 0 = (((lonOf l).1 : Int), true)) ∧ runOf l (((lonOf l).2 : Int) + 1) 0 = (0, false) := by
  obtain ⟨h1, h2, h3, h4⟩ := lon_run l (l.length + 1) 0 0 0 0 (Nat.le_refl _) (Nat.le_refl _)
  obtain ⟨c1, c2⟩ := lon_count l (l.length + 1) 0 0 0 0
  rw [List.drop_zero] at c1 c2
  change (0 ≤ (lonOf l).2) at h1
  change (∀ n : Int, n = ((lonOf l).2 : Int) + 1 → _) at h2
  change (0 < (lonOf l).2 → runL l ((lonOf l).2 : Int) (l.length + 1) 0 0 = (((lonOf l).1 : Int), true)) at h3
  change (0 = (lonOf l).2 → (lonOf l).1 = 0) at h4
  change ((lonOf l).2 ≤ _) at c1
  change (_ → (lonOf l).2 = 0 → _) at c2
  refine ⟨by omega, fun h => ⟨c2 (by omega) h, h4 h.symm⟩, fun h => ?_, ?_⟩
  · unfold runOf
    rw [if_neg (by omega)]
    exact h3 (by omega)
  · unfold runOf
    rw [if_neg (by omega)]
    exact h2 _ rfl
set_option maxHeartbeats 8000000 in
set_option maxRecDepth 100000 in
theorem posthorselaw07_BitsLongest.calls (k : Nat) (a0 : Int) (A1 : Option Addr) (c1 : Nat) (l1 : List Act) (r : Bool) (w : World) (hL_ : Laid w) (hr1 : Kd.C k36 w A1 l1.length l1) (hc1 : l1.length ≤ c1) (h : posthorselaw07_BitsLongest.f k a0 l1 = some r) :
    Calls Tryd.prog 4 #[.int .i64 a0, .slice A1 l1.length c1] w fun e w' => e = .returned (.bool r) ∧ Below w.heap.size w w' := by
  have HL_ := Aside0.mk hL_
  have HR := Aside0.mk hr1
  clear hL_ hr1 hc1
  unfold posthorselaw07_BitsLongest.f at h
  have hr : r = true := by
    unfold posthorselaw07_speaks.f at h
    obtain ⟨p, _, h⟩ := Option.bind_eq_some_iff.mp h
    split at h
    · exact (Option.some.inj h).symm
    · cases h
  subst hr
  have HP := Aside0.mk h
  clear h
  obtain ⟨n, en, hn0, hn1⟩ := longest_n a0
  have HN := Aside0.mk (And.intro hn0 hn1)
  clear hn0 hn1
  go_enter Tryd.func4, Tryd.ntmps4
  go_wp2_with (first
    | (go_at_call 11; (with_reducible refine (posthorselaw07_speaks.calls k true _ HL_.out HP.out).mono ?_); rintro e w1 ⟨rfl, hb1⟩; have HB1 := Aside0.mk hb1; clear hb1)
    | (go_at_call 12; (with_reducible refine (setNew _ _ (show (1 : Int) ≤ (n : Int) by have := HN.out; omega) (show (n : Int) ≤ 4000 by have := HN.out; omega)).mono ?_); rintro e w2 ⟨g, tb, rfl, hs2, hb2⟩; have HS2 := Aside0.mk (show SetIs w.heap.size g tb n [] (List.replicate n false) w2 from SetIs.lower hs2 HB1.out.size); have HB2 := Aside0.mk (below_step HB1.out hb2); clear hs2 hb2))
  go_loopg [7] 41 (fun kq v7 w' => ∃ i : Nat, v7 = .int .i64 (i : Int) ∧ Aside0 (i ≤ 40 ∧ kq = 41 - i) ∧ Aside0 (∃ L : List Bool, L.length = n ∧ SetIs w.heap.size g tb n [] L w') ∧ Aside0 (Below w.heap.size w w'))
  case atStart => exact ⟨0, rfl, ⟨by omega, by omega⟩, ⟨⟨_, List.length_replicate, HS2.out⟩⟩, HB2⟩
  case round =>
    clear HS2 HB2 HB1
    obtain ⟨i, rfl, HI, ⟨L, hL, hS⟩, HB⟩ := hrel
    have HS := Aside0.mk hS
    have HLL := Aside0.mk hL
    clear hS hL
    by_cases c : i < l1.length ∧ i < 40
    · obtain ⟨c3, c4⟩ := c
      have c3b : decide ((i : Int) < (l1.length : Int)) = true := decide_eq_true (by omega)
      have c4b : decide ((i : Int) < 40) = true := decide_eq_true (by omega)
      obtain ⟨ad, rfl, hx0, hx1, hx2⟩ := at_T36 HR.out (i : Int) (by omega) (by omega)

      have q1 := eq_true (show (0 : Int) ≤ (i : Int) by omega)
      have q2 := eq_true (show (i : Int) < (l1.length : Int) by omega)
      have q3 := eq_true c3
      have hi1 : wrap64 ((i : Int) + 1) = ((i + 1 : Nat) : Int) := by unfold wrap64; omega
      rw [show ((i : Int)).toNat = i from rfl] at hx1 hx2
      have HX1 := Aside0.mk (fun (W : World) (hb : Below w.heap.size w W) => (hb.cell (World.block_lt_of_cell? w _ hx1)).trans hx1)
      have HX2 := Aside0.mk (fun (W : World) (hb : Below w.heap.size w W) => (hb.cell (World.block_lt_of_cell? w _ hx2)).trans hx2)
      clear hx0 hx1 hx2
      generalize rd_T36 l1 (i : Int) = x at *
      have z0 : ((n : Int) == 0) = false := beq_eq_false_iff_ne.2 (by have := HN.out; omega)
      have z1 := eq_false (show ¬ (n : Int) = 0 by have := HN.out; omega)
      have z2 := eq_false (show ¬ n = 0 by have := HN.out; omega)
      obtain ⟨a, ea, ha⟩ := into_ x.f1 n (by have := HN.out; omega) (by have := HN.out; omega)
      have HBd := Aside0.mk HB.out.drew
      have HSd := Aside0.mk (show SetIs w.heap.size g tb n [] L wr.drew from HS.out)
      go_wp2_with fail
      refine start_ (n := 20) (S := fun w' => w'.cell? ⟨(ad.add (i * 3)).block, (ad.add (i * 3)).off + 1, none⟩ = some (.int .i64 x.f1) ∧ w'.cell? ⟨(ad.add (i * 3)).block, (ad.add (i * 3)).off + 2, none⟩ = some (.int .i64 x.f2)) (ds := []) #[false, false, false, false, false, false, false, false, false, false, false, false, false, false, false, false, false, false, false, false] (by kernel_rfl) rfl rfl ⟨HX1.out _ HBd.out, HX2.out _ HBd.out⟩ (fun hHeld => ?_)
      refine pure_ (i := 0) (N := some 36) (v := ?_) (a' := ?_) #[true, false, false, false, false, false, false, false, false, false, false, false, false, false, false, false, false, false, false, false] rfl rfl (by kernel_rfl) (fun _ _ _ h => h) (Or.inl ⟨by rfl, ?_⟩) ?_ ?_
      rotate_left
      · intro w'
        go_simp
        with_reducible rfl
      rotate_left
      · simp only [Act.put, List.setIfInBounds_toArray, List.set_cons_zero, List.set_cons_succ, i64_w, i32_w]
        rfl
      refine pure_ (i := 1) (N := some 37) (v := ?_) (a' := ?_) #[true, true, false, false, false, false, false, false, false, false, false, false, false, false, false, false, false, false, false, false] rfl rfl (by kernel_rfl) (fun _ _ _ h => h) (Or.inl ⟨by rfl, ?_⟩) ?_ ?_
      rotate_left
      · intro w'
        go_simp
        with_reducible rfl
      rotate_left
      · simp only [Act.put, List.setIfInBounds_toArray, List.set_cons_zero, List.set_cons_succ, i64_w, i32_w]
        rfl
      refine pure_ (i := 2) (N := some 38) (v := ?_) (a' := ?_) #[true, true, true, false, false, false, false, false, false, false, false, false, false, false, false, false, false, false, false, false] rfl rfl (by kernel_rfl) (fun _ _ _ h => h) (Or.inl ⟨by rfl, ?_⟩) ?_ ?_
      rotate_left
      · intro w'
        go_simp
        with_reducible rfl
      rotate_left
      · simp only [Act.put, List.setIfInBounds_toArray, List.set_cons_zero, List.set_cons_succ, i64_w, i32_w]
        rfl
      refine pure_ (i := 3) (N := some 39) (v := ?_) (a' := ?_) #[true, true, true, true, false, false, false, false, false, false, false, false, false, false, false, false, false, false, false, false] rfl rfl (by kernel_rfl) (fun _ _ _ h => h) (Or.inl ⟨by rfl, ?_⟩) ?_ ?_
      rotate_left
      · intro w'
        go_simp
        with_reducible rfl
      rotate_left
      · simp only [Act.put, List.setIfInBounds_toArray, List.set_cons_zero, List.set_cons_succ, i64_w, i32_w]
        rfl
      refine pure_ (i := 4) (N := some 40) (v := ?_) (a' := ?_) #[true, true, true, true, true, false, false, false, false, false, false, false, false, false, false, false, false, false, false, false] rfl rfl (by kernel_rfl) (fun _ _ _ h => h) (Or.inl ⟨by rfl, ?_⟩) ?_ ?_
      rotate_left
      · intro w'
        go_simp
        with_reducible rfl
      rotate_left
      · simp only [Act.put, List.setIfInBounds_toArray, List.set_cons_zero, List.set_cons_succ, i64_w, i32_w]
        rfl
      refine pure_ (i := 6) (N := some 42) (v := ?_) (a' := ?_) #[true, true, true, true, true, false, true, false, false, false, false, false, false, false, false, false, false, false, false, false] rfl rfl (by kernel_rfl) (fun _ _ _ h => h) (Or.inl ⟨by rfl, ?_⟩) ?_ ?_
      rotate_left
      · intro w'
        go_simp
        with_reducible rfl
      rotate_left
      · simp only [Act.put, List.setIfInBounds_toArray, List.set_cons_zero, List.set_cons_succ, i64_w, i32_w]
        rfl
      refine pure_ (i := 8) (N := some 44) (v := ?_) (a' := ?_) #[true, true, true, true, true, false, true, false, true, false, false, false, false, false, false, false, false, false, false, false] rfl rfl (by kernel_rfl) (fun _ _ _ h => h) (Or.inl ⟨by rfl, ?_⟩) ?_ ?_
      rotate_left
      · intro w'
        go_simp
        with_reducible rfl
      rotate_left
      · simp only [Act.put, List.setIfInBounds_toArray, List.set_cons_zero, List.set_cons_succ, i64_w, i32_w]
        rfl
      refine pure_ (i := 10) (N := some 46) (v := ?_) (a' := ?_) #[true, true, true, true, true, false, true, false, true, false, true, false, false, false, false, false, false, false, false, false] rfl rfl (by kernel_rfl) (fun _ _ _ h => h) (Or.inl ⟨by rfl, ?_⟩) ?_ ?_
      rotate_left
      · intro w'
        go_simp
        with_reducible rfl
      rotate_left
      · simp only [Act.put, List.setIfInBounds_toArray, List.set_cons_zero, List.set_cons_succ, i64_w, i32_w]
        rfl
      refine pure_ (i := 12) (N := some 48) (v := ?_) (a' := ?_) #[true, true, true, true, true, false, true, false, true, false, true, false, true, false, false, false, false, false, false, false] rfl rfl (by kernel_rfl) (fun _ _ _ h => h) (Or.inl ⟨by rfl, ?_⟩) ?_ ?_
      rotate_left
      · intro w'
        go_simp
        with_reducible rfl
      rotate_left
      · simp only [Act.put, List.setIfInBounds_toArray, List.set_cons_zero, List.set_cons_succ, i64_w, i32_w]
        rfl
      refine pure_ (i := 13) (N := some 49) (v := ?_) (a' := ?_) #[true, true, true, true, true, false, true, false, true, false, true, false, true, true, false, false, false, false, false, false] rfl rfl (by kernel_rfl) (fun _ _ _ h => h) (Or.inl ⟨by rfl, ?_⟩) ?_ ?_
      rotate_left
      · intro w'
        go_simp
        with_reducible rfl
      rotate_left
      · simp only [Act.put, List.setIfInBounds_toArray, List.set_cons_zero, List.set_cons_succ, i64_w, i32_w]
        rfl
      refine pure_ (i := 14) (N := some 50) (v := ?_) (a' := ?_) #[true, true, true, true, true, false, true, false, true, false, true, false, true, true, true, false, false, false, false, false] rfl rfl (by kernel_rfl) (fun _ _ _ h => h) (Or.inl ⟨by rfl, ?_⟩) ?_ ?_
      rotate_left
      · intro w'
        go_simp
        with_reducible rfl
      rotate_left
      · simp only [Act.put, List.setIfInBounds_toArray, List.set_cons_zero, List.set_cons_succ, i64_w, i32_w]
        rfl
      refine pure_ (i := 15) (N := some 51) (v := ?_) (a' := ?_) #[true, true, true, true, true, false, true, false, true, false, true, false, true, true, true, true, false, false, false, false] rfl rfl (by kernel_rfl) (fun _ _ _ h => h) (Or.inl ⟨by rfl, ?_⟩) ?_ ?_
      rotate_left
      · intro w'
        go_simp
        with_reducible rfl
      rotate_left
      · simp only [Act.put, List.setIfInBounds_toArray, List.set_cons_zero, List.set_cons_succ, i64_w, i32_w]
        rfl
      refine take_ (i := 5) (N := some 41) (v := ?_) (a' := ?_) #[true, true, true, true, true, true, true, false, true, false, true, false, true, true, true, true, false, false, false, false] rfl rfl (by kernel_rfl) (fun _ _ _ h => h) (Or.inl ⟨by rfl, ?_⟩) hHeld ?_ ?_
      rotate_left
      · rintro w' ⟨s0, s1⟩
        go_simp
        with_reducible rfl
      rotate_left
      · simp only [Act.put, List.setIfInBounds_toArray, List.set_cons_zero, List.set_cons_succ, i64_w, i32_w]
        rfl
      refine pure_ (i := 7) (N := some 43) (v := ?_) (a' := ?_) #[true, true, true, true, true, true, true, true, true, false, true, false, true, true, true, true, false, false, false, false] rfl rfl (by kernel_rfl) (fun _ _ _ h => h) (Or.inl ⟨by rfl, ?_⟩) ?_ ?_
      rotate_left
      · intro w'
        go_simp
        with_reducible rfl
      rotate_left
      · simp only [Act.put, List.setIfInBounds_toArray, List.set_cons_zero, List.set_cons_succ, i64_w, i32_w]
        rfl
      refine pure_ (i := 9) (N := some 45) (v := ?_) (a' := ?_) #[true, true, true, true, true, true, true, true, true, true, true, false, true, true, true, true, false, false, false, false] rfl rfl (by kernel_rfl) (fun _ _ _ h => h) (Or.inl ⟨by rfl, ?_⟩) ?_ ?_
      rotate_left
      · intro w'
        go_simp
        with_reducible rfl
      rotate_left
      · simp only [Act.put, List.setIfInBounds_toArray, List.set_cons_zero, List.set_cons_succ, i64_w, i32_w]
        rfl
      refine pure_ (i := 11) (N := some 47) (v := ?_) (a' := ?_) #[true, true, true, true, true, true, true, true, true, true, true, true, true, true, true, true, false, false, false, false] rfl rfl (by kernel_rfl) (fun _ _ _ h => h) (Or.inl ⟨by rfl, ?_⟩) ?_ ?_
      rotate_left
      · intro w'
        go_simp
        with_reducible rfl
      rotate_left
      · simp only [Act.put, List.setIfInBounds_toArray, List.set_cons_zero, List.set_cons_succ, i64_w, i32_w]
        rfl
      refine take_ (i := 16) (N := some 52) (v := ?_) (a' := ?_) #[true, true, true, true, true, true, true, true, true, true, true, true, true, true, true, true, true, false, false, false] rfl rfl (by kernel_rfl) (fun _ _ _ h => h) (Or.inl ⟨by rfl, ?_⟩) hHeld ?_ ?_
      rotate_left
      · rintro w' ⟨s0, s1⟩
        go_simp
        with_reducible rfl
      rotate_left
      · simp only [Act.put, List.setIfInBounds_toArray, List.set_cons_zero, List.set_cons_succ, i64_w, i32_w]
        rfl
      refine pure_ (i := 17) (N := some 53) (v := ?_) (a' := ?_) #[true, true, true, true, true, true, true, true, true, true, true, true, true, true, true, true, true, true, false, false] rfl rfl (by kernel_rfl) (fun _ _ _ h => h) (Or.inl ⟨by rfl, ?_⟩) ?_ ?_
      rotate_left
      · intro w'
        go_simp
        with_reducible rfl
      rotate_left
      · simp only [Act.put, List.setIfInBounds_toArray, List.set_cons_zero, List.set_cons_succ, i64_w, i32_w]
        rfl
      refine pure_ (i := 18) (N := some 54) (v := ?_) (a' := ?_) #[true, true, true, true, true, true, true, true, true, true, true, true, true, true, true, true, true, true, true, false] rfl rfl (by kernel_rfl) (fun _ _ _ h => h) (Or.inl ⟨by rfl, ?_⟩) ?_ ?_
      rotate_left
      · intro w'
        go_simp
        with_reducible rfl
      rotate_left
      · simp only [Act.put, List.setIfInBounds_toArray, List.set_cons_zero, List.set_cons_succ, i64_w, i32_w]
        rfl
      refine one_ (i := 19) (N := some 55) #[true, true, true, true, true, true, true, true, true, true, true, true, true, true, true, true, true, true, true, true] rfl rfl (by kernel_rfl) (by decide) (fun K hK => ?_)
      refine goes_ Tryd.func13 (by kernel_rfl) rfl #[.pointer (some ⟨g, 0, none⟩), .int .i64 (a : Int), .int .i64 (wrap64 (1 + Go.bits .and .i64 x.f2 3))] (by rfl) rfl rfl (by simp only [List.map_toArray, List.map_cons, List.map_nil]; rfl) ?_
      with_reducible refine (setTake (a : Int) (wrap64 (1 + Go.bits .and .i64 x.f2 3)) _ HSd.out).mono ?_
      rintro e_ w5 ⟨rfl, hs5, hb5, _⟩
      refine ⟨_, rfl, ?_⟩
      have HS5 := Aside0.mk hs5
      have HB5 := Aside0.mk (HBd.out.trans hb5)
      clear hs5 hb5
      refine hK.out _ _ ⟨HX1.out _ HB5.out, HX2.out _ HB5.out⟩ (fun hHeld => ?_)
      clear hK K
      refine norm_ (a' := ?_) ?_ ?_
      rotate_left
      · show Act.put _ (some 55) _ = _
        simp only [Act.put, List.setIfInBounds_toArray, List.set_cons_zero, List.set_cons_succ, i64_w, i32_w]
        rfl
      refine done_ (by kernel_rfl) ?_
      go_wp2
      go_roundg (41 - (i + 1))
      case measure => have := HI.out; omega
      case rel => exact ⟨i + 1, (by first | rfl | (rw [hi1])), ⟨by omega, rfl⟩, ⟨⟨_, turnL_len L _ _ _ _ HLL.out, HS5.out⟩⟩, HB5⟩
    · have hc : (i < l1.length ∧ ¬ i < 40) ∨ ¬ i < l1.length := by omega
      obtain ⟨A_, B_, C_, D_⟩ := lon_all L
      have hcl : L.count false ≤ L.length := List.count_le_length
      have hw : wrap64 (((lonOf L).2 : Int) + 1) = ((lonOf L).2 : Int) + 1 := by have := HN.out; have := HLL.out; unfold wrap64; omega
      have HD := Aside0.mk (And.intro D_ hw)
      generalize hm : (lonOf L).2 = M at *
      generalize ha : (lonOf L).1 = AT at *
      by_cases c0 : M = 0
      · obtain ⟨b1, b2⟩ := B_ c0
        have HE := Aside0.mk (And.intro hm (And.intro ha (And.intro b1 (And.intro b2 c0))))
        clear c hcl hw A_ B_ C_ D_ hm ha
        rcases hc with ⟨h1, h2⟩ | h1
        · have d1 : decide ((i : Int) < (l1.length : Int)) = true := decide_eq_true (by omega)
          have d2 : decide ((i : Int) < 40) = false := decide_eq_false (by omega)
          have d3 := eq_true h1
          have d4 := eq_false h2
          go_wp2_with (first
            | (go_at_call 18; (with_reducible refine (setLongest _ HS.out).mono ?_); rintro e w5 ⟨rfl, rfl⟩; simp only [HE.out.1, HE.out.2.1, HE.out.2.2.2.1, HE.out.2.2.2.2])
            | (go_at_call 16; (with_reducible refine (setSize _ HS.out).mono ?_); rintro e w6 ⟨rfl, hb6, _⟩; have HB6 := Aside0.mk (below_step HB.out hb6); simp only [HE.out.2.2.1]; clear hb6))
          go_ret
          exact ⟨by first | rfl | simp, HB6.out⟩
        · have d1 : decide ((i : Int) < (l1.length : Int)) = false := decide_eq_false (by omega)
          have d3 := eq_false h1
          go_wp2_with (first
            | (go_at_call 18; (with_reducible refine (setLongest _ HS.out).mono ?_); rintro e w5 ⟨rfl, rfl⟩; simp only [HE.out.1, HE.out.2.1, HE.out.2.2.2.1, HE.out.2.2.2.2])
            | (go_at_call 16; (with_reducible refine (setSize _ HS.out).mono ?_); rintro e w6 ⟨rfl, hb6, _⟩; have HB6 := Aside0.mk (below_step HB.out hb6); simp only [HE.out.2.2.1]; clear hb6))
          go_ret
          exact ⟨by first | rfl | simp, HB6.out⟩
      · have hC := C_ c0
        have HE := Aside0.mk (And.intro hm (And.intro ha hC))
        have n1 : ((M : Int) == 0) = false := beq_eq_false_iff_ne.2 (by omega)
        have n2 := eq_false c0
        have n3 := eq_false (show ¬ (M : Int) = 0 by omega)
        have n4 : decide ((M : Int) ≤ ((L.count false : Nat) : Int)) = true := decide_eq_true (by omega)
        have n5 : decide (M ≤ L.count false) = true := decide_eq_true A_
        clear c hcl hw A_ B_ C_ D_ hm ha
        rcases hc with ⟨h1, h2⟩ | h1
        · have d1 : decide ((i : Int) < (l1.length : Int)) = true := decide_eq_true (by omega)
          have d2 : decide ((i : Int) < 40) = false := decide_eq_false (by omega)
          have d3 := eq_true h1
          have d4 := eq_false h2
          go_wp2_with (first
            | (go_at_call 18; (with_reducible refine (setLongest _ HS.out).mono ?_); rintro e w5 ⟨rfl, rfl⟩; simp only [HE.out.1, HE.out.2.1])
            | (go_at_call 16; (with_reducible refine (setSize _ HS.out).mono ?_); rintro e w6 ⟨rfl, hb6, _⟩; have HB6 := Aside0.mk (below_step HB.out hb6); have HS6 := Aside0.mk (HS.out.below hb6); clear hb6)
            | (go_at_call 19; (with_reducible refine (setRunC (M : Int) 0 _ HS6.out).mono ?_); rintro e w7 ⟨rfl, rfl⟩; simp only [HE.out.2.2])
            | (go_at_call 19; rw [HD.out.2]; (with_reducible refine (setRunC ((M : Int) + 1) 0 _ HS6.out).mono ?_); rintro e w7 ⟨rfl, rfl⟩; simp only [HD.out.1]))
          go_ret
          exact ⟨by first | rfl | simp, HB6.out⟩
        · have d1 : decide ((i : Int) < (l1.length : Int)) = false := decide_eq_false (by omega)
          have d3 := eq_false h1
          go_wp2_with (first
            | (go_at_call 18; (with_reducible refine (setLongest _ HS.out).mono ?_); rintro e w5 ⟨rfl, rfl⟩; simp only [HE.out.1, HE.out.2.1])
            | (go_at_call 16; (with_reducible refine (setSize _ HS.out).mono ?_); rintro e w6 ⟨rfl, hb6, _⟩; have HB6 := Aside0.mk (below_step HB.out hb6); have HS6 := Aside0.mk (HS.out.below hb6); clear hb6)
            | (go_at_call 19; (with_reducible refine (setRunC (M : Int) 0 _ HS6.out).mono ?_); rintro e w7 ⟨rfl, rfl⟩; simp only [HE.out.2.2])
            | (go_at_call 19; rw [HD.out.2]; (with_reducible refine (setRunC ((M : Int) + 1) 0 _ HS6.out).mono ?_); rintro e w7 ⟨rfl, rfl⟩; simp only [HD.out.1]))
          go_ret
          exact ⟨by first | rfl | simp, HB6.out⟩


end Go.Proofs.YtngokgliagkohaaDoor.VBitsLongest
