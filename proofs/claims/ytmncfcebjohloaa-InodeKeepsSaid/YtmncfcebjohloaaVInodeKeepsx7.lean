/- Contracts of functions of this seat: each call comes to what its Lean function computes; no condition beyond what each theorem states. Printed by a program of this session's own laid over the kit's printer. -/
import Derived.Lib.Builder
import Derived.Test.YtmncfcebjohloaaVInodeKeepsx0
import Derived.Test.YtmncfcebjohloaaVInodeKeepsx1
import Derived.Test.YtmncfcebjohloaaVInodeKeepsx5
import Derived.Test.YtmncfcebjohloaaVInodeKeepsx6
namespace Go.Proofs.Ytmncfcebjohloaa.VInodeKeeps
open Go.RowKit Go.Proofs.YtmncfcebjohloaaW.PrintWords Go.Proofs.YtmncfcebjohloaaW.PrintLast Go.Proofs.YtmncfcebjohloaaW.PrintMore
attribute [local go_sem] max2_int min2_int max_two min_two max_three min_three max_four min_four   -- for this text's walks alone
set_option linter.unusedVariables false
set_option linter.unusedSimpArgs false

-- @GIVEN posthorselaw08_InodeKeeps
/-! ### posthorselaw08_InodeKeeps: by hand -/
abbrev ExtL := S41
abbrev ExtX := S46
/-- How much is left. -/
def keepsLeft (cut size : Int) : Int := (cut.tmod (size + 1) + size + 1).tmod (size + 1)
def posthorselaw08_InodeKeeps.l1 : Nat → Int → List ExtX → Int → List ExtX → Int → List ExtX → Int → Int → Nat → Option Bool
  | 0, _, _, _, _, _, _, _, _, _ => none
  | k + 1, vx, xs, vy, ys, vz, zs, size, left, i => if (i : Int) < size then (inode_Map.f k vx xs (i : Int)).bind fun a => (inode_Map.f k vy ys (i : Int)).bind fun b => (inode_Map.f k vz zs (i : Int)).bind fun c => if a.2 = true ∧ b.2 = true ∧ a.1 = b.1 ∧ c.2 = decide ((i : Int) < left) ∧ (c.2 = true → a.1 = c.1) then posthorselaw08_InodeKeeps.l1 k vx xs vy ys vz zs size left (i + 1) else none else some true
def keepsEnd (k : Nat) (vx : Int) (xs : List ExtX) (vy : Int) (ys : List ExtX) (cut size : Int) : Option Bool :=
  (inode_Cut.f k vy ys (keepsLeft cut size)).bind fun c => if c.2.2.2 = none then (inode_Size.f k c.1 c.2.1).bind fun s2 => if s2 = keepsLeft cut size then posthorselaw08_InodeKeeps.l1 k vx xs vy ys c.1 c.2.1 size (keepsLeft cut size) 0 else none else none
def keepsTail (k : Nat) (m1 m2 cut : Int) (ver : Int) (xs : List ExtX) : Option Bool :=
  (inode_Size.f k ver xs).bind fun size => if 0 ≤ size ∧ size < 1000000 then (inode_Grow.f k ver xs (Go.bits .and .i64 m1 1023) (wrap64 (1 + Go.bits .and .i64 m2 15))).bind fun g => match g with
    | (v, ys, none) => keepsEnd k ver xs v ys cut size
    | (_, _, some _) => keepsEnd k ver xs ver xs cut size
    else none
def posthorselaw08_InodeKeeps.l0 : Nat → List ExtL → Int → Int → Int → Int → List ExtX → Nat → Option Bool
  | 0, _, _, _, _, _, _, _ => none
  | k + 1, l, m1, m2, cut, ver, xs, i => if i < l.length ∧ i < 30 then (inode_Grow.f k ver xs (Go.bits .and .i64 (rd_T41 l (i : Int)).f0 1023) (wrap64 (1 + Go.bits .and .i64 (rd_T41 l (i : Int)).f1 15))).bind fun g => match g with
    | (v, ys, none) => posthorselaw08_InodeKeeps.l0 k l m1 m2 cut v ys (i + 1)
    | (_, _, some _) => posthorselaw08_InodeKeeps.l0 k l m1 m2 cut ver xs (i + 1)
    else keepsTail k m1 m2 cut ver xs
def posthorselaw08_InodeKeeps.f (k : Nat) (l0 : List ExtL) (a1_0 a1_1 a2 : Int) : Option Bool := (posthorselaw08_speaks.f k).bind fun t => if t = true then (posthorselaw08_InodeKeeps.l0 k l0 a1_0 a1_1 a2 0 [] 0).bind fun r => if r = true then some true else none else none
theorem set_two {W : World} {g : Nat} {a b x y : Value} {T : TypeId} (h : W.heap[g]? = some (.cells #[a, b] T (0, 0))) : ((W.setCell ⟨g, 0, none⟩ x).setCell ⟨g, 1, none⟩ y).heap[g]? = some (.cells #[x, y] T (0, 0)) := by
  simp [World.setCell, Array.getElem?_modify, h]
theorem set_two_other {W : World} {g b : Nat} {x y : Value} (h : b ≠ g) : ((W.setCell ⟨g, 0, none⟩ x).setCell ⟨g, 1, none⟩ y).heap[b]? = W.heap[b]? := (Below.heap_setCell _ _ _ _ h).trans (Below.heap_setCell _ _ _ _ h)
theorem R_two {W : World} {N0 g : Nat} {x y v : Value} {xs : List ExtX} (h : Kd.R k46 46 W N0 (fun _ => True) v xs) (hg : g < N0) : Kd.R k46 46 ((W.setCell ⟨g, 0, none⟩ x).setCell ⟨g, 1, none⟩ y) N0 (fun _ => True) v xs :=
  Kd.R_mono (Kd.R_step (Kd.R_bound h) (fun b hb _ => set_two_other (by have := hb.2.1; omega))) (fun _ _ => trivial)
theorem R_far2 {W : World} {N0 g : Nat} {cs : Array Value} {x y v : Value} {xs : List ExtX} (h : Kd.R k46 46 W N0 (fun _ => True) v xs) (hz : W.heap[g]? = some (.cells cs 26 (0, 0))) : Kd.R k46 46 ((W.setCell ⟨g, 0, none⟩ x).setCell ⟨g, 1, none⟩ y) N0 (fun _ => True) v xs :=
  Kd.R_mono (Kd.R_step (Kd.R_bound h) (fun b hb _ => set_two_other (fun e => by
    obtain ⟨_, _, _, q, hq, cells, hc⟩ := hb
    rw [e, hz] at hc
    have hq' : q = 26 := by have := Option.some.inj hc; injection this with h1 h2 h3; exact h2.symm
    subst hq'
    revert hq
    decide))) (fun _ _ => trivial)
theorem below_two {B : Nat} {w W : World} {g : Nat} {x y : Value} (h : Below B w W) (hg : B ≤ g) : Below B w ((W.setCell ⟨g, 0, none⟩ x).setCell ⟨g, 1, none⟩ y) := (h.setCell (p := ⟨g, 0, none⟩) hg x).setCell (p := ⟨g, 1, none⟩) hg y
theorem keepsLeft_ok (cut size : Int) (h0 : 0 ≤ size) (h1 : size < 1000000) : wrap64 (size + 1) = size + 1 ∧ wrap64 (cut.tmod (size + 1) + size) = cut.tmod (size + 1) + size ∧ wrap64 (cut.tmod (size + 1) + size + 1) = cut.tmod (size + 1) + size + 1 ∧ 0 ≤ keepsLeft cut size ∧ keepsLeft cut size ≤ size := by
  have h2 := Int.tmod_lt_of_pos cut (show (0 : Int) < size + 1 by omega)
  have h3 := Int.lt_tmod_of_pos cut (show (0 : Int) < size + 1 by omega)
  unfold keepsLeft
  have h4 := Int.tmod_lt_of_pos (cut.tmod (size + 1) + size + 1) (show (0 : Int) < size + 1 by omega)
  have h5 := Int.tmod_nonneg (size + 1) (show 0 ≤ cut.tmod (size + 1) + size + 1 by omega)
  refine ⟨?_, ?_, ?_, h5, by omega⟩ <;> (unfold wrap64; omega)
set_option maxHeartbeats 8000000 in
set_option maxRecDepth 100000 in
theorem posthorselaw08_InodeKeeps.calls (k : Nat) (A0 : Option Addr) (c0 : Nat) (l0 : List ExtL) (a1_0 a1_1 a2 : Int) (r : Bool) (w : World) (hr0 : Kd.C k41 w A0 l0.length l0) (hc0 : l0.length ≤ c0) (h : posthorselaw08_InodeKeeps.f k l0 a1_0 a1_1 a2 = some r) :
    Calls Try.prog 4 #[.slice A0 l0.length c0, .agg #[.int .i64 a1_0, .int .i64 a1_1], .int .i64 a2] w fun e w' => e = .returned (.bool r) ∧ Below w.heap.size w w' := by
  have HR0 := Aside0.mk hr0
  clear hr0 hc0
  unfold posthorselaw08_InodeKeeps.f at h
  obtain ⟨t, hP, h⟩ := Option.bind_eq_some_iff.mp h
  cases t with
  | false => rw [if_neg (by decide)] at h; cases h
  | true =>
  rw [if_pos rfl] at h
  obtain ⟨t, hH, h⟩ := Option.bind_eq_some_iff.mp h
  cases t with
  | false => rw [if_neg (by decide)] at h; cases h
  | true =>
  rw [if_pos rfl] at h
  obtain rfl := Option.some.inj h
  have HP := Aside0.mk hP
  have HH := Aside0.mk hH
  clear hP hH h
  have HB0 := Aside0.mk (below_alloc (Below.refl w.heap.size w) (.cells #[.int .i64 a1_0, .int .i64 a1_1] 41))
  have HM0 := Aside0.mk (heap_alloc_new w (.cells #[.int .i64 a1_0, .int .i64 a1_1] 41))
  go_enter Try.func4, Try.ntmps4
  go_wp2_with (go_at_call 8; (with_reducible refine (posthorselaw08_speaks.calls k true _ HP.out).mono ?_); rintro e w1 ⟨rfl, hb1⟩; have HB1 := Aside0.mk (below_step HB0.out hb1); have HM1 := Aside0.mk (blk_below HM0.out hb1); clear hb1)
  have HX2 := Aside0.mk (heap_alloc_new w1 (.cells #[.int .i64 0, .slice none 0 0] 26))
  have HM2 := Aside0.mk ((Below.heap_alloc w1 (.cells #[.int .i64 0, .slice none 0 0] 26) _ (blk_lt HM1.out)).trans HM1.out)
  have HB2 := Aside0.mk (below_alloc HB1.out (.cells #[.int .i64 0, .slice none 0 0] 26))
  have HG := Aside0.mk (And.intro (show w.heap.size < w1.heap.size from blk_lt HM1.out) (show w1.heap.size < (w1.alloc (.cells #[.int .i64 0, .slice none 0 0] 26)).heap.size by simp))
  have HRX2 := Aside0.mk (Kd.R_nil k46 46 (w1.alloc (.cells #[.int .i64 0, .slice none 0 0] 26)) (w1.alloc (.cells #[.int .i64 0, .slice none 0 0] 26)).heap.size (fun _ => True))
  generalize w1.alloc (.cells #[.int .i64 0, .slice none 0 0] 26) = w2 at *
  obtain ⟨gx, egx⟩ : ∃ g, g = w1.heap.size := ⟨_, rfl⟩
  rw [← egx] at HX2 HG
  rw [← egx]
  clear egx HB1 HM1 HB0 HM0
  obtain ⟨N0, eN⟩ : ∃ n, n = w2.heap.size := ⟨_, rfl⟩
  have HNW := Aside0.mk (show N0 ≤ w2.heap.size by omega)
  rw [← eN] at HRX2 HG
  clear eN
  go_loopg [8] k (fun kq v8 w' => ∃ (i c : Nat) (ver : Int) (A : Option Addr) (xs : List ExtX), v8 = .int .i64 (i : Int) ∧ Aside0 (i ≤ 30 ∧ kq ≤ k ∧ xs.length ≤ c ∧ N0 ≤ w'.heap.size) ∧ Aside0 (posthorselaw08_InodeKeeps.l0 kq l0 a1_0 a1_1 a2 ver xs i = some true) ∧ Aside0 (w'.heap[gx]? = some (.cells #[.int .i64 ver, .slice A xs.length c] 26 (0, 0))) ∧ Aside0 (Kd.R k46 46 w' N0 (fun _ => True) (.slice A xs.length c) xs) ∧ Aside0 (w'.heap[w.heap.size]? = some (.cells #[.int .i64 a1_0, .int .i64 a1_1] 41 (0, 0))) ∧ Aside0 (Below w.heap.size w w'))
  case atStart => exact ⟨0, 0, 0, none, [], rfl, ⟨by omega, Nat.le_refl _, Nat.le_refl _, HNW.out⟩, HH, HX2, HRX2, HM2, HB2⟩
  case round =>
    clear HH HX2 HRX2 HM2 HB2 HNW
    obtain ⟨i, c, ver, A, xs, rfl, HI, HA, HX, HRX, HM, HB⟩ := hrel
    obtain ⟨k1, rfl⟩ : ∃ k1, gk = k1 + 1 := by
      cases gk with
      | zero => exact absurd HA.out (by rw [posthorselaw08_InodeKeeps.l0]; simp)
      | succ k1 => exact ⟨k1, rfl⟩
    have H := HA.out
    clear HA
    rw [posthorselaw08_InodeKeeps.l0] at H
    have hx0 := (blk_cell HX.out 0).trans rfl
    have hx1 := (blk_cell HX.out 1).trans rfl
    by_cases cc : i < l0.length ∧ i < 30
    · rw [if_pos cc] at H
      obtain ⟨c3, c4⟩ := cc
      have c3b : decide ((i : Int) < (l0.length : Int)) = true := decide_eq_true (by omega)
      have c4b : decide ((i : Int) < 30) = true := decide_eq_true (by omega)
      obtain ⟨ad, rfl, hy0, hy1⟩ := at_T41 HR0.out (i : Int) (by omega) (by omega)
      have q1 := eq_true (show (0 : Int) ≤ (i : Int) by omega)
      have q2 := eq_true (show (i : Int) < (l0.length : Int) by omega)
      have q3 := eq_true c3
      have hi1 : wrap64 ((i : Int) + 1) = ((i + 1 : Nat) : Int) := by unfold wrap64; omega
      have HI1 := Aside0.mk hi1
      have HI30 := Aside0.mk c4
      clear hi1 c3 c4
      rw [show ((i : Int)).toNat = i from rfl] at hy0 hy1
      have HY0 := Aside0.mk (fun (W : World) (hb : Below w.heap.size w W) => (hb.cell (World.block_lt_of_cell? w _ hy0)).trans hy0)
      have HY1 := Aside0.mk (fun (W : World) (hb : Below w.heap.size w W) => (hb.cell (World.block_lt_of_cell? w _ hy1)).trans hy1)
      clear hy0 hy1
      generalize rd_T41 l0 (i : Int) = x at *
      obtain ⟨⟨gv, ys, ge⟩, hGr, H⟩ := Option.bind_eq_some_iff.mp H
      have HGr := Aside0.mk hGr
      clear hGr
      have HBd := Aside0.mk HB.out.drew
      have HXd := Aside0.mk (show wr.drew.heap[gx]? = _ from HX.out)
      have HRd := Aside0.mk (Kd.R_drew HRX.out)
      have HMd := Aside0.mk (show wr.drew.heap[w.heap.size]? = _ from HM.out)
      have HNd := Aside0.mk (show N0 ≤ wr.drew.heap.size from HI.out.2.2.2)
      clear hx0 hx1
      cases ge with
      | none =>
        dsimp only at H
        have H' := Aside0.mk H
        clear H
        have HZe := Aside0.mk (show (wr.alloc (.cells #[.int .i64 0, .slice none 0 0] 26)).drew.heap[wr.heap.size]? = _ from heap_alloc_new wr (.cells #[.int .i64 0, .slice none 0 0] 26))
        have HXe := Aside0.mk (show (wr.alloc (.cells #[.int .i64 0, .slice none 0 0] 26)).drew.heap[gx]? = _ from (Below.heap_alloc wr (.cells #[.int .i64 0, .slice none 0 0] 26) _ (blk_lt HX.out)).trans HX.out)
        have HMe := Aside0.mk (show (wr.alloc (.cells #[.int .i64 0, .slice none 0 0] 26)).drew.heap[w.heap.size]? = _ from (Below.heap_alloc wr (.cells #[.int .i64 0, .slice none 0 0] 26) _ (blk_lt HM.out)).trans HM.out)
        have HRe := Aside0.mk (Kd.R_drew (Kd.R_alloc HRX.out (.cells #[.int .i64 0, .slice none 0 0] 26)))
        have HBe := Aside0.mk (below_alloc HB.out (.cells #[.int .i64 0, .slice none 0 0] 26)).drew
        have HNe := Aside0.mk (show N0 ≤ (wr.alloc (.cells #[.int .i64 0, .slice none 0 0] 26)).drew.heap.size from Nat.le_trans HI.out.2.2.2 (by show wr.heap.size ≤ (wr.alloc (.cells #[.int .i64 0, .slice none 0 0] 26)).heap.size; simp))
        go_wp2_with fail
        refine start_ (n := 22) (S := fun w' => w'.cell? ⟨gx, 0, none⟩ = some (.int .i64 ver) ∧ w'.cell? ⟨gx, 1, none⟩ = some (.slice A xs.length c) ∧ w'.cell? (ad.add (i * 2)) = some (.int .i64 x.f0) ∧ w'.cell? ⟨(ad.add (i * 2)).block, (ad.add (i * 2)).off + 1, none⟩ = some (.int .i64 x.f1)) (ds := [20]) #[false, false, false, false, false, false, false, false, false, false, false, false, false, false, false, false, false, false, false, false, false, false] (by kernel_rfl) rfl rfl ⟨(blk_cell HXd.out 0).trans rfl, (blk_cell HXd.out 1).trans rfl, HY0.out _ HBd.out, HY1.out _ HBd.out⟩ (fun hHeld => ?_)
        refine pure_ (i := 1) (N := some 39) (v := ?_) (a' := ?_) #[false, true, false, false, false, false, false, false, false, false, false, false, false, false, false, false, false, false, false, false, false, false] rfl rfl (by kernel_rfl) (fun _ _ _ h => h) (Or.inl ⟨by rfl, ?_⟩) ?_ ?_
        rotate_left
        · intro w'
          go_simp
          with_reducible rfl
        rotate_left
        · simp only [Act.put, List.setIfInBounds_toArray, List.set_cons_zero, List.set_cons_succ, i64_w, i32_w]
          rfl
        refine pure_ (i := 2) (N := some 40) (v := ?_) (a' := ?_) #[false, true, true, false, false, false, false, false, false, false, false, false, false, false, false, false, false, false, false, false, false, false] rfl rfl (by kernel_rfl) (fun _ _ _ h => h) (Or.inl ⟨by rfl, ?_⟩) ?_ ?_
        rotate_left
        · intro w'
          go_simp
          with_reducible rfl
        rotate_left
        · simp only [Act.put, List.setIfInBounds_toArray, List.set_cons_zero, List.set_cons_succ, i64_w, i32_w]
          rfl
        refine pure_ (i := 3) (N := some 41) (v := ?_) (a' := ?_) #[false, true, true, true, false, false, false, false, false, false, false, false, false, false, false, false, false, false, false, false, false, false] rfl rfl (by kernel_rfl) (fun _ _ _ h => h) (Or.inl ⟨by rfl, ?_⟩) ?_ ?_
        rotate_left
        · intro w'
          go_simp
          with_reducible rfl
        rotate_left
        · simp only [Act.put, List.setIfInBounds_toArray, List.set_cons_zero, List.set_cons_succ, i64_w, i32_w]
          rfl
        refine pure_ (i := 4) (N := some 42) (v := ?_) (a' := ?_) #[false, true, true, true, true, false, false, false, false, false, false, false, false, false, false, false, false, false, false, false, false, false] rfl rfl (by kernel_rfl) (fun _ _ _ h => h) (Or.inl ⟨by rfl, ?_⟩) ?_ ?_
        rotate_left
        · intro w'
          go_simp
          with_reducible rfl
        rotate_left
        · simp only [Act.put, List.setIfInBounds_toArray, List.set_cons_zero, List.set_cons_succ, i64_w, i32_w]
          rfl
        refine pure_ (i := 7) (N := some 45) (v := ?_) (a' := ?_) #[false, true, true, true, true, false, false, true, false, false, false, false, false, false, false, false, false, false, false, false, false, false] rfl rfl (by kernel_rfl) (fun _ _ _ h => h) (Or.inl ⟨by rfl, ?_⟩) ?_ ?_
        rotate_left
        · intro w'
          go_simp
          with_reducible rfl
        rotate_left
        · simp only [Act.put, List.setIfInBounds_toArray, List.set_cons_zero, List.set_cons_succ, i64_w, i32_w]
          rfl
        refine pure_ (i := 8) (N := some 46) (v := ?_) (a' := ?_) #[false, true, true, true, true, false, false, true, true, false, false, false, false, false, false, false, false, false, false, false, false, false] rfl rfl (by kernel_rfl) (fun _ _ _ h => h) (Or.inl ⟨by rfl, ?_⟩) ?_ ?_
        rotate_left
        · intro w'
          go_simp
          with_reducible rfl
        rotate_left
        · simp only [Act.put, List.setIfInBounds_toArray, List.set_cons_zero, List.set_cons_succ, i64_w, i32_w]
          rfl
        refine pure_ (i := 9) (N := some 47) (v := ?_) (a' := ?_) #[false, true, true, true, true, false, false, true, true, true, false, false, false, false, false, false, false, false, false, false, false, false] rfl rfl (by kernel_rfl) (fun _ _ _ h => h) (Or.inl ⟨by rfl, ?_⟩) ?_ ?_
        rotate_left
        · intro w'
          go_simp
          with_reducible rfl
        rotate_left
        · simp only [Act.put, List.setIfInBounds_toArray, List.set_cons_zero, List.set_cons_succ, i64_w, i32_w]
          rfl
        refine pure_ (i := 10) (N := some 48) (v := ?_) (a' := ?_) #[false, true, true, true, true, false, false, true, true, true, true, false, false, false, false, false, false, false, false, false, false, false] rfl rfl (by kernel_rfl) (fun _ _ _ h => h) (Or.inl ⟨by rfl, ?_⟩) ?_ ?_
        rotate_left
        · intro w'
          go_simp
          with_reducible rfl
        rotate_left
        · simp only [Act.put, List.setIfInBounds_toArray, List.set_cons_zero, List.set_cons_succ, i64_w, i32_w]
          rfl
        refine take_ (i := 0) (N := some 38) (v := ?_) (a' := ?_) #[true, true, true, true, true, false, false, true, true, true, true, false, false, false, false, false, false, false, false, false, false, false] rfl rfl (by kernel_rfl) (fun _ _ _ h => h) (Or.inl ⟨by rfl, ?_⟩) hHeld ?_ ?_
        rotate_left
        · rintro w' ⟨s0, s1, s2, s3⟩
          go_simp
          with_reducible rfl
        rotate_left
        · simp only [Act.put, List.setIfInBounds_toArray, List.set_cons_zero, List.set_cons_succ, i64_w, i32_w]
          rfl
        refine take_ (i := 5) (N := some 43) (v := ?_) (a' := ?_) #[true, true, true, true, true, true, false, true, true, true, true, false, false, false, false, false, false, false, false, false, false, false] rfl rfl (by kernel_rfl) (fun _ _ _ h => h) (Or.inl ⟨by rfl, ?_⟩) hHeld ?_ ?_
        rotate_left
        · rintro w' ⟨s0, s1, s2, s3⟩
          go_simp
          with_reducible rfl
        rotate_left
        · simp only [Act.put, List.setIfInBounds_toArray, List.set_cons_zero, List.set_cons_succ, i64_w, i32_w]
          rfl
        refine pure_ (i := 6) (N := some 44) (v := ?_) (a' := ?_) #[true, true, true, true, true, true, true, true, true, true, true, false, false, false, false, false, false, false, false, false, false, false] rfl rfl (by kernel_rfl) (fun _ _ _ h => h) (Or.inl ⟨by rfl, ?_⟩) ?_ ?_
        rotate_left
        · intro w'
          go_simp
          with_reducible rfl
        rotate_left
        · simp only [Act.put, List.setIfInBounds_toArray, List.set_cons_zero, List.set_cons_succ, i64_w, i32_w]
          rfl
        refine take_ (i := 11) (N := some 49) (v := ?_) (a' := ?_) #[true, true, true, true, true, true, true, true, true, true, true, true, false, false, false, false, false, false, false, false, false, false] rfl rfl (by kernel_rfl) (fun _ _ _ h => h) (Or.inl ⟨by rfl, ?_⟩) hHeld ?_ ?_
        rotate_left
        · rintro w' ⟨s0, s1, s2, s3⟩
          go_simp
          with_reducible rfl
        rotate_left
        · simp only [Act.put, List.setIfInBounds_toArray, List.set_cons_zero, List.set_cons_succ, i64_w, i32_w]
          rfl
        refine pure_ (i := 12) (N := some 50) (v := ?_) (a' := ?_) #[true, true, true, true, true, true, true, true, true, true, true, true, true, false, false, false, false, false, false, false, false, false] rfl rfl (by kernel_rfl) (fun _ _ _ h => h) (Or.inl ⟨by rfl, ?_⟩) ?_ ?_
        rotate_left
        · intro w'
          go_simp
          with_reducible rfl
        rotate_left
        · simp only [Act.put, List.setIfInBounds_toArray, List.set_cons_zero, List.set_cons_succ, i64_w, i32_w]
          rfl
        refine pure_ (i := 13) (N := some 51) (v := ?_) (a' := ?_) #[true, true, true, true, true, true, true, true, true, true, true, true, true, true, false, false, false, false, false, false, false, false] rfl rfl (by kernel_rfl) (fun _ _ _ h => h) (Or.inl ⟨by rfl, ?_⟩) ?_ ?_
        rotate_left
        · intro w'
          go_simp
          with_reducible rfl
        rotate_left
        · simp only [Act.put, List.setIfInBounds_toArray, List.set_cons_zero, List.set_cons_succ, i64_w, i32_w]
          rfl
        refine pure_ (i := 14) (N := some 52) (v := ?_) (a' := ?_) #[true, true, true, true, true, true, true, true, true, true, true, true, true, true, true, false, false, false, false, false, false, false] rfl rfl (by kernel_rfl) (fun _ _ _ h => h) (Or.inl ⟨by rfl, ?_⟩) ?_ ?_
        rotate_left
        · intro w'
          go_simp
          with_reducible rfl
        rotate_left
        · simp only [Act.put, List.setIfInBounds_toArray, List.set_cons_zero, List.set_cons_succ, i64_w, i32_w]
          rfl
        refine join_ (σ := Option Addr × Nat × Nat) 2 #[true, true, true, true, true, true, true, true, true, true, true, true, true, true, true, true, true, true, true, true, false, false] (fun s => [(53, .tuple #[.agg #[.int .i64 gv, .slice s.1 ys.length s.2.1], errW none]), (37, .tuple #[.agg #[.int .i64 gv, .slice s.1 ys.length s.2.1], errW none]), (54, .agg #[.int .i64 gv, .slice s.1 ys.length s.2.1]), (55, errW none), (9, .pointer (some ⟨s.2.2, 0, none⟩))]) (fun s w' => (w'.cell? ⟨gx, 0, none⟩ = some (.int .i64 ver) ∧ w'.cell? ⟨gx, 1, none⟩ = some (.slice A xs.length c) ∧ w'.cell? (ad.add (i * 2)) = some (.int .i64 x.f0) ∧ w'.cell? ⟨(ad.add (i * 2)).block, (ad.add (i * 2)).off + 1, none⟩ = some (.int .i64 x.f1)) ∧ ys.length ≤ s.2.1 ∧ w'.heap[gx]? = some (.cells #[.int .i64 ver, .slice A xs.length c] 26 (0, 0)) ∧ w'.heap[w.heap.size]? = some (.cells #[.int .i64 a1_0, .int .i64 a1_1] 41 (0, 0)) ∧ Kd.R k46 46 w' N0 (fun _ => True) (.slice A xs.length c) xs ∧ Kd.R k46 46 w' N0 (fun _ => True) (.slice s.1 ys.length s.2.1) ys ∧ Below w.heap.size w w' ∧ N0 ≤ s.2.2 ∧ w'.heap[s.2.2]? = some (.cells #[.int .i64 0, .slice none 0 0] 26 (0, 0))) ?_ ?_
        rotate_left
        · intro hCont
          refine two_ (i := 15) (j := 19) (Ni := some 53) (Nj := some 9) #[true, true, true, true, true, true, true, true, true, true, true, true, true, true, true, true, false, false, false, false, false, false] #[true, true, true, true, true, true, true, true, true, true, true, true, true, true, true, false, false, false, false, true, false, false] rfl rfl rfl rfl (by kernel_rfl) (by decide) (by decide) (fun K hK => ?_) (fun K hK => ?_)
          · skip
            refine goes_ Try.func16 (by kernel_rfl) rfl #[.agg #[.int .i64 ver, .slice A xs.length c], .agg #[.int .i64 (Go.bits .and .i64 x.f0 1023), .int .i64 (wrap64 (1 + Go.bits .and .i64 x.f1 15))]] (by rfl) rfl rfl (by simp only [List.map_toArray, List.map_cons, List.map_nil]; rfl) ?_
            with_reducible refine (inode_Grow.calls k1 ver A c xs _ _ gv ys none _ (Kd.R_reads' HRd.out).2.2 HI.out.2.2.1 HGr.out).mono ?_
            rintro e_ w5 ⟨v1_, rfl, hr5, hb5⟩
            refine ⟨_, rfl, ?_⟩
            obtain ⟨A5, c5, rfl, hc5, _⟩ := Kd.R_reads hr5
            have HC5 := Aside0.mk hc5
            have HRX5 := Aside0.mk (Kd.R_below HRd.out hb5)
            have HR5 := Aside0.mk (Kd.R_lower hr5 HNd.out)
            have HB5 := Aside0.mk (below_step HBd.out hb5)
            have HX5 := Aside0.mk (blk_below HXd.out hb5)
            have HM5 := Aside0.mk (blk_below HMd.out hb5)
            have HN5 := Aside0.mk (Nat.le_trans HNd.out hb5.size)
            clear hr5 hb5 hc5
            refine hK.out _ _ ⟨(blk_cell HX5.out 0).trans rfl, (blk_cell HX5.out 1).trans rfl, HY0.out _ HB5.out, HY1.out _ HB5.out⟩ (fun hHeld => ?_)
            clear hK K
            refine norm_ (a' := ?_) ?_ ?_
            rotate_left
            · show Act.put _ (some 53) _ = _
              simp only [Act.put, List.setIfInBounds_toArray, List.set_cons_zero, List.set_cons_succ, i64_w, i32_w]
              rfl
            refine pure_ (i := 16) (N := some 37) (v := ?_) (a' := ?_) #[true, true, true, true, true, true, true, true, true, true, true, true, true, true, true, true, true, false, false, false, false, false] rfl rfl (by kernel_rfl) (fun _ _ _ h => h) (Or.inl ⟨by rfl, ?_⟩) ?_ ?_
            rotate_left
            · intro w'
              go_simp
              with_reducible rfl
            rotate_left
            · simp only [Act.put, List.setIfInBounds_toArray, List.set_cons_zero, List.set_cons_succ, i64_w, i32_w]
              rfl
            refine pure_ (i := 17) (N := some 54) (v := ?_) (a' := ?_) #[true, true, true, true, true, true, true, true, true, true, true, true, true, true, true, true, true, true, false, false, false, false] rfl rfl (by kernel_rfl) (fun _ _ _ h => h) (Or.inl ⟨by rfl, ?_⟩) ?_ ?_
            rotate_left
            · intro w'
              go_simp
              with_reducible rfl
            rotate_left
            · simp only [Act.put, List.setIfInBounds_toArray, List.set_cons_zero, List.set_cons_succ, i64_w, i32_w]
              rfl
            refine pure_ (i := 18) (N := some 55) (v := ?_) (a' := ?_) #[true, true, true, true, true, true, true, true, true, true, true, true, true, true, true, true, true, true, true, false, false, false] rfl rfl (by kernel_rfl) (fun _ _ _ h => h) (Or.inl ⟨by rfl, ?_⟩) ?_ ?_
            rotate_left
            · intro w'
              go_simp
              with_reducible rfl
            rotate_left
            · simp only [Act.put, List.setIfInBounds_toArray, List.set_cons_zero, List.set_cons_succ, i64_w, i32_w]
              rfl
            refine one_ (i := 19) (N := some 9) #[true, true, true, true, true, true, true, true, true, true, true, true, true, true, true, true, true, true, true, true, false, false] rfl rfl (by kernel_rfl) (by decide) (fun K hK => ?_)
            refine value_ (w1 := ?_) (v := ?_) (by rfl) rfl ?_ ?_
            rotate_left 2
            · go_simp
              constructor
              · rfl
              · rfl
            refine hK.out _ _ ⟨(blk_cell ((Below.heap_alloc _ (.cells #[.int .i64 0, .slice none 0 0] 26) _ (blk_lt HX5.out)).trans HX5.out) 0).trans rfl, (blk_cell ((Below.heap_alloc _ (.cells #[.int .i64 0, .slice none 0 0] 26) _ (blk_lt HX5.out)).trans HX5.out) 1).trans rfl, HY0.out _ (below_alloc HB5.out (.cells #[.int .i64 0, .slice none 0 0] 26)), HY1.out _ (below_alloc HB5.out (.cells #[.int .i64 0, .slice none 0 0] 26))⟩ (fun hHeld => ?_)
            clear hK K
            refine norm_ (a' := ?_) ?_ ?_
            rotate_left
            · show Act.put _ (some 9) _ = _
              simp only [Act.put, List.setIfInBounds_toArray, List.set_cons_zero, List.set_cons_succ, i64_w, i32_w]
              rfl
            exact norm_ (by simp only [putAll, Act.put, List.setIfInBounds_toArray, List.set_cons_zero, List.set_cons_succ]) (hCont (A5, c5, w5.heap.size) _ ⟨hHeld, HC5.out, (Below.heap_alloc _ (.cells #[.int .i64 0, .slice none 0 0] 26) _ (blk_lt HX5.out)).trans HX5.out, (Below.heap_alloc _ (.cells #[.int .i64 0, .slice none 0 0] 26) _ (blk_lt HM5.out)).trans HM5.out, Kd.R_alloc HRX5.out (.cells #[.int .i64 0, .slice none 0 0] 26), Kd.R_alloc HR5.out (.cells #[.int .i64 0, .slice none 0 0] 26), below_alloc HB5.out (.cells #[.int .i64 0, .slice none 0 0] 26), HN5.out, heap_alloc_new _ _⟩)
          · skip
            refine value_ (w1 := ?_) (v := ?_) (by rfl) rfl ?_ ?_
            rotate_left 2
            · go_simp
              constructor
              · rfl
              · rfl
            refine hK.out _ _ ⟨(blk_cell HXe.out 0).trans rfl, (blk_cell HXe.out 1).trans rfl, HY0.out _ HBe.out, HY1.out _ HBe.out⟩ (fun hHeld => ?_)
            clear hK K
            refine norm_ (a' := ?_) ?_ ?_
            rotate_left
            · show Act.put _ (some 9) _ = _
              simp only [Act.put, List.setIfInBounds_toArray, List.set_cons_zero, List.set_cons_succ, i64_w, i32_w]
              rfl
            refine one_ (i := 15) (N := some 53) #[true, true, true, true, true, true, true, true, true, true, true, true, true, true, true, true, false, false, false, true, false, false] rfl rfl (by kernel_rfl) (by decide) (fun K hK => ?_)
            refine goes_ Try.func16 (by kernel_rfl) rfl #[.agg #[.int .i64 ver, .slice A xs.length c], .agg #[.int .i64 (Go.bits .and .i64 x.f0 1023), .int .i64 (wrap64 (1 + Go.bits .and .i64 x.f1 15))]] (by rfl) rfl rfl (by simp only [List.map_toArray, List.map_cons, List.map_nil]; rfl) ?_
            with_reducible refine (inode_Grow.calls k1 ver A c xs _ _ gv ys none _ (Kd.R_reads' HRe.out).2.2 HI.out.2.2.1 HGr.out).mono ?_
            rintro e_ w5 ⟨v1_, rfl, hr5, hb5⟩
            refine ⟨_, rfl, ?_⟩
            obtain ⟨A5, c5, rfl, hc5, _⟩ := Kd.R_reads hr5
            have HC5 := Aside0.mk hc5
            have HRX5 := Aside0.mk (Kd.R_below HRe.out hb5)
            have HR5 := Aside0.mk (Kd.R_lower hr5 HNe.out)
            have HB5 := Aside0.mk (below_step HBe.out hb5)
            have HX5 := Aside0.mk (blk_below HXe.out hb5)
            have HM5 := Aside0.mk (blk_below HMe.out hb5)
            have HN5 := Aside0.mk (Nat.le_trans HNe.out hb5.size)
            have HZ5 := Aside0.mk (blk_below HZe.out hb5)
            clear hr5 hb5 hc5
            refine hK.out _ _ ⟨(blk_cell HX5.out 0).trans rfl, (blk_cell HX5.out 1).trans rfl, HY0.out _ HB5.out, HY1.out _ HB5.out⟩ (fun hHeld => ?_)
            clear hK K
            refine norm_ (a' := ?_) ?_ ?_
            rotate_left
            · show Act.put _ (some 53) _ = _
              simp only [Act.put, List.setIfInBounds_toArray, List.set_cons_zero, List.set_cons_succ, i64_w, i32_w]
              rfl
            refine pure_ (i := 16) (N := some 37) (v := ?_) (a' := ?_) #[true, true, true, true, true, true, true, true, true, true, true, true, true, true, true, true, true, false, false, true, false, false] rfl rfl (by kernel_rfl) (fun _ _ _ h => h) (Or.inl ⟨by rfl, ?_⟩) ?_ ?_
            rotate_left
            · intro w'
              go_simp
              with_reducible rfl
            rotate_left
            · simp only [Act.put, List.setIfInBounds_toArray, List.set_cons_zero, List.set_cons_succ, i64_w, i32_w]
              rfl
            refine pure_ (i := 17) (N := some 54) (v := ?_) (a' := ?_) #[true, true, true, true, true, true, true, true, true, true, true, true, true, true, true, true, true, true, false, true, false, false] rfl rfl (by kernel_rfl) (fun _ _ _ h => h) (Or.inl ⟨by rfl, ?_⟩) ?_ ?_
            rotate_left
            · intro w'
              go_simp
              with_reducible rfl
            rotate_left
            · simp only [Act.put, List.setIfInBounds_toArray, List.set_cons_zero, List.set_cons_succ, i64_w, i32_w]
              rfl
            refine pure_ (i := 18) (N := some 55) (v := ?_) (a' := ?_) #[true, true, true, true, true, true, true, true, true, true, true, true, true, true, true, true, true, true, true, true, false, false] rfl rfl (by kernel_rfl) (fun _ _ _ h => h) (Or.inl ⟨by rfl, ?_⟩) ?_ ?_
            rotate_left
            · intro w'
              go_simp
              with_reducible rfl
            rotate_left
            · simp only [Act.put, List.setIfInBounds_toArray, List.set_cons_zero, List.set_cons_succ, i64_w, i32_w]
              rfl
            exact norm_ (by simp only [putAll, Act.put, List.setIfInBounds_toArray, List.set_cons_zero, List.set_cons_succ]) (hCont (A5, c5, wr.heap.size) _ ⟨hHeld, HC5.out, HX5.out, HM5.out, HRX5.out, HR5.out, HB5.out, HNd.out, HZ5.out⟩)
        rintro ⟨A5, c5, gn⟩ w6 ⟨hHeld, hc6, hx6, hm6, hrx6, hr6, hb6, hn6, hz6⟩
        dsimp only at hc6 hr6 hn6 hz6
        have HC5 := Aside0.mk hc6
        have HX6 := Aside0.mk hx6
        have HM6 := Aside0.mk hm6
        have HRX6 := Aside0.mk hrx6
        have HR6 := Aside0.mk hr6
        have HB6 := Aside0.mk hb6
        have HN6 := Aside0.mk hn6
        have HZ6 := Aside0.mk hz6
        clear hc6 hx6 hm6 hrx6 hr6 hb6 hn6 hz6
        have hz0 := (blk_cell HZ6.out 0).trans rfl
        have hz1 := (blk_cell HZ6.out 1).trans rfl
        have hzf0 : w6.frozen? ⟨gn, 0, none⟩ = false := Lib.frozen_of_heap HZ6.out 0
        have hzf1 : w6.frozen? ⟨gn, 1, none⟩ = false := Lib.frozen_of_heap HZ6.out 1
        refine norm_ (a' := ?_) ?_ ?_
        rotate_left
        · simp only [putAll, Act.put, List.setIfInBounds_toArray, List.set_cons_zero, List.set_cons_succ]
          rfl
        refine last_ (i := 20) (N := none) #[true, true, true, true, true, true, true, true, true, true, true, true, true, true, true, true, true, true, true, true, true, false] rfl rfl (by kernel_rfl) (by decide) (fun K hK => ?_)
        refine skip_ (w1 := ?_) (by rfl) rfl ?_ ?_
        rotate_left
        · go_simp
          rfl
        refine hK.out _ _ ?_
        clear hK K
        refine pure_ (i := 21) (N := some 10) (v := ?_) (a' := ?_) #[true, true, true, true, true, true, true, true, true, true, true, true, true, true, true, true, true, true, true, true, true, true] rfl rfl (by kernel_rfl) (fun _ _ _ h => h) (Or.inl ⟨by rfl, ?_⟩) ?_ ?_
        rotate_left
        · intro w'
          go_simp
          with_reducible rfl
        rotate_left
        · simp only [Act.put, List.setIfInBounds_toArray, List.set_cons_zero, List.set_cons_succ, i64_w, i32_w]
          rfl
        refine done_ (by kernel_rfl) ?_
        simp only [errW_none]
        have HGN := Aside0.mk (show gn ≠ gx ∧ gn ≠ w.heap.size ∧ w.heap.size ≤ gn ∧ w.heap.size ≤ gx from by have := HG.out; have := HN6.out; omega)
        have HV7 := Aside0.mk (set_two (x := .int .i64 gv) (y := .slice A5 ys.length c5) HZ6.out)
        have HX7 := Aside0.mk ((set_two_other (x := .int .i64 gv) (y := .slice A5 ys.length c5) (Ne.symm HGN.out.1)).trans HX6.out)
        have HM7 := Aside0.mk ((set_two_other (x := .int .i64 gv) (y := .slice A5 ys.length c5) (Ne.symm HGN.out.2.1)).trans HM6.out)
        have HRX7 := Aside0.mk (R_far2 (x := .int .i64 gv) (y := .slice A5 ys.length c5) HRX6.out HZ6.out)
        have HR7 := Aside0.mk (R_far2 (x := .int .i64 gv) (y := .slice A5 ys.length c5) HR6.out HZ6.out)
        have HB7 := Aside0.mk (below_two (x := .int .i64 gv) (y := .slice A5 ys.length c5) HB6.out HGN.out.2.2.1)
        have HNs := Aside0.mk (show N0 ≤ w6.heap.size from Nat.le_trans HN6.out (Nat.le_of_lt (blk_lt HZ6.out)))
        have HN7 := Aside0.mk (show N0 ≤ ((w6.setCell ⟨gn, 0, none⟩ (.int .i64 gv)).setCell ⟨gn, 1, none⟩ (.slice A5 ys.length c5)).heap.size by have := HNs.out; simpa [World.setCell] using this)
        generalize (w6.setCell ⟨gn, 0, none⟩ (.int .i64 gv)).setCell ⟨gn, 1, none⟩ (.slice A5 ys.length c5) = w7 at *
        clear hz0 hz1 hzf0 hzf1 hHeld
        have hv0 := (blk_cell HV7.out 0).trans rfl
        have hv1 := (blk_cell HV7.out 1).trans rfl
        have hx0 := (blk_cell HX7.out 0).trans rfl
        have hx1 := (blk_cell HX7.out 1).trans rfl
        have hf0 : w7.frozen? ⟨gx, 0, none⟩ = false := Lib.frozen_of_heap HX7.out 0
        have hf1 : w7.frozen? ⟨gx, 1, none⟩ = false := Lib.frozen_of_heap HX7.out 1
        have HX8 := Aside0.mk (set_two (x := .int .i64 gv) (y := .slice A5 ys.length c5) HX7.out)
        have HM8 := Aside0.mk ((set_two_other (x := .int .i64 gv) (y := .slice A5 ys.length c5) (show w.heap.size ≠ gx by have := HG.out; omega)).trans HM7.out)
        have HR8 := Aside0.mk (R_far2 (x := .int .i64 gv) (y := .slice A5 ys.length c5) HR7.out HX7.out)
        have HB8 := Aside0.mk (below_two (x := .int .i64 gv) (y := .slice A5 ys.length c5) HB7.out HGN.out.2.2.2)
        have HN8 := Aside0.mk (show N0 ≤ ((w7.setCell ⟨gx, 0, none⟩ (.int .i64 gv)).setCell ⟨gx, 1, none⟩ (.slice A5 ys.length c5)).heap.size by have := HN7.out; simpa [World.setCell] using this)
        go_wp2_with fail
        go_roundg k1
        case measure => omega
        case rel => exact ⟨i + 1, c5, gv, A5, ys, (by first | rfl | rw [HI1.out]), ⟨by have := HI30.out; omega, by have := HI.out; omega, HC5.out, HN8.out⟩, H', HX8, HR8, HM8, HB8⟩
      | some ee =>
        dsimp only at H
        have H' := Aside0.mk H
        clear H
        have HZe := Aside0.mk (show (wr.alloc (.cells #[.int .i64 0, .slice none 0 0] 26)).drew.heap[wr.heap.size]? = _ from heap_alloc_new wr (.cells #[.int .i64 0, .slice none 0 0] 26))
        have HXe := Aside0.mk (show (wr.alloc (.cells #[.int .i64 0, .slice none 0 0] 26)).drew.heap[gx]? = _ from (Below.heap_alloc wr (.cells #[.int .i64 0, .slice none 0 0] 26) _ (blk_lt HX.out)).trans HX.out)
        have HMe := Aside0.mk (show (wr.alloc (.cells #[.int .i64 0, .slice none 0 0] 26)).drew.heap[w.heap.size]? = _ from (Below.heap_alloc wr (.cells #[.int .i64 0, .slice none 0 0] 26) _ (blk_lt HM.out)).trans HM.out)
        have HRe := Aside0.mk (Kd.R_drew (Kd.R_alloc HRX.out (.cells #[.int .i64 0, .slice none 0 0] 26)))
        have HBe := Aside0.mk (below_alloc HB.out (.cells #[.int .i64 0, .slice none 0 0] 26)).drew
        have HNe := Aside0.mk (show N0 ≤ (wr.alloc (.cells #[.int .i64 0, .slice none 0 0] 26)).drew.heap.size from Nat.le_trans HI.out.2.2.2 (by show wr.heap.size ≤ (wr.alloc (.cells #[.int .i64 0, .slice none 0 0] 26)).heap.size; simp))
        go_wp2_with fail
        refine start_ (n := 22) (S := fun w' => w'.cell? ⟨gx, 0, none⟩ = some (.int .i64 ver) ∧ w'.cell? ⟨gx, 1, none⟩ = some (.slice A xs.length c) ∧ w'.cell? (ad.add (i * 2)) = some (.int .i64 x.f0) ∧ w'.cell? ⟨(ad.add (i * 2)).block, (ad.add (i * 2)).off + 1, none⟩ = some (.int .i64 x.f1)) (ds := [20]) #[false, false, false, false, false, false, false, false, false, false, false, false, false, false, false, false, false, false, false, false, false, false] (by kernel_rfl) rfl rfl ⟨(blk_cell HXd.out 0).trans rfl, (blk_cell HXd.out 1).trans rfl, HY0.out _ HBd.out, HY1.out _ HBd.out⟩ (fun hHeld => ?_)
        refine pure_ (i := 1) (N := some 39) (v := ?_) (a' := ?_) #[false, true, false, false, false, false, false, false, false, false, false, false, false, false, false, false, false, false, false, false, false, false] rfl rfl (by kernel_rfl) (fun _ _ _ h => h) (Or.inl ⟨by rfl, ?_⟩) ?_ ?_
        rotate_left
        · intro w'
          go_simp
          with_reducible rfl
        rotate_left
        · simp only [Act.put, List.setIfInBounds_toArray, List.set_cons_zero, List.set_cons_succ, i64_w, i32_w]
          rfl
        refine pure_ (i := 2) (N := some 40) (v := ?_) (a' := ?_) #[false, true, true, false, false, false, false, false, false, false, false, false, false, false, false, false, false, false, false, false, false, false] rfl rfl (by kernel_rfl) (fun _ _ _ h => h) (Or.inl ⟨by rfl, ?_⟩) ?_ ?_
        rotate_left
        · intro w'
          go_simp
          with_reducible rfl
        rotate_left
        · simp only [Act.put, List.setIfInBounds_toArray, List.set_cons_zero, List.set_cons_succ, i64_w, i32_w]
          rfl
        refine pure_ (i := 3) (N := some 41) (v := ?_) (a' := ?_) #[false, true, true, true, false, false, false, false, false, false, false, false, false, false, false, false, false, false, false, false, false, false] rfl rfl (by kernel_rfl) (fun _ _ _ h => h) (Or.inl ⟨by rfl, ?_⟩) ?_ ?_
        rotate_left
        · intro w'
          go_simp
          with_reducible rfl
        rotate_left
        · simp only [Act.put, List.setIfInBounds_toArray, List.set_cons_zero, List.set_cons_succ, i64_w, i32_w]
          rfl
        refine pure_ (i := 4) (N := some 42) (v := ?_) (a' := ?_) #[false, true, true, true, true, false, false, false, false, false, false, false, false, false, false, false, false, false, false, false, false, false] rfl rfl (by kernel_rfl) (fun _ _ _ h => h) (Or.inl ⟨by rfl, ?_⟩) ?_ ?_
        rotate_left
        · intro w'
          go_simp
          with_reducible rfl
        rotate_left
        · simp only [Act.put, List.setIfInBounds_toArray, List.set_cons_zero, List.set_cons_succ, i64_w, i32_w]
          rfl
        refine pure_ (i := 7) (N := some 45) (v := ?_) (a' := ?_) #[false, true, true, true, true, false, false, true, false, false, false, false, false, false, false, false, false, false, false, false, false, false] rfl rfl (by kernel_rfl) (fun _ _ _ h => h) (Or.inl ⟨by rfl, ?_⟩) ?_ ?_
        rotate_left
        · intro w'
          go_simp
          with_reducible rfl
        rotate_left
        · simp only [Act.put, List.setIfInBounds_toArray, List.set_cons_zero, List.set_cons_succ, i64_w, i32_w]
          rfl
        refine pure_ (i := 8) (N := some 46) (v := ?_) (a' := ?_) #[false, true, true, true, true, false, false, true, true, false, false, false, false, false, false, false, false, false, false, false, false, false] rfl rfl (by kernel_rfl) (fun _ _ _ h => h) (Or.inl ⟨by rfl, ?_⟩) ?_ ?_
        rotate_left
        · intro w'
          go_simp
          with_reducible rfl
        rotate_left
        · simp only [Act.put, List.setIfInBounds_toArray, List.set_cons_zero, List.set_cons_succ, i64_w, i32_w]
          rfl
        refine pure_ (i := 9) (N := some 47) (v := ?_) (a' := ?_) #[false, true, true, true, true, false, false, true, true, true, false, false, false, false, false, false, false, false, false, false, false, false] rfl rfl (by kernel_rfl) (fun _ _ _ h => h) (Or.inl ⟨by rfl, ?_⟩) ?_ ?_
        rotate_left
        · intro w'
          go_simp
          with_reducible rfl
        rotate_left
        · simp only [Act.put, List.setIfInBounds_toArray, List.set_cons_zero, List.set_cons_succ, i64_w, i32_w]
          rfl
        refine pure_ (i := 10) (N := some 48) (v := ?_) (a' := ?_) #[false, true, true, true, true, false, false, true, true, true, true, false, false, false, false, false, false, false, false, false, false, false] rfl rfl (by kernel_rfl) (fun _ _ _ h => h) (Or.inl ⟨by rfl, ?_⟩) ?_ ?_
        rotate_left
        · intro w'
          go_simp
          with_reducible rfl
        rotate_left
        · simp only [Act.put, List.setIfInBounds_toArray, List.set_cons_zero, List.set_cons_succ, i64_w, i32_w]
          rfl
        refine take_ (i := 0) (N := some 38) (v := ?_) (a' := ?_) #[true, true, true, true, true, false, false, true, true, true, true, false, false, false, false, false, false, false, false, false, false, false] rfl rfl (by kernel_rfl) (fun _ _ _ h => h) (Or.inl ⟨by rfl, ?_⟩) hHeld ?_ ?_
        rotate_left
        · rintro w' ⟨s0, s1, s2, s3⟩
          go_simp
          with_reducible rfl
        rotate_left
        · simp only [Act.put, List.setIfInBounds_toArray, List.set_cons_zero, List.set_cons_succ, i64_w, i32_w]
          rfl
        refine take_ (i := 5) (N := some 43) (v := ?_) (a' := ?_) #[true, true, true, true, true, true, false, true, true, true, true, false, false, false, false, false, false, false, false, false, false, false] rfl rfl (by kernel_rfl) (fun _ _ _ h => h) (Or.inl ⟨by rfl, ?_⟩) hHeld ?_ ?_
        rotate_left
        · rintro w' ⟨s0, s1, s2, s3⟩
          go_simp
          with_reducible rfl
        rotate_left
        · simp only [Act.put, List.setIfInBounds_toArray, List.set_cons_zero, List.set_cons_succ, i64_w, i32_w]
          rfl
        refine pure_ (i := 6) (N := some 44) (v := ?_) (a' := ?_) #[true, true, true, true, true, true, true, true, true, true, true, false, false, false, false, false, false, false, false, false, false, false] rfl rfl (by kernel_rfl) (fun _ _ _ h => h) (Or.inl ⟨by rfl, ?_⟩) ?_ ?_
        rotate_left
        · intro w'
          go_simp
          with_reducible rfl
        rotate_left
        · simp only [Act.put, List.setIfInBounds_toArray, List.set_cons_zero, List.set_cons_succ, i64_w, i32_w]
          rfl
        refine take_ (i := 11) (N := some 49) (v := ?_) (a' := ?_) #[true, true, true, true, true, true, true, true, true, true, true, true, false, false, false, false, false, false, false, false, false, false] rfl rfl (by kernel_rfl) (fun _ _ _ h => h) (Or.inl ⟨by rfl, ?_⟩) hHeld ?_ ?_
        rotate_left
        · rintro w' ⟨s0, s1, s2, s3⟩
          go_simp
          with_reducible rfl
        rotate_left
        · simp only [Act.put, List.setIfInBounds_toArray, List.set_cons_zero, List.set_cons_succ, i64_w, i32_w]
          rfl
        refine pure_ (i := 12) (N := some 50) (v := ?_) (a' := ?_) #[true, true, true, true, true, true, true, true, true, true, true, true, true, false, false, false, false, false, false, false, false, false] rfl rfl (by kernel_rfl) (fun _ _ _ h => h) (Or.inl ⟨by rfl, ?_⟩) ?_ ?_
        rotate_left
        · intro w'
          go_simp
          with_reducible rfl
        rotate_left
        · simp only [Act.put, List.setIfInBounds_toArray, List.set_cons_zero, List.set_cons_succ, i64_w, i32_w]
          rfl
        refine pure_ (i := 13) (N := some 51) (v := ?_) (a' := ?_) #[true, true, true, true, true, true, true, true, true, true, true, true, true, true, false, false, false, false, false, false, false, false] rfl rfl (by kernel_rfl) (fun _ _ _ h => h) (Or.inl ⟨by rfl, ?_⟩) ?_ ?_
        rotate_left
        · intro w'
          go_simp
          with_reducible rfl
        rotate_left
        · simp only [Act.put, List.setIfInBounds_toArray, List.set_cons_zero, List.set_cons_succ, i64_w, i32_w]
          rfl
        refine pure_ (i := 14) (N := some 52) (v := ?_) (a' := ?_) #[true, true, true, true, true, true, true, true, true, true, true, true, true, true, true, false, false, false, false, false, false, false] rfl rfl (by kernel_rfl) (fun _ _ _ h => h) (Or.inl ⟨by rfl, ?_⟩) ?_ ?_
        rotate_left
        · intro w'
          go_simp
          with_reducible rfl
        rotate_left
        · simp only [Act.put, List.setIfInBounds_toArray, List.set_cons_zero, List.set_cons_succ, i64_w, i32_w]
          rfl
        refine join_ (σ := Option Addr × Nat × Nat) 2 #[true, true, true, true, true, true, true, true, true, true, true, true, true, true, true, true, true, true, true, true, false, false] (fun s => [(53, .tuple #[.agg #[.int .i64 gv, .slice s.1 ys.length s.2.1], errW (some ee)]), (37, .tuple #[.agg #[.int .i64 gv, .slice s.1 ys.length s.2.1], errW (some ee)]), (54, .agg #[.int .i64 gv, .slice s.1 ys.length s.2.1]), (55, errW (some ee)), (9, .pointer (some ⟨s.2.2, 0, none⟩))]) (fun s w' => (w'.cell? ⟨gx, 0, none⟩ = some (.int .i64 ver) ∧ w'.cell? ⟨gx, 1, none⟩ = some (.slice A xs.length c) ∧ w'.cell? (ad.add (i * 2)) = some (.int .i64 x.f0) ∧ w'.cell? ⟨(ad.add (i * 2)).block, (ad.add (i * 2)).off + 1, none⟩ = some (.int .i64 x.f1)) ∧ ys.length ≤ s.2.1 ∧ w'.heap[gx]? = some (.cells #[.int .i64 ver, .slice A xs.length c] 26 (0, 0)) ∧ w'.heap[w.heap.size]? = some (.cells #[.int .i64 a1_0, .int .i64 a1_1] 41 (0, 0)) ∧ Kd.R k46 46 w' N0 (fun _ => True) (.slice A xs.length c) xs ∧ Kd.R k46 46 w' N0 (fun _ => True) (.slice s.1 ys.length s.2.1) ys ∧ Below w.heap.size w w' ∧ N0 ≤ s.2.2 ∧ w'.heap[s.2.2]? = some (.cells #[.int .i64 0, .slice none 0 0] 26 (0, 0))) ?_ ?_
        rotate_left
        · intro hCont
          refine two_ (i := 15) (j := 19) (Ni := some 53) (Nj := some 9) #[true, true, true, true, true, true, true, true, true, true, true, true, true, true, true, true, false, false, false, false, false, false] #[true, true, true, true, true, true, true, true, true, true, true, true, true, true, true, false, false, false, false, true, false, false] rfl rfl rfl rfl (by kernel_rfl) (by decide) (by decide) (fun K hK => ?_) (fun K hK => ?_)
          · skip
            refine goes_ Try.func16 (by kernel_rfl) rfl #[.agg #[.int .i64 ver, .slice A xs.length c], .agg #[.int .i64 (Go.bits .and .i64 x.f0 1023), .int .i64 (wrap64 (1 + Go.bits .and .i64 x.f1 15))]] (by rfl) rfl rfl (by simp only [List.map_toArray, List.map_cons, List.map_nil]; rfl) ?_
            with_reducible refine (inode_Grow.calls k1 ver A c xs _ _ gv ys (some ee) _ (Kd.R_reads' HRd.out).2.2 HI.out.2.2.1 HGr.out).mono ?_
            rintro e_ w5 ⟨v1_, rfl, hr5, hb5⟩
            refine ⟨_, rfl, ?_⟩
            obtain ⟨A5, c5, rfl, hc5, _⟩ := Kd.R_reads hr5
            have HC5 := Aside0.mk hc5
            have HRX5 := Aside0.mk (Kd.R_below HRd.out hb5)
            have HR5 := Aside0.mk (Kd.R_lower hr5 HNd.out)
            have HB5 := Aside0.mk (below_step HBd.out hb5)
            have HX5 := Aside0.mk (blk_below HXd.out hb5)
            have HM5 := Aside0.mk (blk_below HMd.out hb5)
            have HN5 := Aside0.mk (Nat.le_trans HNd.out hb5.size)
            clear hr5 hb5 hc5
            refine hK.out _ _ ⟨(blk_cell HX5.out 0).trans rfl, (blk_cell HX5.out 1).trans rfl, HY0.out _ HB5.out, HY1.out _ HB5.out⟩ (fun hHeld => ?_)
            clear hK K
            refine norm_ (a' := ?_) ?_ ?_
            rotate_left
            · show Act.put _ (some 53) _ = _
              simp only [Act.put, List.setIfInBounds_toArray, List.set_cons_zero, List.set_cons_succ, i64_w, i32_w]
              rfl
            refine pure_ (i := 16) (N := some 37) (v := ?_) (a' := ?_) #[true, true, true, true, true, true, true, true, true, true, true, true, true, true, true, true, true, false, false, false, false, false] rfl rfl (by kernel_rfl) (fun _ _ _ h => h) (Or.inl ⟨by rfl, ?_⟩) ?_ ?_
            rotate_left
            · intro w'
              go_simp
              with_reducible rfl
            rotate_left
            · simp only [Act.put, List.setIfInBounds_toArray, List.set_cons_zero, List.set_cons_succ, i64_w, i32_w]
              rfl
            refine pure_ (i := 17) (N := some 54) (v := ?_) (a' := ?_) #[true, true, true, true, true, true, true, true, true, true, true, true, true, true, true, true, true, true, false, false, false, false] rfl rfl (by kernel_rfl) (fun _ _ _ h => h) (Or.inl ⟨by rfl, ?_⟩) ?_ ?_
            rotate_left
            · intro w'
              go_simp
              with_reducible rfl
            rotate_left
            · simp only [Act.put, List.setIfInBounds_toArray, List.set_cons_zero, List.set_cons_succ, i64_w, i32_w]
              rfl
            refine pure_ (i := 18) (N := some 55) (v := ?_) (a' := ?_) #[true, true, true, true, true, true, true, true, true, true, true, true, true, true, true, true, true, true, true, false, false, false] rfl rfl (by kernel_rfl) (fun _ _ _ h => h) (Or.inl ⟨by rfl, ?_⟩) ?_ ?_
            rotate_left
            · intro w'
              go_simp
              with_reducible rfl
            rotate_left
            · simp only [Act.put, List.setIfInBounds_toArray, List.set_cons_zero, List.set_cons_succ, i64_w, i32_w]
              rfl
            refine one_ (i := 19) (N := some 9) #[true, true, true, true, true, true, true, true, true, true, true, true, true, true, true, true, true, true, true, true, false, false] rfl rfl (by kernel_rfl) (by decide) (fun K hK => ?_)
            refine value_ (w1 := ?_) (v := ?_) (by rfl) rfl ?_ ?_
            rotate_left 2
            · go_simp
              constructor
              · rfl
              · rfl
            refine hK.out _ _ ⟨(blk_cell ((Below.heap_alloc _ (.cells #[.int .i64 0, .slice none 0 0] 26) _ (blk_lt HX5.out)).trans HX5.out) 0).trans rfl, (blk_cell ((Below.heap_alloc _ (.cells #[.int .i64 0, .slice none 0 0] 26) _ (blk_lt HX5.out)).trans HX5.out) 1).trans rfl, HY0.out _ (below_alloc HB5.out (.cells #[.int .i64 0, .slice none 0 0] 26)), HY1.out _ (below_alloc HB5.out (.cells #[.int .i64 0, .slice none 0 0] 26))⟩ (fun hHeld => ?_)
            clear hK K
            refine norm_ (a' := ?_) ?_ ?_
            rotate_left
            · show Act.put _ (some 9) _ = _
              simp only [Act.put, List.setIfInBounds_toArray, List.set_cons_zero, List.set_cons_succ, i64_w, i32_w]
              rfl
            exact norm_ (by simp only [putAll, Act.put, List.setIfInBounds_toArray, List.set_cons_zero, List.set_cons_succ]) (hCont (A5, c5, w5.heap.size) _ ⟨hHeld, HC5.out, (Below.heap_alloc _ (.cells #[.int .i64 0, .slice none 0 0] 26) _ (blk_lt HX5.out)).trans HX5.out, (Below.heap_alloc _ (.cells #[.int .i64 0, .slice none 0 0] 26) _ (blk_lt HM5.out)).trans HM5.out, Kd.R_alloc HRX5.out (.cells #[.int .i64 0, .slice none 0 0] 26), Kd.R_alloc HR5.out (.cells #[.int .i64 0, .slice none 0 0] 26), below_alloc HB5.out (.cells #[.int .i64 0, .slice none 0 0] 26), HN5.out, heap_alloc_new _ _⟩)
          · skip
            refine value_ (w1 := ?_) (v := ?_) (by rfl) rfl ?_ ?_
            rotate_left 2
            · go_simp
              constructor
              · rfl
              · rfl
            refine hK.out _ _ ⟨(blk_cell HXe.out 0).trans rfl, (blk_cell HXe.out 1).trans rfl, HY0.out _ HBe.out, HY1.out _ HBe.out⟩ (fun hHeld => ?_)
            clear hK K
            refine norm_ (a' := ?_) ?_ ?_
            rotate_left
            · show Act.put _ (some 9) _ = _
              simp only [Act.put, List.setIfInBounds_toArray, List.set_cons_zero, List.set_cons_succ, i64_w, i32_w]
              rfl
            refine one_ (i := 15) (N := some 53) #[true, true, true, true, true, true, true, true, true, true, true, true, true, true, true, true, false, false, false, true, false, false] rfl rfl (by kernel_rfl) (by decide) (fun K hK => ?_)
            refine goes_ Try.func16 (by kernel_rfl) rfl #[.agg #[.int .i64 ver, .slice A xs.length c], .agg #[.int .i64 (Go.bits .and .i64 x.f0 1023), .int .i64 (wrap64 (1 + Go.bits .and .i64 x.f1 15))]] (by rfl) rfl rfl (by simp only [List.map_toArray, List.map_cons, List.map_nil]; rfl) ?_
            with_reducible refine (inode_Grow.calls k1 ver A c xs _ _ gv ys (some ee) _ (Kd.R_reads' HRe.out).2.2 HI.out.2.2.1 HGr.out).mono ?_
            rintro e_ w5 ⟨v1_, rfl, hr5, hb5⟩
            refine ⟨_, rfl, ?_⟩
            obtain ⟨A5, c5, rfl, hc5, _⟩ := Kd.R_reads hr5
            have HC5 := Aside0.mk hc5
            have HRX5 := Aside0.mk (Kd.R_below HRe.out hb5)
            have HR5 := Aside0.mk (Kd.R_lower hr5 HNe.out)
            have HB5 := Aside0.mk (below_step HBe.out hb5)
            have HX5 := Aside0.mk (blk_below HXe.out hb5)
            have HM5 := Aside0.mk (blk_below HMe.out hb5)
            have HN5 := Aside0.mk (Nat.le_trans HNe.out hb5.size)
            have HZ5 := Aside0.mk (blk_below HZe.out hb5)
            clear hr5 hb5 hc5
            refine hK.out _ _ ⟨(blk_cell HX5.out 0).trans rfl, (blk_cell HX5.out 1).trans rfl, HY0.out _ HB5.out, HY1.out _ HB5.out⟩ (fun hHeld => ?_)
            clear hK K
            refine norm_ (a' := ?_) ?_ ?_
            rotate_left
            · show Act.put _ (some 53) _ = _
              simp only [Act.put, List.setIfInBounds_toArray, List.set_cons_zero, List.set_cons_succ, i64_w, i32_w]
              rfl
            refine pure_ (i := 16) (N := some 37) (v := ?_) (a' := ?_) #[true, true, true, true, true, true, true, true, true, true, true, true, true, true, true, true, true, false, false, true, false, false] rfl rfl (by kernel_rfl) (fun _ _ _ h => h) (Or.inl ⟨by rfl, ?_⟩) ?_ ?_
            rotate_left
            · intro w'
              go_simp
              with_reducible rfl
            rotate_left
            · simp only [Act.put, List.setIfInBounds_toArray, List.set_cons_zero, List.set_cons_succ, i64_w, i32_w]
              rfl
            refine pure_ (i := 17) (N := some 54) (v := ?_) (a' := ?_) #[true, true, true, true, true, true, true, true, true, true, true, true, true, true, true, true, true, true, false, true, false, false] rfl rfl (by kernel_rfl) (fun _ _ _ h => h) (Or.inl ⟨by rfl, ?_⟩) ?_ ?_
            rotate_left
            · intro w'
              go_simp
              with_reducible rfl
            rotate_left
            · simp only [Act.put, List.setIfInBounds_toArray, List.set_cons_zero, List.set_cons_succ, i64_w, i32_w]
              rfl
            refine pure_ (i := 18) (N := some 55) (v := ?_) (a' := ?_) #[true, true, true, true, true, true, true, true, true, true, true, true, true, true, true, true, true, true, true, true, false, false] rfl rfl (by kernel_rfl) (fun _ _ _ h => h) (Or.inl ⟨by rfl, ?_⟩) ?_ ?_
            rotate_left
            · intro w'
              go_simp
              with_reducible rfl
            rotate_left
            · simp only [Act.put, List.setIfInBounds_toArray, List.set_cons_zero, List.set_cons_succ, i64_w, i32_w]
              rfl
            exact norm_ (by simp only [putAll, Act.put, List.setIfInBounds_toArray, List.set_cons_zero, List.set_cons_succ]) (hCont (A5, c5, wr.heap.size) _ ⟨hHeld, HC5.out, HX5.out, HM5.out, HRX5.out, HR5.out, HB5.out, HNd.out, HZ5.out⟩)
        rintro ⟨A5, c5, gn⟩ w6 ⟨hHeld, hc6, hx6, hm6, hrx6, hr6, hb6, hn6, hz6⟩
        dsimp only at hc6 hr6 hn6 hz6
        have HC5 := Aside0.mk hc6
        have HX6 := Aside0.mk hx6
        have HM6 := Aside0.mk hm6
        have HRX6 := Aside0.mk hrx6
        have HR6 := Aside0.mk hr6
        have HB6 := Aside0.mk hb6
        have HN6 := Aside0.mk hn6
        have HZ6 := Aside0.mk hz6
        clear hc6 hx6 hm6 hrx6 hr6 hb6 hn6 hz6
        have hz0 := (blk_cell HZ6.out 0).trans rfl
        have hz1 := (blk_cell HZ6.out 1).trans rfl
        have hzf0 : w6.frozen? ⟨gn, 0, none⟩ = false := Lib.frozen_of_heap HZ6.out 0
        have hzf1 : w6.frozen? ⟨gn, 1, none⟩ = false := Lib.frozen_of_heap HZ6.out 1
        refine norm_ (a' := ?_) ?_ ?_
        rotate_left
        · simp only [putAll, Act.put, List.setIfInBounds_toArray, List.set_cons_zero, List.set_cons_succ]
          rfl
        refine last_ (i := 20) (N := none) #[true, true, true, true, true, true, true, true, true, true, true, true, true, true, true, true, true, true, true, true, true, false] rfl rfl (by kernel_rfl) (by decide) (fun K hK => ?_)
        refine skip_ (w1 := ?_) (by rfl) rfl ?_ ?_
        rotate_left
        · go_simp
          rfl
        refine hK.out _ _ ?_
        clear hK K
        refine pure_ (i := 21) (N := some 10) (v := ?_) (a' := ?_) #[true, true, true, true, true, true, true, true, true, true, true, true, true, true, true, true, true, true, true, true, true, true] rfl rfl (by kernel_rfl) (fun _ _ _ h => h) (Or.inl ⟨by rfl, ?_⟩) ?_ ?_
        rotate_left
        · intro w'
          go_simp
          with_reducible rfl
        rotate_left
        · simp only [Act.put, List.setIfInBounds_toArray, List.set_cons_zero, List.set_cons_succ, i64_w, i32_w]
          rfl
        refine done_ (by kernel_rfl) ?_
        simp only [errW_some]
        have HGN := Aside0.mk (show gn ≠ gx ∧ gn ≠ w.heap.size ∧ w.heap.size ≤ gn ∧ w.heap.size ≤ gx from by have := HG.out; have := HN6.out; omega)
        have HV7 := Aside0.mk (set_two (x := .int .i64 gv) (y := .slice A5 ys.length c5) HZ6.out)
        have HX7 := Aside0.mk ((set_two_other (x := .int .i64 gv) (y := .slice A5 ys.length c5) (Ne.symm HGN.out.1)).trans HX6.out)
        have HM7 := Aside0.mk ((set_two_other (x := .int .i64 gv) (y := .slice A5 ys.length c5) (Ne.symm HGN.out.2.1)).trans HM6.out)
        have HRX7 := Aside0.mk (R_far2 (x := .int .i64 gv) (y := .slice A5 ys.length c5) HRX6.out HZ6.out)
        have HR7 := Aside0.mk (R_far2 (x := .int .i64 gv) (y := .slice A5 ys.length c5) HR6.out HZ6.out)
        have HB7 := Aside0.mk (below_two (x := .int .i64 gv) (y := .slice A5 ys.length c5) HB6.out HGN.out.2.2.1)
        have HNs := Aside0.mk (show N0 ≤ w6.heap.size from Nat.le_trans HN6.out (Nat.le_of_lt (blk_lt HZ6.out)))
        have HN7 := Aside0.mk (show N0 ≤ ((w6.setCell ⟨gn, 0, none⟩ (.int .i64 gv)).setCell ⟨gn, 1, none⟩ (.slice A5 ys.length c5)).heap.size by have := HNs.out; simpa [World.setCell] using this)
        generalize (w6.setCell ⟨gn, 0, none⟩ (.int .i64 gv)).setCell ⟨gn, 1, none⟩ (.slice A5 ys.length c5) = w7 at *
        clear hz0 hz1 hzf0 hzf1 hHeld
        go_wp2_with fail
        go_roundg k1
        case measure => omega
        case rel => exact ⟨i + 1, c, ver, A, xs, (by first | rfl | rw [HI1.out]), ⟨by have := HI30.out; omega, by have := HI.out; omega, HI.out.2.2.1, HN7.out⟩, H', HX7, HRX7, HM7, HB7⟩
    · rw [if_neg cc] at H
      have hc : (i < l0.length ∧ ¬ i < 30) ∨ ¬ i < l0.length := by omega
      clear cc
      unfold keepsTail at H
      obtain ⟨size, hSz, H⟩ := Option.bind_eq_some_iff.mp H
      by_cases hsz : 0 ≤ size ∧ size < 1000000
      case neg => rw [if_neg hsz] at H; cases H
      rw [if_pos hsz] at H
      obtain ⟨⟨gv, ys, ge⟩, hGr, H⟩ := Option.bind_eq_some_iff.mp H
      have HSz := Aside0.mk hSz
      have HGr := Aside0.mk hGr
      obtain ⟨hz0_, hz1_⟩ := hsz
      obtain ⟨t1, t2, t3, _, _⟩ := keepsLeft_ok a2 size hz0_ hz1_
      have t4 : (a2.tmod (size + 1) + size + 1).tmod (size + 1) = keepsLeft a2 size := rfl
      have t5 : ((size + 1) == 0) = false := beq_eq_false_iff_ne.2 (by omega)
      have t6 := eq_false (show ¬ size + 1 = 0 by omega)
      clear hSz hGr
      have hcc : ∃ q1 : Bool, decide (i < l0.length) = q1 ∧ (q1 = true → decide (i < 30) = false) ∧ decide ((i : Int) < (l0.length : Int)) = q1 ∧ (q1 = true → decide ((i : Int) < 30) = false) := by
        refine ⟨decide (i < l0.length), rfl, fun h => ?_, ?_, fun h => ?_⟩
        · exact decide_eq_false (by have := of_decide_eq_true h; omega)
        · exact decide_eq_decide.2 (by omega)
        · exact decide_eq_false (by have := of_decide_eq_true h; omega)
      rcases hc with ⟨g1, g2⟩ | g1
      · have d1 : decide ((i : Int) < (l0.length : Int)) = true := decide_eq_true (by omega)
        have d2 : decide ((i : Int) < 30) = false := decide_eq_false (by omega)
        have d3 := eq_true g1
        have d4 := eq_false g2
        clear hcc
        cases ge with
        | none =>
          dsimp only at H
          unfold keepsEnd at H
          obtain ⟨⟨zv, zs, fr, ze⟩, hCut, H⟩ := Option.bind_eq_some_iff.mp H
          by_cases hze : ze = none
          case neg => rw [if_neg hze] at H; cases H
          subst hze
          rw [if_pos rfl] at H
          obtain ⟨s2, hS2, H⟩ := Option.bind_eq_some_iff.mp H
          by_cases hs2 : s2 = keepsLeft a2 size
          case neg => rw [if_neg hs2] at H; cases H
          subst hs2
          rw [if_pos rfl] at H
          have HCut := Aside0.mk hCut
          have HS2 := Aside0.mk hS2
          have H2 := Aside0.mk H
          clear hCut hS2 H
          go_wp2_with (first
            | (go_at_call 15; (with_reducible refine (inode_Size.calls k1 ver A c xs size _ (Kd.R_reads' HRX.out).2.2 HI.out.2.2.1 HSz.out).mono ?_); rintro e_ w3 ⟨rfl, hb3⟩; have HCX3 := Aside0.mk (Kd.C_below (Kd.R_reads' HRX.out).2.2 hb3); have HX3 := Aside0.mk (blk_below HX.out hb3); have HM3 := Aside0.mk (blk_below HM.out hb3); have HB3 := Aside0.mk (below_step HB.out hb3); have hx30 := (blk_cell HX3.out 0).trans rfl; have hx31 := (blk_cell HX3.out 1).trans rfl; have hm30 := (blk_cell HM3.out 0).trans rfl; have hm31 := (blk_cell HM3.out 1).trans rfl; clear hb3)
            | (go_at_call 16; (with_reducible refine (inode_Grow.calls k1 ver A c xs _ _ gv ys none _ HCX3.out HI.out.2.2.1 HGr.out).mono ?_); rintro e_ w4 ⟨v1_, rfl, hr4, hb4⟩; obtain ⟨A5, c5, rfl, hc5, hcy⟩ := Kd.R_reads hr4; have HC5 := Aside0.mk hc5; have HCY4 := hcy; have HCX4 := Kd.C_below HCX3.out hb4; have HX4 := blk_below HX3.out hb4; have HB4 := below_step HB3.out hb4; have hb5 : Below w4.heap.size w4 (w4.alloc (.cells #[.int .i64 gv, .slice A5 ys.length c5] 26)) := below_alloc (Below.refl w4.heap.size w4) (.cells #[.int .i64 gv, .slice A5 ys.length c5] 26); have HB5_ := Aside0.mk (below_step HB4 hb5); have HCX5 := Aside0.mk (Kd.C_below HCX4 hb5); have HCYY := Aside0.mk (Kd.C_below HCY4 hb5); have HX5 := Aside0.mk (blk_below HX4 hb5); have HY5 := Aside0.mk (heap_alloc_new w4 (.cells #[.int .i64 gv, .slice A5 ys.length c5] 26)); have hy50 := (blk_cell HY5.out 0).trans rfl; have hy51 := (blk_cell HY5.out 1).trans rfl; have HCYC := HCYY; clear hr4 hb4 hc5 hcy HCY4 HCX4 HX4 HB4 hb5; simp only [errW_none])
            | (go_at_call 17; (with_reducible refine (inode_Cut.calls k1 gv A5 c5 ys (keepsLeft a2 size) zv zs fr none _ HCYC.out HC5.out HCut.out).mono ?_); rintro e_ w6 ⟨v1_, v2_, rfl, hr6, _, hb6⟩; obtain ⟨A7, c7, rfl, hc7, hcz⟩ := Kd.R_reads hr6; have HC7 := Aside0.mk hc7; have hb7 : Below w6.heap.size w6 (w6.alloc (.cells #[.int .i64 zv, .slice A7 zs.length c7] 26)) := below_alloc (Below.refl _ _) (.cells #[.int .i64 zv, .slice A7 zs.length c7] 26); have HB7 := Aside0.mk (below_step (below_step HB5_.out hb6) hb7); have HCX7 := Aside0.mk (Kd.C_below (Kd.C_below HCX5.out hb6) hb7); have HCY7 := Aside0.mk (Kd.C_below (Kd.C_below HCYC.out hb6) hb7); have HCZ7 := Aside0.mk (Kd.C_below hcz hb7); have HX7 := Aside0.mk (blk_below (blk_below HX5.out hb6) hb7); have HY7 := Aside0.mk (blk_below (blk_below HY5.out hb6) hb7); have HZ7 := Aside0.mk (heap_alloc_new w6 (.cells #[.int .i64 zv, .slice A7 zs.length c7] 26)); have hz70 := (blk_cell HZ7.out 0).trans rfl; have hz71 := (blk_cell HZ7.out 1).trans rfl; simp only [errW_none]; clear hr6 hb6 hc7 hcz hb7)
            | (go_at_call 15; (with_reducible refine (inode_Size.calls k1 zv A7 c7 zs (keepsLeft a2 size) _ HCZ7.out HC7.out HS2.out).mono ?_); rintro e_ w8 ⟨rfl, hb8⟩; have HB8 := Aside0.mk (below_step HB7.out hb8); have HCX8 := Aside0.mk (Kd.C_below HCX7.out hb8); have HCY8 := Aside0.mk (Kd.C_below HCY7.out hb8); have HCZ8 := Aside0.mk (Kd.C_below HCZ7.out hb8); have HX8 := Aside0.mk (blk_below HX7.out hb8); have HY8 := Aside0.mk (blk_below HY7.out hb8); have HZ8 := Aside0.mk (blk_below HZ7.out hb8); clear hb8))
          have HLZ := Aside0.mk (And.intro hz0_ hz1_)
          clear HCX3 HX3 HM3 HB3 HCX5 HX5 HCX7 HCY7 HCZ7 HX7 HY7 HZ7 HB7
          generalize hleft : keepsLeft a2 size = left at *
          go_loopg [18] k1 (fun kq v18 w' => ∃ j : Nat, v18 = .int .i64 (j : Int) ∧ Aside0 ((j : Int) ≤ size ∧ kq ≤ k1) ∧ Aside0 (posthorselaw08_InodeKeeps.l1 kq ver xs gv ys zv zs size left j = some true) ∧ Aside0 (w'.heap[gx]? = some (.cells #[.int .i64 ver, .slice A xs.length c] 26 (0, 0))) ∧ Aside0 (w'.heap[w4.heap.size]? = some (.cells #[.int .i64 gv, .slice A5 ys.length c5] 26 (0, 0))) ∧ Aside0 (w'.heap[w6.heap.size]? = some (.cells #[.int .i64 zv, .slice A7 zs.length c7] 26 (0, 0))) ∧ Aside0 (Kd.C k46 w' A xs.length xs) ∧ Aside0 (Kd.C k46 w' A5 ys.length ys) ∧ Aside0 (Kd.C k46 w' A7 zs.length zs) ∧ Aside0 (Below w.heap.size w w'))
          case atStart => exact ⟨0, rfl, ⟨HLZ.out.1, Nat.le_refl _⟩, H2, HX8, HY8, HZ8, HCX8, HCY8, HCZ8, HB8⟩
          case round =>
            clear H2 HX8 HY8 HZ8 HCX8 HCY8 HCZ8 HB8
            obtain ⟨j, rfl, HJ, H2, HX8, HY8, HZ8, HCX8, HCY8, HCZ8, HB8⟩ := hrel
            obtain ⟨k2, rfl⟩ : ∃ k2, gk = k2 + 1 := by
              cases gk with
              | zero => exact absurd H2.out (by rw [posthorselaw08_InodeKeeps.l1]; simp)
              | succ k2 => exact ⟨k2, rfl⟩
            have H := H2.out
            clear H2
            rw [posthorselaw08_InodeKeeps.l1] at H
            have hgx0 := (blk_cell HX8.out 0).trans rfl
            have hgx1 := (blk_cell HX8.out 1).trans rfl
            by_cases cj : (j : Int) < size
            · rw [if_pos cj] at H
              have cjb : decide ((j : Int) < size) = true := decide_eq_true cj
              have hj1 : wrap64 ((j : Int) + 1) = ((j + 1 : Nat) : Int) := by have := HLZ.out; unfold wrap64; omega
              obtain ⟨⟨ma, mao⟩, hMa, Ha⟩ := Option.bind_eq_some_iff.mp H
              clear H
              obtain ⟨⟨mb, mbo⟩, hMb, Hb⟩ := Option.bind_eq_some_iff.mp Ha
              clear Ha
              obtain ⟨⟨mc, mco⟩, hMc, H⟩ := Option.bind_eq_some_iff.mp Hb
              clear Hb
              have HJ2 := Aside0.mk cj
              by_cases hcc : mao = true ∧ mbo = true ∧ ma = mb ∧ mco = decide ((j : Int) < left) ∧ (mco = true → ma = mc)
              case neg => rw [if_neg hcc] at H; cases H
              rw [if_pos hcc] at H
              obtain ⟨rfl, rfl, rfl, e4, e5⟩ := hcc
              have HMa := Aside0.mk hMa
              have HMb := Aside0.mk hMb
              have HMc := Aside0.mk hMc
              have H' := Aside0.mk H
              have HJ1 := Aside0.mk hj1
              have n1 : (ma != ma) = false := by simp
              clear hMa hMb hMc H
              try clear hx30
              try clear hx31
              try clear hm30
              try clear hm31
              try clear hy50
              try clear hy51
              try clear hz70
              try clear hz71
              try clear hya0
              try clear hya1
              try clear hyf0
              try clear hyf1
              try clear hxa0
              try clear hxa1
              try clear t1
              try clear t2
              try clear t3
              try clear t4
              try clear t5
              try clear t6
              try clear d1
              try clear d2
              try clear d3
              try clear d4
              try clear g1
              try clear g2
              try clear hleft
              cases mco with
              | true =>
                have e6 := e5 rfl
                subst e6
                have d6 : decide ((j : Int) < left) = true := e4.symm
                clear e4 e5
                go_wp2_with (first
                  | (go_at_call 12; (with_reducible refine (inode_Map.calls k2 ver A c xs (j : Int) _ _ _ HCX8.out HI.out.2.2.1 HMa.out).mono ?_); rintro e_ wa ⟨rfl, hb⟩; have HBa := Aside0.mk (below_step HB8.out hb); have HXa := Aside0.mk (blk_below HX8.out hb); have HYa := Aside0.mk (blk_below HY8.out hb); have HZa := Aside0.mk (blk_below HZ8.out hb); have HCXa := Aside0.mk (Kd.C_below HCX8.out hb); have HCYa := Aside0.mk (Kd.C_below HCY8.out hb); have HCZa := Aside0.mk (Kd.C_below HCZ8.out hb); have hya0_ := (blk_cell HYa.out 0).trans rfl; have hya1_ := (blk_cell HYa.out 1).trans rfl; clear hb)
                  | (go_at_call 12; (with_reducible refine (inode_Map.calls k2 gv A5 c5 ys (j : Int) _ _ _ HCYa.out HC5.out HMb.out).mono ?_); rintro e_ wb ⟨rfl, hb⟩; have HBb := Aside0.mk (below_step HBa.out hb); have HXb := Aside0.mk (blk_below HXa.out hb); have HYb := Aside0.mk (blk_below HYa.out hb); have HZb := Aside0.mk (blk_below HZa.out hb); have HCXb := Aside0.mk (Kd.C_below HCXa.out hb); have HCYb := Aside0.mk (Kd.C_below HCYa.out hb); have HCZb := Aside0.mk (Kd.C_below HCZa.out hb); have hzb0_ := (blk_cell HZb.out 0).trans rfl; have hzb1_ := (blk_cell HZb.out 1).trans rfl; clear hb HCYa)
                  | (go_at_call 12; (with_reducible refine (inode_Map.calls k2 zv A7 c7 zs (j : Int) _ _ _ HCZb.out HC7.out HMc.out).mono ?_); rintro e_ wc ⟨rfl, hb⟩; have HBc := Aside0.mk (below_step HBb.out hb); have HXc := Aside0.mk (blk_below HXb.out hb); have HYc := Aside0.mk (blk_below HYb.out hb); have HZc := Aside0.mk (blk_below HZb.out hb); have HCXc := Aside0.mk (Kd.C_below HCXb.out hb); have HCYc := Aside0.mk (Kd.C_below HCYb.out hb); have HCZc := Aside0.mk (Kd.C_below HCZb.out hb); clear hb))
                go_roundg k2
                case measure => omega
                case rel => exact ⟨j + 1, (by first | rfl | rw [HJ1.out]), ⟨by have := HJ2.out; omega, by have := HJ.out; omega⟩, H', HXc, HYc, HZc, HCXc, HCYc, HCZc, HBc⟩
              | false =>
                have d6 : decide ((j : Int) < left) = false := e4.symm
                clear e4 e5
                go_wp2_with (first
                  | (go_at_call 12; (with_reducible refine (inode_Map.calls k2 ver A c xs (j : Int) _ _ _ HCX8.out HI.out.2.2.1 HMa.out).mono ?_); rintro e_ wa ⟨rfl, hb⟩; have HBa := Aside0.mk (below_step HB8.out hb); have HXa := Aside0.mk (blk_below HX8.out hb); have HYa := Aside0.mk (blk_below HY8.out hb); have HZa := Aside0.mk (blk_below HZ8.out hb); have HCXa := Aside0.mk (Kd.C_below HCX8.out hb); have HCYa := Aside0.mk (Kd.C_below HCY8.out hb); have HCZa := Aside0.mk (Kd.C_below HCZ8.out hb); have hya0_ := (blk_cell HYa.out 0).trans rfl; have hya1_ := (blk_cell HYa.out 1).trans rfl; clear hb)
                  | (go_at_call 12; (with_reducible refine (inode_Map.calls k2 gv A5 c5 ys (j : Int) _ _ _ HCYa.out HC5.out HMb.out).mono ?_); rintro e_ wb ⟨rfl, hb⟩; have HBb := Aside0.mk (below_step HBa.out hb); have HXb := Aside0.mk (blk_below HXa.out hb); have HYb := Aside0.mk (blk_below HYa.out hb); have HZb := Aside0.mk (blk_below HZa.out hb); have HCXb := Aside0.mk (Kd.C_below HCXa.out hb); have HCYb := Aside0.mk (Kd.C_below HCYa.out hb); have HCZb := Aside0.mk (Kd.C_below HCZa.out hb); have hzb0_ := (blk_cell HZb.out 0).trans rfl; have hzb1_ := (blk_cell HZb.out 1).trans rfl; clear hb HCYa)
                  | (go_at_call 12; (with_reducible refine (inode_Map.calls k2 zv A7 c7 zs (j : Int) _ _ _ HCZb.out HC7.out HMc.out).mono ?_); rintro e_ wc ⟨rfl, hb⟩; have HBc := Aside0.mk (below_step HBb.out hb); have HXc := Aside0.mk (blk_below HXb.out hb); have HYc := Aside0.mk (blk_below HYb.out hb); have HZc := Aside0.mk (blk_below HZb.out hb); have HCXc := Aside0.mk (Kd.C_below HCXb.out hb); have HCYc := Aside0.mk (Kd.C_below HCYb.out hb); have HCZc := Aside0.mk (Kd.C_below HCZb.out hb); clear hb))
                go_roundg k2
                case measure => omega
                case rel => exact ⟨j + 1, (by first | rfl | rw [HJ1.out]), ⟨by have := HJ2.out; omega, by have := HJ.out; omega⟩, H', HXc, HYc, HZc, HCXc, HCYc, HCZc, HBc⟩
            · have cjb : decide ((j : Int) < size) = false := decide_eq_false cj
              go_wp2_with fail
              go_ret
              exact ⟨rfl, HB8.out⟩
        | some ee =>
          dsimp only at H
          unfold keepsEnd at H
          obtain ⟨⟨zv, zs, fr, ze⟩, hCut, H⟩ := Option.bind_eq_some_iff.mp H
          by_cases hze : ze = none
          case neg => rw [if_neg hze] at H; cases H
          subst hze
          rw [if_pos rfl] at H
          obtain ⟨s2, hS2, H⟩ := Option.bind_eq_some_iff.mp H
          by_cases hs2 : s2 = keepsLeft a2 size
          case neg => rw [if_neg hs2] at H; cases H
          subst hs2
          rw [if_pos rfl] at H
          have HCut := Aside0.mk hCut
          have HS2 := Aside0.mk hS2
          have H2 := Aside0.mk H
          clear hCut hS2 H
          go_wp2_with (first
            | (go_at_call 15; (with_reducible refine (inode_Size.calls k1 ver A c xs size _ (Kd.R_reads' HRX.out).2.2 HI.out.2.2.1 HSz.out).mono ?_); rintro e_ w3 ⟨rfl, hb3⟩; have HCX3 := Aside0.mk (Kd.C_below (Kd.R_reads' HRX.out).2.2 hb3); have HX3 := Aside0.mk (blk_below HX.out hb3); have HM3 := Aside0.mk (blk_below HM.out hb3); have HB3 := Aside0.mk (below_step HB.out hb3); have hx30 := (blk_cell HX3.out 0).trans rfl; have hx31 := (blk_cell HX3.out 1).trans rfl; have hm30 := (blk_cell HM3.out 0).trans rfl; have hm31 := (blk_cell HM3.out 1).trans rfl; clear hb3)
            | (go_at_call 16; (with_reducible refine (inode_Grow.calls k1 ver A c xs _ _ gv ys (some ee) _ HCX3.out HI.out.2.2.1 HGr.out).mono ?_); rintro e_ w4 ⟨v1_, rfl, hr4, hb4⟩; obtain ⟨A5, c5, rfl, hc5, hcy⟩ := Kd.R_reads hr4; have HC5 := Aside0.mk hc5; have HCY4 := hcy; have HCX4 := Kd.C_below HCX3.out hb4; have HX4 := blk_below HX3.out hb4; have HB4 := below_step HB3.out hb4; have hb5 : Below w4.heap.size w4 (w4.alloc (.cells #[.int .i64 ver, .slice A xs.length c] 26)) := below_alloc (Below.refl w4.heap.size w4) (.cells #[.int .i64 ver, .slice A xs.length c] 26); have HB5_ := Aside0.mk (below_step HB4 hb5); have HCX5 := Aside0.mk (Kd.C_below HCX4 hb5); have HCYY := Aside0.mk (Kd.C_below HCY4 hb5); have HX5 := Aside0.mk (blk_below HX4 hb5); have HY4 := heap_alloc_new w4 (.cells #[.int .i64 gv, .slice A5 ys.length c5] 26); have HY5 := Aside0.mk (heap_alloc_new w4 (.cells #[.int .i64 ver, .slice A xs.length c] 26)); have HX4a := blk_below HX4 (below_alloc (Below.refl w4.heap.size w4) (.cells #[.int .i64 gv, .slice A5 ys.length c5] 26)); have hxa0 := (blk_cell HX4a 0).trans rfl; have hxa1 := (blk_cell HX4a 1).trans rfl; have hya0 := (blk_cell HY4 0).trans rfl; have hya1 := (blk_cell HY4 1).trans rfl; have hyf0 : (w4.alloc (.cells #[.int .i64 gv, .slice A5 ys.length c5] 26)).frozen? ⟨w4.heap.size, 0, none⟩ = false := Lib.frozen_of_heap HY4 0; have hyf1 : (w4.alloc (.cells #[.int .i64 gv, .slice A5 ys.length c5] 26)).frozen? ⟨w4.heap.size, 1, none⟩ = false := Lib.frozen_of_heap HY4 1; have hy50 := (blk_cell HY5.out 0).trans rfl; have hy51 := (blk_cell HY5.out 1).trans rfl; have HCYC := HCX5; clear HY4 HX4a; clear hr4 hb4 hc5 hcy HCY4 HCX4 HX4 HB4 hb5; simp only [errW_some])
            | (go_at_call 17; (with_reducible refine (inode_Cut.calls k1 ver A c xs (keepsLeft a2 size) zv zs fr none _ HCYC.out HI.out.2.2.1 HCut.out).mono ?_); rintro e_ w6 ⟨v1_, v2_, rfl, hr6, _, hb6⟩; obtain ⟨A7, c7, rfl, hc7, hcz⟩ := Kd.R_reads hr6; have HC7 := Aside0.mk hc7; have hb7 : Below w6.heap.size w6 (w6.alloc (.cells #[.int .i64 zv, .slice A7 zs.length c7] 26)) := below_alloc (Below.refl _ _) (.cells #[.int .i64 zv, .slice A7 zs.length c7] 26); have HB7 := Aside0.mk (below_step (below_step HB5_.out hb6) hb7); have HCX7 := Aside0.mk (Kd.C_below (Kd.C_below HCX5.out hb6) hb7); have HCY7 := Aside0.mk (Kd.C_below (Kd.C_below HCYC.out hb6) hb7); have HCZ7 := Aside0.mk (Kd.C_below hcz hb7); have HX7 := Aside0.mk (blk_below (blk_below HX5.out hb6) hb7); have HY7 := Aside0.mk (blk_below (blk_below HY5.out hb6) hb7); have HZ7 := Aside0.mk (heap_alloc_new w6 (.cells #[.int .i64 zv, .slice A7 zs.length c7] 26)); have hz70 := (blk_cell HZ7.out 0).trans rfl; have hz71 := (blk_cell HZ7.out 1).trans rfl; simp only [errW_none]; clear hr6 hb6 hc7 hcz hb7)
            | (go_at_call 15; (with_reducible refine (inode_Size.calls k1 zv A7 c7 zs (keepsLeft a2 size) _ HCZ7.out HC7.out HS2.out).mono ?_); rintro e_ w8 ⟨rfl, hb8⟩; have HB8 := Aside0.mk (below_step HB7.out hb8); have HCX8 := Aside0.mk (Kd.C_below HCX7.out hb8); have HCY8 := Aside0.mk (Kd.C_below HCY7.out hb8); have HCZ8 := Aside0.mk (Kd.C_below HCZ7.out hb8); have HX8 := Aside0.mk (blk_below HX7.out hb8); have HY8 := Aside0.mk (blk_below HY7.out hb8); have HZ8 := Aside0.mk (blk_below HZ7.out hb8); clear hb8))
          have HLZ := Aside0.mk (And.intro hz0_ hz1_)
          clear HCX3 HX3 HM3 HB3 HCX5 HX5 HCX7 HCY7 HCZ7 HX7 HY7 HZ7 HB7
          generalize hleft : keepsLeft a2 size = left at *
          go_loopg [18] k1 (fun kq v18 w' => ∃ j : Nat, v18 = .int .i64 (j : Int) ∧ Aside0 ((j : Int) ≤ size ∧ kq ≤ k1) ∧ Aside0 (posthorselaw08_InodeKeeps.l1 kq ver xs ver xs zv zs size left j = some true) ∧ Aside0 (w'.heap[gx]? = some (.cells #[.int .i64 ver, .slice A xs.length c] 26 (0, 0))) ∧ Aside0 (w'.heap[w4.heap.size]? = some (.cells #[.int .i64 ver, .slice A xs.length c] 26 (0, 0))) ∧ Aside0 (w'.heap[w6.heap.size]? = some (.cells #[.int .i64 zv, .slice A7 zs.length c7] 26 (0, 0))) ∧ Aside0 (Kd.C k46 w' A xs.length xs) ∧ Aside0 (Kd.C k46 w' A xs.length xs) ∧ Aside0 (Kd.C k46 w' A7 zs.length zs) ∧ Aside0 (Below w.heap.size w w'))
          case atStart => exact ⟨0, rfl, ⟨HLZ.out.1, Nat.le_refl _⟩, H2, HX8, HY8, HZ8, HCX8, HCY8, HCZ8, HB8⟩
          case round =>
            clear H2 HX8 HY8 HZ8 HCX8 HCY8 HCZ8 HB8
            obtain ⟨j, rfl, HJ, H2, HX8, HY8, HZ8, HCX8, HCY8, HCZ8, HB8⟩ := hrel
            obtain ⟨k2, rfl⟩ : ∃ k2, gk = k2 + 1 := by
              cases gk with
              | zero => exact absurd H2.out (by rw [posthorselaw08_InodeKeeps.l1]; simp)
              | succ k2 => exact ⟨k2, rfl⟩
            have H := H2.out
            clear H2
            rw [posthorselaw08_InodeKeeps.l1] at H
            have hgx0 := (blk_cell HX8.out 0).trans rfl
            have hgx1 := (blk_cell HX8.out 1).trans rfl
            by_cases cj : (j : Int) < size
            · rw [if_pos cj] at H
              have cjb : decide ((j : Int) < size) = true := decide_eq_true cj
              have hj1 : wrap64 ((j : Int) + 1) = ((j + 1 : Nat) : Int) := by have := HLZ.out; unfold wrap64; omega
              obtain ⟨⟨ma, mao⟩, hMa, Ha⟩ := Option.bind_eq_some_iff.mp H
              clear H
              obtain ⟨⟨mb, mbo⟩, hMb, Hb⟩ := Option.bind_eq_some_iff.mp Ha
              clear Ha
              obtain ⟨⟨mc, mco⟩, hMc, H⟩ := Option.bind_eq_some_iff.mp Hb
              clear Hb
              have HJ2 := Aside0.mk cj
              by_cases hcc : mao = true ∧ mbo = true ∧ ma = mb ∧ mco = decide ((j : Int) < left) ∧ (mco = true → ma = mc)
              case neg => rw [if_neg hcc] at H; cases H
              rw [if_pos hcc] at H
              obtain ⟨rfl, rfl, rfl, e4, e5⟩ := hcc
              have HMa := Aside0.mk hMa
              have HMb := Aside0.mk hMb
              have HMc := Aside0.mk hMc
              have H' := Aside0.mk H
              have HJ1 := Aside0.mk hj1
              have n1 : (ma != ma) = false := by simp
              clear hMa hMb hMc H
              try clear hx30
              try clear hx31
              try clear hm30
              try clear hm31
              try clear hy50
              try clear hy51
              try clear hz70
              try clear hz71
              try clear hya0
              try clear hya1
              try clear hyf0
              try clear hyf1
              try clear hxa0
              try clear hxa1
              try clear t1
              try clear t2
              try clear t3
              try clear t4
              try clear t5
              try clear t6
              try clear d1
              try clear d2
              try clear d3
              try clear d4
              try clear g1
              try clear g2
              try clear hleft
              cases mco with
              | true =>
                have e6 := e5 rfl
                subst e6
                have d6 : decide ((j : Int) < left) = true := e4.symm
                clear e4 e5
                go_wp2_with (first
                  | (go_at_call 12; (with_reducible refine (inode_Map.calls k2 ver A c xs (j : Int) _ _ _ HCX8.out HI.out.2.2.1 HMa.out).mono ?_); rintro e_ wa ⟨rfl, hb⟩; have HBa := Aside0.mk (below_step HB8.out hb); have HXa := Aside0.mk (blk_below HX8.out hb); have HYa := Aside0.mk (blk_below HY8.out hb); have HZa := Aside0.mk (blk_below HZ8.out hb); have HCXa := Aside0.mk (Kd.C_below HCX8.out hb); have HCYa := Aside0.mk (Kd.C_below HCY8.out hb); have HCZa := Aside0.mk (Kd.C_below HCZ8.out hb); have hya0_ := (blk_cell HYa.out 0).trans rfl; have hya1_ := (blk_cell HYa.out 1).trans rfl; clear hb)
                  | (go_at_call 12; (with_reducible refine (inode_Map.calls k2 ver A c xs (j : Int) _ _ _ HCYa.out HI.out.2.2.1 HMb.out).mono ?_); rintro e_ wb ⟨rfl, hb⟩; have HBb := Aside0.mk (below_step HBa.out hb); have HXb := Aside0.mk (blk_below HXa.out hb); have HYb := Aside0.mk (blk_below HYa.out hb); have HZb := Aside0.mk (blk_below HZa.out hb); have HCXb := Aside0.mk (Kd.C_below HCXa.out hb); have HCYb := Aside0.mk (Kd.C_below HCYa.out hb); have HCZb := Aside0.mk (Kd.C_below HCZa.out hb); have hzb0_ := (blk_cell HZb.out 0).trans rfl; have hzb1_ := (blk_cell HZb.out 1).trans rfl; clear hb HCYa)
                  | (go_at_call 12; (with_reducible refine (inode_Map.calls k2 zv A7 c7 zs (j : Int) _ _ _ HCZb.out HC7.out HMc.out).mono ?_); rintro e_ wc ⟨rfl, hb⟩; have HBc := Aside0.mk (below_step HBb.out hb); have HXc := Aside0.mk (blk_below HXb.out hb); have HYc := Aside0.mk (blk_below HYb.out hb); have HZc := Aside0.mk (blk_below HZb.out hb); have HCXc := Aside0.mk (Kd.C_below HCXb.out hb); have HCYc := Aside0.mk (Kd.C_below HCYb.out hb); have HCZc := Aside0.mk (Kd.C_below HCZb.out hb); clear hb))
                go_roundg k2
                case measure => omega
                case rel => exact ⟨j + 1, (by first | rfl | rw [HJ1.out]), ⟨by have := HJ2.out; omega, by have := HJ.out; omega⟩, H', HXc, HYc, HZc, HCXc, HCYc, HCZc, HBc⟩
              | false =>
                have d6 : decide ((j : Int) < left) = false := e4.symm
                clear e4 e5
                go_wp2_with (first
                  | (go_at_call 12; (with_reducible refine (inode_Map.calls k2 ver A c xs (j : Int) _ _ _ HCX8.out HI.out.2.2.1 HMa.out).mono ?_); rintro e_ wa ⟨rfl, hb⟩; have HBa := Aside0.mk (below_step HB8.out hb); have HXa := Aside0.mk (blk_below HX8.out hb); have HYa := Aside0.mk (blk_below HY8.out hb); have HZa := Aside0.mk (blk_below HZ8.out hb); have HCXa := Aside0.mk (Kd.C_below HCX8.out hb); have HCYa := Aside0.mk (Kd.C_below HCY8.out hb); have HCZa := Aside0.mk (Kd.C_below HCZ8.out hb); have hya0_ := (blk_cell HYa.out 0).trans rfl; have hya1_ := (blk_cell HYa.out 1).trans rfl; clear hb)
                  | (go_at_call 12; (with_reducible refine (inode_Map.calls k2 ver A c xs (j : Int) _ _ _ HCYa.out HI.out.2.2.1 HMb.out).mono ?_); rintro e_ wb ⟨rfl, hb⟩; have HBb := Aside0.mk (below_step HBa.out hb); have HXb := Aside0.mk (blk_below HXa.out hb); have HYb := Aside0.mk (blk_below HYa.out hb); have HZb := Aside0.mk (blk_below HZa.out hb); have HCXb := Aside0.mk (Kd.C_below HCXa.out hb); have HCYb := Aside0.mk (Kd.C_below HCYa.out hb); have HCZb := Aside0.mk (Kd.C_below HCZa.out hb); have hzb0_ := (blk_cell HZb.out 0).trans rfl; have hzb1_ := (blk_cell HZb.out 1).trans rfl; clear hb HCYa)
                  | (go_at_call 12; (with_reducible refine (inode_Map.calls k2 zv A7 c7 zs (j : Int) _ _ _ HCZb.out HC7.out HMc.out).mono ?_); rintro e_ wc ⟨rfl, hb⟩; have HBc := Aside0.mk (below_step HBb.out hb); have HXc := Aside0.mk (blk_below HXb.out hb); have HYc := Aside0.mk (blk_below HYb.out hb); have HZc := Aside0.mk (blk_below HZb.out hb); have HCXc := Aside0.mk (Kd.C_below HCXb.out hb); have HCYc := Aside0.mk (Kd.C_below HCYb.out hb); have HCZc := Aside0.mk (Kd.C_below HCZb.out hb); clear hb))
                go_roundg k2
                case measure => omega
                case rel => exact ⟨j + 1, (by first | rfl | rw [HJ1.out]), ⟨by have := HJ2.out; omega, by have := HJ.out; omega⟩, H', HXc, HYc, HZc, HCXc, HCYc, HCZc, HBc⟩
            · have cjb : decide ((j : Int) < size) = false := decide_eq_false cj
              go_wp2_with fail
              go_ret
              exact ⟨rfl, HB8.out⟩
      · have d1 : decide ((i : Int) < (l0.length : Int)) = false := decide_eq_false (by omega)
        have d3 := eq_false g1
        clear hcc
        cases ge with
        | none =>
          dsimp only at H
          unfold keepsEnd at H
          obtain ⟨⟨zv, zs, fr, ze⟩, hCut, H⟩ := Option.bind_eq_some_iff.mp H
          by_cases hze : ze = none
          case neg => rw [if_neg hze] at H; cases H
          subst hze
          rw [if_pos rfl] at H
          obtain ⟨s2, hS2, H⟩ := Option.bind_eq_some_iff.mp H
          by_cases hs2 : s2 = keepsLeft a2 size
          case neg => rw [if_neg hs2] at H; cases H
          subst hs2
          rw [if_pos rfl] at H
          have HCut := Aside0.mk hCut
          have HS2 := Aside0.mk hS2
          have H2 := Aside0.mk H
          clear hCut hS2 H
          go_wp2_with (first
            | (go_at_call 15; (with_reducible refine (inode_Size.calls k1 ver A c xs size _ (Kd.R_reads' HRX.out).2.2 HI.out.2.2.1 HSz.out).mono ?_); rintro e_ w3 ⟨rfl, hb3⟩; have HCX3 := Aside0.mk (Kd.C_below (Kd.R_reads' HRX.out).2.2 hb3); have HX3 := Aside0.mk (blk_below HX.out hb3); have HM3 := Aside0.mk (blk_below HM.out hb3); have HB3 := Aside0.mk (below_step HB.out hb3); have hx30 := (blk_cell HX3.out 0).trans rfl; have hx31 := (blk_cell HX3.out 1).trans rfl; have hm30 := (blk_cell HM3.out 0).trans rfl; have hm31 := (blk_cell HM3.out 1).trans rfl; clear hb3)
            | (go_at_call 16; (with_reducible refine (inode_Grow.calls k1 ver A c xs _ _ gv ys none _ HCX3.out HI.out.2.2.1 HGr.out).mono ?_); rintro e_ w4 ⟨v1_, rfl, hr4, hb4⟩; obtain ⟨A5, c5, rfl, hc5, hcy⟩ := Kd.R_reads hr4; have HC5 := Aside0.mk hc5; have HCY4 := hcy; have HCX4 := Kd.C_below HCX3.out hb4; have HX4 := blk_below HX3.out hb4; have HB4 := below_step HB3.out hb4; have hb5 : Below w4.heap.size w4 (w4.alloc (.cells #[.int .i64 gv, .slice A5 ys.length c5] 26)) := below_alloc (Below.refl w4.heap.size w4) (.cells #[.int .i64 gv, .slice A5 ys.length c5] 26); have HB5_ := Aside0.mk (below_step HB4 hb5); have HCX5 := Aside0.mk (Kd.C_below HCX4 hb5); have HCYY := Aside0.mk (Kd.C_below HCY4 hb5); have HX5 := Aside0.mk (blk_below HX4 hb5); have HY5 := Aside0.mk (heap_alloc_new w4 (.cells #[.int .i64 gv, .slice A5 ys.length c5] 26)); have hy50 := (blk_cell HY5.out 0).trans rfl; have hy51 := (blk_cell HY5.out 1).trans rfl; have HCYC := HCYY; clear hr4 hb4 hc5 hcy HCY4 HCX4 HX4 HB4 hb5; simp only [errW_none])
            | (go_at_call 17; (with_reducible refine (inode_Cut.calls k1 gv A5 c5 ys (keepsLeft a2 size) zv zs fr none _ HCYC.out HC5.out HCut.out).mono ?_); rintro e_ w6 ⟨v1_, v2_, rfl, hr6, _, hb6⟩; obtain ⟨A7, c7, rfl, hc7, hcz⟩ := Kd.R_reads hr6; have HC7 := Aside0.mk hc7; have hb7 : Below w6.heap.size w6 (w6.alloc (.cells #[.int .i64 zv, .slice A7 zs.length c7] 26)) := below_alloc (Below.refl _ _) (.cells #[.int .i64 zv, .slice A7 zs.length c7] 26); have HB7 := Aside0.mk (below_step (below_step HB5_.out hb6) hb7); have HCX7 := Aside0.mk (Kd.C_below (Kd.C_below HCX5.out hb6) hb7); have HCY7 := Aside0.mk (Kd.C_below (Kd.C_below HCYC.out hb6) hb7); have HCZ7 := Aside0.mk (Kd.C_below hcz hb7); have HX7 := Aside0.mk (blk_below (blk_below HX5.out hb6) hb7); have HY7 := Aside0.mk (blk_below (blk_below HY5.out hb6) hb7); have HZ7 := Aside0.mk (heap_alloc_new w6 (.cells #[.int .i64 zv, .slice A7 zs.length c7] 26)); have hz70 := (blk_cell HZ7.out 0).trans rfl; have hz71 := (blk_cell HZ7.out 1).trans rfl; simp only [errW_none]; clear hr6 hb6 hc7 hcz hb7)
            | (go_at_call 15; (with_reducible refine (inode_Size.calls k1 zv A7 c7 zs (keepsLeft a2 size) _ HCZ7.out HC7.out HS2.out).mono ?_); rintro e_ w8 ⟨rfl, hb8⟩; have HB8 := Aside0.mk (below_step HB7.out hb8); have HCX8 := Aside0.mk (Kd.C_below HCX7.out hb8); have HCY8 := Aside0.mk (Kd.C_below HCY7.out hb8); have HCZ8 := Aside0.mk (Kd.C_below HCZ7.out hb8); have HX8 := Aside0.mk (blk_below HX7.out hb8); have HY8 := Aside0.mk (blk_below HY7.out hb8); have HZ8 := Aside0.mk (blk_below HZ7.out hb8); clear hb8))
          have HLZ := Aside0.mk (And.intro hz0_ hz1_)
          clear HCX3 HX3 HM3 HB3 HCX5 HX5 HCX7 HCY7 HCZ7 HX7 HY7 HZ7 HB7
          generalize hleft : keepsLeft a2 size = left at *
          go_loopg [18] k1 (fun kq v18 w' => ∃ j : Nat, v18 = .int .i64 (j : Int) ∧ Aside0 ((j : Int) ≤ size ∧ kq ≤ k1) ∧ Aside0 (posthorselaw08_InodeKeeps.l1 kq ver xs gv ys zv zs size left j = some true) ∧ Aside0 (w'.heap[gx]? = some (.cells #[.int .i64 ver, .slice A xs.length c] 26 (0, 0))) ∧ Aside0 (w'.heap[w4.heap.size]? = some (.cells #[.int .i64 gv, .slice A5 ys.length c5] 26 (0, 0))) ∧ Aside0 (w'.heap[w6.heap.size]? = some (.cells #[.int .i64 zv, .slice A7 zs.length c7] 26 (0, 0))) ∧ Aside0 (Kd.C k46 w' A xs.length xs) ∧ Aside0 (Kd.C k46 w' A5 ys.length ys) ∧ Aside0 (Kd.C k46 w' A7 zs.length zs) ∧ Aside0 (Below w.heap.size w w'))
          case atStart => exact ⟨0, rfl, ⟨HLZ.out.1, Nat.le_refl _⟩, H2, HX8, HY8, HZ8, HCX8, HCY8, HCZ8, HB8⟩
          case round =>
            clear H2 HX8 HY8 HZ8 HCX8 HCY8 HCZ8 HB8
            obtain ⟨j, rfl, HJ, H2, HX8, HY8, HZ8, HCX8, HCY8, HCZ8, HB8⟩ := hrel
            obtain ⟨k2, rfl⟩ : ∃ k2, gk = k2 + 1 := by
              cases gk with
              | zero => exact absurd H2.out (by rw [posthorselaw08_InodeKeeps.l1]; simp)
              | succ k2 => exact ⟨k2, rfl⟩
            have H := H2.out
            clear H2
            rw [posthorselaw08_InodeKeeps.l1] at H
            have hgx0 := (blk_cell HX8.out 0).trans rfl
            have hgx1 := (blk_cell HX8.out 1).trans rfl
            by_cases cj : (j : Int) < size
            · rw [if_pos cj] at H
              have cjb : decide ((j : Int) < size) = true := decide_eq_true cj
              have hj1 : wrap64 ((j : Int) + 1) = ((j + 1 : Nat) : Int) := by have := HLZ.out; unfold wrap64; omega
              obtain ⟨⟨ma, mao⟩, hMa, Ha⟩ := Option.bind_eq_some_iff.mp H
              clear H
              obtain ⟨⟨mb, mbo⟩, hMb, Hb⟩ := Option.bind_eq_some_iff.mp Ha
              clear Ha
              obtain ⟨⟨mc, mco⟩, hMc, H⟩ := Option.bind_eq_some_iff.mp Hb
              clear Hb
              have HJ2 := Aside0.mk cj
              by_cases hcc : mao = true ∧ mbo = true ∧ ma = mb ∧ mco = decide ((j : Int) < left) ∧ (mco = true → ma = mc)
              case neg => rw [if_neg hcc] at H; cases H
              rw [if_pos hcc] at H
              obtain ⟨rfl, rfl, rfl, e4, e5⟩ := hcc
              have HMa := Aside0.mk hMa
              have HMb := Aside0.mk hMb
              have HMc := Aside0.mk hMc
              have H' := Aside0.mk H
              have HJ1 := Aside0.mk hj1
              have n1 : (ma != ma) = false := by simp
              clear hMa hMb hMc H
              try clear hx30
              try clear hx31
              try clear hm30
              try clear hm31
              try clear hy50
              try clear hy51
              try clear hz70
              try clear hz71
              try clear hya0
              try clear hya1
              try clear hyf0
              try clear hyf1
              try clear hxa0
              try clear hxa1
              try clear t1
              try clear t2
              try clear t3
              try clear t4
              try clear t5
              try clear t6
              try clear d1
              try clear d2
              try clear d3
              try clear d4
              try clear g1
              try clear g2
              try clear hleft
              cases mco with
              | true =>
                have e6 := e5 rfl
                subst e6
                have d6 : decide ((j : Int) < left) = true := e4.symm
                clear e4 e5
                go_wp2_with (first
                  | (go_at_call 12; (with_reducible refine (inode_Map.calls k2 ver A c xs (j : Int) _ _ _ HCX8.out HI.out.2.2.1 HMa.out).mono ?_); rintro e_ wa ⟨rfl, hb⟩; have HBa := Aside0.mk (below_step HB8.out hb); have HXa := Aside0.mk (blk_below HX8.out hb); have HYa := Aside0.mk (blk_below HY8.out hb); have HZa := Aside0.mk (blk_below HZ8.out hb); have HCXa := Aside0.mk (Kd.C_below HCX8.out hb); have HCYa := Aside0.mk (Kd.C_below HCY8.out hb); have HCZa := Aside0.mk (Kd.C_below HCZ8.out hb); have hya0_ := (blk_cell HYa.out 0).trans rfl; have hya1_ := (blk_cell HYa.out 1).trans rfl; clear hb)
                  | (go_at_call 12; (with_reducible refine (inode_Map.calls k2 gv A5 c5 ys (j : Int) _ _ _ HCYa.out HC5.out HMb.out).mono ?_); rintro e_ wb ⟨rfl, hb⟩; have HBb := Aside0.mk (below_step HBa.out hb); have HXb := Aside0.mk (blk_below HXa.out hb); have HYb := Aside0.mk (blk_below HYa.out hb); have HZb := Aside0.mk (blk_below HZa.out hb); have HCXb := Aside0.mk (Kd.C_below HCXa.out hb); have HCYb := Aside0.mk (Kd.C_below HCYa.out hb); have HCZb := Aside0.mk (Kd.C_below HCZa.out hb); have hzb0_ := (blk_cell HZb.out 0).trans rfl; have hzb1_ := (blk_cell HZb.out 1).trans rfl; clear hb HCYa)
                  | (go_at_call 12; (with_reducible refine (inode_Map.calls k2 zv A7 c7 zs (j : Int) _ _ _ HCZb.out HC7.out HMc.out).mono ?_); rintro e_ wc ⟨rfl, hb⟩; have HBc := Aside0.mk (below_step HBb.out hb); have HXc := Aside0.mk (blk_below HXb.out hb); have HYc := Aside0.mk (blk_below HYb.out hb); have HZc := Aside0.mk (blk_below HZb.out hb); have HCXc := Aside0.mk (Kd.C_below HCXb.out hb); have HCYc := Aside0.mk (Kd.C_below HCYb.out hb); have HCZc := Aside0.mk (Kd.C_below HCZb.out hb); clear hb))
                go_roundg k2
                case measure => omega
                case rel => exact ⟨j + 1, (by first | rfl | rw [HJ1.out]), ⟨by have := HJ2.out; omega, by have := HJ.out; omega⟩, H', HXc, HYc, HZc, HCXc, HCYc, HCZc, HBc⟩
              | false =>
                have d6 : decide ((j : Int) < left) = false := e4.symm
                clear e4 e5
                go_wp2_with (first
                  | (go_at_call 12; (with_reducible refine (inode_Map.calls k2 ver A c xs (j : Int) _ _ _ HCX8.out HI.out.2.2.1 HMa.out).mono ?_); rintro e_ wa ⟨rfl, hb⟩; have HBa := Aside0.mk (below_step HB8.out hb); have HXa := Aside0.mk (blk_below HX8.out hb); have HYa := Aside0.mk (blk_below HY8.out hb); have HZa := Aside0.mk (blk_below HZ8.out hb); have HCXa := Aside0.mk (Kd.C_below HCX8.out hb); have HCYa := Aside0.mk (Kd.C_below HCY8.out hb); have HCZa := Aside0.mk (Kd.C_below HCZ8.out hb); have hya0_ := (blk_cell HYa.out 0).trans rfl; have hya1_ := (blk_cell HYa.out 1).trans rfl; clear hb)
                  | (go_at_call 12; (with_reducible refine (inode_Map.calls k2 gv A5 c5 ys (j : Int) _ _ _ HCYa.out HC5.out HMb.out).mono ?_); rintro e_ wb ⟨rfl, hb⟩; have HBb := Aside0.mk (below_step HBa.out hb); have HXb := Aside0.mk (blk_below HXa.out hb); have HYb := Aside0.mk (blk_below HYa.out hb); have HZb := Aside0.mk (blk_below HZa.out hb); have HCXb := Aside0.mk (Kd.C_below HCXa.out hb); have HCYb := Aside0.mk (Kd.C_below HCYa.out hb); have HCZb := Aside0.mk (Kd.C_below HCZa.out hb); have hzb0_ := (blk_cell HZb.out 0).trans rfl; have hzb1_ := (blk_cell HZb.out 1).trans rfl; clear hb HCYa)
                  | (go_at_call 12; (with_reducible refine (inode_Map.calls k2 zv A7 c7 zs (j : Int) _ _ _ HCZb.out HC7.out HMc.out).mono ?_); rintro e_ wc ⟨rfl, hb⟩; have HBc := Aside0.mk (below_step HBb.out hb); have HXc := Aside0.mk (blk_below HXb.out hb); have HYc := Aside0.mk (blk_below HYb.out hb); have HZc := Aside0.mk (blk_below HZb.out hb); have HCXc := Aside0.mk (Kd.C_below HCXb.out hb); have HCYc := Aside0.mk (Kd.C_below HCYb.out hb); have HCZc := Aside0.mk (Kd.C_below HCZb.out hb); clear hb))
                go_roundg k2
                case measure => omega
                case rel => exact ⟨j + 1, (by first | rfl | rw [HJ1.out]), ⟨by have := HJ2.out; omega, by have := HJ.out; omega⟩, H', HXc, HYc, HZc, HCXc, HCYc, HCZc, HBc⟩
            · have cjb : decide ((j : Int) < size) = false := decide_eq_false cj
              go_wp2_with fail
              go_ret
              exact ⟨rfl, HB8.out⟩
        | some ee =>
          dsimp only at H
          unfold keepsEnd at H
          obtain ⟨⟨zv, zs, fr, ze⟩, hCut, H⟩ := Option.bind_eq_some_iff.mp H
          by_cases hze : ze = none
          case neg => rw [if_neg hze] at H; cases H
          subst hze
          rw [if_pos rfl] at H
          obtain ⟨s2, hS2, H⟩ := Option.bind_eq_some_iff.mp H
          by_cases hs2 : s2 = keepsLeft a2 size
          case neg => rw [if_neg hs2] at H; cases H
          subst hs2
          rw [if_pos rfl] at H
          have HCut := Aside0.mk hCut
          have HS2 := Aside0.mk hS2
          have H2 := Aside0.mk H
          clear hCut hS2 H
          go_wp2_with (first
            | (go_at_call 15; (with_reducible refine (inode_Size.calls k1 ver A c xs size _ (Kd.R_reads' HRX.out).2.2 HI.out.2.2.1 HSz.out).mono ?_); rintro e_ w3 ⟨rfl, hb3⟩; have HCX3 := Aside0.mk (Kd.C_below (Kd.R_reads' HRX.out).2.2 hb3); have HX3 := Aside0.mk (blk_below HX.out hb3); have HM3 := Aside0.mk (blk_below HM.out hb3); have HB3 := Aside0.mk (below_step HB.out hb3); have hx30 := (blk_cell HX3.out 0).trans rfl; have hx31 := (blk_cell HX3.out 1).trans rfl; have hm30 := (blk_cell HM3.out 0).trans rfl; have hm31 := (blk_cell HM3.out 1).trans rfl; clear hb3)
            | (go_at_call 16; (with_reducible refine (inode_Grow.calls k1 ver A c xs _ _ gv ys (some ee) _ HCX3.out HI.out.2.2.1 HGr.out).mono ?_); rintro e_ w4 ⟨v1_, rfl, hr4, hb4⟩; obtain ⟨A5, c5, rfl, hc5, hcy⟩ := Kd.R_reads hr4; have HC5 := Aside0.mk hc5; have HCY4 := hcy; have HCX4 := Kd.C_below HCX3.out hb4; have HX4 := blk_below HX3.out hb4; have HB4 := below_step HB3.out hb4; have hb5 : Below w4.heap.size w4 (w4.alloc (.cells #[.int .i64 ver, .slice A xs.length c] 26)) := below_alloc (Below.refl w4.heap.size w4) (.cells #[.int .i64 ver, .slice A xs.length c] 26); have HB5_ := Aside0.mk (below_step HB4 hb5); have HCX5 := Aside0.mk (Kd.C_below HCX4 hb5); have HCYY := Aside0.mk (Kd.C_below HCY4 hb5); have HX5 := Aside0.mk (blk_below HX4 hb5); have HY4 := heap_alloc_new w4 (.cells #[.int .i64 gv, .slice A5 ys.length c5] 26); have HY5 := Aside0.mk (heap_alloc_new w4 (.cells #[.int .i64 ver, .slice A xs.length c] 26)); have HX4a := blk_below HX4 (below_alloc (Below.refl w4.heap.size w4) (.cells #[.int .i64 gv, .slice A5 ys.length c5] 26)); have hxa0 := (blk_cell HX4a 0).trans rfl; have hxa1 := (blk_cell HX4a 1).trans rfl; have hya0 := (blk_cell HY4 0).trans rfl; have hya1 := (blk_cell HY4 1).trans rfl; have hyf0 : (w4.alloc (.cells #[.int .i64 gv, .slice A5 ys.length c5] 26)).frozen? ⟨w4.heap.size, 0, none⟩ = false := Lib.frozen_of_heap HY4 0; have hyf1 : (w4.alloc (.cells #[.int .i64 gv, .slice A5 ys.length c5] 26)).frozen? ⟨w4.heap.size, 1, none⟩ = false := Lib.frozen_of_heap HY4 1; have hy50 := (blk_cell HY5.out 0).trans rfl; have hy51 := (blk_cell HY5.out 1).trans rfl; have HCYC := HCX5; clear HY4 HX4a; clear hr4 hb4 hc5 hcy HCY4 HCX4 HX4 HB4 hb5; simp only [errW_some])
            | (go_at_call 17; (with_reducible refine (inode_Cut.calls k1 ver A c xs (keepsLeft a2 size) zv zs fr none _ HCYC.out HI.out.2.2.1 HCut.out).mono ?_); rintro e_ w6 ⟨v1_, v2_, rfl, hr6, _, hb6⟩; obtain ⟨A7, c7, rfl, hc7, hcz⟩ := Kd.R_reads hr6; have HC7 := Aside0.mk hc7; have hb7 : Below w6.heap.size w6 (w6.alloc (.cells #[.int .i64 zv, .slice A7 zs.length c7] 26)) := below_alloc (Below.refl _ _) (.cells #[.int .i64 zv, .slice A7 zs.length c7] 26); have HB7 := Aside0.mk (below_step (below_step HB5_.out hb6) hb7); have HCX7 := Aside0.mk (Kd.C_below (Kd.C_below HCX5.out hb6) hb7); have HCY7 := Aside0.mk (Kd.C_below (Kd.C_below HCYC.out hb6) hb7); have HCZ7 := Aside0.mk (Kd.C_below hcz hb7); have HX7 := Aside0.mk (blk_below (blk_below HX5.out hb6) hb7); have HY7 := Aside0.mk (blk_below (blk_below HY5.out hb6) hb7); have HZ7 := Aside0.mk (heap_alloc_new w6 (.cells #[.int .i64 zv, .slice A7 zs.length c7] 26)); have hz70 := (blk_cell HZ7.out 0).trans rfl; have hz71 := (blk_cell HZ7.out 1).trans rfl; simp only [errW_none]; clear hr6 hb6 hc7 hcz hb7)
            | (go_at_call 15; (with_reducible refine (inode_Size.calls k1 zv A7 c7 zs (keepsLeft a2 size) _ HCZ7.out HC7.out HS2.out).mono ?_); rintro e_ w8 ⟨rfl, hb8⟩; have HB8 := Aside0.mk (below_step HB7.out hb8); have HCX8 := Aside0.mk (Kd.C_below HCX7.out hb8); have HCY8 := Aside0.mk (Kd.C_below HCY7.out hb8); have HCZ8 := Aside0.mk (Kd.C_below HCZ7.out hb8); have HX8 := Aside0.mk (blk_below HX7.out hb8); have HY8 := Aside0.mk (blk_below HY7.out hb8); have HZ8 := Aside0.mk (blk_below HZ7.out hb8); clear hb8))
          have HLZ := Aside0.mk (And.intro hz0_ hz1_)
          clear HCX3 HX3 HM3 HB3 HCX5 HX5 HCX7 HCY7 HCZ7 HX7 HY7 HZ7 HB7
          generalize hleft : keepsLeft a2 size = left at *
          go_loopg [18] k1 (fun kq v18 w' => ∃ j : Nat, v18 = .int .i64 (j : Int) ∧ Aside0 ((j : Int) ≤ size ∧ kq ≤ k1) ∧ Aside0 (posthorselaw08_InodeKeeps.l1 kq ver xs ver xs zv zs size left j = some true) ∧ Aside0 (w'.heap[gx]? = some (.cells #[.int .i64 ver, .slice A xs.length c] 26 (0, 0))) ∧ Aside0 (w'.heap[w4.heap.size]? = some (.cells #[.int .i64 ver, .slice A xs.length c] 26 (0, 0))) ∧ Aside0 (w'.heap[w6.heap.size]? = some (.cells #[.int .i64 zv, .slice A7 zs.length c7] 26 (0, 0))) ∧ Aside0 (Kd.C k46 w' A xs.length xs) ∧ Aside0 (Kd.C k46 w' A xs.length xs) ∧ Aside0 (Kd.C k46 w' A7 zs.length zs) ∧ Aside0 (Below w.heap.size w w'))
          case atStart => exact ⟨0, rfl, ⟨HLZ.out.1, Nat.le_refl _⟩, H2, HX8, HY8, HZ8, HCX8, HCY8, HCZ8, HB8⟩
          case round =>
            clear H2 HX8 HY8 HZ8 HCX8 HCY8 HCZ8 HB8
            obtain ⟨j, rfl, HJ, H2, HX8, HY8, HZ8, HCX8, HCY8, HCZ8, HB8⟩ := hrel
            obtain ⟨k2, rfl⟩ : ∃ k2, gk = k2 + 1 := by
              cases gk with
              | zero => exact absurd H2.out (by rw [posthorselaw08_InodeKeeps.l1]; simp)
              | succ k2 => exact ⟨k2, rfl⟩
            have H := H2.out
            clear H2
            rw [posthorselaw08_InodeKeeps.l1] at H
            have hgx0 := (blk_cell HX8.out 0).trans rfl
            have hgx1 := (blk_cell HX8.out 1).trans rfl
            by_cases cj : (j : Int) < size
            · rw [if_pos cj] at H
              have cjb : decide ((j : Int) < size) = true := decide_eq_true cj
              have hj1 : wrap64 ((j : Int) + 1) = ((j + 1 : Nat) : Int) := by have := HLZ.out; unfold wrap64; omega
              obtain ⟨⟨ma, mao⟩, hMa, Ha⟩ := Option.bind_eq_some_iff.mp H
              clear H
              obtain ⟨⟨mb, mbo⟩, hMb, Hb⟩ := Option.bind_eq_some_iff.mp Ha
              clear Ha
              obtain ⟨⟨mc, mco⟩, hMc, H⟩ := Option.bind_eq_some_iff.mp Hb
              clear Hb
              have HJ2 := Aside0.mk cj
              by_cases hcc : mao = true ∧ mbo = true ∧ ma = mb ∧ mco = decide ((j : Int) < left) ∧ (mco = true → ma = mc)
              case neg => rw [if_neg hcc] at H; cases H
              rw [if_pos hcc] at H
              obtain ⟨rfl, rfl, rfl, e4, e5⟩ := hcc
              have HMa := Aside0.mk hMa
              have HMb := Aside0.mk hMb
              have HMc := Aside0.mk hMc
              have H' := Aside0.mk H
              have HJ1 := Aside0.mk hj1
              have n1 : (ma != ma) = false := by simp
              clear hMa hMb hMc H
              try clear hx30
              try clear hx31
              try clear hm30
              try clear hm31
              try clear hy50
              try clear hy51
              try clear hz70
              try clear hz71
              try clear hya0
              try clear hya1
              try clear hyf0
              try clear hyf1
              try clear hxa0
              try clear hxa1
              try clear t1
              try clear t2
              try clear t3
              try clear t4
              try clear t5
              try clear t6
              try clear d1
              try clear d2
              try clear d3
              try clear d4
              try clear g1
              try clear g2
              try clear hleft
              cases mco with
              | true =>
                have e6 := e5 rfl
                subst e6
                have d6 : decide ((j : Int) < left) = true := e4.symm
                clear e4 e5
                go_wp2_with (first
                  | (go_at_call 12; (with_reducible refine (inode_Map.calls k2 ver A c xs (j : Int) _ _ _ HCX8.out HI.out.2.2.1 HMa.out).mono ?_); rintro e_ wa ⟨rfl, hb⟩; have HBa := Aside0.mk (below_step HB8.out hb); have HXa := Aside0.mk (blk_below HX8.out hb); have HYa := Aside0.mk (blk_below HY8.out hb); have HZa := Aside0.mk (blk_below HZ8.out hb); have HCXa := Aside0.mk (Kd.C_below HCX8.out hb); have HCYa := Aside0.mk (Kd.C_below HCY8.out hb); have HCZa := Aside0.mk (Kd.C_below HCZ8.out hb); have hya0_ := (blk_cell HYa.out 0).trans rfl; have hya1_ := (blk_cell HYa.out 1).trans rfl; clear hb)
                  | (go_at_call 12; (with_reducible refine (inode_Map.calls k2 ver A c xs (j : Int) _ _ _ HCYa.out HI.out.2.2.1 HMb.out).mono ?_); rintro e_ wb ⟨rfl, hb⟩; have HBb := Aside0.mk (below_step HBa.out hb); have HXb := Aside0.mk (blk_below HXa.out hb); have HYb := Aside0.mk (blk_below HYa.out hb); have HZb := Aside0.mk (blk_below HZa.out hb); have HCXb := Aside0.mk (Kd.C_below HCXa.out hb); have HCYb := Aside0.mk (Kd.C_below HCYa.out hb); have HCZb := Aside0.mk (Kd.C_below HCZa.out hb); have hzb0_ := (blk_cell HZb.out 0).trans rfl; have hzb1_ := (blk_cell HZb.out 1).trans rfl; clear hb HCYa)
                  | (go_at_call 12; (with_reducible refine (inode_Map.calls k2 zv A7 c7 zs (j : Int) _ _ _ HCZb.out HC7.out HMc.out).mono ?_); rintro e_ wc ⟨rfl, hb⟩; have HBc := Aside0.mk (below_step HBb.out hb); have HXc := Aside0.mk (blk_below HXb.out hb); have HYc := Aside0.mk (blk_below HYb.out hb); have HZc := Aside0.mk (blk_below HZb.out hb); have HCXc := Aside0.mk (Kd.C_below HCXb.out hb); have HCYc := Aside0.mk (Kd.C_below HCYb.out hb); have HCZc := Aside0.mk (Kd.C_below HCZb.out hb); clear hb))
                go_roundg k2
                case measure => omega
                case rel => exact ⟨j + 1, (by first | rfl | rw [HJ1.out]), ⟨by have := HJ2.out; omega, by have := HJ.out; omega⟩, H', HXc, HYc, HZc, HCXc, HCYc, HCZc, HBc⟩
              | false =>
                have d6 : decide ((j : Int) < left) = false := e4.symm
                clear e4 e5
                go_wp2_with (first
                  | (go_at_call 12; (with_reducible refine (inode_Map.calls k2 ver A c xs (j : Int) _ _ _ HCX8.out HI.out.2.2.1 HMa.out).mono ?_); rintro e_ wa ⟨rfl, hb⟩; have HBa := Aside0.mk (below_step HB8.out hb); have HXa := Aside0.mk (blk_below HX8.out hb); have HYa := Aside0.mk (blk_below HY8.out hb); have HZa := Aside0.mk (blk_below HZ8.out hb); have HCXa := Aside0.mk (Kd.C_below HCX8.out hb); have HCYa := Aside0.mk (Kd.C_below HCY8.out hb); have HCZa := Aside0.mk (Kd.C_below HCZ8.out hb); have hya0_ := (blk_cell HYa.out 0).trans rfl; have hya1_ := (blk_cell HYa.out 1).trans rfl; clear hb)
                  | (go_at_call 12; (with_reducible refine (inode_Map.calls k2 ver A c xs (j : Int) _ _ _ HCYa.out HI.out.2.2.1 HMb.out).mono ?_); rintro e_ wb ⟨rfl, hb⟩; have HBb := Aside0.mk (below_step HBa.out hb); have HXb := Aside0.mk (blk_below HXa.out hb); have HYb := Aside0.mk (blk_below HYa.out hb); have HZb := Aside0.mk (blk_below HZa.out hb); have HCXb := Aside0.mk (Kd.C_below HCXa.out hb); have HCYb := Aside0.mk (Kd.C_below HCYa.out hb); have HCZb := Aside0.mk (Kd.C_below HCZa.out hb); have hzb0_ := (blk_cell HZb.out 0).trans rfl; have hzb1_ := (blk_cell HZb.out 1).trans rfl; clear hb HCYa)
                  | (go_at_call 12; (with_reducible refine (inode_Map.calls k2 zv A7 c7 zs (j : Int) _ _ _ HCZb.out HC7.out HMc.out).mono ?_); rintro e_ wc ⟨rfl, hb⟩; have HBc := Aside0.mk (below_step HBb.out hb); have HXc := Aside0.mk (blk_below HXb.out hb); have HYc := Aside0.mk (blk_below HYb.out hb); have HZc := Aside0.mk (blk_below HZb.out hb); have HCXc := Aside0.mk (Kd.C_below HCXb.out hb); have HCYc := Aside0.mk (Kd.C_below HCYb.out hb); have HCZc := Aside0.mk (Kd.C_below HCZb.out hb); clear hb))
                go_roundg k2
                case measure => omega
                case rel => exact ⟨j + 1, (by first | rfl | rw [HJ1.out]), ⟨by have := HJ2.out; omega, by have := HJ.out; omega⟩, H', HXc, HYc, HZc, HCXc, HCYc, HCZc, HBc⟩
            · have cjb : decide ((j : Int) < size) = false := decide_eq_false cj
              go_wp2_with fail
              go_ret
              exact ⟨rfl, HB8.out⟩


end Go.Proofs.Ytmncfcebjohloaa.VInodeKeeps
