/- Contracts of functions of this seat: each call comes to what its Lean function computes; no condition beyond what each theorem states. Printed by a program of this session's own laid over the kit's printer. -/
import Derived.Test.YtngokgliagkohaaDoorVBitsPlaysx0
import Derived.Test.YtngokgliagkohaaDoorVBitsPlaysx1
import Derived.Test.YtngokgliagkohaaDoorVBitsPlaysx5
import Derived.Test.YtngokgliagkohaaDoorVBitsPlaysx8
import Derived.Test.YtngokgliagkohaaDoorVBitsPlaysx9
import Derived.Test.YtngokgliagkohaaDoorVBitsPlaysx12
import Derived.Test.YtngokgliagkohaaDoorVBitsPlaysx14
import Derived.Test.YtngokgliagkohaaDoorVBitsPlaysx15
import Derived.Test.YtngokgliagkohaaDoorVBitsPlaysx16
import Derived.Test.YtngokgliagkohaaDoorVBitsPlaysx17
import Derived.Test.YtngokgliagkohaaDoorVBitsPlaysx18
import Derived.Test.YtngokgliagkohaaDoorVBitsPlaysx19
namespace Go.Proofs.YtngokgliagkohaaDoor.VBitsPlays
open Go.RowKit Go.Proofs.YtngokgliagkohaaDoorW.PrintWords Go.Proofs.YtngokgliagkohaaDoorW.PrintLast Go.Proofs.YtngokgliagkohaaDoorW.PrintMore
attribute [local go_sem] max2_int min2_int max_two min_two max_three min_three max_four min_four   -- for this text's walks alone
set_option linter.unusedVariables false
set_option linter.unusedSimpArgs false

-- @GIVEN posthorselaw07_BitsPlays
/-! ### posthorselaw07_BitsPlays: by hand -/
abbrev Act := S36
theorem plays_n (a : Int) : ∃ n : Nat, wrap64 (1 + Go.bits .and .i64 a 63) = (n : Int) ∧ 1 ≤ n ∧ n ≤ 64 ∧ n = (1 + a % 64).toNat := by
  have := andm_ a 63 (by decide) 6 (by decide)
  rw [show Go.bits .and .i64 a 63 = a % 64 from this]
  refine ⟨(1 + a % 64).toNat, ?_, by omega, by omega, rfl⟩
  unfold wrap64; omega
/-- Which act. -/
def playSel (n : Int) : Int := (wrap64 (n.tmod 4 + 4)).tmod 4
/-- One act on a list, checked against the document's. -/
def playStep (k : Nat) (L : List Bool) (x : Act) : Option (List Bool) :=
  if playSel x.f0 = 2 then (posthorseref07_May.f k L x.f1 x.f2 true).bind fun m => if m = (turnE L x.f1 x.f2 false 8).getD 0 then (if m = 0 then (posthorseref07_Turned.f k L x.f1 x.f2).bind fun T => if turnL L x.f1 x.f2 false 8 = T then some T else none else if turnL L x.f1 x.f2 false 8 = L then some L else none) else none
  else if playSel x.f0 = 3 then (posthorseref07_Run.f k L x.f2 x.f1).bind fun q => if runOf L x.f2 x.f1 = (max q 0, decide (0 ≤ q)) then some L else none
  else (posthorseref07_May.f k L x.f1 x.f2 false).bind fun m => if m = (turnE L x.f1 x.f2 true 9).getD 0 then (if m = 0 then (posthorseref07_Turned.f k L x.f1 x.f2).bind fun T => if turnL L x.f1 x.f2 true 9 = T then some T else none else if turnL L x.f1 x.f2 true 9 = L then some L else none) else none
def posthorselaw07_BitsPlays.l0 : Nat → List Act → List Bool → Nat → Option Bool
  | 0, _, _, _ => none
  | k + 1, l, L, i => if i < l.length ∧ i < 40 then (playStep k L (rd_T36 l (i : Int))).bind fun M => (posthorseref07_Free.f k M).bind fun c => if c = ((M.count false : Nat) : Int) then posthorselaw07_BitsPlays.l0 k l M (i + 1) else none
    else (bits_Set_Put.f k L).bind fun p => if p.2 = none then ((bits_Get.f k p.1 (L.length : Int)).bind fun q => if q = (some L, 0) then ((posthorseref07_Put.f k L).bind fun t => if t = p.1 then ((posthorseref07_Free.f k L).bind fun c => if c = ((L.count false : Nat) : Int) then some true else none) else none) else none) else none
def posthorselaw07_BitsPlays.f (k : Nat) (a0 : Int) (l1 : List Act) : Option Bool := (posthorselaw07_speaks.f k).bind fun _ => posthorselaw07_BitsPlays.l0 k l1 (List.replicate (1 + a0 % 64).toNat false) 0
theorem plays_r : ∀ (k : Nat) (l : List Act) (L : List Bool) (i : Nat) (r : Bool), posthorselaw07_BitsPlays.l0 k l L i = some r → r = true
  | 0, _, _, _, _, h => by rw [posthorselaw07_BitsPlays.l0] at h; cases h
  | k + 1, l, L, i, r, h => by
    rw [posthorselaw07_BitsPlays.l0] at h
    split at h
    · obtain ⟨M, _, h⟩ := Option.bind_eq_some_iff.mp h
      obtain ⟨c, _, h⟩ := Option.bind_eq_some_iff.mp h
      split at h
      · exact plays_r k l M (i + 1) r h
      · cases h
    · obtain ⟨p, _, h⟩ := Option.bind_eq_some_iff.mp h
      split at h
      · obtain ⟨q, _, h⟩ := Option.bind_eq_some_iff.mp h
        split at h
        · obtain ⟨t, _, h⟩ := Option.bind_eq_some_iff.mp h
          split at h
          · obtain ⟨c, _, h⟩ := Option.bind_eq_some_iff.mp h
            split at h
            · exact (Option.some.inj h).symm
            · cases h
          · cases h
        · cases h
      · cases h
theorem madeR (W : World) (n : Nat) (hn : n ≤ 4000) : Kd.R Kd.bool 4 (W.alloc (.cells (madeCells #[.bool false] n) 4)) W.heap.size (fun _ => True) (.slice (some ⟨W.heap.size, 0, none⟩) n n) (List.replicate n false) := by
  refine Kd.R_of_own ?_ (fun _ _ => trivial)
  rw [List.length_replicate]
  refine ⟨by simp [encs], .inr ⟨W.heap.size, n, _, rfl, Nat.le_refl _, heap_alloc_new _ _, Nat.le_refl _, by show n ≤ 9223372036854775807; omega, by simp [size_madeCells], ?_⟩⟩
  rw [madeBools]
  simp [encs]
theorem R_keep2 {N0 g tb : Nat} {w w' : World} {v : Value} {L : List Bool} (h : Kd.R Kd.bool 4 w N0 (fun _ => True) v L) (hk : Keep2 g tb w w') (hg : g < N0) (ht : tb < N0) : Kd.R Kd.bool 4 w' N0 (fun _ => True) v L :=
  Kd.R_mono (Kd.R_step (Kd.R_bound h) (fun b hb _ => hk b (by have := hb.2.1; omega) (by have := hb.2.1; omega))) (fun _ _ => trivial)
theorem code_is (e : Option Int) : posthorselaw07_code.f e = some (e.getD 0) := rfl
set_option maxHeartbeats 8000000 in
set_option maxRecDepth 100000 in
theorem posthorselaw07_BitsPlays.calls (k : Nat) (a0 : Int) (A1 : Option Addr) (c1 : Nat) (l1 : List Act) (r : Bool) (w : World) (hL_ : Laid w) (hr1 : Kd.C k36 w A1 l1.length l1) (hc1 : l1.length ≤ c1) (h : posthorselaw07_BitsPlays.f k a0 l1 = some r) :
    Calls Tryd.prog 10 #[.int .i64 a0, .slice A1 l1.length c1] w fun e w' => e = .returned (.bool r) ∧ Below w.heap.size w w' := by
  have HL_ := Aside0.mk hL_
  have HR1 := Aside0.mk hr1
  clear hL_ hr1 hc1
  unfold posthorselaw07_BitsPlays.f at h
  obtain ⟨t0, hP, h⟩ := Option.bind_eq_some_iff.mp h
  have ht0 : t0 = true := by
    unfold posthorselaw07_speaks.f at hP
    obtain ⟨p, _, hP⟩ := Option.bind_eq_some_iff.mp hP
    split at hP
    · exact (Option.some.inj hP).symm
    · cases hP
  subst ht0
  obtain rfl : r = true := plays_r _ _ _ _ _ h
  have HP := Aside0.mk hP
  obtain ⟨n, en, hn0, hn1, hn2⟩ := plays_n a0
  rw [← hn2] at h
  have HH := Aside0.mk h
  have HN := Aside0.mk (And.intro hn0 hn1)
  clear hn0 hn1 hn2 hP h
  have HM := fun W => run_make_row' (P := Tryd.prog) 75 4 (.bool false) 1 Tryd.underlying75 infoBool rfl .i64 .i64 n (by have := HN.out; omega) (by have := HN.out; omega) W
  go_enter Tryd.func10, Tryd.ntmps10
  go_wp2_with (first
    | (go_at_call 11; (with_reducible refine (posthorselaw07_speaks.calls k true _ HL_.out HP.out).mono ?_); rintro e w1 ⟨rfl, hb1⟩; have HB1 := Aside0.mk hb1; clear hb1)
    | (go_at_call 12; (with_reducible refine (setNew _ _ (show (1 : Int) ≤ (n : Int) by have := HN.out; omega) (show (n : Int) ≤ 4000 by have := HN.out; omega)).mono ?_); rintro e w2 ⟨g, tb, rfl, hs2, hb2⟩; have HS2 := Aside0.mk (show SetIs w.heap.size g tb n [] (List.replicate n false) w2 from SetIs.lower hs2 HB1.out.size); have HB2 := Aside0.mk (below_step HB1.out hb2); clear hs2 hb2))
  have HG := Aside0.mk (And.intro (blk_lt HS2.out.2.1) (blk_lt HS2.out.2.2))
  have HR3 := Aside0.mk (madeR w2 n (by have := HN.out; omega))
  have HS3 := Aside0.mk (HS2.out.below (below_alloc (Below.refl _ _) (.cells (madeCells #[.bool false] n) 4)))
  have HB3 := Aside0.mk (below_alloc HB2.out (.cells (madeCells #[.bool false] n) 4))
  clear HS2 HM HB1
  have HZ := Aside0.mk (show w2.heap.size ≤ (w2.alloc (.cells (madeCells #[.bool false] n) 4)).heap.size by simp)
  generalize w2.alloc (.cells (madeCells #[.bool false] n) 4) = w3 at *
  generalize w2.heap.size = N0 at *
  clear HB2
  go_loopg [7, 8] k (fun kq v7 v8 w' => ∃ (i c : Nat) (A : Option Addr) (L : List Bool), v7 = .slice A L.length c ∧ v8 = .int .i64 (i : Int) ∧ Aside0 (i ≤ 40 ∧ kq ≤ k ∧ N0 ≤ w'.heap.size ∧ L.length ≤ c ∧ L.length = n) ∧ Aside0 (posthorselaw07_BitsPlays.l0 kq l1 L i = some true) ∧ Aside0 (SetIs w.heap.size g tb n [] L w') ∧ Aside0 (Kd.R Kd.bool 4 w' N0 (fun _ => True) (.slice A L.length c) L) ∧ Aside0 (Below w.heap.size w w'))
  case atStart => exact ⟨0, n, _, List.replicate n false, by rw [List.length_replicate], rfl, ⟨by omega, Nat.le_refl _, HZ.out, by rw [List.length_replicate]; exact Nat.le_refl _, List.length_replicate⟩, HH, HS3, ⟨by rw [List.length_replicate]; exact HR3.out⟩, HB3⟩
  case round =>
    clear HH HS3 HR3 HB3 HZ
    obtain ⟨i, c, A, L, rfl, rfl, HI, HA, HS, HR, HB⟩ := hrel
    obtain ⟨k1, rfl⟩ : ∃ k1, gk = k1 + 1 := by
      cases gk with
      | zero => exact absurd HA.out (by rw [posthorselaw07_BitsPlays.l0]; simp)
      | succ k1 => exact ⟨k1, rfl⟩
    have H := HA.out
    clear HA
    rw [posthorselaw07_BitsPlays.l0] at H
    by_cases cc : i < l1.length ∧ i < 40
    · rw [if_pos cc] at H
      obtain ⟨c3, c4⟩ := cc
      have c3b : decide ((i : Int) < (l1.length : Int)) = true := decide_eq_true (by omega)
      have c4b : decide ((i : Int) < 40) = true := decide_eq_true (by omega)
      obtain ⟨ad, rfl, hx0, hx1, hx2⟩ := at_T36 HR1.out (i : Int) (by omega) (by omega)
      have q1 := eq_true (show (0 : Int) ≤ (i : Int) by omega)
      have q2 := eq_true (show (i : Int) < (l1.length : Int) by omega)
      have q3 := eq_true c3
      have hi1 : wrap64 ((i : Int) + 1) = ((i + 1 : Nat) : Int) := by unfold wrap64; omega
      have HI1 := Aside0.mk hi1
      have HI40 := Aside0.mk c4
      clear hi1
      rw [show ((i : Int)).toNat = i from rfl] at hx0 hx1 hx2
      replace hx0 := (HB.out.cell (World.block_lt_of_cell? w _ hx0)).trans hx0
      replace hx1 := (HB.out.cell (World.block_lt_of_cell? w _ hx1)).trans hx1
      replace hx2 := (HB.out.cell (World.block_lt_of_cell? w _ hx2)).trans hx2
      generalize rd_T36 l1 (i : Int) = x at *
      obtain ⟨f0, f1, f2⟩ := x
      obtain ⟨M, hM, H⟩ := Option.bind_eq_some_iff.mp H
      obtain ⟨cf, hF, H⟩ := Option.bind_eq_some_iff.mp H
      by_cases hcf : cf = ((M.count false : Nat) : Int)
      case neg => rw [if_neg hcf] at H; cases H
      rw [if_pos hcf] at H
      subst hcf
      have HF := Aside0.mk hF
      have H' := Aside0.mk H
      clear H hF c3 c4
      have HX4 := Aside0.mk (heap_alloc_new wr (.cells #[.int .i64 f0, .int .i64 f1, .int .i64 f2] 36))
      have HS4 := Aside0.mk (HS.out.below (below_alloc (Below.refl _ _) (.cells #[.int .i64 f0, .int .i64 f1, .int .i64 f2] 36)))
      have HR4 := Aside0.mk (Kd.R_alloc HR.out (.cells #[.int .i64 f0, .int .i64 f1, .int .i64 f2] 36))
      have HB4 := Aside0.mk (below_alloc HB.out (.cells #[.int .i64 f0, .int .i64 f1, .int .i64 f2] 36))
      have HXG := Aside0.mk (And.intro (show wr.heap.size ≠ g by have := HG.out; have := HI.out; omega) (show wr.heap.size ≠ tb by have := HG.out; have := HI.out; omega))
      have hcz0 := (blk_cell HX4.out 0).trans rfl
      have hcz1 := (blk_cell HX4.out 1).trans rfl
      have hcz2 := (blk_cell HX4.out 2).trans rfl
      clear HS HR HB
      unfold playStep at hM
      have hsel : (wrap64 (f0.tmod 4 + 4)).tmod 4 = playSel f0 := rfl
      simp only at hM
      generalize playSel f0 = q at *
      by_cases h2 : q = 2
      · subst h2
        rw [if_pos rfl] at hM
        obtain ⟨m, hm, hM⟩ := Option.bind_eq_some_iff.mp hM
        by_cases hme : m = (turnE L f1 f2 false 8).getD 0
        case neg => rw [if_neg hme] at hM; cases hM
        rw [if_pos hme] at hM
        have HMe := Aside0.mk (hme ▸ code_is (turnE L f1 f2 false 8))
        have HMay := Aside0.mk hm
        clear hm hme
        have n1 : (m != m) = false := by simp
        by_cases hm0 : m = 0
        · subst hm0
          rw [if_pos rfl] at hM
          obtain ⟨T, hT, hM⟩ := Option.bind_eq_some_iff.mp hM
          by_cases hTT : turnL L f1 f2 false 8 = T
          case neg => rw [if_neg hTT] at hM; cases hM
          rw [if_pos hTT] at hM
          obtain rfl := Option.some.inj hM
          have HT := Aside0.mk hT
          have HTL := Aside0.mk hTT
          have HTn := Aside0.mk (hTT ▸ turnL_len_ L f1 f2 false 8 HI.out.2.2.2.2)
          clear hM hT hTT
          go_wp2_with (first
            | (go_at_call 36; (with_reducible refine (posthorseref07_May.calls k1 A c L f1 f2 true 0 _ (Kd.R_reads' HR4.out).2.2 HI.out.2.2.2.1 HMay.out).mono ?_); rintro e_ w5 ⟨rfl, hd5⟩; have HS5 := Aside0.mk (HS4.out.below hd5.below); have HR5 := Aside0.mk (Kd.R_below HR4.out hd5.below); have HB5 := Aside0.mk (below_step HB4.out hd5.below); have HX5 := Aside0.mk (blk_below HX4.out hd5.below); have hcy1 := (blk_cell HX5.out 1).trans rfl; have hcy2 := (blk_cell HX5.out 2).trans rfl; clear hd5)
            | (go_at_call 15; (with_reducible refine (setGive f1 f2 _ HS5.out).mono ?_); rintro e_ w6 ⟨rfl, hs6, hb6, hk6⟩; rw [HTL.out] at hs6; have HS6 := Aside0.mk hs6; have HR6 := Aside0.mk (R_keep2 HR5.out hk6 HG.out.1 HG.out.2); have HB6 := Aside0.mk (HB5.out.trans hb6); have HX6 := Aside0.mk ((hk6 _ HXG.out.1 HXG.out.2).trans HX5.out); clear hs6 hb6 hk6)
            | (go_at_call 30; (with_reducible refine (posthorselaw07_code.calls (turnE L f1 f2 false 8) 0 _ (Laid.below HL_.out HB6.out) HMe.out).mono ?_); rintro e_ w7 ⟨rfl, hb7⟩; have HS7 := Aside0.mk (HS6.out.below hb7); have HR7 := Aside0.mk (Kd.R_below HR6.out hb7); have HB7 := Aside0.mk (below_step HB6.out hb7); have HX7 := Aside0.mk (blk_below HX6.out hb7); have hcx1 := (blk_cell HX7.out 1).trans rfl; have hcx2 := (blk_cell HX7.out 2).trans rfl; have HZ7 := Aside0.mk (Nat.le_trans HI.out.2.2.1 (Nat.le_of_lt (blk_lt HX7.out))); clear hb7)
            | (go_at_call 37; (with_reducible refine (posthorseref07_Turned.calls k1 A c L f1 f2 _ _ (Kd.R_reads' HR7.out).2.2 HI.out.2.2.2.1 HT.out).mono ?_); rintro e_ w8 ⟨v0_, rfl, hr8, hb8⟩; obtain ⟨A', c', rfl, hc', hC'⟩ := Kd.R_reads hr8; have HC' := Aside0.mk hc'; have HS8 := Aside0.mk (HS7.out.below hb8); have HR8 := Aside0.mk (Kd.R_lower hr8 HZ7.out); have HB8 := Aside0.mk (below_step HB7.out hb8); have HZ8 := Aside0.mk (Nat.le_trans HZ7.out hb8.size); clear hb8 hr8 hc' hC')
            | (go_at_call 34; (with_reducible refine (sameT k1 A' c' _ HS8.out (Kd.R_reads' HR8.out).2.2 HC'.out HF.out).mono ?_); rintro e_ w9 ⟨rfl, hb9⟩; have HS9 := Aside0.mk (HS8.out.below hb9); have HR9 := Aside0.mk (Kd.R_below HR8.out hb9); have HB9 := Aside0.mk (below_step HB8.out hb9); have HZ9 := Aside0.mk (Nat.le_trans HZ8.out hb9.size); clear hb9))
          go_roundg k1
          case measure => omega
          case rel => exact ⟨i + 1, c', A', _, rfl, (by first | rfl | rw [HI1.out]), ⟨by have := HI40.out; omega, by have := HI.out; omega, HZ9.out, HC'.out, HTn.out⟩, H', HS9, HR9, HB9⟩
        · rw [if_neg hm0] at hM
          by_cases hTT : turnL L f1 f2 false 8 = L
          case neg => rw [if_neg hTT] at hM; cases hM
          rw [if_pos hTT] at hM
          obtain rfl := Option.some.inj hM
          have HTL := Aside0.mk hTT
          have n2 : (m == 0) = false := beq_eq_false_iff_ne.2 hm0
          clear hM hTT hm0
          go_wp2_with (first
            | (go_at_call 36; (with_reducible refine (posthorseref07_May.calls k1 A c L f1 f2 true m _ (Kd.R_reads' HR4.out).2.2 HI.out.2.2.2.1 HMay.out).mono ?_); rintro e_ w5 ⟨rfl, hd5⟩; have HS5 := Aside0.mk (HS4.out.below hd5.below); have HR5 := Aside0.mk (Kd.R_below HR4.out hd5.below); have HB5 := Aside0.mk (below_step HB4.out hd5.below); have HX5 := Aside0.mk (blk_below HX4.out hd5.below); have hcy1 := (blk_cell HX5.out 1).trans rfl; have hcy2 := (blk_cell HX5.out 2).trans rfl; clear hd5)
            | (go_at_call 15; (with_reducible refine (setGive f1 f2 _ HS5.out).mono ?_); rintro e_ w6 ⟨rfl, hs6, hb6, hk6⟩; rw [HTL.out] at hs6; have HS6 := Aside0.mk hs6; have HR6 := Aside0.mk (R_keep2 HR5.out hk6 HG.out.1 HG.out.2); have HB6 := Aside0.mk (HB5.out.trans hb6); have HX6 := Aside0.mk ((hk6 _ HXG.out.1 HXG.out.2).trans HX5.out); clear hs6 hb6 hk6)
            | (go_at_call 30; (with_reducible refine (posthorselaw07_code.calls (turnE L f1 f2 false 8) m _ (Laid.below HL_.out HB6.out) HMe.out).mono ?_); rintro e_ w7 ⟨rfl, hb7⟩; have HS7 := Aside0.mk (HS6.out.below hb7); have HR7 := Aside0.mk (Kd.R_below HR6.out hb7); have HB7 := Aside0.mk (below_step HB6.out hb7); have HX7 := Aside0.mk (blk_below HX6.out hb7); have HZ7 := Aside0.mk (Nat.le_trans HI.out.2.2.1 (Nat.le_of_lt (blk_lt HX7.out))); clear hb7)
            | (go_at_call 34; (with_reducible refine (sameT k1 A c _ HS7.out (Kd.R_reads' HR7.out).2.2 HI.out.2.2.2.1 HF.out).mono ?_); rintro e_ w9 ⟨rfl, hb9⟩; have HS9 := Aside0.mk (HS7.out.below hb9); have HR9 := Aside0.mk (Kd.R_below HR7.out hb9); have HB9 := Aside0.mk (below_step HB7.out hb9); have HZ9 := Aside0.mk (Nat.le_trans HZ7.out hb9.size); clear hb9))
          go_roundg k1
          case measure => omega
          case rel => exact ⟨i + 1, c, A, _, rfl, (by first | rfl | rw [HI1.out]), ⟨by have := HI40.out; omega, by have := HI.out; omega, HZ9.out, HI.out.2.2.2.1, HI.out.2.2.2.2⟩, H', HS9, HR9, HB9⟩
      · rw [if_neg h2] at hM
        have h2b : (q == 2) = false := beq_eq_false_iff_ne.2 h2
        by_cases h3 : q = 3
        · subst h3
          rw [if_pos rfl] at hM
          obtain ⟨z, hz, hM⟩ := Option.bind_eq_some_iff.mp hM
          by_cases hrn : runOf L f2 f1 = (max z 0, decide (0 ≤ z))
          case neg => rw [if_neg hrn] at hM; cases hM
          rw [if_pos hrn] at hM
          obtain rfl := Option.some.inj hM
          have HZ1 := Aside0.mk hz
          have s1 : ((3 : Int) == 2) = false := rfl
          by_cases hz0 : 0 ≤ z
          · rw [show max z 0 = z by omega, decide_eq_true hz0] at hrn
            have HRN := Aside0.mk hrn
            have d1 : decide (0 ≤ z) = true := decide_eq_true hz0
            have d2 : decide (z < 0) = false := decide_eq_false (by omega)
            have d3 := eq_false (show ¬ z < 0 by omega)
            have n2 : (z != z) = false := by simp
            clear hM hz hrn h2 h2b hz0
            go_wp2_with (first
              | (go_at_call 19; (with_reducible refine (setRunC f2 f1 _ HS4.out).mono ?_); rintro e_ w5 ⟨rfl, rfl⟩; simp only [HRN.out])
              | (go_at_call 38; (with_reducible refine (posthorseref07_Run.calls k1 A c L f2 f1 z _ (Kd.R_reads' HR4.out).2.2 HI.out.2.2.2.1 HZ1.out).mono ?_); rintro e_ w6 ⟨rfl, hd6⟩; have HS6 := Aside0.mk (HS4.out.below hd6.below); have HR6 := Aside0.mk (Kd.R_below HR4.out hd6.below); have HB6 := Aside0.mk (below_step HB4.out hd6.below); have HX6 := Aside0.mk (blk_below HX4.out hd6.below); clear hd6)
              | (go_at_call 34; (with_reducible refine (sameT k1 A c _ HS6.out (Kd.R_reads' HR6.out).2.2 HI.out.2.2.2.1 HF.out).mono ?_); rintro e_ w9 ⟨rfl, hb9⟩; have HS9 := Aside0.mk (HS6.out.below hb9); have HR9 := Aside0.mk (Kd.R_below HR6.out hb9); have HB9 := Aside0.mk (below_step HB6.out hb9); have HZ9 := Aside0.mk (Nat.le_trans (Nat.le_of_lt (blk_lt HX6.out)) hb9.size); clear hb9))
            go_roundg k1
            case measure => omega
            case rel => exact ⟨i + 1, c, A, L, rfl, (by first | rfl | rw [HI1.out]), ⟨by have := HI40.out; omega, by have := HI.out; omega, Nat.le_trans HI.out.2.2.1 HZ9.out, HI.out.2.2.2.1, HI.out.2.2.2.2⟩, H', HS9, HR9, HB9⟩
          · rw [show max z 0 = 0 by omega, decide_eq_false hz0] at hrn
            have HRN := Aside0.mk hrn
            have d1 : decide (0 ≤ z) = false := decide_eq_false hz0
            have d2 : decide (z < 0) = true := decide_eq_true (by omega)
            have d3 := eq_true (show z < 0 by omega)
            clear hM hz hrn h2 h2b hz0
            go_wp2_with (first
              | (go_at_call 19; (with_reducible refine (setRunC f2 f1 _ HS4.out).mono ?_); rintro e_ w5 ⟨rfl, rfl⟩; simp only [HRN.out])
              | (go_at_call 38; (with_reducible refine (posthorseref07_Run.calls k1 A c L f2 f1 z _ (Kd.R_reads' HR4.out).2.2 HI.out.2.2.2.1 HZ1.out).mono ?_); rintro e_ w6 ⟨rfl, hd6⟩; have HS6 := Aside0.mk (HS4.out.below hd6.below); have HR6 := Aside0.mk (Kd.R_below HR4.out hd6.below); have HB6 := Aside0.mk (below_step HB4.out hd6.below); have HX6 := Aside0.mk (blk_below HX4.out hd6.below); clear hd6)
              | (go_at_call 34; (with_reducible refine (sameT k1 A c _ HS6.out (Kd.R_reads' HR6.out).2.2 HI.out.2.2.2.1 HF.out).mono ?_); rintro e_ w9 ⟨rfl, hb9⟩; have HS9 := Aside0.mk (HS6.out.below hb9); have HR9 := Aside0.mk (Kd.R_below HR6.out hb9); have HB9 := Aside0.mk (below_step HB6.out hb9); have HZ9 := Aside0.mk (Nat.le_trans (Nat.le_of_lt (blk_lt HX6.out)) hb9.size); clear hb9))
            go_roundg k1
            case measure => omega
            case rel => exact ⟨i + 1, c, A, L, rfl, (by first | rfl | rw [HI1.out]), ⟨by have := HI40.out; omega, by have := HI.out; omega, Nat.le_trans HI.out.2.2.1 HZ9.out, HI.out.2.2.2.1, HI.out.2.2.2.2⟩, H', HS9, HR9, HB9⟩
        · rw [if_neg h3] at hM
          have h3b : (q == 3) = false := beq_eq_false_iff_ne.2 h3
          obtain ⟨m, hm, hM⟩ := Option.bind_eq_some_iff.mp hM
          by_cases hme : m = (turnE L f1 f2 true 9).getD 0
          case neg => rw [if_neg hme] at hM; cases hM
          rw [if_pos hme] at hM
          have HMe := Aside0.mk (hme ▸ code_is (turnE L f1 f2 true 9))
          have HMay := Aside0.mk hm
          clear hm hme
          have n1 : (m != m) = false := by simp
          by_cases hm0 : m = 0
          · subst hm0
            rw [if_pos rfl] at hM
            obtain ⟨T, hT, hM⟩ := Option.bind_eq_some_iff.mp hM
            by_cases hTT : turnL L f1 f2 true 9 = T
            case neg => rw [if_neg hTT] at hM; cases hM
            rw [if_pos hTT] at hM
            obtain rfl := Option.some.inj hM
            have HT := Aside0.mk hT
            have HTL := Aside0.mk hTT
            have HTn := Aside0.mk (hTT ▸ turnL_len_ L f1 f2 true 9 HI.out.2.2.2.2)
            clear hM hT hTT
            go_wp2_with (first
              | (go_at_call 36; (with_reducible refine (posthorseref07_May.calls k1 A c L f1 f2 false 0 _ (Kd.R_reads' HR4.out).2.2 HI.out.2.2.2.1 HMay.out).mono ?_); rintro e_ w5 ⟨rfl, hd5⟩; have HS5 := Aside0.mk (HS4.out.below hd5.below); have HR5 := Aside0.mk (Kd.R_below HR4.out hd5.below); have HB5 := Aside0.mk (below_step HB4.out hd5.below); have HX5 := Aside0.mk (blk_below HX4.out hd5.below); have hcy1 := (blk_cell HX5.out 1).trans rfl; have hcy2 := (blk_cell HX5.out 2).trans rfl; clear hd5)
              | (go_at_call 13; (with_reducible refine (setTake f1 f2 _ HS5.out).mono ?_); rintro e_ w6 ⟨rfl, hs6, hb6, hk6⟩; rw [HTL.out] at hs6; have HS6 := Aside0.mk hs6; have HR6 := Aside0.mk (R_keep2 HR5.out hk6 HG.out.1 HG.out.2); have HB6 := Aside0.mk (HB5.out.trans hb6); have HX6 := Aside0.mk ((hk6 _ HXG.out.1 HXG.out.2).trans HX5.out); clear hs6 hb6 hk6)
              | (go_at_call 30; (with_reducible refine (posthorselaw07_code.calls (turnE L f1 f2 true 9) 0 _ (Laid.below HL_.out HB6.out) HMe.out).mono ?_); rintro e_ w7 ⟨rfl, hb7⟩; have HS7 := Aside0.mk (HS6.out.below hb7); have HR7 := Aside0.mk (Kd.R_below HR6.out hb7); have HB7 := Aside0.mk (below_step HB6.out hb7); have HX7 := Aside0.mk (blk_below HX6.out hb7); have hcx1 := (blk_cell HX7.out 1).trans rfl; have hcx2 := (blk_cell HX7.out 2).trans rfl; have HZ7 := Aside0.mk (Nat.le_trans HI.out.2.2.1 (Nat.le_of_lt (blk_lt HX7.out))); clear hb7)
              | (go_at_call 37; (with_reducible refine (posthorseref07_Turned.calls k1 A c L f1 f2 _ _ (Kd.R_reads' HR7.out).2.2 HI.out.2.2.2.1 HT.out).mono ?_); rintro e_ w8 ⟨v0_, rfl, hr8, hb8⟩; obtain ⟨A', c', rfl, hc', hC'⟩ := Kd.R_reads hr8; have HC' := Aside0.mk hc'; have HS8 := Aside0.mk (HS7.out.below hb8); have HR8 := Aside0.mk (Kd.R_lower hr8 HZ7.out); have HB8 := Aside0.mk (below_step HB7.out hb8); have HZ8 := Aside0.mk (Nat.le_trans HZ7.out hb8.size); clear hb8 hr8 hc' hC')
              | (go_at_call 34; (with_reducible refine (sameT k1 A' c' _ HS8.out (Kd.R_reads' HR8.out).2.2 HC'.out HF.out).mono ?_); rintro e_ w9 ⟨rfl, hb9⟩; have HS9 := Aside0.mk (HS8.out.below hb9); have HR9 := Aside0.mk (Kd.R_below HR8.out hb9); have HB9 := Aside0.mk (below_step HB8.out hb9); have HZ9 := Aside0.mk (Nat.le_trans HZ8.out hb9.size); clear hb9))
            go_roundg k1
            case measure => omega
            case rel => exact ⟨i + 1, c', A', _, rfl, (by first | rfl | rw [HI1.out]), ⟨by have := HI40.out; omega, by have := HI.out; omega, HZ9.out, HC'.out, HTn.out⟩, H', HS9, HR9, HB9⟩
          · rw [if_neg hm0] at hM
            by_cases hTT : turnL L f1 f2 true 9 = L
            case neg => rw [if_neg hTT] at hM; cases hM
            rw [if_pos hTT] at hM
            obtain rfl := Option.some.inj hM
            have HTL := Aside0.mk hTT
            have n2 : (m == 0) = false := beq_eq_false_iff_ne.2 hm0
            clear hM hTT hm0
            go_wp2_with (first
              | (go_at_call 36; (with_reducible refine (posthorseref07_May.calls k1 A c L f1 f2 false m _ (Kd.R_reads' HR4.out).2.2 HI.out.2.2.2.1 HMay.out).mono ?_); rintro e_ w5 ⟨rfl, hd5⟩; have HS5 := Aside0.mk (HS4.out.below hd5.below); have HR5 := Aside0.mk (Kd.R_below HR4.out hd5.below); have HB5 := Aside0.mk (below_step HB4.out hd5.below); have HX5 := Aside0.mk (blk_below HX4.out hd5.below); have hcy1 := (blk_cell HX5.out 1).trans rfl; have hcy2 := (blk_cell HX5.out 2).trans rfl; clear hd5)
              | (go_at_call 13; (with_reducible refine (setTake f1 f2 _ HS5.out).mono ?_); rintro e_ w6 ⟨rfl, hs6, hb6, hk6⟩; rw [HTL.out] at hs6; have HS6 := Aside0.mk hs6; have HR6 := Aside0.mk (R_keep2 HR5.out hk6 HG.out.1 HG.out.2); have HB6 := Aside0.mk (HB5.out.trans hb6); have HX6 := Aside0.mk ((hk6 _ HXG.out.1 HXG.out.2).trans HX5.out); clear hs6 hb6 hk6)
              | (go_at_call 30; (with_reducible refine (posthorselaw07_code.calls (turnE L f1 f2 true 9) m _ (Laid.below HL_.out HB6.out) HMe.out).mono ?_); rintro e_ w7 ⟨rfl, hb7⟩; have HS7 := Aside0.mk (HS6.out.below hb7); have HR7 := Aside0.mk (Kd.R_below HR6.out hb7); have HB7 := Aside0.mk (below_step HB6.out hb7); have HX7 := Aside0.mk (blk_below HX6.out hb7); have HZ7 := Aside0.mk (Nat.le_trans HI.out.2.2.1 (Nat.le_of_lt (blk_lt HX7.out))); clear hb7)
              | (go_at_call 34; (with_reducible refine (sameT k1 A c _ HS7.out (Kd.R_reads' HR7.out).2.2 HI.out.2.2.2.1 HF.out).mono ?_); rintro e_ w9 ⟨rfl, hb9⟩; have HS9 := Aside0.mk (HS7.out.below hb9); have HR9 := Aside0.mk (Kd.R_below HR7.out hb9); have HB9 := Aside0.mk (below_step HB7.out hb9); have HZ9 := Aside0.mk (Nat.le_trans HZ7.out hb9.size); clear hb9))
            go_roundg k1
            case measure => omega
            case rel => exact ⟨i + 1, c, A, _, rfl, (by first | rfl | rw [HI1.out]), ⟨by have := HI40.out; omega, by have := HI.out; omega, HZ9.out, HI.out.2.2.2.1, HI.out.2.2.2.2⟩, H', HS9, HR9, HB9⟩
    · rw [if_neg cc] at H
      have hc : (i < l1.length ∧ ¬ i < 40) ∨ ¬ i < l1.length := by omega
      clear cc
      obtain ⟨⟨ps, pe⟩, hPut, H⟩ := Option.bind_eq_some_iff.mp H
      by_cases hpe : pe = none
      case neg => rw [if_neg hpe] at H; cases H
      subst hpe
      rw [if_pos rfl] at H
      obtain ⟨qg, hGet, H⟩ := Option.bind_eq_some_iff.mp H
      by_cases hqg : qg = (some L, 0)
      case neg => rw [if_neg hqg] at H; cases H
      subst hqg
      rw [if_pos rfl] at H
      obtain ⟨tt, hRef, H⟩ := Option.bind_eq_some_iff.mp H
      by_cases htt : tt = ps
      case neg => rw [if_neg htt] at H; cases H
      subst htt
      rw [if_pos rfl] at H
      obtain ⟨cf, hF, H⟩ := Option.bind_eq_some_iff.mp H
      by_cases hcf : cf = ((L.count false : Nat) : Int)
      case neg => rw [if_neg hcf] at H; cases H
      subst hcf
      have hLn : (L.length : Int) = (n : Int) := by have := HI.out; omega
      rw [hLn] at hGet
      have HPut := Aside0.mk hPut
      have HGet := Aside0.mk hGet
      have HRef := Aside0.mk hRef
      have HF := Aside0.mk hF
      clear H hPut hGet hRef hF hLn
      rcases hc with ⟨g1, g2⟩ | g1
      · have d1 : decide ((i : Int) < (l1.length : Int)) = true := decide_eq_true (by omega)
        have d2 : decide ((i : Int) < 40) = false := decide_eq_false (by omega)
        have d3 := eq_true g1
        have d4 := eq_false g2
        have nb : (tt.toList == tt.toList) = true := by simp
        go_wp2_with (first
          | (go_at_call 29; (with_reducible refine (setPut k1 tt none _ (Laid.below HL_.out HB.out) HS.out HPut.out).mono ?_); rintro e_ w5 ⟨rfl, hb5⟩; have HR5 := Aside0.mk (Kd.R_below HR.out hb5); have HB5 := Aside0.mk (below_step HB.out hb5); simp only [errW_none]; clear hb5)
          | (go_at_call 32; (with_reducible refine (setGet k1 tt (n : Int) _ _ (Laid.below HL_.out HB5.out) HGet.out).mono ?_); rintro e_ w6 ⟨⟨g2_, tb2, c2, rfl, hs6⟩, hb6⟩; have HS6 := Aside0.mk hs6; have HR6 := Aside0.mk (Kd.R_below HR5.out hb6); have HB6 := Aside0.mk (below_step HB5.out hb6); clear hb6 hs6)
          | (go_at_call 35; (with_reducible refine (posthorseref07_Put.calls k1 A c L tt _ (Kd.R_reads' HR6.out).2.2 HI.out.2.2.2.1 HRef.out).mono ?_); rintro e_ w7 ⟨rfl, hb7⟩; have HS7 := Aside0.mk (HS6.out.below hb7); have HR7 := Aside0.mk (Kd.R_below HR6.out hb7); have HB7 := Aside0.mk (below_step HB6.out hb7); clear hb7)
          | (go_at_call 34; (with_reducible refine (sameT k1 A c _ HS7.out (Kd.R_reads' HR7.out).2.2 HI.out.2.2.2.1 HF.out).mono ?_); rintro e_ w8 ⟨rfl, hb8⟩; have HB8 := Aside0.mk (below_step HB7.out hb8); clear hb8))
        go_ret
        exact ⟨by first | rfl | simp, HB8.out⟩
      · have d1 : decide ((i : Int) < (l1.length : Int)) = false := decide_eq_false (by omega)
        have d3 := eq_false g1
        have nb : (tt.toList == tt.toList) = true := by simp
        go_wp2_with (first
          | (go_at_call 29; (with_reducible refine (setPut k1 tt none _ (Laid.below HL_.out HB.out) HS.out HPut.out).mono ?_); rintro e_ w5 ⟨rfl, hb5⟩; have HR5 := Aside0.mk (Kd.R_below HR.out hb5); have HB5 := Aside0.mk (below_step HB.out hb5); simp only [errW_none]; clear hb5)
          | (go_at_call 32; (with_reducible refine (setGet k1 tt (n : Int) _ _ (Laid.below HL_.out HB5.out) HGet.out).mono ?_); rintro e_ w6 ⟨⟨g2_, tb2, c2, rfl, hs6⟩, hb6⟩; have HS6 := Aside0.mk hs6; have HR6 := Aside0.mk (Kd.R_below HR5.out hb6); have HB6 := Aside0.mk (below_step HB5.out hb6); clear hb6 hs6)
          | (go_at_call 35; (with_reducible refine (posthorseref07_Put.calls k1 A c L tt _ (Kd.R_reads' HR6.out).2.2 HI.out.2.2.2.1 HRef.out).mono ?_); rintro e_ w7 ⟨rfl, hb7⟩; have HS7 := Aside0.mk (HS6.out.below hb7); have HR7 := Aside0.mk (Kd.R_below HR6.out hb7); have HB7 := Aside0.mk (below_step HB6.out hb7); clear hb7)
          | (go_at_call 34; (with_reducible refine (sameT k1 A c _ HS7.out (Kd.R_reads' HR7.out).2.2 HI.out.2.2.2.1 HF.out).mono ?_); rintro e_ w8 ⟨rfl, hb8⟩; have HB8 := Aside0.mk (below_step HB7.out hb8); clear hb8))
        go_ret
        exact ⟨by first | rfl | simp, HB8.out⟩


end Go.Proofs.YtngokgliagkohaaDoor.VBitsPlays
