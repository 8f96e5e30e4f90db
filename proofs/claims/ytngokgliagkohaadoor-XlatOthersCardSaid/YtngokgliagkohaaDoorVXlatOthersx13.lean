/- Contracts of functions of this seat: each call comes to what its Lean function computes; no condition beyond what each theorem states. Printed by a program of this session's own laid over the kit's printer. -/
import Derived.Test.YtngokgliagkohaaDoorVXlatOthersx0
import Derived.Test.YtngokgliagkohaaDoorVXlatOthersx2
import Derived.Test.YtngokgliagkohaaDoorVXlatOthersx3
import Derived.Test.YtngokgliagkohaaDoorVXlatOthersx4
import Derived.Test.YtngokgliagkohaaDoorVXlatOthersx5
import Derived.Test.YtngokgliagkohaaDoorVXlatOthersx7
import Derived.Test.YtngokgliagkohaaDoorVXlatOthersx11
import Derived.Test.YtngokgliagkohaaDoorVXlatOthersx12
namespace Go.Proofs.YtngokgliagkohaaDoor.VXlatOthers
open Go.RowKit Go.Proofs.YtngokgliagkohaaDoorW.PrintWords Go.Proofs.YtngokgliagkohaaDoorW.PrintLast Go.Proofs.YtngokgliagkohaaDoorW.PrintMore
attribute [local go_sem] max2_int min2_int max_two min_two max_three min_three max_four min_four   -- for this text's walks alone
set_option linter.unusedVariables false
set_option linter.unusedSimpArgs false

-- @GIVEN posthorselaw23_XlatOthers
/-! ### posthorselaw23_XlatOthers: by hand -/
abbrev XAct := S54
/-- The other file; which act. -/
def oFile (f : Int) : Int := if f = -1 then 1 else f
def sel6 (n : Int) : Int := (wrap64 (n.tmod 6 + 6)).tmod 6
/-- One act on another file. -/
def othStep (k : Nat) (m : List (Int × XEnt)) (x : XAct) : Option (List (Int × XEnt)) :=
  if sel6 x.f0 = 2 ∨ sel6 x.f0 = 3 ∨ sel6 x.f0 = 4 then (findX k m (oFile x.f1) x.f2 x.f3).bind fun y => some y.2.2
  else if sel6 x.f0 = 5 then some (dropE (oFile x.f1) m)
  else (posthorselaw23_made.f k x.f3 x.f4).bind fun q => if q.2.1.length < 8796093022208 then some (putE (oFile x.f1) (q.1, q.2.1) m) else none
/-- What is then told of one's own file. -/
def othEnd (k : Nat) (bl : Int) (m : List (Int × XEnt)) : Option (List (Int × XEnt)) :=
  (findX k m (-1) bl 5).bind fun y => (inode_Map.f k 5 [⟨7, 9⟩] bl).bind fun t => if decide (y.2.1 = none) = t.2 ∧ y.1 = t.1 then some y.2.2 else none
def posthorselaw23_XlatOthers.l0 : Nat → List XAct → Int → List (Int × XEnt) → Nat → Option Bool
  | 0, _, _, _, _ => none
  | k + 1, l, bl, m, i => if i < l.length ∧ i < 40 then (othStep k m (rd_T54 l (i : Int))).bind fun m1 => (othEnd k bl m1).bind fun m2 => posthorselaw23_XlatOthers.l0 k l bl m2 (i + 1) else if verE (-1) m = (5, true) then some true else none
def posthorselaw23_XlatOthers.f (k : Nat) (l0 : List XAct) (a1 : Int) : Option Bool := (posthorselaw23_speaks.f k).bind fun _ => posthorselaw23_XlatOthers.l0 k l0 a1 (putE (-1) (5, [⟨7, 9⟩]) []) 0
theorem oth_r : ∀ (k : Nat) (l : List XAct) (bl : Int) (m : List (Int × XEnt)) (i : Nat) (r : Bool), posthorselaw23_XlatOthers.l0 k l bl m i = some r → r = true
  | 0, _, _, _, _, _, h => by rw [posthorselaw23_XlatOthers.l0] at h; cases h
  | k + 1, l, bl, m, i, r, h => by
    rw [posthorselaw23_XlatOthers.l0] at h
    split at h
    · obtain ⟨m1, _, h⟩ := Option.bind_eq_some_iff.mp h
      obtain ⟨m2, _, h⟩ := Option.bind_eq_some_iff.mp h
      exact oth_r k l bl m2 (i + 1) r h
    · split at h
      · exact (Option.some.inj h).symm
      · cases h
theorem mapN (k : Nat) (v : Int) (A : Option Addr) (c n : Nat) (xs : List XExt) (b s : Int) (t : Bool) (w : World) (hn : xs.length = n) (hC : Kd.C k63 w A n xs) (hc : n ≤ c) (h : inode_Map.f k v xs b = some (s, t)) :
    Calls Tryd.prog 26 #[.agg #[.int .i64 v, .slice A n c], .int .i64 b] w fun e w' => e = .returned (.tuple #[.int .i64 s, .bool t]) ∧ Below w.heap.size w w' := by
  subst hn
  exact inode_Map.calls k v A c xs b s t w hC hc h
theorem cDropS (B g : Nat) (m : List (Int × XEnt)) (f : Int) (w : World) (h : CacheSome B g m w) :
    Calls Tryd.prog 27 #[.pointer (some ⟨g, 0, none⟩), .int .i64 f] w fun e w' => e = .returned (.tuple #[]) ∧ CacheSome B g (dropE f m) w' ∧ Below B w w' ∧ CKeep w w' := by
  obtain ⟨a, b, c, h⟩ := h
  exact (cDrop B g m a b c f w h).mono (by rintro e w' ⟨h1, h2, h3⟩; exact ⟨h1, ⟨_, _, _, h2⟩, h3⟩)
set_option maxHeartbeats 32000000 in
set_option maxRecDepth 100000 in
theorem posthorselaw23_XlatOthers.calls (k : Nat) (A0 : Option Addr) (c0 : Nat) (l0 : List XAct) (a1 : Int) (r : Bool) (w : World) (hL_ : Laid w) (hr0 : Kd.C k54 w A0 l0.length l0) (hc0 : l0.length ≤ c0) (h : posthorselaw23_XlatOthers.f k l0 a1 = some r) :
    Calls Tryd.prog 6 #[.slice A0 l0.length c0, .int .i64 a1] w fun e w' => e = .returned (.bool r) ∧ Below w.heap.size w w' := by
  have HL_ := Aside0.mk hL_
  have HR0 := Aside0.mk hr0
  clear hL_ hr0 hc0
  unfold posthorselaw23_XlatOthers.f at h
  obtain ⟨t0, hP, h⟩ := Option.bind_eq_some_iff.mp h
  obtain rfl := speaks23_true hP
  obtain rfl : r = true := oth_r _ _ _ _ _ _ h
  have HP := Aside0.mk hP
  have HH := Aside0.mk h
  clear hP h
  have hu46 := Tryd.underlying46
  have hux := Tryd.underlying54
  go_enter Tryd.func6, Tryd.ntmps6
  go_wp2_with (first
    | (go_at_call 20; (with_reducible refine (posthorselaw23_speaks.calls k true _ HL_.out HP.out).mono ?_); rintro e w1 ⟨rfl, hb1⟩; have HB1 := Aside0.mk hb1; clear hb1; have HC0 := Aside0.mk (show CacheSome w.heap.size w1.heap.size [] (((w1.alloc (.cells #[.map none, .int .i64 0, .int .i64 0, .int .i64 0] 43)).alloc (.cells #[.int .i64 7, .int .i64 9] 63)).alloc (.cells #[.int .i64 5, .slice (some ⟨w1.heap.size + 1, 0, none⟩) 1 1] 46)) from ⟨_, _, _, ((CacheIs.new (heap_alloc_new w1 (.cells #[.map none, .int .i64 0, .int .i64 0, .int .i64 0] 43)) HB1.out.size).below (below_alloc (Below.refl _ _) _)).below (below_alloc (Below.refl _ _) _)⟩); have HS0 := Aside0.mk (show (w1.alloc (.cells #[.map none, .int .i64 0, .int .i64 0, .int .i64 0] 43)).heap.size = w1.heap.size + 1 by simp); have HS1 := Aside0.mk (show ((w1.alloc (.cells #[.map none, .int .i64 0, .int .i64 0, .int .i64 0] 43)).alloc (.cells #[.int .i64 7, .int .i64 9] 63)).heap.size = w1.heap.size + 1 + 1 by simp); have HR1 := Aside0.mk (show Kd.R k63 63 (((w1.alloc (.cells #[.map none, .int .i64 0, .int .i64 0, .int .i64 0] 43)).alloc (.cells #[.int .i64 7, .int .i64 9] 63)).alloc (.cells #[.int .i64 5, .slice (some ⟨w1.heap.size + 1, 0, none⟩) 1 1] 46)) w.heap.size (fun _ => True) (.slice (some ⟨w1.heap.size + 1, 0, none⟩) 1 1) ([⟨7, 9⟩] : List XExt) from by have hx := x_lit (w1.alloc (.cells #[.map none, .int .i64 0, .int .i64 0, .int .i64 0] 43)) w.heap.size (by rw [HS0.out]; exact Nat.le_succ_of_le HB1.out.size) 7 9; rw [HS0.out] at hx; exact Kd.R_alloc hx _); have HX0 := Aside0.mk (show (((w1.alloc (.cells #[.map none, .int .i64 0, .int .i64 0, .int .i64 0] 43)).alloc (.cells #[.int .i64 7, .int .i64 9] 63)).alloc (.cells #[.int .i64 5, .slice (some ⟨w1.heap.size + 1, 0, none⟩) 1 1] 46)).heap[w1.heap.size + 1 + 1]? = some (.cells #[.int .i64 5, .slice (some ⟨w1.heap.size + 1, 0, none⟩) 1 1] 46 (0, 0)) from by have hx := heap_alloc_new ((w1.alloc (.cells #[.map none, .int .i64 0, .int .i64 0, .int .i64 0] 43)).alloc (.cells #[.int .i64 7, .int .i64 9] 63)) (.cells #[.int .i64 5, .slice (some ⟨w1.heap.size + 1, 0, none⟩) 1 1] 46); rw [HS1.out] at hx; exact hx); have HB0 := Aside0.mk (below_alloc (below_alloc (below_alloc HB1.out (.cells #[.map none, .int .i64 0, .int .i64 0, .int .i64 0] 43)) (.cells #[.int .i64 7, .int .i64 9] 63)) (.cells #[.int .i64 5, .slice (some ⟨w1.heap.size + 1, 0, none⟩) 1 1] 46)))
    | (go_at_call 22; (with_reducible refine (cLoadS w.heap.size w1.heap.size w.heap.size [] (-1) 5 (some ⟨w1.heap.size + 1, 0, none⟩) 1 1 ([⟨7, 9⟩] : List XExt) _ rfl HB0.out.size HC0.out HR1.out (by decide)).mono ?_); rintro e w2 ⟨rfl, hc2, hb2, hk2⟩; have HC2 := Aside0.mk hc2; have HX2 := Aside0.mk (hk2 _ _ _ (by decide) HX0.out); have HR2 := Aside0.mk (R_ckeep HR1.out hk2); have HB2 := Aside0.mk (HB0.out.trans hb2); clear hc2 hb2 hk2 HC0 HX0 HR1 HB0 HS0 HS1 HB1))
  generalize w1.heap.size + 1 + 1 = gl at *
  generalize w1.heap.size + 1 = ge at *
  generalize w1.heap.size = g at *
  go_loopg [7] k (fun kq v7 w' => ∃ (i : Nat) (m : List (Int × XEnt)), v7 = .int .i64 (i : Int) ∧ Aside0 (i ≤ 40 ∧ kq ≤ k) ∧ Aside0 (posthorselaw23_XlatOthers.l0 kq l0 a1 m i = some true) ∧ Aside0 (CacheSome w.heap.size g m w') ∧ Aside0 (w'.heap[gl]? = some (.cells #[.int .i64 5, .slice (some ⟨ge, 0, none⟩) 1 1] 46 (0, 0))) ∧ Aside0 (Kd.R k63 63 w' w.heap.size (fun _ => True) (.slice (some ⟨ge, 0, none⟩) 1 1) ([⟨7, 9⟩] : List XExt)) ∧ Aside0 (Below w.heap.size w w'))
  case atStart => exact ⟨0, _, rfl, ⟨by omega, Nat.le_refl _⟩, HH, HC2, HX2, HR2, HB2⟩
  case round =>
    clear HH HC2 HX2 HR2 HB2
    obtain ⟨i, m, rfl, HI, HA, HC, HX, HR, HB⟩ := hrel
    obtain ⟨k1, rfl⟩ : ∃ k1, gk = k1 + 1 := by
      cases gk with
      | zero => exact absurd HA.out (by rw [posthorselaw23_XlatOthers.l0]; simp)
      | succ k1 => exact ⟨k1, rfl⟩
    have H := HA.out
    clear HA
    rw [posthorselaw23_XlatOthers.l0] at H
    by_cases cc : i < l0.length ∧ i < 40
    · rw [if_pos cc] at H
      obtain ⟨c3, c4⟩ := cc
      have c3b : decide ((i : Int) < (l0.length : Int)) = true := decide_eq_true (by omega)
      have c4b : decide ((i : Int) < 40) = true := decide_eq_true (by omega)
      obtain ⟨ad, A4, cc4, rfl, hx0, hx1, hx2, hx3, hx4, hl4, hC4⟩ := at_T54 HR0.out (i : Int) (by omega) (by omega)
      have q1 := eq_true (show (0 : Int) ≤ (i : Int) by omega)
      have q2 := eq_true (show (i : Int) < (l0.length : Int) by omega)
      have q3 := eq_true c3
      have hi1 : wrap64 ((i : Int) + 1) = ((i + 1 : Nat) : Int) := by unfold wrap64; omega
      have HI1 := Aside0.mk hi1
      have HI40 := Aside0.mk c4
      clear hi1
      rw [show ((i : Int)).toNat = i from rfl] at hx0 hx1 hx2 hx3 hx4
      replace hx0 := (HB.out.cell (World.block_lt_of_cell? w _ hx0)).trans hx0
      replace hx1 := (HB.out.cell (World.block_lt_of_cell? w _ hx1)).trans hx1
      replace hx2 := (HB.out.cell (World.block_lt_of_cell? w _ hx2)).trans hx2
      replace hx3 := (HB.out.cell (World.block_lt_of_cell? w _ hx3)).trans hx3
      replace hx4 := (HB.out.cell (World.block_lt_of_cell? w _ hx4)).trans hx4
      have HC4 := Aside0.mk (Kd.C_below hC4 HB.out)
      have HL4 := Aside0.mk hl4
      clear hC4 hl4
      generalize rd_T54 l0 (i : Int) = x at *
      obtain ⟨f0, f1, f2, f3, f4⟩ := x
      obtain ⟨m1, hM, H⟩ := Option.bind_eq_some_iff.mp H
      obtain ⟨m2, hE, H⟩ := Option.bind_eq_some_iff.mp H
      have H' := Aside0.mk H
      clear H c3 c4
      unfold othEnd at hE
      obtain ⟨⟨s2, er2, m3⟩, hF2, hE⟩ := Option.bind_eq_some_iff.mp hE
      obtain ⟨⟨t1, t2⟩, hMp, hE⟩ := Option.bind_eq_some_iff.mp hE
      by_cases e3 : decide (er2 = none) = t2 ∧ s2 = t1
      case neg => rw [if_neg e3] at hE; cases hE
      rw [if_pos e3] at hE
      obtain ⟨rfl, rfl⟩ := e3
      obtain rfl := Option.some.inj hE
      have HF2 := Aside0.mk hF2
      have HMp := Aside0.mk hMp
      clear hE hF2 hMp
      unfold othStep at hM
      have hsel : (wrap64 (f0.tmod 6 + 6)).tmod 6 = sel6 f0 := rfl
      simp only at hM
      generalize sel6 f0 = q at *
      by_cases hf : f1 = -1
      · subst hf
        rw [show oFile (-1) = 1 from rfl] at hM
        have HBx := Aside0.mk (below_alloc HB.out (.cells #[.int .i64 f0, .int .i64 1, .int .i64 f2, .int .i64 f3, .slice A4 f4.length cc4] 54))
        have HCx := Aside0.mk (HC.out.below (below_alloc (Below.refl _ _) (.cells #[.int .i64 f0, .int .i64 1, .int .i64 f2, .int .i64 f3, .slice A4 f4.length cc4] 54)))
        have HXx := Aside0.mk (blk_below HX.out (below_alloc (Below.refl _ _) (.cells #[.int .i64 f0, .int .i64 1, .int .i64 f2, .int .i64 f3, .slice A4 f4.length cc4] 54)))
        have HRx := Aside0.mk (Kd.R_alloc HR.out (.cells #[.int .i64 f0, .int .i64 1, .int .i64 f2, .int .i64 f3, .slice A4 f4.length cc4] 54))
        have HZx := Aside0.mk (heap_alloc_new wr (.cells #[.int .i64 f0, .int .i64 1, .int .i64 f2, .int .i64 f3, .slice A4 f4.length cc4] 54))
        have HC4x := Aside0.mk (Kd.C_below HC4.out (below_alloc (Below.refl _ _) (.cells #[.int .i64 f0, .int .i64 1, .int .i64 f2, .int .i64 f3, .slice A4 f4.length cc4] 54)))
        clear HB HC HX HR
        by_cases h2 : q = 2 ∨ q = 3 ∨ q = 4
        · rw [if_pos h2] at hM
          obtain ⟨⟨s0, er0, m0⟩, hF0, hM⟩ := Option.bind_eq_some_iff.mp hM
          obtain rfl := Option.some.inj hM
          have HF0 := Aside0.mk hF0
          clear hM hF0
          rcases h2 with rfl | rfl | rfl
          all_goals
            go_wp2_with (first
              | (go_at_call 23; (with_reducible refine (cFind k1 w.heap.size g _ _ 1 f2 f3 s0 er0 _ HBx.out.size HCx.out HF0.out).mono ?_); rintro e_ w7 ⟨rfl, hc7, hb7, hk7⟩; have HC7 := Aside0.mk hc7; have HX7 := Aside0.mk (hk7 _ _ _ (by decide) HXx.out); have HR7 := Aside0.mk (R_ckeep HRx.out hk7); have HB7 := Aside0.mk (HBx.out.trans hb7); clear hc7 hb7 hk7)
              | (go_at_call 23; (with_reducible refine (cFind k1 w.heap.size g _ _ (-1) a1 5 s2 er2 _ HB7.out.size HC7.out HF2.out).mono ?_); rintro e_ w8 ⟨rfl, hc8, hb8, hk8⟩; have HC8 := Aside0.mk hc8; have HX8 := Aside0.mk (hk8 _ _ _ (by decide) HX7.out); have HR8 := Aside0.mk (R_ckeep HR7.out hk8); have HR8r := Aside0.mk (Kd.R_reads' HR8.out); have HB8 := Aside0.mk (HB7.out.trans hb8); have hb0 := (blk_cell HX8.out 0).trans rfl; have hb1 := (blk_cell HX8.out 1).trans rfl; clear hc8 hb8 hk8)
              | (go_at_call 26; (with_reducible refine (mapN k1 5 (some ⟨ge, 0, none⟩) 1 1 ([⟨7, 9⟩] : List XExt) a1 s2 _ _ rfl HR8r.out.2.2 HR8r.out.2.1 HMp.out).mono ?_); rintro e_ w12 ⟨rfl, hb12⟩; have HC12 := Aside0.mk (HC8.out.below hb12); have HX12 := Aside0.mk (blk_below HX8.out hb12); have HR12 := Aside0.mk (Kd.R_below HR8.out hb12); have HB12 := Aside0.mk (below_step HB8.out hb12); clear hb12; cases er2 <;> simp only [errW_none, errW_some, reduceCtorEq, decide_true, decide_false]))
            all_goals (
              go_roundg k1
              case measure => omega
              case rel => exact ⟨i + 1, m3, (by first | rfl | rw [HI1.out]), ⟨by have := HI40.out; omega, by have := HI.out; omega⟩, H', HC12, HX12, HR12, HB12⟩)
        · rw [if_neg h2] at hM
          by_cases h5 : q = 5
          · subst h5
            rw [if_pos rfl] at hM
            obtain rfl := Option.some.inj hM
            clear hM h2
            go_wp2_with (first
              | (go_at_call 27; (with_reducible refine (cDropS w.heap.size g _ 1 _ HCx.out).mono ?_); rintro e_ w7 ⟨rfl, hc7, hb7, hk7⟩; have HC7 := Aside0.mk hc7; have HX7 := Aside0.mk (hk7 _ _ _ (by decide) HXx.out); have HR7 := Aside0.mk (R_ckeep HRx.out hk7); have HB7 := Aside0.mk (HBx.out.trans hb7); clear hc7 hb7 hk7)
              | (go_at_call 23; (with_reducible refine (cFind k1 w.heap.size g _ _ (-1) a1 5 s2 er2 _ HB7.out.size HC7.out HF2.out).mono ?_); rintro e_ w8 ⟨rfl, hc8, hb8, hk8⟩; have HC8 := Aside0.mk hc8; have HX8 := Aside0.mk (hk8 _ _ _ (by decide) HX7.out); have HR8 := Aside0.mk (R_ckeep HR7.out hk8); have HR8r := Aside0.mk (Kd.R_reads' HR8.out); have HB8 := Aside0.mk (HB7.out.trans hb8); have hb0 := (blk_cell HX8.out 0).trans rfl; have hb1 := (blk_cell HX8.out 1).trans rfl; clear hc8 hb8 hk8)
              | (go_at_call 26; (with_reducible refine (mapN k1 5 (some ⟨ge, 0, none⟩) 1 1 ([⟨7, 9⟩] : List XExt) a1 s2 _ _ rfl HR8r.out.2.2 HR8r.out.2.1 HMp.out).mono ?_); rintro e_ w12 ⟨rfl, hb12⟩; have HC12 := Aside0.mk (HC8.out.below hb12); have HX12 := Aside0.mk (blk_below HX8.out hb12); have HR12 := Aside0.mk (Kd.R_below HR8.out hb12); have HB12 := Aside0.mk (below_step HB8.out hb12); clear hb12; cases er2 <;> simp only [errW_none, errW_some, reduceCtorEq, decide_true, decide_false]))
            all_goals (
              go_roundg k1
              case measure => omega
              case rel => exact ⟨i + 1, m3, (by first | rfl | rw [HI1.out]), ⟨by have := HI40.out; omega, by have := HI.out; omega⟩, H', HC12, HX12, HR12, HB12⟩)
          · rw [if_neg h5] at hM
            obtain ⟨⟨r1, r2, r3, r4⟩, hq, hM⟩ := Option.bind_eq_some_iff.mp hM
            by_cases e1 : r2.length < 8796093022208
            case neg => rw [if_neg e1] at hM; cases hM
            rw [if_pos e1] at hM
            obtain rfl := Option.some.inj hM
            have HQ := Aside0.mk hq
            have HLR := Aside0.mk e1
            have n2 : (q == 2) = false := beq_eq_false_iff_ne.2 (fun h => h2 (.inl h))
            have n3 : (q == 3) = false := beq_eq_false_iff_ne.2 (fun h => h2 (.inr (.inl h)))
            have n4 : (q == 4) = false := beq_eq_false_iff_ne.2 (fun h => h2 (.inr (.inr h)))
            have n5 : (q == 5) = false := beq_eq_false_iff_ne.2 h5
            clear hM hq h2 h5 e1
            go_wp2_with (first
              | (go_at_call 21; (with_reducible refine (posthorselaw23_made.calls k1 f3 A4 cc4 f4 r1 r2 r3 r4 _ HC4x.out HL4.out HQ.out).mono ?_); rintro e_ w5 ⟨v1_, v3_, rfl, hr5, hr6, hb5⟩; obtain ⟨A5, cc5, rfl⟩ := Kd.R_slice hr5; obtain ⟨A6, cc6, rfl⟩ := Kd.R_slice hr6; clear hr6; have HR5 := Aside0.mk (Kd.R_alloc (Kd.R_alloc hr5 (.cells #[.int .i64 r1, .slice A5 r2.length cc5] 46)) (.cells #[.int .i64 r3, .slice A6 r4.length cc6] 49)); have HB5a := Aside0.mk (below_alloc (below_alloc hb5 (.cells #[.int .i64 r1, .slice A5 r2.length cc5] 46)) (.cells #[.int .i64 r3, .slice A6 r4.length cc6] 49)); have HC5 := Aside0.mk (HCx.out.below HB5a.out); have HX5 := Aside0.mk (blk_below HXx.out HB5a.out); have HRo5 := Aside0.mk (Kd.R_below HRx.out HB5a.out); have HB5 := Aside0.mk (below_step HBx.out HB5a.out); have HZ5 := Aside0.mk (blk_below HZx.out HB5a.out); have hy1 := (blk_cell HZ5.out 1).trans rfl; clear hr5 hb5)
              | (go_at_call 22; (with_reducible refine (cLoadS w.heap.size g _ _ 1 r1 A5 cc5 r2.length r2 _ rfl HB5.out.size HC5.out HR5.out HLR.out).mono ?_); rintro e_ w7 ⟨rfl, hc7, hb7, hk7⟩; have HC7 := Aside0.mk hc7; have HX7 := Aside0.mk (hk7 _ _ _ (by decide) HX5.out); have HR7 := Aside0.mk (R_ckeep HRo5.out hk7); have HB7 := Aside0.mk (HB5.out.trans hb7); clear hc7 hb7 hk7)
              | (go_at_call 23; (with_reducible refine (cFind k1 w.heap.size g _ _ (-1) a1 5 s2 er2 _ HB7.out.size HC7.out HF2.out).mono ?_); rintro e_ w8 ⟨rfl, hc8, hb8, hk8⟩; have HC8 := Aside0.mk hc8; have HX8 := Aside0.mk (hk8 _ _ _ (by decide) HX7.out); have HR8 := Aside0.mk (R_ckeep HR7.out hk8); have HR8r := Aside0.mk (Kd.R_reads' HR8.out); have HB8 := Aside0.mk (HB7.out.trans hb8); have hb0 := (blk_cell HX8.out 0).trans rfl; have hb1 := (blk_cell HX8.out 1).trans rfl; clear hc8 hb8 hk8)
              | (go_at_call 26; (with_reducible refine (mapN k1 5 (some ⟨ge, 0, none⟩) 1 1 ([⟨7, 9⟩] : List XExt) a1 s2 _ _ rfl HR8r.out.2.2 HR8r.out.2.1 HMp.out).mono ?_); rintro e_ w12 ⟨rfl, hb12⟩; have HC12 := Aside0.mk (HC8.out.below hb12); have HX12 := Aside0.mk (blk_below HX8.out hb12); have HR12 := Aside0.mk (Kd.R_below HR8.out hb12); have HB12 := Aside0.mk (below_step HB8.out hb12); clear hb12; cases er2 <;> simp only [errW_none, errW_some, reduceCtorEq, decide_true, decide_false]))
            all_goals (
              go_roundg k1
              case measure => omega
              case rel => exact ⟨i + 1, m3, (by first | rfl | rw [HI1.out]), ⟨by have := HI40.out; omega, by have := HI.out; omega⟩, H', HC12, HX12, HR12, HB12⟩)
      · rw [show oFile f1 = f1 from if_neg hf] at hM
        have nf : (f1 == -1) = false := beq_eq_false_iff_ne.2 hf
        have HBx := Aside0.mk (below_alloc HB.out (.cells #[.int .i64 f0, .int .i64 f1, .int .i64 f2, .int .i64 f3, .slice A4 f4.length cc4] 54))
        have HCx := Aside0.mk (HC.out.below (below_alloc (Below.refl _ _) (.cells #[.int .i64 f0, .int .i64 f1, .int .i64 f2, .int .i64 f3, .slice A4 f4.length cc4] 54)))
        have HXx := Aside0.mk (blk_below HX.out (below_alloc (Below.refl _ _) (.cells #[.int .i64 f0, .int .i64 f1, .int .i64 f2, .int .i64 f3, .slice A4 f4.length cc4] 54)))
        have HRx := Aside0.mk (Kd.R_alloc HR.out (.cells #[.int .i64 f0, .int .i64 f1, .int .i64 f2, .int .i64 f3, .slice A4 f4.length cc4] 54))
        have HZx := Aside0.mk (heap_alloc_new wr (.cells #[.int .i64 f0, .int .i64 f1, .int .i64 f2, .int .i64 f3, .slice A4 f4.length cc4] 54))
        have HC4x := Aside0.mk (Kd.C_below HC4.out (below_alloc (Below.refl _ _) (.cells #[.int .i64 f0, .int .i64 f1, .int .i64 f2, .int .i64 f3, .slice A4 f4.length cc4] 54)))
        clear HB HC HX HR
        by_cases h2 : q = 2 ∨ q = 3 ∨ q = 4
        · rw [if_pos h2] at hM
          obtain ⟨⟨s0, er0, m0⟩, hF0, hM⟩ := Option.bind_eq_some_iff.mp hM
          obtain rfl := Option.some.inj hM
          have HF0 := Aside0.mk hF0
          clear hM hF0
          rcases h2 with rfl | rfl | rfl
          all_goals
            go_wp2_with (first
              | (go_at_call 23; (with_reducible refine (cFind k1 w.heap.size g _ _ f1 f2 f3 s0 er0 _ HBx.out.size HCx.out HF0.out).mono ?_); rintro e_ w7 ⟨rfl, hc7, hb7, hk7⟩; have HC7 := Aside0.mk hc7; have HX7 := Aside0.mk (hk7 _ _ _ (by decide) HXx.out); have HR7 := Aside0.mk (R_ckeep HRx.out hk7); have HB7 := Aside0.mk (HBx.out.trans hb7); clear hc7 hb7 hk7)
              | (go_at_call 23; (with_reducible refine (cFind k1 w.heap.size g _ _ (-1) a1 5 s2 er2 _ HB7.out.size HC7.out HF2.out).mono ?_); rintro e_ w8 ⟨rfl, hc8, hb8, hk8⟩; have HC8 := Aside0.mk hc8; have HX8 := Aside0.mk (hk8 _ _ _ (by decide) HX7.out); have HR8 := Aside0.mk (R_ckeep HR7.out hk8); have HR8r := Aside0.mk (Kd.R_reads' HR8.out); have HB8 := Aside0.mk (HB7.out.trans hb8); have hb0 := (blk_cell HX8.out 0).trans rfl; have hb1 := (blk_cell HX8.out 1).trans rfl; clear hc8 hb8 hk8)
              | (go_at_call 26; (with_reducible refine (mapN k1 5 (some ⟨ge, 0, none⟩) 1 1 ([⟨7, 9⟩] : List XExt) a1 s2 _ _ rfl HR8r.out.2.2 HR8r.out.2.1 HMp.out).mono ?_); rintro e_ w12 ⟨rfl, hb12⟩; have HC12 := Aside0.mk (HC8.out.below hb12); have HX12 := Aside0.mk (blk_below HX8.out hb12); have HR12 := Aside0.mk (Kd.R_below HR8.out hb12); have HB12 := Aside0.mk (below_step HB8.out hb12); clear hb12; cases er2 <;> simp only [errW_none, errW_some, reduceCtorEq, decide_true, decide_false]))
            all_goals (
              go_roundg k1
              case measure => omega
              case rel => exact ⟨i + 1, m3, (by first | rfl | rw [HI1.out]), ⟨by have := HI40.out; omega, by have := HI.out; omega⟩, H', HC12, HX12, HR12, HB12⟩)
        · rw [if_neg h2] at hM
          by_cases h5 : q = 5
          · subst h5
            rw [if_pos rfl] at hM
            obtain rfl := Option.some.inj hM
            clear hM h2
            go_wp2_with (first
              | (go_at_call 27; (with_reducible refine (cDropS w.heap.size g _ f1 _ HCx.out).mono ?_); rintro e_ w7 ⟨rfl, hc7, hb7, hk7⟩; have HC7 := Aside0.mk hc7; have HX7 := Aside0.mk (hk7 _ _ _ (by decide) HXx.out); have HR7 := Aside0.mk (R_ckeep HRx.out hk7); have HB7 := Aside0.mk (HBx.out.trans hb7); clear hc7 hb7 hk7)
              | (go_at_call 23; (with_reducible refine (cFind k1 w.heap.size g _ _ (-1) a1 5 s2 er2 _ HB7.out.size HC7.out HF2.out).mono ?_); rintro e_ w8 ⟨rfl, hc8, hb8, hk8⟩; have HC8 := Aside0.mk hc8; have HX8 := Aside0.mk (hk8 _ _ _ (by decide) HX7.out); have HR8 := Aside0.mk (R_ckeep HR7.out hk8); have HR8r := Aside0.mk (Kd.R_reads' HR8.out); have HB8 := Aside0.mk (HB7.out.trans hb8); have hb0 := (blk_cell HX8.out 0).trans rfl; have hb1 := (blk_cell HX8.out 1).trans rfl; clear hc8 hb8 hk8)
              | (go_at_call 26; (with_reducible refine (mapN k1 5 (some ⟨ge, 0, none⟩) 1 1 ([⟨7, 9⟩] : List XExt) a1 s2 _ _ rfl HR8r.out.2.2 HR8r.out.2.1 HMp.out).mono ?_); rintro e_ w12 ⟨rfl, hb12⟩; have HC12 := Aside0.mk (HC8.out.below hb12); have HX12 := Aside0.mk (blk_below HX8.out hb12); have HR12 := Aside0.mk (Kd.R_below HR8.out hb12); have HB12 := Aside0.mk (below_step HB8.out hb12); clear hb12; cases er2 <;> simp only [errW_none, errW_some, reduceCtorEq, decide_true, decide_false]))
            all_goals (
              go_roundg k1
              case measure => omega
              case rel => exact ⟨i + 1, m3, (by first | rfl | rw [HI1.out]), ⟨by have := HI40.out; omega, by have := HI.out; omega⟩, H', HC12, HX12, HR12, HB12⟩)
          · rw [if_neg h5] at hM
            obtain ⟨⟨r1, r2, r3, r4⟩, hq, hM⟩ := Option.bind_eq_some_iff.mp hM
            by_cases e1 : r2.length < 8796093022208
            case neg => rw [if_neg e1] at hM; cases hM
            rw [if_pos e1] at hM
            obtain rfl := Option.some.inj hM
            have HQ := Aside0.mk hq
            have HLR := Aside0.mk e1
            have n2 : (q == 2) = false := beq_eq_false_iff_ne.2 (fun h => h2 (.inl h))
            have n3 : (q == 3) = false := beq_eq_false_iff_ne.2 (fun h => h2 (.inr (.inl h)))
            have n4 : (q == 4) = false := beq_eq_false_iff_ne.2 (fun h => h2 (.inr (.inr h)))
            have n5 : (q == 5) = false := beq_eq_false_iff_ne.2 h5
            clear hM hq h2 h5 e1
            go_wp2_with (first
              | (go_at_call 21; (with_reducible refine (posthorselaw23_made.calls k1 f3 A4 cc4 f4 r1 r2 r3 r4 _ HC4x.out HL4.out HQ.out).mono ?_); rintro e_ w5 ⟨v1_, v3_, rfl, hr5, hr6, hb5⟩; obtain ⟨A5, cc5, rfl⟩ := Kd.R_slice hr5; obtain ⟨A6, cc6, rfl⟩ := Kd.R_slice hr6; clear hr6; have HR5 := Aside0.mk (Kd.R_alloc (Kd.R_alloc hr5 (.cells #[.int .i64 r1, .slice A5 r2.length cc5] 46)) (.cells #[.int .i64 r3, .slice A6 r4.length cc6] 49)); have HB5a := Aside0.mk (below_alloc (below_alloc hb5 (.cells #[.int .i64 r1, .slice A5 r2.length cc5] 46)) (.cells #[.int .i64 r3, .slice A6 r4.length cc6] 49)); have HC5 := Aside0.mk (HCx.out.below HB5a.out); have HX5 := Aside0.mk (blk_below HXx.out HB5a.out); have HRo5 := Aside0.mk (Kd.R_below HRx.out HB5a.out); have HB5 := Aside0.mk (below_step HBx.out HB5a.out); have HZ5 := Aside0.mk (blk_below HZx.out HB5a.out); have hy1 := (blk_cell HZ5.out 1).trans rfl; clear hr5 hb5)
              | (go_at_call 22; (with_reducible refine (cLoadS w.heap.size g _ _ f1 r1 A5 cc5 r2.length r2 _ rfl HB5.out.size HC5.out HR5.out HLR.out).mono ?_); rintro e_ w7 ⟨rfl, hc7, hb7, hk7⟩; have HC7 := Aside0.mk hc7; have HX7 := Aside0.mk (hk7 _ _ _ (by decide) HX5.out); have HR7 := Aside0.mk (R_ckeep HRo5.out hk7); have HB7 := Aside0.mk (HB5.out.trans hb7); clear hc7 hb7 hk7)
              | (go_at_call 23; (with_reducible refine (cFind k1 w.heap.size g _ _ (-1) a1 5 s2 er2 _ HB7.out.size HC7.out HF2.out).mono ?_); rintro e_ w8 ⟨rfl, hc8, hb8, hk8⟩; have HC8 := Aside0.mk hc8; have HX8 := Aside0.mk (hk8 _ _ _ (by decide) HX7.out); have HR8 := Aside0.mk (R_ckeep HR7.out hk8); have HR8r := Aside0.mk (Kd.R_reads' HR8.out); have HB8 := Aside0.mk (HB7.out.trans hb8); have hb0 := (blk_cell HX8.out 0).trans rfl; have hb1 := (blk_cell HX8.out 1).trans rfl; clear hc8 hb8 hk8)
              | (go_at_call 26; (with_reducible refine (mapN k1 5 (some ⟨ge, 0, none⟩) 1 1 ([⟨7, 9⟩] : List XExt) a1 s2 _ _ rfl HR8r.out.2.2 HR8r.out.2.1 HMp.out).mono ?_); rintro e_ w12 ⟨rfl, hb12⟩; have HC12 := Aside0.mk (HC8.out.below hb12); have HX12 := Aside0.mk (blk_below HX8.out hb12); have HR12 := Aside0.mk (Kd.R_below HR8.out hb12); have HB12 := Aside0.mk (below_step HB8.out hb12); clear hb12; cases er2 <;> simp only [errW_none, errW_some, reduceCtorEq, decide_true, decide_false]))
            all_goals (
              go_roundg k1
              case measure => omega
              case rel => exact ⟨i + 1, m3, (by first | rfl | rw [HI1.out]), ⟨by have := HI40.out; omega, by have := HI.out; omega⟩, H', HC12, HX12, HR12, HB12⟩)
    · rw [if_neg cc] at H
      by_cases hv : verE (-1) m = (5, true)
      case neg => rw [if_neg hv] at H; cases H
      have HV := Aside0.mk hv
      have hc : (i < l0.length ∧ ¬ i < 40) ∨ ¬ i < l0.length := by omega
      clear cc H hv
      rcases hc with ⟨g1, g2⟩ | g1
      · have d1 : decide ((i : Int) < (l0.length : Int)) = true := decide_eq_true (by omega)
        have d2 : decide ((i : Int) < 40) = false := decide_eq_false (by omega)
        have d3 := eq_true g1
        have d4 := eq_false g2
        go_wp2_with (go_at_call 25; obtain ⟨ca, cb, ccn, hcc⟩ := HC.out; (with_reducible refine (cVersion w.heap.size g m ca cb ccn (-1) _ hcc).mono ?_); rintro e_ w9 ⟨rfl, hb9⟩; have HB9 := Aside0.mk (below_step HB.out hb9); simp only [HV.out]; clear hb9 hcc)
        go_ret
        exact ⟨by first | rfl | simp, HB9.out⟩
      · have d1 : decide ((i : Int) < (l0.length : Int)) = false := decide_eq_false (by omega)
        have d3 := eq_false g1
        go_wp2_with (go_at_call 25; obtain ⟨ca, cb, ccn, hcc⟩ := HC.out; (with_reducible refine (cVersion w.heap.size g m ca cb ccn (-1) _ hcc).mono ?_); rintro e_ w9 ⟨rfl, hb9⟩; have HB9 := Aside0.mk (below_step HB.out hb9); simp only [HV.out]; clear hb9 hcc)
        go_ret
        exact ⟨by first | rfl | simp, HB9.out⟩


end Go.Proofs.YtngokgliagkohaaDoor.VXlatOthers
