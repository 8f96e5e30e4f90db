/- Contracts of functions of this seat: each call comes to what its Lean function computes; no condition beyond what each theorem states. Printed by a program of this session's own laid over the kit's printer. -/
import Derived.Test.YtngokgliagkohaaDoorVXlatVersionsx0
import Derived.Test.YtngokgliagkohaaDoorVXlatVersionsx2
import Derived.Test.YtngokgliagkohaaDoorVXlatVersionsx3
import Derived.Test.YtngokgliagkohaaDoorVXlatVersionsx4
import Derived.Test.YtngokgliagkohaaDoorVXlatVersionsx5
import Derived.Test.YtngokgliagkohaaDoorVXlatVersionsx7
import Derived.Test.YtngokgliagkohaaDoorVXlatVersionsx10
import Derived.Test.YtngokgliagkohaaDoorVXlatVersionsx11
import Derived.Test.YtngokgliagkohaaDoorVXlatVersionsx12
namespace Go.Proofs.YtngokgliagkohaaDoor.VXlatVersions
open Go.RowKit Go.Proofs.YtngokgliagkohaaDoorW.PrintWords Go.Proofs.YtngokgliagkohaaDoorW.PrintLast Go.Proofs.YtngokgliagkohaaDoorW.PrintMore
attribute [local go_sem] max2_int min2_int max_two min_two max_three min_three max_four min_four   -- for this text's walks alone
set_option linter.unusedVariables false
set_option linter.unusedSimpArgs false

-- @GIVEN posthorselaw23_XlatVersions
/-! ### posthorselaw23_XlatVersions: by hand -/
abbrev XAct := S54
/-- One act: what is loaded, looked for as of another version, loaded again and found. -/
def verStep (k : Nat) (bl : Int) (m : List (Int × XEnt)) (x : XAct) (i : Int) : Option (List (Int × XEnt)) :=
  (posthorselaw23_made.f k i x.f4).bind fun q => if q.1 = i ∧ q.2.1.length < 8796093022208 then
    (findX k (putE 0 (i, q.2.1) m) 0 bl (wrap64 (wrap64 (i - 1) - Go.bits .and .i64 x.f3 1))).bind fun u => if u.2.1 = some 14 ∧ (verE 0 u.2.2).2 = false then
      (findX k (putE 0 (i, q.2.1) u.2.2) 0 bl i).bind fun y => (inode_Map.f k i q.2.1 bl).bind fun t => if decide (y.2.1 = none) = t.2 ∧ y.1 = t.1 then some y.2.2 else none
    else none
  else none
def posthorselaw23_XlatVersions.l0 : Nat → List XAct → Int → List (Int × XEnt) → Nat → Option Bool
  | 0, _, _, _, _ => none
  | k + 1, l, bl, m, i => if i < l.length ∧ i < 20 then (verStep k bl m (rd_T54 l (i : Int)) (i : Int)).bind fun m' => posthorselaw23_XlatVersions.l0 k l bl m' (i + 1) else some true
def posthorselaw23_XlatVersions.f (k : Nat) (l0 : List XAct) (a1 : Int) : Option Bool := (posthorselaw23_speaks.f k).bind fun _ => posthorselaw23_XlatVersions.l0 k l0 a1 [] 0
theorem ver_r : ∀ (k : Nat) (l : List XAct) (bl : Int) (m : List (Int × XEnt)) (i : Nat) (r : Bool), posthorselaw23_XlatVersions.l0 k l bl m i = some r → r = true
  | 0, _, _, _, _, _, h => by rw [posthorselaw23_XlatVersions.l0] at h; cases h
  | k + 1, l, bl, m, i, r, h => by
    rw [posthorselaw23_XlatVersions.l0] at h
    split at h
    · obtain ⟨m', _, h⟩ := Option.bind_eq_some_iff.mp h
      exact ver_r k l bl m' (i + 1) r h
    · exact (Option.some.inj h).symm
set_option maxHeartbeats 8000000 in
set_option maxRecDepth 100000 in
theorem posthorselaw23_XlatVersions.calls (k : Nat) (A0 : Option Addr) (c0 : Nat) (l0 : List XAct) (a1 : Int) (r : Bool) (w : World) (hL_ : Laid w) (hr0 : Kd.C k54 w A0 l0.length l0) (hc0 : l0.length ≤ c0) (h : posthorselaw23_XlatVersions.f k l0 a1 = some r) :
    Calls Tryd.prog 5 #[.slice A0 l0.length c0, .int .i64 a1] w fun e w' => e = .returned (.bool r) ∧ Below w.heap.size w w' := by
  have HL_ := Aside0.mk hL_
  have HR0 := Aside0.mk hr0
  clear hL_ hr0 hc0
  unfold posthorselaw23_XlatVersions.f at h
  obtain ⟨t0, hP, h⟩ := Option.bind_eq_some_iff.mp h
  obtain rfl := speaks23_true hP
  obtain rfl : r = true := ver_r _ _ _ _ _ _ h
  have HP := Aside0.mk hP
  have HH := Aside0.mk h
  have HD := Aside0.mk (show posthorselaw23_code.f (some 14) = some 14 from rfl)
  clear hP h
  have hu46 := Tryd.underlying46
  go_enter Tryd.func5, Tryd.ntmps5
  go_wp2_with (first
    | (go_at_call 20; (with_reducible refine (posthorselaw23_speaks.calls k true _ HL_.out HP.out).mono ?_); rintro e w1 ⟨rfl, hb1⟩; have HB1 := Aside0.mk hb1; clear hb1))
  have HC0 := Aside0.mk (show CacheSome w.heap.size w1.heap.size [] ((w1.alloc (.cells #[.map none, .int .i64 0, .int .i64 0, .int .i64 0] 43)).alloc (.cells #[.int .i64 0, .slice none 0 0] 46)) from ⟨_, _, _, (CacheIs.new (heap_alloc_new w1 (.cells #[.map none, .int .i64 0, .int .i64 0, .int .i64 0] 43)) HB1.out.size).below (below_alloc (Below.refl _ _) _)⟩)
  have HB0 := Aside0.mk (below_alloc (below_alloc HB1.out (.cells #[.map none, .int .i64 0, .int .i64 0, .int .i64 0] 43)) (.cells #[.int .i64 0, .slice none 0 0] 46))
  have HX0 := Aside0.mk (show ((w1.alloc (.cells #[.map none, .int .i64 0, .int .i64 0, .int .i64 0] 43)).alloc (.cells #[.int .i64 0, .slice none 0 0] 46)).heap[w1.heap.size + 1]? = some (.cells #[.int .i64 0, .slice none 0 0] 46 (0, 0)) from by
    have h1 := heap_alloc_new (w1.alloc (.cells #[.map none, .int .i64 0, .int .i64 0, .int .i64 0] 43)) (.cells #[.int .i64 0, .slice none 0 0] 46)
    simpa using h1)
  have HGL := Aside0.mk (show w.heap.size ≤ w1.heap.size + 1 from Nat.le_succ_of_le HB1.out.size)
  clear HB1
  generalize (w1.alloc (.cells #[.map none, .int .i64 0, .int .i64 0, .int .i64 0] 43)).alloc (.cells #[.int .i64 0, .slice none 0 0] 46) = w2 at *
  generalize w1.heap.size + 1 = gl at *
  generalize w1.heap.size = g at *
  go_loopg [7] k (fun kq v7 w' => ∃ (i : Nat) (m : List (Int × XEnt)) (u0 u1 : Value), v7 = .int .i64 (i : Int) ∧ Aside0 (i ≤ 20 ∧ kq ≤ k) ∧ Aside0 (posthorselaw23_XlatVersions.l0 kq l0 a1 m i = some true) ∧ Aside0 (CacheSome w.heap.size g m w') ∧ Aside0 (w'.heap[gl]? = some (.cells #[u0, u1] 46 (0, 0))) ∧ Aside0 (Below w.heap.size w w'))
  case atStart => exact ⟨0, [], _, _, rfl, ⟨by omega, Nat.le_refl _⟩, HH, HC0, HX0, HB0⟩
  case round =>
    clear HH HC0 HX0 HB0
    obtain ⟨i, m, u0, u1, rfl, HI, HA, HC, HX, HB⟩ := hrel
    obtain ⟨k1, rfl⟩ : ∃ k1, gk = k1 + 1 := by
      cases gk with
      | zero => exact absurd HA.out (by rw [posthorselaw23_XlatVersions.l0]; simp)
      | succ k1 => exact ⟨k1, rfl⟩
    have H := HA.out
    clear HA
    rw [posthorselaw23_XlatVersions.l0] at H
    by_cases cc : i < l0.length ∧ i < 20
    · rw [if_pos cc] at H
      obtain ⟨c3, c4⟩ := cc
      have c3b : decide ((i : Int) < (l0.length : Int)) = true := decide_eq_true (by omega)
      have c4b : decide ((i : Int) < 20) = true := decide_eq_true (by omega)
      obtain ⟨ad, A4, cc4, rfl, _, _, _, hx3, hx4, hl4, hC4⟩ := at_T54 HR0.out (i : Int) (by omega) (by omega)
      have q1 := eq_true (show (0 : Int) ≤ (i : Int) by omega)
      have q2 := eq_true (show (i : Int) < (l0.length : Int) by omega)
      have q3 := eq_true c3
      have hi1 : wrap64 ((i : Int) + 1) = ((i + 1 : Nat) : Int) := by unfold wrap64; omega
      have HI1 := Aside0.mk hi1
      have HI20 := Aside0.mk c4
      clear hi1
      rw [show ((i : Int)).toNat = i from rfl] at hx3 hx4
      replace hx4 := (HB.out.cell (World.block_lt_of_cell? w _ hx4)).trans hx4
      have HX3 := Aside0.mk hx3
      have HC4 := Aside0.mk (Kd.C_below hC4 HB.out)
      have HL4 := Aside0.mk hl4
      clear hx3 hC4 hl4
      generalize rd_T54 l0 (i : Int) = x at *
      obtain ⟨f0, f1, f2, f3, f4⟩ := x
      obtain ⟨m', hM, H⟩ := Option.bind_eq_some_iff.mp H
      have H' := Aside0.mk H
      clear H c3 c4
      unfold verStep at hM
      obtain ⟨⟨r1, r2, r3, r4⟩, hq, hM⟩ := Option.bind_eq_some_iff.mp hM
      by_cases e1 : r1 = (i : Int) ∧ r2.length < 8796093022208
      case neg => rw [if_neg e1] at hM; cases hM
      rw [if_pos e1] at hM
      obtain ⟨rfl, hr2⟩ := e1
      obtain ⟨⟨s1, er1, m1⟩, hF1, hM⟩ := Option.bind_eq_some_iff.mp hM
      by_cases e2 : er1 = some 14 ∧ (verE 0 m1).2 = false
      case neg => rw [if_neg e2] at hM; cases hM
      rw [if_pos e2] at hM
      obtain ⟨rfl, hv1⟩ := e2
      obtain ⟨⟨s2, er2, m2⟩, hF2, hM⟩ := Option.bind_eq_some_iff.mp hM
      obtain ⟨⟨t1, t2⟩, hMp, hM⟩ := Option.bind_eq_some_iff.mp hM
      by_cases e3 : decide (er2 = none) = t2 ∧ s2 = t1
      case neg => rw [if_neg e3] at hM; cases hM
      rw [if_pos e3] at hM
      obtain ⟨rfl, rfl⟩ := e3
      obtain rfl := Option.some.inj hM
      have HQ := Aside0.mk hq
      have HLR := Aside0.mk hr2
      have HF1 := Aside0.mk hF1
      have HV1 := Aside0.mk hv1
      have HF2 := Aside0.mk hF2
      have HMp := Aside0.mk hMp
      clear hM hq hr2 hF1 hv1 hF2 hMp
      go_wp2_with (first
        | (go_at_call 21; (with_reducible refine (posthorselaw23_made.calls k1 _ A4 cc4 f4 _ r2 r3 r4 _ HC4.out HL4.out HQ.out).mono ?_); rintro e_ w5 ⟨v1_, v3_, rfl, hr5, _, hb5⟩; obtain ⟨A5, cc5, rfl⟩ := Kd.R_slice hr5; obtain ⟨v3a, rfl⟩ : ∃ v, v3_ = v := ⟨_, rfl⟩; have HR5 := Aside0.mk hr5; have HC5 := Aside0.mk (HC.out.below hb5); have HX5 := Aside0.mk (blk_below HX.out hb5); have HB5 := Aside0.mk (below_step HB.out hb5); have hz0 := (blk_cell HX5.out 0).trans rfl; have hz1 := (blk_cell HX5.out 1).trans rfl; have hf0 := blk_frozen HX5.out 0; have hf1 := blk_frozen HX5.out 1; clear hr5 hb5)
        | (go_at_call 22; (with_reducible refine (cLoadS w.heap.size g _ m 0 (i : Int) A5 cc5 r2.length r2 _ rfl (HB5.out.setCell (p := ⟨gl, 0, none⟩) HGL.out _ |>.setCell (p := ⟨gl, 1, none⟩) HGL.out _).size ((HC5.out.other HX5.out (by decide) (by decide) 0 _).other (blk_set HX5.out 0 _) (by decide) (by decide) 1 _) (R_xkeep (R_xkeep HR5.out (xkeep_set HX5.out (by decide) 0 _)) (xkeep_set (blk_set HX5.out 0 _) (by decide) 1 _)) HLR.out).mono ?_); rintro e_ w6 ⟨rfl, hc6, hb6, hk6⟩; have HC6 := Aside0.mk hc6; have HX6 := Aside0.mk (hk6 _ _ _ (by decide) (blk_set (blk_set HX5.out 0 _) 1 _)); have HR6 := Aside0.mk (R_ckeep (R_xkeep (R_xkeep HR5.out (xkeep_set HX5.out (by decide) 0 _)) (xkeep_set (blk_set HX5.out 0 _) (by decide) 1 _)) hk6); have HB6 := Aside0.mk ((HB5.out.setCell (p := ⟨gl, 0, none⟩) HGL.out _ |>.setCell (p := ⟨gl, 1, none⟩) HGL.out _).trans hb6); have hy3 := (HB6.out.cell (World.block_lt_of_cell? w _ HX3.out)).trans HX3.out; clear hc6 hb6 hk6)
        | (go_at_call 23; (with_reducible refine (cFind k1 w.heap.size g _ _ 0 a1 _ s1 (some 14) _ HB6.out.size HC6.out HF1.out).mono ?_); rintro e_ w7 ⟨rfl, hc7, hb7, hk7⟩; have HC7 := Aside0.mk hc7; have HX7 := Aside0.mk (hk7 _ _ _ (by decide) HX6.out); have HR7 := Aside0.mk (R_ckeep HR6.out hk7); have HB7 := Aside0.mk (HB6.out.trans hb7); simp only [errW_some]; clear hc7 hb7 hk7)
        | (go_at_call 24; (refine (posthorselaw23_code.calls (some 14) 14 _ (Laid.below HL_.out HB7.out) HD.out).mono ?_); rintro e_ w8 ⟨rfl, hb8⟩; have HC8 := Aside0.mk (HC7.out.below hb8); have HX8 := Aside0.mk (blk_below HX7.out hb8); have HR8 := Aside0.mk (Kd.R_below HR7.out hb8); have HB8 := Aside0.mk (below_step HB7.out hb8); clear hb8)
        | (go_at_call 25; obtain ⟨ca, cb, ccn, hcc⟩ := HC8.out; (with_reducible refine (cVersion w.heap.size g m1 ca cb ccn 0 _ hcc).mono ?_); rintro e_ w9 ⟨rfl, hb9⟩; have HC9 := Aside0.mk (HC8.out.below hb9); have HX9 := Aside0.mk (blk_below HX8.out hb9); have HR9 := Aside0.mk (Kd.R_below HR8.out hb9); have HB9 := Aside0.mk (below_step HB8.out hb9); have ha0 := (blk_cell HX9.out 0).trans rfl; have ha1 := (blk_cell HX9.out 1).trans rfl; simp only [HV1.out]; clear hb9 hcc)
        | (go_at_call 22; (with_reducible refine (cLoadS w.heap.size g _ m1 0 (i : Int) A5 cc5 r2.length r2 _ rfl HB9.out.size HC9.out HR9.out HLR.out).mono ?_); rintro e_ w10 ⟨rfl, hc10, hb10, hk10⟩; have HC10 := Aside0.mk hc10; have HX10 := Aside0.mk (hk10 _ _ _ (by decide) HX9.out); have HR10 := Aside0.mk (R_ckeep HR9.out hk10); have HB10 := Aside0.mk (HB9.out.trans hb10); clear hc10 hb10 hk10)
        | (go_at_call 23; (with_reducible refine (cFind k1 w.heap.size g _ _ 0 a1 (i : Int) s2 er2 _ HB10.out.size HC10.out HF2.out).mono ?_); rintro e_ w11 ⟨rfl, hc11, hb11, hk11⟩; have HC11 := Aside0.mk hc11; have HX11 := Aside0.mk (hk11 _ _ _ (by decide) HX10.out); have HR11 := Aside0.mk (Kd.R_reads' (R_ckeep HR10.out hk11)); have HB11 := Aside0.mk (HB10.out.trans hb11); have hb0 := (blk_cell HX11.out 0).trans rfl; have hb1 := (blk_cell HX11.out 1).trans rfl; clear hc11 hb11 hk11)
        | (go_at_call 26; (with_reducible refine (inode_Map.calls k1 (i : Int) A5 cc5 r2 a1 s2 _ _ HR11.out.2.2 HR11.out.2.1 HMp.out).mono ?_); rintro e_ w12 ⟨rfl, hb12⟩; have HC12 := Aside0.mk (HC11.out.below hb12); have HX12 := Aside0.mk (blk_below HX11.out hb12); have HB12 := Aside0.mk (below_step HB11.out hb12); clear hb12; cases er2 <;> simp only [errW_none, errW_some, reduceCtorEq, decide_true, decide_false]))
      all_goals (
        go_roundg k1
        case measure => omega
        case rel => exact ⟨i + 1, m2, _, _, (by first | rfl | rw [HI1.out]), ⟨by have := HI20.out; omega, by have := HI.out; omega⟩, H', HC12, HX12, HB12⟩)
    · rw [if_neg cc] at H
      have hc : (i < l0.length ∧ ¬ i < 20) ∨ ¬ i < l0.length := by omega
      clear cc H
      rcases hc with ⟨g1, g2⟩ | g1
      · have d1 : decide ((i : Int) < (l0.length : Int)) = true := decide_eq_true (by omega)
        have d2 : decide ((i : Int) < 20) = false := decide_eq_false (by omega)
        have d3 := eq_true g1
        have d4 := eq_false g2
        go_wp2
        go_ret
        exact ⟨by first | rfl | simp, HB.out⟩
      · have d1 : decide ((i : Int) < (l0.length : Int)) = false := decide_eq_false (by omega)
        have d3 := eq_false g1
        go_wp2
        go_ret
        exact ⟨by first | rfl | simp, HB.out⟩


end Go.Proofs.YtngokgliagkohaaDoor.VXlatVersions
