/- Contracts of functions of this seat: each call comes to what its Lean function computes; no condition beyond what each theorem states. Printed by a program of this session's own laid over the kit's printer. -/
import Derived.Test.YtngokgliagkohaaDoorVBitsGetsx0
import Derived.Test.YtngokgliagkohaaDoorVBitsGetsx5
import Derived.Test.YtngokgliagkohaaDoorVBitsGetsx8
import Derived.Test.YtngokgliagkohaaDoorVBitsGetsx9
import Derived.Test.YtngokgliagkohaaDoorVBitsGetsx12
import Derived.Test.YtngokgliagkohaaDoorVBitsGetsx14
import Derived.Test.YtngokgliagkohaaDoorVBitsGetsx16
import Derived.Test.YtngokgliagkohaaDoorVBitsGetsx17
import Derived.Test.YtngokgliagkohaaDoorVBitsGetsx18
import Derived.Test.YtngokgliagkohaaDoorVBitsGetsx19
namespace Go.Proofs.YtngokgliagkohaaDoor.VBitsGets
open Go.RowKit Go.Proofs.YtngokgliagkohaaDoorW.PrintWords Go.Proofs.YtngokgliagkohaaDoorW.PrintLast Go.Proofs.YtngokgliagkohaaDoorW.PrintMore
attribute [local go_sem] max2_int min2_int max_two min_two max_three min_three max_four min_four   -- for this text's walks alone
set_option linter.unusedVariables false
set_option linter.unusedSimpArgs false

-- @GIVEN posthorselaw07_BitsGets
/-! ### posthorselaw07_BitsGets: by hand -/
/-- The sector, cut. -/
def getsCut (S : ByteArray) (a : Int) : ByteArray := if Go.bits .and .i64 a 3 = 3 then S.extract 0 (mn (Go.bits .and .i64 a 1023) 512).toNat else S
/-- Behind the sector. -/
def getsTail (k : Nat) (s : ByteArray) (a1 : Int) : Option Bool :=
  (bits_Get.f k s a1).bind fun g => (posthorseref07_Get.f k s a1).bind fun h => match g with
    | (none, c) => if h.2 = c ∧ ¬ c = 0 then some true else none
    | (some L, _) => if h = (L, 0) then ((bits_Set_Put.f k L).bind fun p => if p.2 = none then ((posthorseref07_Free.f k L).bind fun c => if c = ((L.count false : Nat) : Int) then ((posthorseref07_Put.f k L).bind fun t => if t = p.1 then some true else none) else none) else none) else none
def posthorselaw07_BitsGets.f (k : Nat) (a0 : ByteArray) (a1 a2 : Int) : Option Bool := (posthorselaw07_speaks.f k).bind fun _ => (posthorseref03_Seal.f k 5 (a0.extract 0 (mn (a0.size : Int) 504).toNat)).bind fun S => if S.1.size = 512 then getsTail k (getsCut S.1 a2) a1 else none
theorem gets_r {k : Nat} {s : ByteArray} {a1 : Int} {r : Bool} (h : getsTail k s a1 = some r) : r = true := by
  unfold getsTail at h
  obtain ⟨⟨g1, g2⟩, _, h⟩ := Option.bind_eq_some_iff.mp h
  obtain ⟨q, _, h⟩ := Option.bind_eq_some_iff.mp h
  cases g1 with
  | none =>
    simp only at h
    split at h
    · exact (Option.some.inj h).symm
    · cases h
  | some L =>
    simp only at h
    split at h
    · obtain ⟨p, _, h⟩ := Option.bind_eq_some_iff.mp h
      split at h
      · obtain ⟨c, _, h⟩ := Option.bind_eq_some_iff.mp h
        split at h
        · obtain ⟨t, _, h⟩ := Option.bind_eq_some_iff.mp h
          split at h
          · exact (Option.some.inj h).symm
          · cases h
        · cases h
      · cases h
    · cases h
theorem code_is2 (e : Option Int) : posthorselaw07_code.f e = some (e.getD 0) := rfl
set_option maxHeartbeats 8000000 in
set_option maxRecDepth 100000 in
theorem posthorselaw07_BitsGets.calls (k : Nat) (a0 : ByteArray) (a1 a2 : Int) (r : Bool) (w : World) (hL_ : Laid w) (h : posthorselaw07_BitsGets.f k a0 a1 a2 = some r) :
    Calls Tryd.prog 9 #[.string a0, .int .i64 a1, .int .i64 a2] w fun e w' => e = .returned (.bool r) ∧ Below w.heap.size w w' := by
  have HL_ := Aside0.mk hL_
  clear hL_
  unfold posthorselaw07_BitsGets.f at h
  obtain ⟨t0, hP, h⟩ := Option.bind_eq_some_iff.mp h
  have ht0 : t0 = true := by
    unfold posthorselaw07_speaks.f at hP
    obtain ⟨p, _, hP⟩ := Option.bind_eq_some_iff.mp hP
    split at hP
    · exact (Option.some.inj hP).symm
    · cases hP
  subst ht0
  obtain ⟨⟨S, S2⟩, hS, h⟩ := Option.bind_eq_some_iff.mp h
  by_cases hsz : S.size = 512
  case neg => rw [if_neg hsz] at h; cases h
  rw [if_pos hsz] at h
  obtain rfl := gets_r h
  have HP := Aside0.mk hP
  have HS := Aside0.mk hS
  clear hP hS
  obtain ⟨ji, hji⟩ : ∃ j_ : Int, (mn (a0.size : Int) 504) = j_ := ⟨_, rfl⟩
  have hji_ : (if 504 < (a0.size : Int) then 504 else (a0.size : Int)) = ji := hji
  have hj0 := eq_true (show 0 ≤ ji by rw [← hji]; unfold mn; split <;> omega)
  have hj1 := eq_true (show ji ≤ (a0.size : Int) by rw [← hji]; unfold mn; split <;> omega)
  have hj0d : decide (0 ≤ ji) = true := decide_eq_true (of_eq_true hj0)
  have hj1d : decide (ji ≤ (a0.size : Int)) = true := decide_eq_true (of_eq_true hj1)
  rw [hji] at HS
  generalize hct : a0.extract 0 ji.toNat = ct at *
  have hY := andm_ a2 1023 (by decide) 10 (by decide)
  have hY0 : 0 ≤ Go.bits .and .i64 a2 1023 := by rw [show Go.bits .and .i64 a2 1023 = a2 % 1024 from hY]; omega
  clear hY
  obtain ⟨yi, hyi⟩ : ∃ j_ : Int, (mn (Go.bits .and .i64 a2 1023) 512) = j_ := ⟨_, rfl⟩
  have hyi_ : (if 512 < Go.bits .and .i64 a2 1023 then 512 else Go.bits .and .i64 a2 1023) = yi := hyi
  have hy0 : 0 ≤ yi := by rw [← hyi]; unfold mn; split <;> omega
  have hy5 : yi ≤ 512 := by rw [← hyi]; unfold mn; split <;> omega
  have hyx : (if 0 < yi then yi else 0) = yi := by split <;> omega
  have hyt := eq_true hy0
  have hyd : decide (0 ≤ yi) = true := decide_eq_true hy0
  have hys := eq_true (show yi ≤ (S.size : Int) by omega)
  have hysd : decide (yi ≤ (S.size : Int)) = true := decide_eq_true (by omega)
  unfold getsCut at h
  rw [hyi] at h
  obtain ⟨sv, hsv⟩ : ∃ s_, s_ = (if Go.bits .and .i64 a2 3 = 3 then S.extract 0 yi.toNat else S) := ⟨_, rfl⟩
  rw [← hsv] at h
  unfold getsTail at h
  obtain ⟨⟨g1, g2⟩, hG, h⟩ := Option.bind_eq_some_iff.mp h
  obtain ⟨⟨q1, q2⟩, hR, h⟩ := Option.bind_eq_some_iff.mp h
  have HG := Aside0.mk hG
  have HR := Aside0.mk hR
  clear hG hR hy5 hY0 hyi hsz
  cases g1 with
  | none =>
    simp only at h
    by_cases hq : q2 = g2 ∧ ¬ g2 = 0
    case neg => rw [if_neg hq] at h; cases h
    obtain ⟨rfl, hq0⟩ := hq
    have HC := Aside0.mk (code_is2 (some q2))
    have n1 : (q2 != q2) = false := by simp
    have n2 : (q2 != 0) = true := bne_iff_ne.2 hq0
    clear h hq0
    by_cases hx : Go.bits .and .i64 a2 3 = 3
    · rw [if_pos hx] at hsv
      have x1 : (Go.bits .and .i64 a2 3 == 3) = true := beq_iff_eq.2 hx
      rw [hsv] at HG HR
      clear hx hsv
      go_enter Tryd.func9, Tryd.ntmps9
      go_wp2_with (first
        | (go_at_call 11; (with_reducible refine (posthorselaw07_speaks.calls k true _ HL_.out HP.out).mono ?_); rintro e w1 ⟨rfl, hb1⟩; have HB1 := Aside0.mk hb1; clear hb1)
        | (go_at_call 31; (with_reducible refine (posthorseref03_Seal.calls k 5 ct S S2 _ HS.out).mono ?_); rintro e w2 ⟨rfl, hb2⟩; have HB2 := Aside0.mk (below_step HB1.out hb2); clear hb2)
        | (go_at_call 32; (with_reducible refine (setGet k (S.extract 0 yi.toNat) a1 _ _ (Laid.below HL_.out HB2.out) HG.out).mono ?_); rintro e w3 ⟨rfl, hb3⟩; have HB3 := Aside0.mk (below_step HB2.out hb3); clear hb3)
        | (go_at_call 33; (with_reducible refine (posthorseref07_Get.calls k (S.extract 0 yi.toNat) a1 q1 q2 _ HR.out).mono ?_); rintro e w4 ⟨v0_, rfl, _, hb4⟩; have HB4 := Aside0.mk (below_step HB3.out hb4); clear hb4)
        | (go_at_call 30; (refine (posthorselaw07_code.calls (some q2) q2 _ (Laid.below HL_.out HB4.out) HC.out).mono ?_); rintro e w5 ⟨rfl, hb5⟩; have HB5 := Aside0.mk (below_step HB4.out hb5); clear hb5))
      go_ret
      exact ⟨by first | rfl | simp, HB5.out⟩
    · rw [if_neg hx] at hsv
      have x1 : (Go.bits .and .i64 a2 3 == 3) = false := beq_eq_false_iff_ne.2 hx
      rw [hsv] at HG HR
      clear hx hsv
      go_enter Tryd.func9, Tryd.ntmps9
      go_wp2_with (first
        | (go_at_call 11; (with_reducible refine (posthorselaw07_speaks.calls k true _ HL_.out HP.out).mono ?_); rintro e w1 ⟨rfl, hb1⟩; have HB1 := Aside0.mk hb1; clear hb1)
        | (go_at_call 31; (with_reducible refine (posthorseref03_Seal.calls k 5 ct S S2 _ HS.out).mono ?_); rintro e w2 ⟨rfl, hb2⟩; have HB2 := Aside0.mk (below_step HB1.out hb2); clear hb2)
        | (go_at_call 32; (with_reducible refine (setGet k S a1 _ _ (Laid.below HL_.out HB2.out) HG.out).mono ?_); rintro e w3 ⟨rfl, hb3⟩; have HB3 := Aside0.mk (below_step HB2.out hb3); clear hb3)
        | (go_at_call 33; (with_reducible refine (posthorseref07_Get.calls k S a1 q1 q2 _ HR.out).mono ?_); rintro e w4 ⟨v0_, rfl, _, hb4⟩; have HB4 := Aside0.mk (below_step HB3.out hb4); clear hb4)
        | (go_at_call 30; (refine (posthorselaw07_code.calls (some q2) q2 _ (Laid.below HL_.out HB4.out) HC.out).mono ?_); rintro e w5 ⟨rfl, hb5⟩; have HB5 := Aside0.mk (below_step HB4.out hb5); clear hb5))
      go_ret
      exact ⟨by first | rfl | simp, HB5.out⟩
  | some L =>
    simp only at h
    by_cases hq : ((q1, q2) : List Bool × Int) = (L, 0)
    case neg => rw [if_neg hq] at h; cases h
    rw [if_pos hq] at h
    obtain ⟨rfl, rfl⟩ := Prod.mk.inj hq
    obtain ⟨⟨ps, pe⟩, hPut, h⟩ := Option.bind_eq_some_iff.mp h
    by_cases hpe : pe = none
    case neg => rw [if_neg hpe] at h; cases h
    subst hpe
    rw [if_pos rfl] at h
    obtain ⟨cf, hF, h⟩ := Option.bind_eq_some_iff.mp h
    by_cases hcf : cf = ((q1.count false : Nat) : Int)
    case neg => rw [if_neg hcf] at h; cases h
    subst hcf
    rw [if_pos rfl] at h
    obtain ⟨tt, hRef, h⟩ := Option.bind_eq_some_iff.mp h
    by_cases htt : tt = ps
    case neg => rw [if_neg htt] at h; cases h
    subst htt
    have HPut := Aside0.mk hPut
    have HF := Aside0.mk hF
    have HRef := Aside0.mk hRef
    have HC := Aside0.mk (code_is2 none)
    have nb : (tt.toList == tt.toList) = true := by simp
    clear h hq hPut hF hRef
    by_cases hx : Go.bits .and .i64 a2 3 = 3
    · rw [if_pos hx] at hsv
      have x1 : (Go.bits .and .i64 a2 3 == 3) = true := beq_iff_eq.2 hx
      rw [hsv] at HG HR
      clear hx hsv
      go_enter Tryd.func9, Tryd.ntmps9
      go_wp2_with (first
        | (go_at_call 11; (with_reducible refine (posthorselaw07_speaks.calls k true _ HL_.out HP.out).mono ?_); rintro e w1 ⟨rfl, hb1⟩; have HB1 := Aside0.mk hb1; clear hb1)
        | (go_at_call 31; (with_reducible refine (posthorseref03_Seal.calls k 5 ct S S2 _ HS.out).mono ?_); rintro e w2 ⟨rfl, hb2⟩; have HB2 := Aside0.mk (below_step HB1.out hb2); clear hb2)
        | (go_at_call 32; (with_reducible refine (setGet k (S.extract 0 yi.toNat) a1 _ _ (Laid.below HL_.out HB2.out) HG.out).mono ?_); rintro e w3 ⟨⟨g, tb, c2, rfl, hs3⟩, hb3⟩; have HU3 := Aside0.mk hs3; have HB3 := Aside0.mk (below_step HB2.out hb3); clear hb3 hs3)
        | (go_at_call 33; (with_reducible refine (posthorseref07_Get.calls k (S.extract 0 yi.toNat) a1 q1 0 _ HR.out).mono ?_); rintro e w4 ⟨v0_, rfl, hr4, hb4⟩; obtain ⟨A', c', rfl, hc', _⟩ := Kd.R_reads hr4; have HC' := Aside0.mk hc'; have HU4 := Aside0.mk (HU3.out.below hb4); have HR4 := Aside0.mk hr4; have HB4 := Aside0.mk (below_step HB3.out hb4); clear hb4 hr4 hc')
        | (go_at_call 30; (refine (posthorselaw07_code.calls none 0 _ (Laid.below HL_.out HB4.out) HC.out).mono ?_); rintro e w5 ⟨rfl, hb5⟩; have HU5 := Aside0.mk (HU4.out.below hb5); have HR5 := Aside0.mk (Kd.R_below HR4.out hb5); have HB5 := Aside0.mk (below_step HB4.out hb5); clear hb5)
        | (go_at_call 29; (with_reducible refine (setPut k tt none _ (Laid.below HL_.out HB5.out) HU5.out HPut.out).mono ?_); rintro e w6 ⟨rfl, hb6⟩; have HU6 := Aside0.mk (HU5.out.below hb6); have HR6 := Aside0.mk (Kd.R_below HR5.out hb6); have HB6 := Aside0.mk (below_step HB5.out hb6); simp only [errW_none]; clear hb6)
        | (go_at_call 34; (with_reducible refine (sameT k A' c' _ HU6.out (Kd.R_reads' HR6.out).2.2 HC'.out HF.out).mono ?_); rintro e w7 ⟨rfl, hb7⟩; have HR7 := Aside0.mk (Kd.R_below HR6.out hb7); have HB7 := Aside0.mk (below_step HB6.out hb7); clear hb7)
        | (go_at_call 35; (with_reducible refine (posthorseref07_Put.calls k A' c' q1 tt _ (Kd.R_reads' HR7.out).2.2 HC'.out HRef.out).mono ?_); rintro e w8 ⟨rfl, hb8⟩; have HB8 := Aside0.mk (below_step HB7.out hb8); clear hb8))
      go_ret
      exact ⟨by first | rfl | simp, HB8.out⟩
    · rw [if_neg hx] at hsv
      have x1 : (Go.bits .and .i64 a2 3 == 3) = false := beq_eq_false_iff_ne.2 hx
      rw [hsv] at HG HR
      clear hx hsv
      go_enter Tryd.func9, Tryd.ntmps9
      go_wp2_with (first
        | (go_at_call 11; (with_reducible refine (posthorselaw07_speaks.calls k true _ HL_.out HP.out).mono ?_); rintro e w1 ⟨rfl, hb1⟩; have HB1 := Aside0.mk hb1; clear hb1)
        | (go_at_call 31; (with_reducible refine (posthorseref03_Seal.calls k 5 ct S S2 _ HS.out).mono ?_); rintro e w2 ⟨rfl, hb2⟩; have HB2 := Aside0.mk (below_step HB1.out hb2); clear hb2)
        | (go_at_call 32; (with_reducible refine (setGet k S a1 _ _ (Laid.below HL_.out HB2.out) HG.out).mono ?_); rintro e w3 ⟨⟨g, tb, c2, rfl, hs3⟩, hb3⟩; have HU3 := Aside0.mk hs3; have HB3 := Aside0.mk (below_step HB2.out hb3); clear hb3 hs3)
        | (go_at_call 33; (with_reducible refine (posthorseref07_Get.calls k S a1 q1 0 _ HR.out).mono ?_); rintro e w4 ⟨v0_, rfl, hr4, hb4⟩; obtain ⟨A', c', rfl, hc', _⟩ := Kd.R_reads hr4; have HC' := Aside0.mk hc'; have HU4 := Aside0.mk (HU3.out.below hb4); have HR4 := Aside0.mk hr4; have HB4 := Aside0.mk (below_step HB3.out hb4); clear hb4 hr4 hc')
        | (go_at_call 30; (refine (posthorselaw07_code.calls none 0 _ (Laid.below HL_.out HB4.out) HC.out).mono ?_); rintro e w5 ⟨rfl, hb5⟩; have HU5 := Aside0.mk (HU4.out.below hb5); have HR5 := Aside0.mk (Kd.R_below HR4.out hb5); have HB5 := Aside0.mk (below_step HB4.out hb5); clear hb5)
        | (go_at_call 29; (with_reducible refine (setPut k tt none _ (Laid.below HL_.out HB5.out) HU5.out HPut.out).mono ?_); rintro e w6 ⟨rfl, hb6⟩; have HU6 := Aside0.mk (HU5.out.below hb6); have HR6 := Aside0.mk (Kd.R_below HR5.out hb6); have HB6 := Aside0.mk (below_step HB5.out hb6); simp only [errW_none]; clear hb6)
        | (go_at_call 34; (with_reducible refine (sameT k A' c' _ HU6.out (Kd.R_reads' HR6.out).2.2 HC'.out HF.out).mono ?_); rintro e w7 ⟨rfl, hb7⟩; have HR7 := Aside0.mk (Kd.R_below HR6.out hb7); have HB7 := Aside0.mk (below_step HB6.out hb7); clear hb7)
        | (go_at_call 35; (with_reducible refine (posthorseref07_Put.calls k A' c' q1 tt _ (Kd.R_reads' HR7.out).2.2 HC'.out HRef.out).mono ?_); rintro e w8 ⟨rfl, hb8⟩; have HB8 := Aside0.mk (below_step HB7.out hb8); clear hb8))
      go_ret
      exact ⟨by first | rfl | simp, HB8.out⟩


end Go.Proofs.YtngokgliagkohaaDoor.VBitsGets
