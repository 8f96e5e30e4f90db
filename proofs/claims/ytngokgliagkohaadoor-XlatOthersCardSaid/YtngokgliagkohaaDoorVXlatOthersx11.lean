/- Contracts of functions of this seat: each call comes to what its Lean function computes; no condition beyond what each theorem states. Printed by a program of this session's own laid over the kit's printer. -/
import Derived.Test.YtngokgliagkohaaDoorVXlatOthersx0
import Derived.Test.YtngokgliagkohaaDoorVXlatOthersx2
import Derived.Test.YtngokgliagkohaaDoorVXlatOthersx3
import Derived.Test.YtngokgliagkohaaDoorVXlatOthersx4
import Derived.Test.YtngokgliagkohaaDoorVXlatOthersx5
import Derived.Test.YtngokgliagkohaaDoorVXlatOthersx7
import Derived.Test.YtngokgliagkohaaDoorVXlatOthersx10
namespace Go.Proofs.YtngokgliagkohaaDoor.VXlatOthers
open Go.RowKit Go.Proofs.YtngokgliagkohaaDoorW.PrintWords Go.Proofs.YtngokgliagkohaaDoorW.PrintLast Go.Proofs.YtngokgliagkohaaDoorW.PrintMore
attribute [local go_sem] max2_int min2_int max_two min_two max_three min_three max_four min_four   -- for this text's walks alone
set_option linter.unusedVariables false
set_option linter.unusedSimpArgs false

-- @GIVEN posthorselaw23_speaks
/-! ### posthorselaw23_speaks: by hand -/
def posthorselaw23_speaks.f (k : Nat) : Option Bool := (inode_Map.f k 3 [⟨10, 2⟩] 1).bind fun r => if r = (11, true) then some true else none
theorem posthorselaw23_speaks.mono : ∀ k, LeO (posthorselaw23_speaks.f k) (posthorselaw23_speaks.f (k + 1)) := by
  intro k
  unfold posthorselaw23_speaks.f
  exact LeO.bind (inode_Map.mono _ _ _ k) fun r => LeO.refl _
/-- A row of one extent, made here. -/
theorem x_lit (W : World) (B : Nat) (hB : B ≤ W.heap.size) (a b : Int) : Kd.R k63 63 (W.alloc (.cells #[.int .i64 a, .int .i64 b] 63)) B (fun _ => True) (.slice (some ⟨W.heap.size, 0, none⟩) 1 1) [⟨a, b⟩] :=
  ⟨fun _ _ => trivial, OwnRow.lit W B (Reps.c2 (k63_mkM _ _ _ (⟨a, b⟩ : XExt)) (Reps.none _ _)) hB (by simp)⟩
set_option maxHeartbeats 8000000 in
set_option maxRecDepth 100000 in
theorem posthorselaw23_speaks.calls (k : Nat) (r : Bool) (w : World) (hL_ : Laid w) (h : posthorselaw23_speaks.f k = some r) :
    Calls Tryd.prog 20 #[] w fun e w' => e = .returned (.bool r) ∧ Below w.heap.size w w' := by
  have HL_ := Aside0.mk hL_
  clear hL_
  unfold posthorselaw23_speaks.f at h
  obtain ⟨q, hq, h⟩ := Option.bind_eq_some_iff.mp h
  by_cases hc : q = (11, true)
  case neg => rw [if_neg hc] at h; cases h
  rw [if_pos hc] at h
  obtain rfl := Option.some.inj h
  subst hc
  have HF1 := Aside0.mk (show findX k [(1, (3, ([⟨10, 2⟩] : List XExt)))] 1 1 3 = some (11, none, [(1, (3, ([⟨10, 2⟩] : List XExt)))]) from by
    unfold findX
    rw [show lookE 1 [(1, (3, ([⟨10, 2⟩] : List XExt)))] = some (3, [⟨10, 2⟩]) from rfl]
    simp only [if_true, hq, Option.bind_some])
  have HF2 := Aside0.mk (show findX k [(1, (3, ([⟨10, 2⟩] : List XExt)))] 1 1 4 = some (0, some 14, []) from rfl)
  have HF3 := Aside0.mk (show findX k [] 1 1 3 = some (0, some 8, []) from rfl)
  clear hq h
  have HC0 := Aside0.mk (CacheIs.new (B := w.heap.size) (heap_alloc_new w (.cells #[.map none, .int .i64 0, .int .i64 0, .int .i64 0] 43)) (Nat.le_refl _))
  have HB0 := Aside0.mk (below_alloc (below_alloc (Below.refl w.heap.size w) (.cells #[.map none, .int .i64 0, .int .i64 0, .int .i64 0] 43)) (.cells #[.int .i64 10, .int .i64 2] 63))
  have HC1 := Aside0.mk (HC0.out.below (below_alloc (Below.refl _ _) (.cells #[.int .i64 10, .int .i64 2] 63)))
  have hsz : (w.alloc (.cells #[.map none, .int .i64 0, .int .i64 0, .int .i64 0] 43)).heap.size = w.heap.size + 1 := by simp
  have HR1 := Aside0.mk (x_lit (w.alloc (.cells #[.map none, .int .i64 0, .int .i64 0, .int .i64 0] 43)) w.heap.size (by rw [hsz]; omega) 10 2)
  rw [hsz] at HR1
  clear hsz
  have HD14 := Aside0.mk (show posthorselaw23_code.f (some 14) = some 14 from rfl)
  have HD8 := Aside0.mk (show posthorselaw23_code.f (some 8) = some 8 from rfl)
  go_enter Tryd.func20, Tryd.ntmps20
  go_wp2_with (first
    | (go_at_call 22; (with_reducible refine (cLoadN w.heap.size w.heap.size w.heap.size [] 0 0 0 1 3 (some ⟨w.heap.size + 1, 0, none⟩) 1 1 ([⟨10, 2⟩] : List XExt) _ rfl HB0.out.size HC1.out HR1.out (by decide)).mono ?_); rintro e w1 ⟨rfl, hc1, hb1, _⟩; have HC2 := Aside0.mk (show CacheSome w.heap.size w.heap.size [(1, (3, ([⟨10, 2⟩] : List XExt)))] w1 from ⟨_, _, _, hc1⟩); have HB2 := Aside0.mk (HB0.out.trans hb1); clear hc1 hb1)
    | (go_at_call 23; (with_reducible refine (cFind k w.heap.size w.heap.size _ _ 1 1 3 11 none _ HB2.out.size HC2.out HF1.out).mono ?_); rintro e w2 ⟨rfl, hc2, hb2, _⟩; have HC3 := Aside0.mk hc2; have HB3 := Aside0.mk (HB2.out.trans hb2); simp only [errW_none]; clear hc2 hb2 HC2)
    | (go_at_call 23; (with_reducible refine (cFind k w.heap.size w.heap.size _ _ 1 1 4 0 (some 14) _ HB3.out.size HC3.out HF2.out).mono ?_); rintro e w3 ⟨rfl, hc3, hb3, _⟩; have HC4 := Aside0.mk hc3; have HB4 := Aside0.mk (HB3.out.trans hb3); simp only [errW_some]; clear hc3 hb3 HC3)
    | (go_at_call 23; (with_reducible refine (cFind k w.heap.size w.heap.size _ _ 1 1 3 0 (some 8) _ HB4.out.size HC4.out HF3.out).mono ?_); rintro e w4 ⟨rfl, hc4, hb4, _⟩; have HB5 := Aside0.mk (HB4.out.trans hb4); simp only [errW_some]; clear hc4 hb4)
    | (go_at_call 24; (refine (posthorselaw23_code.calls (some 14) 14 _ (Laid.below HL_.out HB5.out) HD14.out).mono ?_); rintro e w5 ⟨rfl, hb5⟩; have HB6 := Aside0.mk (below_step HB5.out hb5); clear hb5)
    | (go_at_call 24; (refine (posthorselaw23_code.calls (some 8) 8 _ (Laid.below HL_.out HB6.out) HD8.out).mono ?_); rintro e w6 ⟨rfl, hb6⟩; have HB7 := Aside0.mk (below_step HB6.out hb6); clear hb6))
  go_ret
  exact ⟨by first | rfl | simp, HB7.out⟩
theorem speaks23_true {k : Nat} {r : Bool} (h : posthorselaw23_speaks.f k = some r) : r = true := by
  unfold posthorselaw23_speaks.f at h
  obtain ⟨q, _, h⟩ := Option.bind_eq_some_iff.mp h
  split at h
  · exact (Option.some.inj h).symm
  · cases h


end Go.Proofs.YtngokgliagkohaaDoor.VXlatOthers
