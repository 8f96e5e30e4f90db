/- Contracts of functions of this seat: each call comes to what its Lean function computes; no condition beyond what each theorem states. Printed by a program of this session's own laid over the kit's printer. -/
import Derived.Test.YtofiedgnnpednaaDoorVNvmeRefusesx0
import Derived.Test.YtofiedgnnpednaaDoorVNvmeRefusesx4
import Derived.Test.YtofiedgnnpednaaDoorVNvmeRefusesx7
import Derived.Test.YtofiedgnnpednaaDoorVNvmeRefusesx23
import Derived.Test.YtofiedgnnpednaaDoorVNvmeRefusesx24
import Derived.Test.YtofiedgnnpednaaDoorVNvmeRefusesx25
import Derived.Test.YtofiedgnnpednaaDoorVNvmeRefusesx26
import Derived.Test.YtofiedgnnpednaaDoorVNvmeRefusesx27
import Derived.Test.YtofiedgnnpednaaDoorVNvmeRefusesx30
import Derived.Test.YtofiedgnnpednaaDoorVNvmeRefusesx31
import Derived.Test.YtofiedgnnpednaaDoorVNvmeRefusesx32
import Derived.Test.YtofiedgnnpednaaDoorVNvmeRefusesx33
namespace Go.Proofs.YtofiedgnnpednaaDoor.VNvmeRefuses
open Go.RowKit Go.Proofs.YtofiedgnnpednaaDoorW.PrintWords Go.Proofs.YtofiedgnnpednaaDoorW.PrintLast Go.Proofs.YtofiedgnnpednaaDoorW.PrintMore
attribute [local go_sem] max2_int min2_int max_two min_two max_three min_three max_four min_four   -- for this text's walks alone
set_option linter.unusedVariables false
set_option linter.unusedSimpArgs false

-- @GIVEN posthorselaw04_NvmeRefuses
/-! ### posthorselaw04_NvmeRefuses: by hand -/
theorem below_go {w W W' : World} (h : Below w.heap.size w W) (hb : Below W.heap.size W W') : Below w.heap.size w W' := h.trans (hb.mono (Below.size h))
def posthorselaw04_NvmeRefuses.f (_ _ : Int) : Option Bool := some true
set_option maxHeartbeats 32000000 in
set_option maxRecDepth 100000 in
theorem posthorselaw04_NvmeRefuses.calls (a0 a1 : Int) (r : Bool) (w : World) (hL_ : Laid w) (h : posthorselaw04_NvmeRefuses.f a0 a1 = some r) :
    Calls Tryd.prog 4 #[.int .i64 a0, .int .i64 a1] w fun e w' => e = .returned (.bool r) ∧ Below w.heap.size w w' := by
  have HL_ := Aside0.mk hL_
  clear hL_
  obtain rfl := Option.some.inj h
  clear h
  have HC1 := Aside0.mk (fun (W : World) (hL : Laid W) => (show Calls Tryd.prog 11 #[.iface 75 (.int .i64 1)] W (fun e w' => e = .returned (.int .i64 1) ∧ Below W.heap.size W w') from posthorselaw04_code.calls (some 1) 1 W hL rfl))
  by_cases hok : 1 ≤ a0 ∧ a0 ≤ 2048 ∧ 1 ≤ a1 ∧ a1 ≤ 64
  · have p1 : decide (1 ≤ a0) = true := decide_eq_true hok.1
    have p2 : decide (a0 ≤ 2048) = true := decide_eq_true hok.2.1
    have p3 : decide (1 ≤ a1) = true := decide_eq_true hok.2.2.1
    have p4 : decide (a1 ≤ 64) = true := decide_eq_true hok.2.2.2
    go_enter Tryd.func4, Tryd.ntmps4
    go_wp2_with (fail)
    refine (posthorselaw04_speaks.calls true _ rfl).mono ?_
    rintro e w1 ⟨rfl, hb1⟩
    have HB1 := Aside0.mk hb1
    clear hb1
    go_wp2_with (fail)
    refine (nNew a0 a1 hok.1 hok.2.1 hok.2.2.1 hok.2.2.2 w1).mono ?_
    rintro e w2 ⟨P2, rfl, hd2, hb2⟩
    have HB2 := Aside0.mk (HB1.out.trans (hb2.mono (Below.size HB1.out)))
    have hd2 := hd2.le (Below.size HB1.out)
    clear hb2
    go_wp2_with (fail)
    refine (nSize _ _ _ _ hd2).mono ?_
    rintro e w3 ⟨rfl, n3, rfl⟩
    have HBc := Aside0.mk (pw_below_drewN HB2.out n3)
    clear HB1 HB2 hd2 hok
    generalize w2.drewN n3 = w3 at HBc ⊢
    go_wp2_with (first
      | (go_at_call 14; (with_reducible refine (nCompNil _ _).mono ?_); rintro e w9 ⟨rfl, hb9⟩; have HBn := Aside0.mk (below_go (by first | exact HBc.out | exact below_alloc HBc.out _) hb9); clear HBc; have HBc := HBn; clear HBn hb9)
      | (go_at_call 23; (with_reducible refine (nLookNil _ _).mono ?_); rintro e w9 ⟨rfl, rfl⟩)
      | (go_at_call 16; (with_reducible refine (nFailNil _ _ _).mono ?_); rintro e w9 ⟨rfl, rfl⟩)
      | (go_at_call 17; (with_reducible refine (nCrashNil _ _).mono ?_); rintro e w9 ⟨rfl, rfl⟩)
      | (go_at_call 19; (with_reducible refine (nBootNil _).mono ?_); rintro e w9 ⟨rfl, rfl⟩)
      | (go_at_call 24; (with_reducible refine (nCountsNil _).mono ?_); rintro e w9 ⟨rfl, rfl⟩)
      | (go_at_call 12; (with_reducible refine (nSubmitNil 1 0 0 ⟨#[]⟩ rfl _).mono ?_); rintro e w9 ⟨rfl, hb9⟩; have HBn := Aside0.mk (below_go (by first | exact HBc.out | exact below_alloc HBc.out _) hb9); clear HBc; have HBc := HBn; clear HBn hb9)
      | (go_at_call 25; (with_reducible refine (nDownNil _).mono ?_); rintro e w9 ⟨rfl, rfl⟩)
      | (go_at_call 20; (with_reducible refine (nCopyNil _).mono ?_); rintro e w9 ⟨rfl, rfl⟩)
      | (go_at_call 26; (with_reducible refine (nPendingNil _).mono ?_); rintro e w9 ⟨rfl, rfl⟩)
      | (go_at_call 22; (with_reducible refine (nSizeNil _).mono ?_); rintro e w9 ⟨rfl, rfl⟩)
      | (go_at_call 11; (with_reducible refine (HC1.out _ (Laid.below HL_.out (by first | exact HBc.out | exact below_alloc HBc.out _))).mono ?_); rintro e w9 ⟨rfl, hb9⟩; have HBn := Aside0.mk (below_go (by first | exact HBc.out | exact below_alloc HBc.out _) hb9); clear HBc; have HBc := HBn; clear HBn hb9)
      | fail)
    go_ret
    exact ⟨rfl, (by first | exact HBc.out | exact below_alloc HBc.out _)⟩
  by_cases h1 : 1 ≤ a0
  case neg =>
    have p1 : decide (1 ≤ a0) = false := decide_eq_false h1
    go_enter Tryd.func4, Tryd.ntmps4
    go_wp2_with (fail)
    refine (posthorselaw04_speaks.calls true _ rfl).mono ?_
    rintro e w1 ⟨rfl, hb1⟩
    have HBc := Aside0.mk hb1
    clear hb1
    go_wp2_with (fail)
    refine (nNewBad a0 a1 hok w1).mono ?_
    rintro e w3 ⟨rfl, rfl⟩
    go_wp2_with (first
      | (go_at_call 14; (with_reducible refine (nCompNil _ _).mono ?_); rintro e w9 ⟨rfl, hb9⟩; have HBn := Aside0.mk (below_go (by first | exact HBc.out | exact below_alloc HBc.out _) hb9); clear HBc; have HBc := HBn; clear HBn hb9)
      | (go_at_call 23; (with_reducible refine (nLookNil _ _).mono ?_); rintro e w9 ⟨rfl, rfl⟩)
      | (go_at_call 16; (with_reducible refine (nFailNil _ _ _).mono ?_); rintro e w9 ⟨rfl, rfl⟩)
      | (go_at_call 17; (with_reducible refine (nCrashNil _ _).mono ?_); rintro e w9 ⟨rfl, rfl⟩)
      | (go_at_call 19; (with_reducible refine (nBootNil _).mono ?_); rintro e w9 ⟨rfl, rfl⟩)
      | (go_at_call 24; (with_reducible refine (nCountsNil _).mono ?_); rintro e w9 ⟨rfl, rfl⟩)
      | (go_at_call 12; (with_reducible refine (nSubmitNil 1 0 0 ⟨#[]⟩ rfl _).mono ?_); rintro e w9 ⟨rfl, hb9⟩; have HBn := Aside0.mk (below_go (by first | exact HBc.out | exact below_alloc HBc.out _) hb9); clear HBc; have HBc := HBn; clear HBn hb9)
      | (go_at_call 25; (with_reducible refine (nDownNil _).mono ?_); rintro e w9 ⟨rfl, rfl⟩)
      | (go_at_call 20; (with_reducible refine (nCopyNil _).mono ?_); rintro e w9 ⟨rfl, rfl⟩)
      | (go_at_call 26; (with_reducible refine (nPendingNil _).mono ?_); rintro e w9 ⟨rfl, rfl⟩)
      | (go_at_call 22; (with_reducible refine (nSizeNil _).mono ?_); rintro e w9 ⟨rfl, rfl⟩)
      | (go_at_call 11; (with_reducible refine (HC1.out _ (Laid.below HL_.out (by first | exact HBc.out | exact below_alloc HBc.out _))).mono ?_); rintro e w9 ⟨rfl, hb9⟩; have HBn := Aside0.mk (below_go (by first | exact HBc.out | exact below_alloc HBc.out _) hb9); clear HBc; have HBc := HBn; clear HBn hb9)
      | fail)
    go_ret
    exact ⟨rfl, (by first | exact HBc.out | exact below_alloc HBc.out _)⟩
  by_cases h2 : a0 ≤ 2048
  case neg =>
    have p1 : decide (1 ≤ a0) = true := decide_eq_true h1
    have p2 : decide (a0 ≤ 2048) = false := decide_eq_false h2
    go_enter Tryd.func4, Tryd.ntmps4
    go_wp2_with (fail)
    refine (posthorselaw04_speaks.calls true _ rfl).mono ?_
    rintro e w1 ⟨rfl, hb1⟩
    have HBc := Aside0.mk hb1
    clear hb1
    go_wp2_with (fail)
    refine (nNewBad a0 a1 hok w1).mono ?_
    rintro e w3 ⟨rfl, rfl⟩
    go_wp2_with (first
      | (go_at_call 14; (with_reducible refine (nCompNil _ _).mono ?_); rintro e w9 ⟨rfl, hb9⟩; have HBn := Aside0.mk (below_go (by first | exact HBc.out | exact below_alloc HBc.out _) hb9); clear HBc; have HBc := HBn; clear HBn hb9)
      | (go_at_call 23; (with_reducible refine (nLookNil _ _).mono ?_); rintro e w9 ⟨rfl, rfl⟩)
      | (go_at_call 16; (with_reducible refine (nFailNil _ _ _).mono ?_); rintro e w9 ⟨rfl, rfl⟩)
      | (go_at_call 17; (with_reducible refine (nCrashNil _ _).mono ?_); rintro e w9 ⟨rfl, rfl⟩)
      | (go_at_call 19; (with_reducible refine (nBootNil _).mono ?_); rintro e w9 ⟨rfl, rfl⟩)
      | (go_at_call 24; (with_reducible refine (nCountsNil _).mono ?_); rintro e w9 ⟨rfl, rfl⟩)
      | (go_at_call 12; (with_reducible refine (nSubmitNil 1 0 0 ⟨#[]⟩ rfl _).mono ?_); rintro e w9 ⟨rfl, hb9⟩; have HBn := Aside0.mk (below_go (by first | exact HBc.out | exact below_alloc HBc.out _) hb9); clear HBc; have HBc := HBn; clear HBn hb9)
      | (go_at_call 25; (with_reducible refine (nDownNil _).mono ?_); rintro e w9 ⟨rfl, rfl⟩)
      | (go_at_call 20; (with_reducible refine (nCopyNil _).mono ?_); rintro e w9 ⟨rfl, rfl⟩)
      | (go_at_call 26; (with_reducible refine (nPendingNil _).mono ?_); rintro e w9 ⟨rfl, rfl⟩)
      | (go_at_call 22; (with_reducible refine (nSizeNil _).mono ?_); rintro e w9 ⟨rfl, rfl⟩)
      | (go_at_call 11; (with_reducible refine (HC1.out _ (Laid.below HL_.out (by first | exact HBc.out | exact below_alloc HBc.out _))).mono ?_); rintro e w9 ⟨rfl, hb9⟩; have HBn := Aside0.mk (below_go (by first | exact HBc.out | exact below_alloc HBc.out _) hb9); clear HBc; have HBc := HBn; clear HBn hb9)
      | fail)
    go_ret
    exact ⟨rfl, (by first | exact HBc.out | exact below_alloc HBc.out _)⟩
  by_cases h3 : 1 ≤ a1
  case neg =>
    have p1 : decide (1 ≤ a0) = true := decide_eq_true h1
    have p2 : decide (a0 ≤ 2048) = true := decide_eq_true h2
    have p3 : decide (1 ≤ a1) = false := decide_eq_false h3
    go_enter Tryd.func4, Tryd.ntmps4
    go_wp2_with (fail)
    refine (posthorselaw04_speaks.calls true _ rfl).mono ?_
    rintro e w1 ⟨rfl, hb1⟩
    have HBc := Aside0.mk hb1
    clear hb1
    go_wp2_with (fail)
    refine (nNewBad a0 a1 hok w1).mono ?_
    rintro e w3 ⟨rfl, rfl⟩
    go_wp2_with (first
      | (go_at_call 14; (with_reducible refine (nCompNil _ _).mono ?_); rintro e w9 ⟨rfl, hb9⟩; have HBn := Aside0.mk (below_go (by first | exact HBc.out | exact below_alloc HBc.out _) hb9); clear HBc; have HBc := HBn; clear HBn hb9)
      | (go_at_call 23; (with_reducible refine (nLookNil _ _).mono ?_); rintro e w9 ⟨rfl, rfl⟩)
      | (go_at_call 16; (with_reducible refine (nFailNil _ _ _).mono ?_); rintro e w9 ⟨rfl, rfl⟩)
      | (go_at_call 17; (with_reducible refine (nCrashNil _ _).mono ?_); rintro e w9 ⟨rfl, rfl⟩)
      | (go_at_call 19; (with_reducible refine (nBootNil _).mono ?_); rintro e w9 ⟨rfl, rfl⟩)
      | (go_at_call 24; (with_reducible refine (nCountsNil _).mono ?_); rintro e w9 ⟨rfl, rfl⟩)
      | (go_at_call 12; (with_reducible refine (nSubmitNil 1 0 0 ⟨#[]⟩ rfl _).mono ?_); rintro e w9 ⟨rfl, hb9⟩; have HBn := Aside0.mk (below_go (by first | exact HBc.out | exact below_alloc HBc.out _) hb9); clear HBc; have HBc := HBn; clear HBn hb9)
      | (go_at_call 25; (with_reducible refine (nDownNil _).mono ?_); rintro e w9 ⟨rfl, rfl⟩)
      | (go_at_call 20; (with_reducible refine (nCopyNil _).mono ?_); rintro e w9 ⟨rfl, rfl⟩)
      | (go_at_call 26; (with_reducible refine (nPendingNil _).mono ?_); rintro e w9 ⟨rfl, rfl⟩)
      | (go_at_call 22; (with_reducible refine (nSizeNil _).mono ?_); rintro e w9 ⟨rfl, rfl⟩)
      | (go_at_call 11; (with_reducible refine (HC1.out _ (Laid.below HL_.out (by first | exact HBc.out | exact below_alloc HBc.out _))).mono ?_); rintro e w9 ⟨rfl, hb9⟩; have HBn := Aside0.mk (below_go (by first | exact HBc.out | exact below_alloc HBc.out _) hb9); clear HBc; have HBc := HBn; clear HBn hb9)
      | fail)
    go_ret
    exact ⟨rfl, (by first | exact HBc.out | exact below_alloc HBc.out _)⟩
  · have p1 : decide (1 ≤ a0) = true := decide_eq_true h1
    have p2 : decide (a0 ≤ 2048) = true := decide_eq_true h2
    have p3 : decide (1 ≤ a1) = true := decide_eq_true h3
    have p4 : decide (a1 ≤ 64) = false := decide_eq_false (fun h4 => hok ⟨h1, h2, h3, h4⟩)
    go_enter Tryd.func4, Tryd.ntmps4
    go_wp2_with (fail)
    refine (posthorselaw04_speaks.calls true _ rfl).mono ?_
    rintro e w1 ⟨rfl, hb1⟩
    have HBc := Aside0.mk hb1
    clear hb1
    go_wp2_with (fail)
    refine (nNewBad a0 a1 hok w1).mono ?_
    rintro e w3 ⟨rfl, rfl⟩
    go_wp2_with (first
      | (go_at_call 14; (with_reducible refine (nCompNil _ _).mono ?_); rintro e w9 ⟨rfl, hb9⟩; have HBn := Aside0.mk (below_go (by first | exact HBc.out | exact below_alloc HBc.out _) hb9); clear HBc; have HBc := HBn; clear HBn hb9)
      | (go_at_call 23; (with_reducible refine (nLookNil _ _).mono ?_); rintro e w9 ⟨rfl, rfl⟩)
      | (go_at_call 16; (with_reducible refine (nFailNil _ _ _).mono ?_); rintro e w9 ⟨rfl, rfl⟩)
      | (go_at_call 17; (with_reducible refine (nCrashNil _ _).mono ?_); rintro e w9 ⟨rfl, rfl⟩)
      | (go_at_call 19; (with_reducible refine (nBootNil _).mono ?_); rintro e w9 ⟨rfl, rfl⟩)
      | (go_at_call 24; (with_reducible refine (nCountsNil _).mono ?_); rintro e w9 ⟨rfl, rfl⟩)
      | (go_at_call 12; (with_reducible refine (nSubmitNil 1 0 0 ⟨#[]⟩ rfl _).mono ?_); rintro e w9 ⟨rfl, hb9⟩; have HBn := Aside0.mk (below_go (by first | exact HBc.out | exact below_alloc HBc.out _) hb9); clear HBc; have HBc := HBn; clear HBn hb9)
      | (go_at_call 25; (with_reducible refine (nDownNil _).mono ?_); rintro e w9 ⟨rfl, rfl⟩)
      | (go_at_call 20; (with_reducible refine (nCopyNil _).mono ?_); rintro e w9 ⟨rfl, rfl⟩)
      | (go_at_call 26; (with_reducible refine (nPendingNil _).mono ?_); rintro e w9 ⟨rfl, rfl⟩)
      | (go_at_call 22; (with_reducible refine (nSizeNil _).mono ?_); rintro e w9 ⟨rfl, rfl⟩)
      | (go_at_call 11; (with_reducible refine (HC1.out _ (Laid.below HL_.out (by first | exact HBc.out | exact below_alloc HBc.out _))).mono ?_); rintro e w9 ⟨rfl, hb9⟩; have HBn := Aside0.mk (below_go (by first | exact HBc.out | exact below_alloc HBc.out _) hb9); clear HBc; have HBc := HBn; clear HBn hb9)
      | fail)
    go_ret
    exact ⟨rfl, (by first | exact HBc.out | exact below_alloc HBc.out _)⟩


end Go.Proofs.YtofiedgnnpednaaDoor.VNvmeRefuses
