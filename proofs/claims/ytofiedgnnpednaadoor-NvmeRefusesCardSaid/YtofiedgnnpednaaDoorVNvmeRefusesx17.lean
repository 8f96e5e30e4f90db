/- Contracts of functions of this seat: each call comes to what its Lean function computes; no condition beyond what each theorem states. Printed by a program of this session's own laid over the kit's printer. -/
import Derived.Test.YtofiedgnnpednaaDoorVNvmeRefusesx0
import Derived.Test.YtofiedgnnpednaaDoorVNvmeRefusesx1
import Derived.Test.YtofiedgnnpednaaDoorVNvmeRefusesx3
import Derived.Test.YtofiedgnnpednaaDoorVNvmeRefusesx16
namespace Go.Proofs.YtofiedgnnpednaaDoor.VNvmeRefuses
open Go.RowKit Go.Proofs.YtofiedgnnpednaaDoorW.PrintWords Go.Proofs.YtofiedgnnpednaaDoorW.PrintLast Go.Proofs.YtofiedgnnpednaaDoorW.PrintMore
attribute [local go_sem] max2_int min2_int max_two min_two max_three min_three max_four min_four   -- for this text's walks alone
set_option linter.unusedVariables false
set_option linter.unusedSimpArgs false

-- @GIVEN slices_Backward_nvme
/-! ### slices_Backward_nvme: by hand -/
attribute [local go_sem] Oper.semAt_some
set_option maxHeartbeats 4000000 in
set_option maxRecDepth 100000 in
theorem nBackward (a : Option Addr) (n c : Nat) (w : World) :
    Calls Tryd.prog 55 #[.slice a n c] w fun r w' => r = .returned (.func (.func 70) #[] #[.pointer (some ⟨w.heap.size, 0, none⟩)]) ∧ w' = w.alloc (.cells #[.slice a n c] 64) := by
  go_enter Tryd.func55, Tryd.ntmps55
  go_wp2
  go_ret
  exact ⟨rfl, rfl⟩
set_option maxHeartbeats 8000000 in
set_option maxRecDepth 100000 in
/-- The iterator over a row of commands from its end on. -/
theorem nBack_in (F : Fence) (n : Nat) (h7 : F.fn 70) (hro : F.round = none) (hn : 1 ≤ n) (l Bs n₀ : Nat) (a : Option Addr) (c : Nat) (zs : List NC) (hz : zs.length < 1000000000) (J Jx : List (Nat × NC) → World → Prop) (hBs : Bs < n₀)
    (hY : ∀ pre x W, J pre W → pre.length < zs.length → YieldAt F (n - 1) Tryd.prog l #[.int .i64 (x.1 : Int), .agg #[.int .i64 x.2.kind, .int .i64 x.2.sector, .string x.2.data, .int .i64 x.2.tag]] W fun e W' =>
      (e = .returned (.bool true) ∧ J (pre ++ [x]) W' ∧ Below n₀ W W') ∨ (e = .returned (.bool false) ∧ Jx (pre ++ [x]) W'))
    (W : World) (hb : W.cell? ⟨Bs, 0, none⟩ = some (.slice a zs.length c)) (hc : W.ownsRow 0 38 4 (.slice a zs.length c) zs.length (flatN zs)) (hlt : ∀ k, (Value.slice a zs.length c).ownBlock = some k → k < n₀) (h0 : J [] W) :
    CallsIn F n Tryd.prog 70 #[.func (.yield l) #[] #[], .pointer (some ⟨Bs, 0, none⟩)] W fun e W' => (∃ v, e = .returned v) ∧
      ((∃ ys, ys = bwN zs zs.length ∧ J ys W') ∨ (∃ pre, (∃ k, k ≤ zs.length ∧ pre = bwN zs k) ∧ Jx pre W')) := by
  refine callsIn_of_wp Tryd.func70 rfl h7 ?_ hro
  simp only [Tryd.ntmps70, List.size_toArray, List.length_cons, List.length_nil, Nat.reduceAdd, Nat.reduceSub, Array.replicate_succ, Array.replicate_zero, List.push_toArray, List.append_toArray, List.nil_append, List.cons_append]
  have hw1 : wrap64 ((zs.length : Int) - 1) = (zs.length : Int) - 1 := by unfold wrap64; omega
  gi_wp2
  gi_loopw [3] (fun i wr => ∃ k : Nat, k ≤ zs.length ∧ i = .int .i64 ((zs.length : Int) - 1 - k) ∧ J (bwN zs k) wr ∧ Below n₀ W wr)
    (fun i _ => (intOf i + 1).toNat)
  case atStart => exact ⟨0, Nat.zero_le _, by simp, h0, Below.refl _ _⟩
  case round =>
    obtain ⟨k, hk, rfl, hJs, hnx⟩ := hrel
    have hbw := (hnx.cell (p := ⟨Bs, 0, none⟩) hBs).trans hb
    by_cases hlt2 : k < zs.length
    · have hrow : wr.ownsRow 0 38 4 (.slice a zs.length c) zs.length (flatN zs) := own_same hc fun g hg => hnx.block g (hlt g hg)
      obtain ⟨g, c', cur, e, _⟩ := row4_open hrow (by omega)
      cases e
      have hx : zs[zs.length - 1 - k]? = some (zs.getD (zs.length - 1 - k) zeroN) := by simp [show zs.length - 1 - k < zs.length by omega]
      obtain ⟨x0, x1, x2, x3⟩ := row4_cell hrow _ _ hx
      obtain ⟨fn, tmps, assign, body, hy, hR⟩ := hY _ (zs.length - 1 - k, zs.getD (zs.length - 1 - k) zeroN) wr hJs (by rw [bwN_length]; exact hlt2)
      have hs := bwN_succ zs k
      obtain ⟨m, hm⟩ : ∃ m, m = zs.length - 1 - k := ⟨_, rfl⟩
      have hi : (zs.length : Int) - 1 - k = (m : Int) := by omega
      have hml : m < zs.length := by omega
      have hw2 : wrap64 ((m : Int) - 1) = (zs.length : Int) - 1 - ((k + 1 : Nat) : Int) := by unfold wrap64; omega
      have hp1 : decide (0 ≤ (m : Int)) = true := decide_eq_true (by omega)
      rw [hi]
      rw [← hm] at x0 x1 x2 x3 hy hR hs
      generalize zs.getD m zeroN = x at x0 x1 x2 x3 hy hR hs
      dsimp only at hy
      clear hx hm
      gi_wp2
      refine hR.mono ?_
      rintro e W3 (⟨rfl, hJ3, hk3⟩ | ⟨rfl, hJx3⟩)
      · gi_wp2
        go_roundw
        case rel => exact ⟨k + 1, by omega, by rw [show ((m : Int) - 1) = (zs.length : Int) - 1 - ((k + 1 : Nat) : Int) by omega], by rw [hs]; exact hJ3, hnx.trans hk3⟩
        case measure => simp only [intOf]; omega
      · gi_wp2
        refine bodyPost_ret (results_none rfl _ _ _) rfl ?_
        exact ⟨⟨_, rfl⟩, .inr ⟨_, ⟨k + 1, by omega, hs.symm⟩, hJx3⟩⟩
    · obtain rfl : k = zs.length := by omega
      have hi : (zs.length : Int) - 1 - (zs.length : Int) = -1 := by omega
      rw [hi]
      gi_wp2
      go_end0
      exact ⟨⟨_, rfl⟩, .inl ⟨_, rfl, hJs⟩⟩
/-- slices.Backward's value, at any row of commands that lies below n₀. -/
theorem nBack_stops (F : Fence) (n : Nat) (h7 : F.fn 70) (hro : F.round = none) (hn : 1 ≤ n) (Bs : Nat) (a : Option Addr) (c : Nat) (zs : List NC) (hz : zs.length < 1000000000) (w : World) (hBs : Bs < w.heap.size)
    (hb : w.cell? ⟨Bs, 0, none⟩ = some (.slice a zs.length c)) (hc : w.ownsRow 0 38 4 (.slice a zs.length c) zs.length (flatN zs)) :
    SeqStopsK F n Tryd.prog 70 #[.pointer (some ⟨Bs, 0, none⟩)] (fun x : Nat × NC => #[.int .i64 (x.1 : Int), .agg #[.int .i64 x.2.kind, .int .i64 x.2.sector, .string x.2.data, .int .i64 x.2.tag]]) (Below w.heap.size) (fun ys => ys = bwN zs zs.length)
      (fun pre => ∃ k, k ≤ zs.length ∧ pre = bwN zs k) zs.length w := fun l J Jx W hW _ _ hY h0 =>
  nBack_in F n h7 hro hn l Bs w.heap.size a c zs hz J Jx hBs hY W ((hW.cell (p := ⟨Bs, 0, none⟩) hBs).trans hb) (own_same hc fun g hg => hW.block g (hc.lt g hg).2) (fun k hk => (hc.lt k hk).2) h0


end Go.Proofs.YtofiedgnnpednaaDoor.VNvmeRefuses
