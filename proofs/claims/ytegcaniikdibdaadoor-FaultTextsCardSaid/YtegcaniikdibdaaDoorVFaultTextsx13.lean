/- Contracts of functions of this seat: each call comes to what its Lean function computes; no condition beyond what each theorem states. Printed by a program of this session's own laid over the kit's printer. -/
import Derived.Test.YtegcaniikdibdaaDoorVFaultTextsx0
import Derived.Test.YtegcaniikdibdaaDoorVFaultTextsx1
namespace Go.Proofs.YtegcaniikdibdaaDoor.VFaultTexts
open Go.RowKit Go.Proofs.YtegcaniikdibdaaDoorW.PrintWords Go.Proofs.YtegcaniikdibdaaDoorW.PrintLast Go.Proofs.YtegcaniikdibdaaDoorW.PrintMore
attribute [local go_sem] max2_int min2_int max_two min_two max_three min_three max_four min_four   -- for this text's walks alone
set_option linter.unusedVariables false
set_option linter.unusedSimpArgs false

-- @GIVEN fault_Join
/-! ### fault_Join: by hand -/
def isNil : Value → Bool
  | .nilIface => true
  | _ => false
/-- Those that there are. -/
def thereE (vs : List Value) : List Value := vs.filter fun v => !(isNil v)
def JoinPost (w : World) (ms : List Value) (r : Ending) (w' : World) : Prop :=
  Below w.heap.size w w' ∧ ((ms = [] ∧ r = .returned .nilIface) ∨ (∃ u, ms = [u] ∧ r = .returned u) ∨ (2 ≤ ms.length ∧ ∃ sv, r = .returned (.iface 52 sv) ∧ w'.ownsRow w.heap.size 27 1 sv ms.length ms))
theorem there_len (vs : List Value) (j : Nat) : (thereE (vs.take j)).length ≤ j := by
  have h1 := List.length_filter_le (fun v => !(isNil v)) (vs.take j)
  have h2 := List.length_take_le j vs
  unfold thereE
  omega
set_option maxHeartbeats 8000000 in
set_option maxRecDepth 100000 in
theorem eJoin (g c : Nat) (vs : List Value) (w : World) (hc : ∀ j u, vs[j]? = some u → w.cell? ⟨g, j, none⟩ = some u) (hv : ∀ u ∈ vs, u = .nilIface ∨ ∃ t x, u = .iface t x) (hn : vs.length ≤ 100) :
    Calls Tryd.prog 20 #[.slice (some ⟨g, 0, none⟩) vs.length c] w fun r w' => JoinPost w (thereE vs) r w' := by
  obtain ⟨i0, hi0, he⟩ := Option.map_eq_some_iff.1 infoE
  simp only [Prod.mk.injEq] at he
  obtain ⟨hz0, hzs, hzb⟩ := he
  have HI := Aside0.mk (And.intro hi0 (And.intro hz0 (And.intro hzs hzb)))
  have HC := Aside0.mk hc
  have HV := Aside0.mk hv
  have HN := Aside0.mk hn
  clear hc hv hn hi0 hz0 hzs hzb
  go_enter Tryd.func20, Tryd.ntmps20
  go_wp2
  go_loopg [3, 8] (vs.length + 1) (fun kq v3 v8 w' => ∃ (j : Nat) (sv : Value), v3 = sv ∧ v8 = .int .i64 (j : Int) ∧ Aside0 (kq = vs.length + 1 - j ∧ j ≤ vs.length) ∧ Aside0 (w'.ownsRow w.heap.size 27 1 sv (thereE (vs.take j)).length (thereE (vs.take j))) ∧ Aside0 (Below w.heap.size w w'))
  case atStart => exact ⟨0, _, rfl, rfl, ⟨by omega, by omega⟩, ⟨own_nil _ _ _ _⟩, ⟨Below.refl _ _⟩⟩
  case round =>
    obtain ⟨j, sv, hs3, hs8, HJ, HO, HB⟩ := hrel
    subst hs3 hs8
    by_cases hlt : j < vs.length
    · have hu := List.getElem?_eq_getElem hlt
      have hcell := pw_cell_below HB.out (HC.out j _ hu)
      have htk : vs.take (j + 1) = vs.take j ++ [vs[j]] := by rw [List.take_add_one, hu]; rfl
      have d1 : decide ((j : Int) < (vs.length : Int)) = true := decide_eq_true (by omega)
      have d2 : decide (j < vs.length) = true := decide_eq_true hlt
      have p0 := eq_true (show (0 : Int) ≤ (j : Int) by omega)
      have p1 := eq_true (show (j : Int) < (vs.length : Int) by omega)
      have p2 := eq_true hlt
      have pj : (j : Int) ≤ 1000 := by have := HN.out; omega
      have pj0 : (0 : Int) ≤ (j : Int) := by omega
      have hor := HV.out vs[j] (List.getElem_mem hlt)
      generalize vs[j] = u at hcell htk hor
      rcases hor with rfl | ⟨t, x, rfl⟩
      · have HT := Aside0.mk (show thereE (vs.take (j + 1)) = thereE (vs.take j) from by rw [htk]; unfold thereE; rw [List.filter_append]; simp [isNil])
        clear hu htk
        go_wp2_with fail
        go_roundg (vs.length + 1 - (j + 1))
        case measure => have := HJ.out; omega
        case rel => exact ⟨j + 1, _, rfl, by go_num, ⟨rfl, by omega⟩, ⟨by rw [HT.out]; exact HO.out⟩, HB⟩
      · have HT := Aside0.mk (show thereE (vs.take (j + 1)) = thereE (vs.take j) ++ [.iface t x] from by rw [htk]; unfold thereE; rw [List.filter_append]; simp [isNil])
        have hba := below_alloc (Below.refl wr.heap.size wr) (.cells #[.iface t x] 27)
        obtain ⟨v', w1, hrun, hown, hgr, _⟩ := run_append_own (P := Tryd.prog) (wr.alloc (.cells #[.iface t x] 27)) w.heap.size 52 52 27 i0 .nilIface 1 16 Tryd.underlying52 HI.out.1 HI.out.2.1 HI.out.2.2.1 HI.out.2.2.2 rfl (by decide) _ _ _ (pw_own_below HO.out hba) ⟨wr.heap.size, 0, none⟩ 1 1 [.iface t x] rfl (fun q u hq => by
          rw [add_plain]
          have h1 := blk_cell (blk_new wr (.cells #[.iface t x] 27)) q
          rw [h1]
          simpa using hq) (fun u hu => by rw [List.mem_singleton.1 hu]; rfl) (by have := there_len vs j; have := HN.out; unfold maxLen; omega) (by have := there_len vs j; have := HN.out; omega) (Nat.le_trans HB.out.size hba.size)
        have HR := Aside0.mk hrun
        have HO1 := Aside0.mk hown
        have HB1 := Aside0.mk ((below_step HB.out hba).grown hgr (Nat.le_trans HB.out.size hba.size) (own_base HO.out))
        clear hrun hown hgr hu htk hba
        go_wp2_with (at_builtin; refine Lib.wpList_append_run _ rfl _ _ _ _ rfl _ _ rfl rfl _ _ HR.out ?_)
        go_roundg (vs.length + 1 - (j + 1))
        case measure => have := HJ.out; omega
        case rel => exact ⟨j + 1, _, rfl, by go_num, ⟨rfl, by omega⟩, ⟨by rw [HT.out, List.length_append]; exact HO1.out⟩, HB1⟩
    · have hj2 : j = vs.length := by have := HJ.out; omega
      have HO2 : Aside0 (wr.ownsRow w.heap.size 27 1 _ (thereE vs).length (thereE vs)) := ⟨by have := HO.out; rw [hj2, List.take_length] at this; exact this⟩
      have d1 : decide ((j : Int) < (vs.length : Int)) = false := decide_eq_false (by omega)
      have d2 : decide (j < vs.length) = false := decide_eq_false hlt
      have p2 := eq_false hlt
      have hll := there_len vs vs.length
      rw [List.take_length] at hll
      have HLL := Aside0.mk hll
      clear HO hll
      cases hm : thereE vs with
      | nil =>
        rw [hm] at HO2
        obtain ⟨A3, c3, hs3⟩ := own_slice HO2.out
        subst hs3
        have HM := Aside0.mk hm
        clear hm HO2
        go_wp2
        go_ret
        exact ⟨HB.out, .inl ⟨HM.out, rfl⟩⟩
      | cons u rest =>
        rw [hm] at HO2
        have HM := Aside0.mk hm
        rw [hm] at HLL
        clear hm
        obtain ⟨g3, c3, hs3, _, _, _, hc3⟩ := row_open HO2.out (by simp)
        subst hs3
        have hc0 := hc3 0 u rfl
        clear hc3
        cases rest with
        | nil =>
          go_wp2
          go_ret
          exact ⟨HB.out, .inr (.inl ⟨u, HM.out, rfl⟩)⟩
        | cons u2 rest =>
          have q1 : ((rest.length : Int) + 1 + 1 == 0) = false := beq_eq_false_iff_ne.2 (by omega)
          have q2 : ((rest.length : Int) + 1 + 1 == 1) = false := beq_eq_false_iff_ne.2 (by omega)
          have q3 : ¬ ((rest.length : Int) + 1 + 1 = 0) := by omega
          have q4 : ¬ ((rest.length : Int) + 1 + 1 = 1) := by omega
          go_wp2
          go_ret
          exact ⟨HB.out, .inr (.inr ⟨by rw [HM.out]; simp, _, rfl, by rw [HM.out]; exact HO2.out⟩)⟩
set_option maxHeartbeats 2000000 in
set_option maxRecDepth 100000 in
theorem eJoin_none (w : World) : Calls Tryd.prog 20 #[.slice none 0 0] w fun r w' => r = .returned .nilIface ∧ w' = w := by
  go_enter Tryd.func20, Tryd.ntmps20
  go_wp2
  refine wp_loop_rounds 1 ?_
  rw [rounds_succ]
  go_wp2
  go_ret
  exact ⟨rfl, rfl⟩


end Go.Proofs.YtegcaniikdibdaaDoor.VFaultTexts
