/- Contracts of functions of this seat: each call comes to what its Lean function computes; no condition beyond what each theorem states. Printed by a program of this session's own laid over the kit's printer. -/
import Derived.RegionTactic
import Derived.Lib.Builder
import Derived.ArgAppend
import Derived.Deep.OwnRows
import Derived.Test.YtngokgliagkohaaDoorVBitsGetsx0
namespace Go.Proofs.YtngokgliagkohaaDoor.VBitsGets
open Go.RowKit Go.Proofs.YtngokgliagkohaaDoorW.PrintWords Go.Proofs.YtngokgliagkohaaDoorW.PrintLast Go.Proofs.YtngokgliagkohaaDoorW.PrintMore
attribute [local go_sem] max2_int min2_int max_two min_two max_three min_three max_four min_four   -- for this text's walks alone
set_option linter.unusedVariables false
set_option linter.unusedSimpArgs false

-- @GIVEN bits_Set
/-! ### bits_Set: by hand -/
/-- A bits.Set at block g, its row at block tb, both from block B on, that holds l. -/
def SetIs (B g tb c : Nat) (rest : List Value) (l : List Bool) (w : World) : Prop :=
  (B ≤ g ∧ B ≤ tb ∧ g ≠ tb ∧ 1 ≤ l.length ∧ l.length ≤ 4000 ∧ l.length ≤ c ∧ c ≤ 9223372036854775807) ∧ w.heap[g]? = some (.cells #[.slice (some ⟨tb, 0, none⟩) l.length c, .int .i64 (l.count false : Nat)] 86 (0, 0)) ∧ w.heap[tb]? = some (.cells (l.map Value.bool ++ rest).toArray 4 (0, 0))
theorem SetIs.below {B g tb c : Nat} {rest : List Value} {l : List Bool} {w w' : World} (h : SetIs B g tb c rest l w) (hb : Below w.heap.size w w') : SetIs B g tb c rest l w' := ⟨h.1, blk_below h.2.1 hb, blk_below h.2.2 hb⟩
theorem SetIs.cell0 {B g tb c : Nat} {rest : List Value} {l : List Bool} {w : World} (h : SetIs B g tb c rest l w) : w.cell? ⟨g, 0, none⟩ = some (.slice (some ⟨tb, 0, none⟩) l.length c) := by rw [Lib.cell_of_heap h.2.1]; rfl
theorem SetIs.cell1 {B g tb c : Nat} {rest : List Value} {l : List Bool} {w : World} (h : SetIs B g tb c rest l w) : w.cell? ⟨g, 1, none⟩ = some (.int .i64 (l.count false : Nat)) := by rw [Lib.cell_of_heap h.2.1]; rfl
theorem SetIs.frz {B g tb c : Nat} {rest : List Value} {l : List Bool} {w : World} (h : SetIs B g tb c rest l w) (j : Nat) : w.frozen? ⟨g, j, none⟩ = false := Lib.frozen_of_heap h.2.1 j
theorem SetIs.frzT {B g tb c : Nat} {rest : List Value} {l : List Bool} {w : World} (h : SetIs B g tb c rest l w) (j : Nat) : w.frozen? ⟨tb, j, none⟩ = false := Lib.frozen_of_heap h.2.2 j
theorem SetIs.cellT {B g tb c : Nat} {rest : List Value} {l : List Bool} {w : World} (h : SetIs B g tb c rest l w) (j : Nat) (hj : j < l.length) : w.cell? ⟨tb, j, none⟩ = some (.bool (l.getD j false)) := by
  rw [Lib.cell_of_heap h.2.2]
  simp [List.getElem?_append, hj, List.getD_eq_getElem?_getD, List.getElem?_eq_getElem hj]
/-- One number is turned (the count is not: it comes behind). -/
def SetMid (B g tb c : Nat) (rest : List Value) (l l0 : List Bool) (w : World) : Prop :=
  (B ≤ g ∧ B ≤ tb ∧ g ≠ tb ∧ 1 ≤ l.length ∧ l.length ≤ 4000 ∧ l.length ≤ c ∧ c ≤ 9223372036854775807 ∧ l.length = l0.length) ∧ w.heap[g]? = some (.cells #[.slice (some ⟨tb, 0, none⟩) l0.length c, .int .i64 (l0.count false : Nat)] 86 (0, 0)) ∧ w.heap[tb]? = some (.cells (l.map Value.bool ++ rest).toArray 4 (0, 0))
theorem SetMid.cell0 {B g tb c : Nat} {rest : List Value} {l l0 : List Bool} {w : World} (h : SetMid B g tb c rest l l0 w) : w.cell? ⟨g, 0, none⟩ = some (.slice (some ⟨tb, 0, none⟩) l0.length c) := by rw [Lib.cell_of_heap h.2.1]; rfl
theorem SetMid.cell1 {B g tb c : Nat} {rest : List Value} {l l0 : List Bool} {w : World} (h : SetMid B g tb c rest l l0 w) : w.cell? ⟨g, 1, none⟩ = some (.int .i64 (l0.count false : Nat)) := by rw [Lib.cell_of_heap h.2.1]; rfl
theorem SetMid.frz {B g tb c : Nat} {rest : List Value} {l l0 : List Bool} {w : World} (h : SetMid B g tb c rest l l0 w) (j : Nat) : w.frozen? ⟨g, j, none⟩ = false := Lib.frozen_of_heap h.2.1 j
theorem SetMid.frzT {B g tb c : Nat} {rest : List Value} {l l0 : List Bool} {w : World} (h : SetMid B g tb c rest l l0 w) (j : Nat) : w.frozen? ⟨tb, j, none⟩ = false := Lib.frozen_of_heap h.2.2 j
theorem SetMid.cellT {B g tb c : Nat} {rest : List Value} {l l0 : List Bool} {w : World} (h : SetMid B g tb c rest l l0 w) (j : Nat) (hj : j < l.length) : w.cell? ⟨tb, j, none⟩ = some (.bool (l.getD j false)) := by
  rw [Lib.cell_of_heap h.2.2]
  simp [List.getElem?_append, hj, List.getD_eq_getElem?_getD, List.getElem?_eq_getElem hj]
theorem SetMid.put {B g tb c : Nat} {rest : List Value} {l l0 : List Bool} {w : World} (h : SetMid B g tb c rest l l0 w) (j : Nat) (hj : j < l.length) (b : Bool) : SetMid B g tb c rest (l.set j b) l0 (w.setCell ⟨tb, j, none⟩ (.bool b)) := by
  refine ⟨by rw [List.length_set]; exact h.1, ?_, ?_⟩
  · rw [Below.heap_setCell _ _ _ _ h.1.2.2.1]; exact h.2.1
  · have e : ((l.set j b).map Value.bool ++ rest).toArray = ((l.map Value.bool ++ rest).toArray).setIfInBounds j (.bool b) := by
      rw [← Array.toList_inj]
      simp [List.map_set, List.set_append, hj]
    rw [e]
    simp [World.setCell, Array.getElem?_modify, h.2.2]
theorem SetMid.last {B g tb c : Nat} {rest : List Value} {l l0 : List Bool} {w : World} (h : SetMid B g tb c rest l l0 w) : SetIs B g tb c rest l (w.setCell ⟨g, 1, none⟩ (.int .i64 (l.count false : Nat))) := by
  refine ⟨⟨h.1.1, h.1.2.1, h.1.2.2.1, h.1.2.2.2.1, h.1.2.2.2.2.1, h.1.2.2.2.2.2.1, h.1.2.2.2.2.2.2.1⟩, ?_, ?_⟩
  · rw [h.1.2.2.2.2.2.2.2]; simp [World.setCell, Array.getElem?_modify, h.2.1]
  · rw [Below.heap_setCell _ _ _ _ (Ne.symm h.1.2.2.1)]; exact h.2.2
/-- All blocks but these two are as they were. -/
def Keep2 (g tb : Nat) (w w' : World) : Prop := ∀ b : Nat, b ≠ g → b ≠ tb → w'.heap[b]? = w.heap[b]?
theorem SetIs.other {B g tb c g' tb' c' : Nat} {rest rest' : List Value} {l l' : List Bool} {w w' : World} (h : SetIs B g tb c rest l w) (hk : Keep2 g' tb' w w') (h1 : g ≠ g') (h2 : g ≠ tb') (h3 : tb ≠ g') (h4 : tb ≠ tb') : SetIs B g tb c rest l w' :=
  ⟨h.1, (hk g h1 h2).trans h.2.1, (hk tb h3 h4).trans h.2.2⟩
theorem infoBool : (Tryd.prog.info? 4).map (fun i => (i.zero, i.size, i.bytes)) = some (some (.bool false), 1, 1) := by kernel_rfl
theorem madeBools (n : Nat) : madeCells #[Value.bool false] n = ((List.replicate n false).map Value.bool ++ []).toArray := by
  rw [← Array.toList_inj]
  apply List.ext_getElem <;> simp [madeCells, Nat.mod_one]
set_option maxHeartbeats 4000000 in
set_option maxRecDepth 100000 in
theorem setNew (n : Int) (w : World) (h0 : 1 ≤ n) (h1 : n ≤ 4000) :
    Calls Tryd.prog 12 #[.int .i64 n] w fun e w' => ∃ g tb, e = .returned (.tuple #[.pointer (some ⟨g, 0, none⟩), .nilIface]) ∧ SetIs w.heap.size g tb n.toNat [] (List.replicate n.toNat false) w' ∧ Below w.heap.size w w' := by
  obtain ⟨m, rfl⟩ := Int.eq_ofNat_of_zero_le (show 0 ≤ n by omega)
  have d1 : decide ((m : Int) < 1) = false := decide_eq_false (by omega)
  have d2 : decide (4000 < (m : Int)) = false := decide_eq_false (by omega)
  have HM := fun W => run_make_row' (P := Tryd.prog) 74 4 (.bool false) 1 Tryd.underlying74 infoBool rfl .i64 .i64 m (by omega) (by omega) W
  go_enter Tryd.func12, Tryd.ntmps12
  go_wp2
  go_ret2
  refine ⟨w.heap.size + 1, w.heap.size, rfl, ?_, ?_⟩
  · have e : (m : Int).toNat = m := rfl
    rw [e]
    refine ⟨⟨by omega, Nat.le_refl _, by omega, by simpa using (show 1 ≤ m by omega), by simpa using (show m ≤ 4000 by omega), by simp, by omega⟩, ?_, ?_⟩
    · rw [List.length_replicate, List.count_replicate_self]
      have := heap_alloc_new (w.alloc (.cells (madeCells #[.bool false] m) 4)) (.cells #[.slice (some ⟨w.heap.size, 0, none⟩) m m, .int .i64 (m : Int)] 86)
      rw [show (w.alloc (.cells (madeCells #[.bool false] m) 4)).heap.size = w.heap.size + 1 by simp] at this
      exact this
    · rw [← madeBools]
      exact (Below.heap_alloc _ _ _ (by simp)).trans (heap_alloc_new _ _)
  · exact below_alloc (below_alloc (Below.refl _ _) _) _
theorem setNew_not (n : Int) (w : World) (h : ¬ (1 ≤ n ∧ n ≤ 4000)) :
    Calls Tryd.prog 12 #[.int .i64 n] w fun e w' => e = .returned (.tuple #[.pointer none, errW (some 1)]) ∧ w' = w := by
  by_cases c : n < 1
  · have d1 : decide (n < 1) = true := decide_eq_true c
    go_enter Tryd.func12, Tryd.ntmps12
    go_wp2
    go_ret2
    exact ⟨rfl, rfl⟩
  · have d1 : decide (n < 1) = false := decide_eq_false c
    have d2 : decide (4000 < n) = true := decide_eq_true (by omega)
    go_enter Tryd.func12, Tryd.ntmps12
    go_wp2
    go_ret2
    exact ⟨rfl, rfl⟩
set_option maxHeartbeats 4000000 in
set_option maxRecDepth 100000 in
theorem setSize {B g tb c : Nat} {rest : List Value} {l : List Bool} (w : World) (h : SetIs B g tb c rest l w) :
    Calls Tryd.prog 16 #[.pointer (some ⟨g, 0, none⟩)] w fun e w' => e = .returned (.tuple #[.int .i64 l.length, .int .i64 (l.count false : Nat)]) ∧ Below w.heap.size w w' ∧ Keep2 g tb w w' := by
  have h0 := h.cell0
  have h1 := h.cell1
  go_enter Tryd.func16, Tryd.ntmps16
  go_wp2
  go_region
  go_wp2
  go_ret2
  exact ⟨rfl, below_drew (Below.refl _ _), fun _ _ _ => rfl⟩
theorem setSize_nil (w : World) :
    Calls Tryd.prog 16 #[.pointer none] w fun e w' => e = .returned (.tuple #[.int .i64 0, .int .i64 0]) ∧ w' = w := by
  go_enter Tryd.func16, Tryd.ntmps16
  go_wp2
  go_ret2
  exact ⟨rfl, rfl⟩
set_option maxHeartbeats 4000000 in
set_option maxRecDepth 100000 in
theorem setHas {B g tb c : Nat} {rest : List Value} {l : List Bool} (i : Int) (w : World) (h : SetIs B g tb c rest l w) :
    Calls Tryd.prog 17 #[.pointer (some ⟨g, 0, none⟩), .int .i64 i] w fun e w' => e = .returned (.bool (decide (0 ≤ i) && l.getD i.toNat false)) ∧ w' = w := by
  have h0 := h.cell0
  by_cases c0 : 0 ≤ i
  · obtain ⟨n, rfl⟩ := Int.eq_ofNat_of_zero_le c0
    have d0 : decide (0 ≤ (n : Int)) = true := decide_eq_true c0
    by_cases c1 : n < l.length
    · have d1 : decide ((n : Int) < (l.length : Int)) = true := decide_eq_true (by omega)
      have d2 := eq_true (show (n : Int) < (l.length : Int) by omega)
      have d3 := eq_true c1
      have h2 := h.cellT n c1
      have e : l.getD (n : Int).toNat false = l.getD n false := rfl
      rw [e]
      clear e
      generalize l.getD n false = b at *
      go_enter Tryd.func17, Tryd.ntmps17
      go_wp2
      go_ret
      exact ⟨by simp, rfl⟩
    · have d1 : decide ((n : Int) < (l.length : Int)) = false := decide_eq_false (by omega)
      have e : l.getD n false = false := by rw [List.getD_eq_getElem?_getD, List.getElem?_eq_none (by omega)]; rfl
      go_enter Tryd.func17, Tryd.ntmps17
      go_wp2
      go_ret
      exact ⟨by rw [show (n : Int).toNat = n from rfl, e, Bool.and_false]; rfl, rfl⟩
  · have d0 : decide (0 ≤ i) = false := decide_eq_false c0
    go_enter Tryd.func17, Tryd.ntmps17
    go_wp2
    go_ret
    exact ⟨rfl, rfl⟩
theorem setHas_nil (i : Int) (w : World) :
    Calls Tryd.prog 17 #[.pointer none, .int .i64 i] w fun e w' => e = .returned (.bool false) ∧ w' = w := by
  go_enter Tryd.func17, Tryd.ntmps17
  go_wp2
  go_ret
  exact ⟨rfl, rfl⟩
/-- What turn answers. -/
def turnE (l : List Bool) (i n : Int) (b : Bool) (o : Int) : Option Int := if 1 ≤ n ∧ 0 ≤ i ∧ i + n ≤ (l.length : Int) then (if (l.drop i.toNat).take n.toNat = List.replicate n.toNat (!b) then none else some o) else some 1
/-- A run turned. -/
def setRun (l : List Bool) (i n : Nat) (b : Bool) : List Bool := l.take i ++ List.replicate n b ++ l.drop (i + n)
/-- What turn leaves. -/
def turnL (l : List Bool) (i n : Int) (b : Bool) (o : Int) : List Bool := if turnE l i n b o = none then setRun l i.toNat n.toNat b else l
theorem setRun_zero (l : List Bool) (i : Nat) (b : Bool) : setRun l i 0 b = l := by simp [setRun]
theorem setRun_len (l : List Bool) (i n : Nat) (b : Bool) (h : i + n ≤ l.length) : (setRun l i n b).length = l.length := by simp [setRun]; omega
theorem setRun_succ (l : List Bool) (i k : Nat) (b : Bool) (h : i + k < l.length) : (setRun l i k b).set (i + k) b = setRun l i (k + 1) b := by
  unfold setRun
  apply List.ext_getElem?
  intro j
  simp only [List.getElem?_set, List.getElem?_append, List.getElem?_take, List.getElem?_replicate, List.getElem?_drop, List.length_append, List.length_take, List.length_replicate, List.length_drop, Nat.min_eq_left (show i ≤ l.length by omega)]
  by_cases c0 : j < i
  · simp [c0, show j < i + k by omega, show j < i + (k + 1) by omega, show ¬ i + k = j by omega]
  · by_cases c1 : j < i + k
    · simp [c0, c1, show j < i + (k + 1) by omega, show ¬ i + k = j by omega, show j - i < k by omega, show j - i < k + 1 by omega]
    · by_cases c2 : i + k = j
      · subst c2
        simp [h, c0, show 0 < l.length - (i + k) by omega]
      · simp only [c0, c1, c2, if_false, show ¬ j < i + (k + 1) by omega]
        congr 1; omega
theorem setRun_count (l : List Bool) (i n : Nat) (b : Bool) (h : i + n ≤ l.length) (hr : (l.drop i).take n = List.replicate n (!b)) : ((setRun l i n b).count false : Int) = (l.count false : Int) + (if b then -(n : Int) else n) := by
  have e : l = l.take i ++ ((l.drop i).take n ++ l.drop (i + n)) := by rw [← List.drop_drop, List.take_append_drop, List.take_append_drop]
  have e2 : l.count false = (l.take i).count false + ((List.replicate n (!b)).count false + (l.drop (i + n)).count false) := by
    conv => lhs; rw [e]
    rw [List.count_append, List.count_append, hr]
  rw [e2]
  unfold setRun
  rw [List.count_append, List.count_append]
  cases b <;> simp [List.count_replicate] <;> omega
theorem run_all (l : List Bool) (i n : Nat) (b : Bool) (h : i + n ≤ l.length) : (l.drop i).take n = List.replicate n b ↔ ∀ j, j < n → l.getD (i + j) false = b := by
  constructor
  · intro e j hj
    have := congrArg (fun x => x.getD j false) e
    simpa [List.getD_eq_getElem?_getD, List.getElem?_take, List.getElem?_drop, hj, List.getElem?_replicate] using this
  · intro e
    apply List.ext_getElem
    · simp; omega
    · intro j h1 h2
      have hj : j < n := by simpa using h2
      have := e j hj
      rw [List.getD_eq_getElem?_getD, List.getElem?_eq_getElem (by omega)] at this
      simpa using this
theorem turnE_none (l : List Bool) (i n : Nat) (b : Bool) (o : Int) (h1 : 1 ≤ n) (h : i + n ≤ l.length) (ha : ∀ j, j < n → l.getD (i + j) false = !b) : turnE l i n b o = none := by
  unfold turnE
  rw [if_pos ⟨by omega, by omega, by omega⟩, if_pos]
  exact (run_all l i n (!b) h).2 ha
theorem turnE_some (l : List Bool) (i n k : Nat) (b : Bool) (o : Int) (h1 : 1 ≤ n) (h : i + n ≤ l.length) (hk : k < n) (ha : l.getD (i + k) false = b) : turnE l i n b o = some o := by
  unfold turnE
  rw [if_pos ⟨by omega, by omega, by omega⟩, if_neg]
  intro e
  have := (run_all l i n (!b) h).1 e k hk
  rw [ha] at this
  cases b <;> cases this
set_option maxHeartbeats 4000000 in
set_option maxRecDepth 100000 in
theorem setTurn {B g tb c : Nat} {rest : List Value} {l : List Bool} (i n : Int) (b : Bool) (o : Int) (w : World) (h : SetIs B g tb c rest l w) :
    Calls Tryd.prog 39 #[.pointer (some ⟨g, 0, none⟩), .int .i64 i, .int .i64 n, .bool b, .int .i64 o] w fun e w' => e = .returned (errW (turnE l i n b o)) ∧ SetIs B g tb c rest (turnL l i n b o) w' ∧ Below B w w' ∧ Keep2 g tb w w' := by
  have h0 := h.cell0
  by_cases hok : 1 ≤ n ∧ 0 ≤ i ∧ i + n ≤ (l.length : Int)
  case neg =>
    have e1 : turnE l i n b o = some 1 := by unfold turnE; rw [if_neg hok]
    have e2 : turnL l i n b o = l := by unfold turnL; rw [e1]; rfl
    rw [e1, e2, errW_some]
    clear e1 e2
    have HS := Aside0.mk h
    by_cases c1 : n < 1
    · have d1 : decide (n < 1) = true := decide_eq_true c1
      go_enter Tryd.func39, Tryd.ntmps39
      go_wp2
      go_ret
      exact ⟨rfl, HS.out, Below.refl _ _, fun _ _ _ => rfl⟩
    have d1 : decide (n < 1) = false := decide_eq_false c1
    by_cases c2 : i < 0
    · have d2 : decide (i < 0) = true := decide_eq_true c2
      go_enter Tryd.func39, Tryd.ntmps39
      go_wp2
      go_ret
      exact ⟨rfl, HS.out, Below.refl _ _, fun _ _ _ => rfl⟩
    have d2 : decide (i < 0) = false := decide_eq_false c2
    by_cases c3 : (l.length : Int) < n
    · have d3 : decide ((l.length : Int) < n) = true := decide_eq_true c3
      go_enter Tryd.func39, Tryd.ntmps39
      go_wp2
      go_ret
      exact ⟨rfl, HS.out, Below.refl _ _, fun _ _ _ => rfl⟩
    have d3 : decide ((l.length : Int) < n) = false := decide_eq_false c3
    have e4 : wrap64 ((l.length : Int) - n) = (l.length : Int) - n := by have := h.1; unfold wrap64; omega
    have d4 : decide (wrap64 ((l.length : Int) - n) < i) = true := decide_eq_true (by rw [e4]; omega)
    clear e4
    go_enter Tryd.func39, Tryd.ntmps39
    go_wp2
    go_ret
    exact ⟨rfl, HS.out, Below.refl _ _, fun _ _ _ => rfl⟩
  obtain ⟨k1, k2, k3⟩ := hok
  obtain ⟨n, rfl⟩ := Int.eq_ofNat_of_zero_le (show 0 ≤ n by omega)
  obtain ⟨i, rfl⟩ := Int.eq_ofNat_of_zero_le k2
  have K : 1 ≤ n ∧ i + n ≤ l.length := by omega
  have d1 : decide ((n : Int) < 1) = false := decide_eq_false (by omega)
  have d2 : decide ((i : Int) < 0) = false := decide_eq_false (by omega)
  have d3 : decide ((l.length : Int) < (n : Int)) = false := decide_eq_false (by omega)
  have e4 : wrap64 ((l.length : Int) - (n : Int)) = (l.length : Int) - (n : Int) := by have := h.1; unfold wrap64; omega
  have d4 : decide (wrap64 ((l.length : Int) - (n : Int)) < (i : Int)) = false := decide_eq_false (by rw [e4]; omega)
  have e5 : wrap64 ((i : Int) + (n : Int)) = (i : Int) + (n : Int) := by have := h.1; unfold wrap64; omega
  have z1 := eq_true (show 0 ≤ (i : Int) + (n : Int) by omega)
  have z2 := eq_true (show (i : Int) + (n : Int) ≤ (c : Int) by have := h.1; omega)
  have z3 : ((i : Int) + (n : Int)).toNat = i + n := by omega
  have z4 := eq_false (show ¬ c = i by have := h.1; omega)
  clear e4 k1 k2 k3
  have y1 := eq_false (show ¬ l.length < n by omega)
  have y2 := eq_true (show i ≤ i + n by omega)
  have y3 := eq_true (show i + n ≤ c by have := h.1; omega)
  have x1 := eq_true (show (i : Int) ≤ ((i + n : Nat) : Int) by omega)
  have x2 := eq_true (show ((i + n : Nat) : Int) ≤ (c : Int) by have := h.1; omega)
  have HS := Aside0.mk h
  have HK := Aside0.mk K
  go_enter Tryd.func39, Tryd.ntmps39
  go_wp2
  go_loopg [12, 55] (n + 1) (fun kq v12 v55 w' => ∃ k : Nat, v55 = .int .i64 (k : Int) ∧ Aside0 (k ≤ n ∧ kq = n - k + 1 ∧ ∀ j, j < k → l.getD (i + j) false = !b) ∧ Aside0 (SetIs B g tb c rest l w') ∧ Aside0 (Below B w w') ∧ Aside0 (Keep2 g tb w w'))
  case atStart => exact ⟨0, rfl, ⟨by omega, by omega, fun j hj => absurd hj (by omega)⟩, HS, ⟨Below.refl _ _⟩, ⟨fun _ _ _ => rfl⟩⟩
  case round =>
    clear h h0 HS
    obtain ⟨k, rfl, HI, HS, HB, HP⟩ := hrel
    have h0 := HS.out.cell0
    by_cases c1 : k < n
    · have e1 : decide ((k : Int) < (n : Int)) = true := decide_eq_true (by omega)
      have e2 := eq_true (show (k : Int) < (n : Int) by omega)
      have e3 := eq_true c1
      have h2 := HS.out.cellT (i + k) (by have := HK.out; omega)
      have hi1 : wrap64 ((k : Int) + 1) = ((k + 1 : Nat) : Int) := by have := HS.out.1; have := HK.out; unfold wrap64; omega
      by_cases c2 : l.getD (i + k) false = b
      · have E := Aside0.mk (turnE_some l i n k b o HK.out.1 HK.out.2 c1 c2)
        have E2 := Aside0.mk (show turnL l i n b o = l by unfold turnL; rw [E.out]; rfl)
        rw [c2] at h2
        go_wp2
        go_ret
        exact ⟨by rw [E.out, errW_some]; rfl, by rw [E2.out]; exact HS.out, HB.out, HP.out⟩
      · have c3 : l.getD (i + k) false = !b := by revert c2; cases l.getD (i + k) false <;> cases b <;> simp
        rw [c3] at h2
        have HI2 := Aside0.mk (show ∀ j, j < k + 1 → l.getD (i + j) false = !b from fun j hj => by
          by_cases c : j < k
          · exact HI.out.2.2 j c
          · rw [show j = k by omega]; exact c3)
        have e5 : ((!b) == b) = false := by cases b <;> rfl
        clear c2 c3
        go_wp2
        go_roundg (n - k)
        case measure => have := HI.out; omega
        case rel => exact ⟨k + 1, by first | rfl | rw [hi1], ⟨by omega, by omega, HI2.out⟩, HS, HB, HP⟩
    · have e1 : decide ((k : Int) < (n : Int)) = false := decide_eq_false (by omega)
      have E := Aside0.mk <| turnE_none l i n b o HK.out.1 HK.out.2 (fun j hj => HI.out.2.2 j (by have := HI.out; omega))
      have HC := Aside0.mk (setRun_count l i n b HK.out.2 ((run_all l i n (!b) HK.out.2).2 (fun j hj => HI.out.2.2 j (by have := HI.out; omega))))
      have E2 := Aside0.mk (show turnL l i n b o = setRun l i n b by unfold turnL; rw [if_pos E.out]; rfl)
      go_wp2
      go_loopg [13, 66] (n + 1) (fun kq v13 v66 w' => ∃ k : Nat, v66 = .int .i64 (k : Int) ∧ Aside0 (k ≤ n ∧ kq = n - k + 1) ∧ Aside0 (SetMid B g tb c rest (setRun l i k b) l w') ∧ Aside0 (Below B w w') ∧ Aside0 (Keep2 g tb w w'))
      case atStart =>
        refine ⟨0, rfl, ⟨by omega, by omega⟩, ⟨?_⟩, HB, HP⟩
        rw [setRun_zero]
        have := HS.out
        exact ⟨⟨this.1.1, this.1.2.1, this.1.2.2.1, this.1.2.2.2.1, this.1.2.2.2.2.1, this.1.2.2.2.2.2.1, this.1.2.2.2.2.2.2, rfl⟩, this.2.1, this.2.2⟩
      case round =>
        clear e1 HI c1 HB HP h0
        obtain ⟨q, rfl, HI, HM, HB, HP⟩ := hrel
        have g0 := HM.out.cell0
        by_cases c1 : q < n
        · have e1 : decide ((q : Int) < (n : Int)) = true := decide_eq_true (by omega)
          have e6 : wrap64 ((i : Int) + (q : Int)) = (i : Int) + (q : Int) := by have := HS.out.1; have := HK.out; unfold wrap64; omega
          have e7 := eq_true (show 0 ≤ (i : Int) + (q : Int) by omega)
          have e8 := eq_true (show (i : Int) + (q : Int) < (l.length : Int) by have := HK.out; omega)
          have e9 : ((i : Int) + (q : Int)).toNat = i + q := by omega
          have e10 := eq_true (show i + q < l.length by have := HK.out; omega)
          have hi1 : wrap64 ((q : Int) + 1) = ((q + 1 : Nat) : Int) := by have := HS.out.1; have := HK.out; unfold wrap64; omega
          have hlen := setRun_len l i q b (by have := HK.out; omega)
          have h2 := HM.out.cellT (i + q) (by have := HK.out; omega)
          have h3 := HM.out.frzT (i + q)
          have HM2 := Aside0.mk (HM.out.put (i + q) (by have := HK.out; omega) b)
          rw [setRun_succ l i q b (by have := HK.out; omega)] at HM2
          have HB2 := Aside0.mk (HB.out.setCell (p := ⟨tb, i + q, none⟩) HS.out.1.2.1 (.bool b))
          have HP2 := Aside0.mk (show Keep2 g tb w (wr.setCell ⟨tb, i + q, none⟩ (.bool b)) from fun b' h1 h2 => (Below.heap_setCell _ _ _ _ h2).trans (HP.out b' h1 h2))
          clear hlen
          go_wp2
          go_roundg (n - q)
          case measure => have := HI.out; omega
          case rel => exact ⟨q + 1, by first | rfl | rw [hi1], ⟨by omega, by omega⟩, HM2, HB2, HP2⟩
        · have e1 : decide ((q : Int) < (n : Int)) = false := decide_eq_false (by omega)
          obtain rfl : q = n := by have := HI.out; omega
          have g1 := HM.out.cell1
          have g2 := HM.out.frz 1
          have e6 : wrap64 (-(q : Int)) = -(q : Int) := by have := HS.out.1; have := HK.out; unfold wrap64; omega
          cases b
          · have hC := HC.out
            simp only [Bool.false_eq_true, if_false, if_true] at hC
            have hC1 : (l.count false : Nat) ≤ l.length := List.count_le_length
            have HN := HM.out.last
            have hw : wrap64 (((l.count false : Nat) : Int) + (q : Int)) = (((setRun l i q false).count false : Nat) : Int) := by have := HS.out.1; have := HK.out; rw [hC]; unfold wrap64; omega
            have HB2 := HB.out.setCell (p := ⟨g, 1, none⟩) HS.out.1.1 (.int .i64 (((setRun l i q false).count false : Nat) : Int))
            have HP2 : Keep2 g tb w (wr.setCell ⟨g, 1, none⟩ (.int .i64 (((setRun l i q false).count false : Nat) : Int))) := fun b' h1 h2 => (Below.heap_setCell _ _ _ _ h1).trans (HP.out b' h1 h2)
            clear hC hC1
            go_wp2
            go_ret
            exact ⟨by rw [E.out, errW_none]; rfl, by rw [E2.out]; exact HN, HB2, HP2⟩
          · have hC := HC.out
            simp only [Bool.false_eq_true, if_false, if_true] at hC
            have hC1 : (l.count false : Nat) ≤ l.length := List.count_le_length
            have HN := HM.out.last
            have hw : wrap64 (((l.count false : Nat) : Int) + -(q : Int)) = (((setRun l i q true).count false : Nat) : Int) := by have := HS.out.1; have := HK.out; rw [hC]; unfold wrap64; omega
            have HB2 := HB.out.setCell (p := ⟨g, 1, none⟩) HS.out.1.1 (.int .i64 (((setRun l i q true).count false : Nat) : Int))
            have HP2 : Keep2 g tb w (wr.setCell ⟨g, 1, none⟩ (.int .i64 (((setRun l i q true).count false : Nat) : Int))) := fun b' h1 h2 => (Below.heap_setCell _ _ _ _ h1).trans (HP.out b' h1 h2)
            clear hC hC1
            go_wp2
            go_ret
            exact ⟨by rw [E.out, errW_none]; rfl, by rw [E2.out]; exact HN, HB2, HP2⟩
theorem setTurn_nil (i n : Int) (b : Bool) (o : Int) (w : World) :
    Calls Tryd.prog 39 #[.pointer none, .int .i64 i, .int .i64 n, .bool b, .int .i64 o] w fun e w' => e = .returned (errW (some 1)) ∧ w' = w := by
  go_enter Tryd.func39, Tryd.ntmps39
  go_wp2
  go_ret
  exact ⟨rfl, rfl⟩
theorem setTake {B g tb c : Nat} {rest : List Value} {l : List Bool} (i n : Int) (w : World) (h : SetIs B g tb c rest l w) :
    Calls Tryd.prog 13 #[.pointer (some ⟨g, 0, none⟩), .int .i64 i, .int .i64 n] w fun e w' => e = .returned (errW (turnE l i n true 9)) ∧ SetIs B g tb c rest (turnL l i n true 9) w' ∧ Below B w w' ∧ Keep2 g tb w w' := by
  have HS := Aside0.mk h
  clear h
  go_enter Tryd.func13, Tryd.ntmps13
  go_wp2_with (go_at_call 39; (with_reducible refine (setTurn i n true 9 _ HS.out).mono ?_); rintro e w1 ⟨rfl, hs, hb, hk⟩)
  go_ret
  exact ⟨rfl, hs, hb, hk⟩
theorem setGive {B g tb c : Nat} {rest : List Value} {l : List Bool} (i n : Int) (w : World) (h : SetIs B g tb c rest l w) :
    Calls Tryd.prog 15 #[.pointer (some ⟨g, 0, none⟩), .int .i64 i, .int .i64 n] w fun e w' => e = .returned (errW (turnE l i n false 8)) ∧ SetIs B g tb c rest (turnL l i n false 8) w' ∧ Below B w w' ∧ Keep2 g tb w w' := by
  have HS := Aside0.mk h
  clear h
  go_enter Tryd.func15, Tryd.ntmps15
  go_wp2_with (go_at_call 39; (with_reducible refine (setTurn i n false 8 _ HS.out).mono ?_); rintro e w1 ⟨rfl, hs, hb, hk⟩)
  go_ret
  exact ⟨rfl, hs, hb, hk⟩
theorem setTake_nil (i n : Int) (w : World) :
    Calls Tryd.prog 13 #[.pointer none, .int .i64 i, .int .i64 n] w fun e w' => e = .returned (errW (some 1)) ∧ w' = w := by
  go_enter Tryd.func13, Tryd.ntmps13
  go_wp2_with (go_at_call 39; (with_reducible refine (setTurn_nil i n true 9 _).mono ?_); rintro e w1 ⟨rfl, rfl⟩)
  go_ret
  exact ⟨rfl, rfl⟩
theorem setGive_nil (i n : Int) (w : World) :
    Calls Tryd.prog 15 #[.pointer none, .int .i64 i, .int .i64 n] w fun e w' => e = .returned (errW (some 1)) ∧ w' = w := by
  go_enter Tryd.func15, Tryd.ntmps15
  go_wp2_with (go_at_call 39; (with_reducible refine (setTurn_nil i n false 8 _).mono ?_); rintro e w1 ⟨rfl, rfl⟩)
  go_ret
  exact ⟨rfl, rfl⟩
/-- Run's loop: k rounds at most, from number i on, long free ones behind. -/
def runL (l : List Bool) (n : Int) : Nat → Nat → Nat → Int × Bool
  | 0, _, _ => (0, false)
  | k + 1, i, long => if i < l.length then (if l.getD i false = true then runL l n k (i + 1) 0 else if ((long + 1 : Nat) : Int) = n then (((i : Int) - n + 1), true) else runL l n k (i + 1) (long + 1)) else (0, false)
theorem runL_end (l : List Bool) (n : Int) (k i long : Nat) (h : l.length ≤ i) : runL l n k i long = (0, false) := by
  cases k with
  | zero => rfl
  | succ k => rw [runL, if_neg (by omega)]
/-- What Run answers. -/
def runOf (l : List Bool) (n : Int) (from_ : Int) : Int × Bool := if n < 1 then (0, false) else runL l n (l.length + 1) from_.toNat 0
set_option maxHeartbeats 4000000 in
set_option maxRecDepth 100000 in
theorem setRunC {B g tb c : Nat} {rest : List Value} {l : List Bool} (n from_ : Int) (w : World) (h : SetIs B g tb c rest l w) :
    Calls Tryd.prog 19 #[.pointer (some ⟨g, 0, none⟩), .int .i64 n, .int .i64 from_] w fun e w' => e = .returned (.tuple #[.int .i64 (runOf l n from_).1, .bool (runOf l n from_).2]) ∧ w' = w := by
  have h0 := h.cell0
  by_cases c1 : n < 1
  · have d1 : decide (n < 1) = true := decide_eq_true c1
    have e1 : runOf l n from_ = (0, false) := by unfold runOf; rw [if_pos c1]
    rw [e1]
    clear e1
    go_enter Tryd.func19, Tryd.ntmps19
    go_wp2
    go_ret2
    exact ⟨rfl, rfl⟩
  have d1 : decide (n < 1) = false := decide_eq_false c1
  have HS := Aside0.mk h
  have HN := Aside0.mk c1
  have HR := Aside0.mk (show runOf l n from_ = runL l n (l.length + 1) from_.toNat 0 by unfold runOf; rw [if_neg c1])
  generalize runOf l n from_ = R at *
  clear c1 h
  go_enter Tryd.func19, Tryd.ntmps19
  go_wp2
  all_goals
    go_loopg [8, 9] (l.length + 1) (fun kq v8 v9 w' => ∃ i long : Nat, v8 = .int .i64 (long : Int) ∧ v9 = .int .i64 (i : Int) ∧ Aside0 (R = runL l n kq i long ∧ long ≤ i ∧ (l.length < i + kq)) ∧ w' = w)
    case atStart => exact ⟨from_.toNat, 0, rfl, (by first | rfl | (congr 1; omega)), ⟨HR.out, by omega, by omega⟩, rfl⟩
    case round =>
      obtain ⟨i, long, rfl, rfl, HI, rfl⟩ := hrel
      by_cases c : i < l.length
      · obtain ⟨k1, rfl⟩ : ∃ k1, gk = k1 + 1 := ⟨gk - 1, by have := HI.out; omega⟩
        have H := HI.out.1
        rw [runL, if_pos c] at H
        have e3 : decide ((i : Int) < (l.length : Int)) = true := decide_eq_true (by omega)
        have e4 := eq_true (show (i : Int) < (l.length : Int) by omega)
        have e5 := eq_true c
        have h2 := h0
        have h2 := HS.out.cellT i c
        have hi1 : wrap64 ((i : Int) + 1) = ((i + 1 : Nat) : Int) := by have := HS.out.1; unfold wrap64; omega
        have hl1 : wrap64 ((long : Int) + 1) = ((long + 1 : Nat) : Int) := by have := HS.out.1; have := HI.out; unfold wrap64; omega
        cases hb : l.getD i false with
        | true =>
          rw [if_pos hb] at H
          have H' := Aside0.mk H
          rw [hb] at h2
          clear H hb
          go_wp2
          go_roundg k1
          case measure => omega
          case rel => exact ⟨i + 1, 0, by first | rfl | simp, by first | rfl | rw [hi1], ⟨H'.out, by omega, by have := HI.out; omega⟩, rfl⟩
        | false =>
          rw [if_neg (by rw [hb]; simp)] at H
          rw [hb] at h2
          clear hb
          by_cases cn : ((long + 1 : Nat) : Int) = n
          · rw [if_pos cn] at H
            have H' := Aside0.mk H
            have e6 : (((long + 1 : Nat) : Int) == n) = true := beq_iff_eq.2 cn
            have e8 := Aside0.mk <| show wrap64 (wrap64 ((i : Int) - ((long : Int) + 1)) + 1) = (i : Int) - ((long + 1 : Nat) : Int) + 1 from by have := HS.out.1; have := HI.out; unfold wrap64; omega
            clear H hi1
            subst cn
            go_wp2
            go_ret2
            exact ⟨by rw [H'.out, ← e8.out]; rfl, rfl⟩
          · rw [if_neg cn] at H
            have H' := Aside0.mk H
            have e6 : (((long + 1 : Nat) : Int) == n) = false := beq_eq_false_iff_ne.2 cn
            clear H cn
            go_wp2
            go_roundg k1
            case measure => omega
            case rel => exact ⟨i + 1, long + 1, by first | rfl | rw [hl1], by first | rfl | rw [hi1], ⟨H'.out, by have := HI.out; omega, by have := HI.out; omega⟩, rfl⟩
      · have e3 : decide ((i : Int) < (l.length : Int)) = false := decide_eq_false (by omega)
        have E := Aside0.mk (HI.out.1.trans (runL_end l n gk i long (by omega)))
        go_wp2
        go_ret2
        exact ⟨by rw [E.out]; rfl, rfl⟩
theorem setRunC_nil (n from_ : Int) (w : World) :
    Calls Tryd.prog 19 #[.pointer none, .int .i64 n, .int .i64 from_] w fun e w' => e = .returned (.tuple #[.int .i64 0, .bool false]) ∧ w' = w := by
  go_enter Tryd.func19, Tryd.ntmps19
  go_wp2
  go_ret2
  exact ⟨rfl, rfl⟩
/-- Longest's loop: from number i on, the longest so far, long free ones behind. -/
def lonL (l : List Bool) : Nat → Nat → Nat → Nat → Nat → Nat × Nat
  | 0, _, at_, most, _ => (at_, most)
  | k + 1, i, at_, most, long => if i < l.length then (if l.getD i false = true then lonL l k (i + 1) at_ most 0 else if most < long + 1 then lonL l k (i + 1) (i - long) (long + 1) (long + 1) else lonL l k (i + 1) at_ most (long + 1)) else (at_, most)
/-- What Longest answers. -/
def lonOf (l : List Bool) : Nat × Nat := lonL l (l.length + 1) 0 0 0 0
theorem lonL_end (l : List Bool) (k i a m long : Nat) (h : l.length ≤ i) : lonL l k i a m long = (a, m) := by
  cases k with
  | zero => rfl
  | succ k => rw [lonL, if_neg (by omega)]
set_option maxHeartbeats 4000000 in
set_option maxRecDepth 100000 in
theorem setLongest {B g tb c : Nat} {rest : List Value} {l : List Bool} (w : World) (h : SetIs B g tb c rest l w) :
    Calls Tryd.prog 18 #[.pointer (some ⟨g, 0, none⟩)] w fun e w' => e = .returned (.tuple #[.int .i64 ((lonOf l).1 : Nat), .int .i64 ((lonOf l).2 : Nat)]) ∧ w' = w := by
  have h0 := h.cell0
  have HS := Aside0.mk h
  have HR := Aside0.mk (show lonOf l = lonL l (l.length + 1) 0 0 0 0 from rfl)
  generalize lonOf l = R at *
  clear h
  go_enter Tryd.func18, Tryd.ntmps18
  go_wp2
  go_loopg [4, 5, 6, 7, 8, 16] (l.length + 1) (fun kq v4 v5 v6 v7 v8 v16 w' => ∃ i a m long : Nat, v4 = .int .i64 (a : Int) ∧ v5 = .int .i64 (m : Int) ∧ v6 = .int .i64 (long : Int) ∧ v16 = .int .i64 (i : Int) ∧ Aside0 (R = lonL l kq i a m long ∧ long ≤ i ∧ i ≤ l.length ∧ (l.length < i + kq)) ∧ w' = w)
  case atStart => exact ⟨0, 0, 0, 0, rfl, rfl, rfl, rfl, ⟨HR.out, by omega, by omega, by omega⟩, rfl⟩
  case round =>
    obtain ⟨i, a, m, long, rfl, rfl, rfl, rfl, HI, rfl⟩ := hrel
    by_cases c : i < l.length
    · obtain ⟨k1, rfl⟩ : ∃ k1, gk = k1 + 1 := ⟨gk - 1, by have := HI.out; omega⟩
      have H := HI.out.1
      rw [lonL, if_pos c] at H
      have e3 : decide ((i : Int) < (l.length : Int)) = true := decide_eq_true (by omega)
      have e4 := eq_true (show (i : Int) < (l.length : Int) by omega)
      have e5 := eq_true c
      have h2 := HS.out.cellT i c
      have hi1 : wrap64 ((i : Int) + 1) = ((i + 1 : Nat) : Int) := by have := HS.out.1; unfold wrap64; omega
      have hl1 : wrap64 ((long : Int) + 1) = ((long + 1 : Nat) : Int) := by have := HS.out.1; have := HI.out; unfold wrap64; omega
      cases hb : l.getD i false with
      | true =>
        rw [if_pos hb] at H
        have H' := Aside0.mk H
        rw [hb] at h2
        clear H hb
        go_wp2
        go_roundg k1
        case measure => omega
        case rel => exact ⟨i + 1, a, m, 0, rfl, rfl, by first | rfl | simp, by first | rfl | rw [hi1], ⟨H'.out, by omega, by omega, by have := HI.out; omega⟩, rfl⟩
      | false =>
        rw [if_neg (by rw [hb]; simp)] at H
        rw [hb] at h2
        clear hb
        by_cases cn : m < long + 1
        · rw [if_pos cn] at H
          have H' := Aside0.mk H
          have e6 : decide ((m : Int) < ((long + 1 : Nat) : Int)) = true := decide_eq_true (by omega)
          have e6' : decide ((m : Int) < (long : Int) + 1) = true := decide_eq_true (by omega)
          have e7 : wrap64 (wrap64 ((i : Int) - ((long + 1 : Nat) : Int)) + 1) = ((i - long : Nat) : Int) := by have := HS.out.1; have := HI.out; unfold wrap64; omega
          have e7' : wrap64 (wrap64 ((i : Int) - ((long : Int) + 1)) + 1) = ((i - long : Nat) : Int) := by have := HS.out.1; have := HI.out; unfold wrap64; omega
          clear H
          go_wp2
          go_roundg k1
          case measure => omega
          case rel => exact ⟨i + 1, i - long, long + 1, long + 1, by first | rfl | rw [e7] | rw [e7'], by first | rfl | rw [hl1], by first | rfl | rw [hl1], by first | rfl | rw [hi1], ⟨H'.out, by have := HI.out; omega, by omega, by have := HI.out; omega⟩, rfl⟩
        · rw [if_neg cn] at H
          have H' := Aside0.mk H
          have e6 : decide ((m : Int) < ((long + 1 : Nat) : Int)) = false := decide_eq_false (by omega)
          have e6' : decide ((m : Int) < (long : Int) + 1) = false := decide_eq_false (by omega)
          clear H cn
          go_wp2
          go_roundg k1
          case measure => omega
          case rel => exact ⟨i + 1, a, m, long + 1, rfl, rfl, by first | rfl | rw [hl1], by first | rfl | rw [hi1], ⟨H'.out, by have := HI.out; omega, by omega, by have := HI.out; omega⟩, rfl⟩
    · have e3 : decide ((i : Int) < (l.length : Int)) = false := decide_eq_false (by omega)
      have E := Aside0.mk (HI.out.1.trans (lonL_end l gk i a m long (by omega)))
      go_wp2
      go_ret2
      exact ⟨by rw [E.out]; rfl, rfl⟩
theorem setLongest_nil (w : World) :
    Calls Tryd.prog 18 #[.pointer none] w fun e w' => e = .returned (.tuple #[.int .i64 0, .int .i64 0]) ∧ w' = w := by
  go_enter Tryd.func18, Tryd.ntmps18
  go_wp2
  go_ret2
  exact ⟨rfl, rfl⟩
theorem setCopy_nil (w : World) :
    Calls Tryd.prog 14 #[.pointer none] w fun e w' => e = .returned (.pointer none) ∧ w' = w := by
  go_enter Tryd.func14, Tryd.ntmps14
  go_wp2
  go_ret
  exact ⟨rfl, rfl⟩
set_option maxHeartbeats 4000000 in
set_option maxRecDepth 100000 in
theorem setCopy {B g tb c : Nat} {rest : List Value} {l : List Bool} (w : World) (h : SetIs B g tb c rest l w) :
    Calls Tryd.prog 14 #[.pointer (some ⟨g, 0, none⟩)] w fun e w' => ∃ g' tb' c' rest', e = .returned (.pointer (some ⟨g', 0, none⟩)) ∧ SetIs w.heap.size g' tb' c' rest' l w' ∧ Below w.heap.size w w' := by
  have h0 := h.cell0
  have h1 := h.cell1
  have HS := Aside0.mk h
  obtain ⟨i_, hi_, hz_⟩ := Option.map_eq_some_iff.1 infoBool
  simp only [Prod.mk.injEq] at hz_
  obtain ⟨hz0, hz1, hz2⟩ := hz_
  obtain ⟨v', w1, hrun, hown, hgr, _⟩ := run_append_own (P := Tryd.prog) w.drew w.heap.size 74 74 4 i_ (.bool false) 1 1 Tryd.underlying74 hi_ hz0 hz1 hz2 rfl (by decide) (.slice none 0 0) 0 [] (World.ownsRow_nil _ _ _ _) ⟨tb, 0, none⟩ l.length c (l.map Value.bool) (by simp)
    (fun j u hu => by
      have hj : j < l.length := by
        rcases Nat.lt_or_ge j l.length with h | h
        · exact h
        · rw [List.getElem?_eq_none (by simpa using h)] at hu; cases hu
      have := HS.out.cellT j hj
      rw [show (Addr.mk tb 0 none).add j = ⟨tb, j, none⟩ by unfold Addr.add; split <;> simp_all]
      rw [List.getElem?_map, List.getElem?_eq_getElem hj] at hu
      rw [List.getD_eq_getElem?_getD, List.getElem?_eq_getElem hj] at this
      exact this.trans hu)
    (fun u hu => by obtain ⟨b, _, rfl⟩ := List.mem_map.1 hu; rfl) (by have := HS.out.1; show 0 + l.length ≤ 9223372036854775807; omega) (by have := HS.out.1; omega) (Nat.le_refl _)
  clear hi_ hz0 hz1 hz2 h i_
  simp only [Nat.zero_add, List.nil_append, Nat.mul_one] at hrun hown
  rcases hown.2 with ⟨_, h3⟩ | ⟨tb', c', cur, rfl, hb', hcur, hn', hc', hsz', htk⟩
  · have := HS.out.1; omega
  have hgr : w.drew.grownBy w1 none := hgr
  have HCUR := Aside0.mk hcur
  have HTK := Aside0.mk htk
  have HNN := Aside0.mk (And.intro hb' (And.intro hn' hc'))
  have q0 := cell_grown hgr (show w.drew.cell? _ = _ from h0) (by simp)
  have q1 := cell_grown hgr (show w.drew.cell? _ = _ from h1) (by simp)
  have q0' := fun o => (World.cell?_alloc_lt w1 o ⟨g, 0, none⟩ (World.block_lt_of_cell? w1 _ q0)).trans q0
  have q1' := fun o => (World.cell?_alloc_lt w1 o ⟨g, 1, none⟩ (World.block_lt_of_cell? w1 _ q1)).trans q1
  have HB := Aside0.mk ((below_drew (Below.refl w.heap.size w)).grown hgr (Nat.le_refl _) (by intro k hk; cases hk))
  clear hgr hcur htk hown hb' hn' hc' hsz'
  go_enter Tryd.func14, Tryd.ntmps14
  go_wp2
  refine start_ (n := 12) (S := fun w' => w'.cell? ⟨g, 0, none⟩ = some (.slice (some ⟨tb, 0, none⟩) l.length c) ∧ w'.cell? ⟨g, 1, none⟩ = some (.int .i64 (l.count false : Nat))) (ds := []) #[false, false, false, false, false, false, false, false, false, false, false, false] (by kernel_rfl) rfl rfl ⟨h0, h1⟩ (fun hHeld => ?_)
  refine pure_ (i := 0) (N := some 5) (v := ?_) (a' := ?_) #[true, false, false, false, false, false, false, false, false, false, false, false] rfl rfl (by kernel_rfl) (fun _ _ _ h => h) (Or.inl ⟨by rfl, ?_⟩) ?_ ?_
  rotate_left
  · intro w'
    go_simp
    with_reducible rfl
  rotate_left
  · simp only [Act.put, List.setIfInBounds_toArray, List.set_cons_zero, List.set_cons_succ, i64_w, i32_w]
    rfl
  refine pure_ (i := 1) (N := some 6) (v := ?_) (a' := ?_) #[true, true, false, false, false, false, false, false, false, false, false, false] rfl rfl (by kernel_rfl) (fun _ _ _ h => h) (Or.inl ⟨by rfl, ?_⟩) ?_ ?_
  rotate_left
  · intro w'
    go_simp
    with_reducible rfl
  rotate_left
  · simp only [Act.put, List.setIfInBounds_toArray, List.set_cons_zero, List.set_cons_succ, i64_w, i32_w]
    rfl
  refine pure_ (i := 2) (N := some 7) (v := ?_) (a' := ?_) #[true, true, true, false, false, false, false, false, false, false, false, false] rfl rfl (by kernel_rfl) (fun _ _ _ h => h) (Or.inl ⟨by rfl, ?_⟩) ?_ ?_
  rotate_left
  · intro w'
    go_simp
    with_reducible rfl
  rotate_left
  · simp only [Act.put, List.setIfInBounds_toArray, List.set_cons_zero, List.set_cons_succ, i64_w, i32_w]
    rfl
  refine pure_ (i := 5) (N := some 10) (v := ?_) (a' := ?_) #[true, true, true, false, false, true, false, false, false, false, false, false] rfl rfl (by kernel_rfl) (fun _ _ _ h => h) (Or.inl ⟨by rfl, ?_⟩) ?_ ?_
  rotate_left
  · intro w'
    go_simp
    with_reducible rfl
  rotate_left
  · simp only [Act.put, List.setIfInBounds_toArray, List.set_cons_zero, List.set_cons_succ, i64_w, i32_w]
    rfl
  refine pure_ (i := 6) (N := some 11) (v := ?_) (a' := ?_) #[true, true, true, false, false, true, true, false, false, false, false, false] rfl rfl (by kernel_rfl) (fun _ _ _ h => h) (Or.inl ⟨by rfl, ?_⟩) ?_ ?_
  rotate_left
  · intro w'
    go_simp
    with_reducible rfl
  rotate_left
  · simp only [Act.put, List.setIfInBounds_toArray, List.set_cons_zero, List.set_cons_succ, i64_w, i32_w]
    rfl
  refine pure_ (i := 7) (N := some 12) (v := ?_) (a' := ?_) #[true, true, true, false, false, true, true, true, false, false, false, false] rfl rfl (by kernel_rfl) (fun _ _ _ h => h) (Or.inl ⟨by rfl, ?_⟩) ?_ ?_
  rotate_left
  · intro w'
    go_simp
    with_reducible rfl
  rotate_left
  · simp only [Act.put, List.setIfInBounds_toArray, List.set_cons_zero, List.set_cons_succ, i64_w, i32_w]
    rfl
  refine take_ (i := 3) (N := some 8) (v := ?_) (a' := ?_) #[true, true, true, true, false, true, true, true, false, false, false, false] rfl rfl (by kernel_rfl) (fun _ _ _ h => h) (Or.inl ⟨by rfl, ?_⟩) hHeld ?_ ?_
  rotate_left
  · rintro w' ⟨s0, s1⟩
    go_simp
    with_reducible rfl
  rotate_left
  · simp only [Act.put, List.setIfInBounds_toArray, List.set_cons_zero, List.set_cons_succ, i64_w, i32_w]
    rfl
  refine take_ (i := 8) (N := some 13) (v := ?_) (a' := ?_) #[true, true, true, true, false, true, true, true, true, false, false, false] rfl rfl (by kernel_rfl) (fun _ _ _ h => h) (Or.inl ⟨by rfl, ?_⟩) hHeld ?_ ?_
  rotate_left
  · rintro w' ⟨s0, s1⟩
    go_simp
    with_reducible rfl
  rotate_left
  · simp only [Act.put, List.setIfInBounds_toArray, List.set_cons_zero, List.set_cons_succ, i64_w, i32_w]
    rfl
  refine one_ (i := 4) (N := some 9) #[true, true, true, true, true, true, true, true, true, false, false, false] rfl rfl (by kernel_rfl) (by decide) (fun K hK => ?_)
  refine value_ (w1 := w1) (v := .slice (some ⟨tb', 0, none⟩) l.length c') (by rfl) rfl ?_ ?_
  · simp [execOp, resolve, invoke, builtin, Act.eval, hrun, Result.andThen]
  refine hK.out _ _ ⟨q0, q1⟩ (fun hHeld => ?_)
  clear hK K
  refine norm_ (a' := ?_) ?_ ?_
  rotate_left
  · show Act.put _ (some 9) _ = _
    simp only [Act.put, List.setIfInBounds_toArray, List.set_cons_zero, List.set_cons_succ, i64_w, i32_w]
    rfl
  refine pure_ (i := 9) (N := some 14) (v := ?_) (a' := ?_) #[true, true, true, true, true, true, true, true, true, true, false, false] rfl rfl (by kernel_rfl) (fun _ _ _ h => h) (Or.inl ⟨by rfl, ?_⟩) ?_ ?_
  rotate_left
  · intro w'
    go_simp
    with_reducible rfl
  rotate_left
  · simp only [Act.put, List.setIfInBounds_toArray, List.set_cons_zero, List.set_cons_succ, i64_w, i32_w]
    rfl
  refine one_ (i := 10) (N := some 15) #[true, true, true, true, true, true, true, true, true, true, true, false] rfl rfl (by kernel_rfl) (by decide) (fun K hK => ?_)
  refine value_ (w1 := ?_) (v := ?_) (by rfl) rfl ?_ ?_
  rotate_left 2
  · go_simp
    constructor
    · rfl
    · rfl
  refine hK.out _ _ ⟨(q0' _), (q1' _)⟩ (fun hHeld => ?_)
  clear hK K
  refine norm_ (a' := ?_) ?_ ?_
  rotate_left
  · show Act.put _ (some 15) _ = _
    simp only [Act.put, List.setIfInBounds_toArray, List.set_cons_zero, List.set_cons_succ, i64_w, i32_w]
    rfl
  refine pure_ (i := 11) (N := some 2) (v := ?_) (a' := ?_) #[true, true, true, true, true, true, true, true, true, true, true, true] rfl rfl (by kernel_rfl) (fun _ _ _ h => h) (Or.inl ⟨by rfl, ?_⟩) ?_ ?_
  rotate_left
  · intro w'
    go_simp
    with_reducible rfl
  rotate_left
  · simp only [Act.put, List.setIfInBounds_toArray, List.set_cons_zero, List.set_cons_succ, i64_w, i32_w]
    rfl
  refine done_ (by kernel_rfl) ?_
  go_wp2
  go_ret
  have hcu : cur = (l.map Value.bool ++ cur.toList.drop l.length).toArray := by
    have := HTK.out
    rw [Nat.mul_one] at this
    rw [← Array.toList_inj, ← this]
    simp
  have hlt := blk_lt HCUR.out
  refine ⟨w1.heap.size, tb', c', cur.toList.drop l.length, rfl, ⟨⟨Nat.le_trans (Nat.le_of_lt (Nat.lt_of_le_of_lt HNN.out.1 hlt)) (Nat.le_refl _), HNN.out.1, by omega, HS.out.1.2.2.2.1, HS.out.1.2.2.2.2.1, HNN.out.2.1, HNN.out.2.2⟩, heap_alloc_new _ _, ?_⟩, below_alloc HB.out _⟩
  rw [← hcu]
  exact (Below.heap_alloc _ _ _ hlt).trans HCUR.out
theorem turnE_one (l : List Bool) (i : Nat) (b : Bool) (o : Int) (hi : i < l.length) (h : l.getD i false = !b) : turnE l i 1 b o = none :=
  turnE_none l i 1 b o (Nat.le_refl _) (by omega) (fun j hj => by rw [show i + j = i by omega]; exact h)
theorem setRun_one (l : List Bool) (i : Nat) (b : Bool) (hi : i < l.length) : setRun l i 1 b = l.set i b := by
  have := setRun_succ l i 0 b (by omega)
  rw [setRun_zero] at this
  exact this.symm
theorem turnL_one (l : List Bool) (i : Nat) (b : Bool) (o : Int) (hi : i < l.length) (h : l.getD i false = !b) : turnL l i 1 b o = l.set i b := by
  unfold turnL
  rw [if_pos (turnE_one l i b o hi h)]
  exact setRun_one l i b hi
theorem count_one (l : List Bool) (i : Nat) (b : Bool) (hi : i < l.length) (h : l.getD i false = !b) : ((l.set i b).count false : Int) = (l.count false : Int) + (if b then -1 else 1) := by
  have := setRun_count l i 1 b (by omega) ((run_all l i 1 (!b) (by omega)).2 (fun j hj => by rw [show i + j = i by omega]; exact h))
  rw [setRun_one l i b hi] at this
  exact this
theorem getD_set_ (l : List Bool) (i j : Nat) (b : Bool) (hi : i < l.length) : (l.set i b).getD j false = if i = j then b else l.getD j false := by
  rw [List.getD_eq_getElem?_getD, List.getD_eq_getElem?_getD, List.getElem?_set]
  by_cases c : i = j
  · subst c; rw [if_pos rfl, if_pos hi, if_pos rfl]; rfl
  · rw [if_neg c, if_neg c]
theorem getD_rep (n j : Nat) : (List.replicate n false).getD j false = false := by
  rw [List.getD_eq_getElem?_getD, List.getElem?_replicate]; split <;> rfl
theorem SetIs.lower {B B' g tb c : Nat} {rest : List Value} {l : List Bool} {w : World} (h : SetIs B g tb c rest l w) (hB : B' ≤ B) : SetIs B' g tb c rest l w := ⟨⟨Nat.le_trans hB h.1.1, Nat.le_trans hB h.1.2.1, h.1.2.2⟩, h.2⟩
theorem has_eq (l : List Bool) (a : Nat) (b : Bool) (h : l.getD a false = b) : (decide ((0 : Int) ≤ (a : Int)) && l.getD (Int.toNat (a : Int)) false) = b := by rw [Int.toNat_natCast, h, decide_eq_true (by omega)]; rfl


end Go.Proofs.YtngokgliagkohaaDoor.VBitsGets
