/- Contracts of functions of this seat: each call comes to what its Lean function computes; no condition beyond what each theorem states. Printed by a program of this session's own laid over the kit's printer. -/
import Derived.RegionTactic
import Derived.Test.YtdlmgjpnlgdpkaaDoorVLeOutsx0
import Derived.Test.YtdlmgjpnlgdpkaaDoorVLeOutsx1
import Derived.Test.YtdlmgjpnlgdpkaaDoorVLeOutsx2
import Derived.Test.YtdlmgjpnlgdpkaaDoorVLeOutsx3
namespace Go.Proofs.YtdlmgjpnlgdpkaaDoor.VLeOuts
open Go.RowKit Go.Proofs.YtdlmgjpnlgdpkaaDoorW.PrintWords Go.Proofs.YtdlmgjpnlgdpkaaDoorW.PrintLast Go.Proofs.YtdlmgjpnlgdpkaaDoorW.PrintMore
attribute [local go_sem] max2_int min2_int max_two min_two max_three min_three max_four min_four   -- for this text's walks alone
set_option linter.unusedVariables false
set_option linter.unusedSimpArgs false

-- @GIVEN le_Out
/-! ### le_Out: by hand -/
/-- A le.Out at block g, all in blocks from B on, that holds the bytes acc; long: did something not go into its bytes? -/
def OutIs (B g : Nat) (acc : ByteArray) (long : Bool) (w : World) : Prop := BOut 45 [.bool long] B g (Lib.strCells acc) w
theorem outLies (long : Bool) : BLies 45 [.bool long] := by unfold BLies; kernel_rfl
theorem OutIs.cell2 {B g : Nat} {acc : ByteArray} {long : Bool} {w : World} (h : OutIs B g acc long w) : w.cell? ⟨g, 2, none⟩ = some (.bool long) := by
  rcases h with ⟨_, v, hb, _⟩ | ⟨_, v, hb, _⟩ <;> (rw [Lib.cell_of_heap hb]; rfl)
theorem OutIs.frozen2 {B g : Nat} {acc : ByteArray} {long : Bool} {w : World} (h : OutIs B g acc long w) : w.frozen? ⟨g, 2, none⟩ = false := by
  rcases h with ⟨_, v, hb, _⟩ | ⟨_, v, hb, _⟩ <;> exact Lib.frozen_of_heap hb 2
theorem OutIs.as {B g : Nat} {acc acc' : ByteArray} {long long' : Bool} {w : World} (h : OutIs B g acc long w) (e : acc = acc') (e2 : long = long') : OutIs B g acc' long' w := by subst e; subst e2; exact h
/-- A new one. -/
theorem OutIs.new {B : Nat} {w w' : World} (h : w'.heap[w.heap.size]? = some (.cells #[.pointer none, .slice none 0 0, .bool false] 45 (0, 0))) (hB : B ≤ w.heap.size) : OutIs B w.heap.size ⟨#[]⟩ false w' :=
  .inl ⟨hB, .slice none 0 0, h, World.ownsRow_nil _ _ _ _, by simp [Value.ownBlock], fun _ => rfl⟩
theorem BKeep.below {g : Nat} {w w1 w2 : World} (h : BKeep g w w1) (hb : Below w1.heap.size w1 w2) : BKeep g w w2 := fun a cs t h1 h2 h3 => blk_below (h a cs t h1 h2 h3) hb
theorem out_flag {B g : Nat} {w w1 w2 : World} {u : Value} (hB : B ≤ w.heap.size) (hg : B ≤ g) (h1 : Below w.heap.size w w1) (h2 : Below B (w1.setCell ⟨g, 2, none⟩ u) w2) : Below B w w2 :=
  ((below_then (Below.refl B w) hB h1).setCell (p := ⟨g, 2, none⟩) hg u).trans h2
set_option maxHeartbeats 4000000 in
set_option maxRecDepth 100000 in
/-- Num: a number's bytes go behind. -/
theorem oNum (k : Nat) (B g : Nat) (acc : ByteArray) (long : Bool) (n size : Int) (s : ByteArray) (w : World) (h : OutIs B g acc long w) (hB : B ≤ w.heap.size) (hs : le_Put.f k n size = some s) (hlen : acc.size + s.size ≤ 140737488355328) :
    Calls Tryd.prog 22 #[.pointer (some ⟨g, 0, none⟩), .int .i64 n, .int .i64 size] w fun e w' => e = .returned (.tuple #[]) ∧ OutIs B g (acc ++ s) (long || s.toList.isEmpty) w' ∧ Below B w w' ∧ BKeep g w w' := by
  have HO := Aside0.mk h
  have HS := Aside0.mk hs
  have HLE := Aside0.mk hlen
  have HB := Aside0.mk hB
  clear h hs hlen hB
  cases long
  all_goals
    go_enter Tryd.func22, Tryd.ntmps22
    go_wp2_with (first
      | (go_at_call 39; (with_reducible refine (le_Put.calls k n size s _ HS.out).mono ?_); rintro e w1 ⟨rfl, hb⟩; have HO1 := Aside0.mk (BOut.below HO.out hb); have HW1 := Aside0.mk hb; have hc2 := OutIs.cell2 HO1.out; have hf2 := OutIs.frozen2 HO1.out; clear hb)
      | (go_at_call 40; refine (bWrite 45 [.bool _] (outLies _) (by decide) B g (Lib.strCells acc) s _ (BOut.rest_set HO1.out) (by have := HLE.out; rw [Lib.strCells_length]; omega) (by simpa [World.setCell] using Nat.le_trans HB.out HW1.out.size)).mono ?_; rintro e w2 ⟨rfl, hbo, hbl, hbk⟩))
    go_end0
    exact ⟨rfl, by unfold OutIs; rw [bcells_append]; exact hbo, out_flag HB.out HO1.out.ge HW1.out hbl, (((BKeep.refl g w).below HW1.out).set 2 _).trans hbk⟩
theorem oNum_nil (n size : Int) (w : World) : Calls Tryd.prog 22 #[.pointer none, .int .i64 n, .int .i64 size] w fun e w' => e = .returned (.tuple #[]) ∧ w' = w := by
  go_enter Tryd.func22, Tryd.ntmps22
  go_wp2
  first | go_end0 | ((try simp only [Exit.inBlock, Exit.then]); refine bodyPost_ret (results_none rfl _ _ _) rfl ?_)
  exact ⟨rfl, rfl⟩
/-- What Text makes of it. -/
def outText (acc : ByteArray) (long : Bool) (s : ByteArray) (size : Int) : ByteArray × Bool := if (s.size : Int) > size then (acc, true) else (acc ++ (s ++ zerosB (size - s.size).toNat), long)
set_option maxHeartbeats 4000000 in
set_option maxRecDepth 100000 in
/-- Text: a text's bytes go behind, and noughts. -/
theorem oText (B g : Nat) (acc : ByteArray) (long : Bool) (s : ByteArray) (size : Int) (w : World) (h : OutIs B g acc long w) (hB : B ≤ w.heap.size) (hsz : size ≤ 140737488355328) (hlen : (acc.size : Int) + size ≤ 140737488355328) :
    Calls Tryd.prog 21 #[.pointer (some ⟨g, 0, none⟩), .string s, .int .i64 size] w fun e w' => e = .returned (.tuple #[]) ∧ OutIs B g (outText acc long s size).1 (outText acc long s size).2 w' ∧ Below B w w' ∧ BKeep g w w' := by
  have HO := Aside0.mk h
  have HLE := Aside0.mk hlen
  have HZ := Aside0.mk hsz
  have HB := Aside0.mk hB
  have hc2 := OutIs.cell2 h
  have hf2 := OutIs.frozen2 h
  clear h hlen hB hsz
  by_cases c : (s.size : Int) > size
  · have cb : decide (size < (s.size : Int)) = true := decide_eq_true c
    have e : outText acc long s size = (acc, true) := by unfold outText; rw [if_pos c]
    rw [e]
    clear c e
    go_enter Tryd.func21, Tryd.ntmps21
    go_wp2
    go_end0
    exact ⟨rfl, BOut.rest_set HO.out, (Below.refl B w).setCell (p := ⟨g, 2, none⟩) HO.out.ge _, (BKeep.refl g w).set 2 _⟩
  · have cb : decide (size < (s.size : Int)) = false := decide_eq_false c
    have CC := Aside0.mk c
    have hw : wrap64 (size - (s.size : Int)) = ((size - (s.size : Int)).toNat : Int) := by have := HZ.out; unfold wrap64; omega
    have HWR := Aside0.mk hw
    have e : outText acc long s size = (acc ++ (s ++ zerosB (size - s.size).toNat), long) := by unfold outText; rw [if_neg c]
    rw [e]
    clear c e hw
    go_enter Tryd.func21, Tryd.ntmps21
    go_wp2_with (go_at_call 40; refine (bWrite 45 [.bool long] (outLies _) (by decide) B g (Lib.strCells acc) s _ HO.out (by have := HLE.out; have := HZ.out; have := CC.out; rw [Lib.strCells_length]; omega) HB.out).mono ?_; rintro e w2 ⟨rfl, hbo, hbl, hbk⟩)
    refine start_ (n := 9) (S := fun w' => True) (ds := []) #[false, false, false, false, false, false, false, false, false] (by kernel_rfl) rfl rfl trivial (fun hHeld => ?_)
    refine pure_ (i := 0) (N := some 11) (v := ?_) (a' := ?_) #[true, false, false, false, false, false, false, false, false] rfl rfl (by kernel_rfl) (fun _ _ _ h => h) (Or.inl ⟨by rfl, ?_⟩) ?_ ?_
    rotate_left
    · intro w'
      go_simp
      with_reducible rfl
    rotate_left
    · simp only [Act.put, List.setIfInBounds_toArray, List.set_cons_zero, List.set_cons_succ, i64_w, i32_w]
      rfl
    refine pure_ (i := 1) (N := some 12) (v := ?_) (a' := ?_) #[true, true, false, false, false, false, false, false, false] rfl rfl (by kernel_rfl) (fun _ _ _ h => h) (Or.inl ⟨by rfl, ?_⟩) ?_ ?_
    rotate_left
    · intro w'
      go_simp
      with_reducible rfl
    rotate_left
    · simp only [Act.put, List.setIfInBounds_toArray, List.set_cons_zero, List.set_cons_succ, i64_w, i32_w]
      rfl
    refine pure_ (i := 2) (N := some 13) (v := ?_) (a' := ?_) #[true, true, true, false, false, false, false, false, false] rfl rfl (by kernel_rfl) (fun _ _ _ h => h) (Or.inl ⟨by rfl, ?_⟩) ?_ ?_
    rotate_left
    · intro w'
      go_simp
      with_reducible rfl
    rotate_left
    · simp only [Act.put, List.setIfInBounds_toArray, List.set_cons_zero, List.set_cons_succ, i64_w, i32_w]
      rfl
    refine pure_ (i := 3) (N := some 14) (v := ?_) (a' := ?_) #[true, true, true, true, false, false, false, false, false] rfl rfl (by kernel_rfl) (fun _ _ _ h => h) (Or.inl ⟨by rfl, ?_⟩) ?_ ?_
    rotate_left
    · intro w'
      go_simp
      with_reducible rfl
    rotate_left
    · simp only [Act.put, List.setIfInBounds_toArray, List.set_cons_zero, List.set_cons_succ, i64_w, i32_w]
      rfl
    refine pure_ (i := 4) (N := some 15) (v := ?_) (a' := ?_) #[true, true, true, true, true, false, false, false, false] rfl rfl (by kernel_rfl) (fun _ _ _ h => h) (Or.inl ⟨by rfl, ?_⟩) ?_ ?_
    rotate_left
    · intro w'
      go_simp
      with_reducible rfl
    rotate_left
    · simp only [Act.put, List.setIfInBounds_toArray, List.set_cons_zero, List.set_cons_succ, i64_w, i32_w]
      rfl
    refine pure_ (i := 5) (N := some 16) (v := ?_) (a' := ?_) #[true, true, true, true, true, true, false, false, false] rfl rfl (by kernel_rfl) (fun _ _ _ h => h) (Or.inl ⟨by rfl, ?_⟩) ?_ ?_
    rotate_left
    · intro w'
      go_simp
      with_reducible rfl
    rotate_left
    · simp only [Act.put, List.setIfInBounds_toArray, List.set_cons_zero, List.set_cons_succ, i64_w, i32_w]
      rfl
    refine pure_ (i := 6) (N := some 17) (v := ?_) (a' := ?_) #[true, true, true, true, true, true, true, false, false] rfl rfl (by kernel_rfl) (fun _ _ _ h => h) (Or.inl ⟨by rfl, ?_⟩) ?_ ?_
    rotate_left
    · intro w'
      go_simp
      with_reducible rfl
    rotate_left
    · simp only [Act.put, List.setIfInBounds_toArray, List.set_cons_zero, List.set_cons_succ, i64_w, i32_w]
      rfl
    refine one_ (i := 7) (N := some 18) #[true, true, true, true, true, true, true, true, false] rfl rfl (by kernel_rfl) (by decide) (fun K hK => ?_)
    refine goes_ Tryd.func36 (by kernel_rfl) rfl #[.string ⟨#[0]⟩, .int .i64 (wrap64 (size - (s.size : Int)))] (by rfl) rfl rfl (by simp only [List.map_toArray, List.map_cons, List.map_nil]; rfl) ?_
    with_reducible refine (rep0i (wrap64 (size - (s.size : Int))) (size - (s.size : Int)).toNat _ HWR.out (by have := HLE.out; have := HZ.out; omega)).mono ?_
    rintro e w3 ⟨rfl, hb3⟩
    refine ⟨_, rfl, ?_⟩
    refine hK.out _ _ trivial (fun hHeld => ?_)
    clear hK K
    refine norm_ (a' := ?_) ?_ ?_
    rotate_left
    · show Act.put _ (some 18) _ = _
      simp only [Act.put, List.setIfInBounds_toArray, List.set_cons_zero, List.set_cons_succ, i64_w, i32_w]
      rfl
    refine one_ (i := 8) (N := some 19) #[true, true, true, true, true, true, true, true, true] rfl rfl (by kernel_rfl) (by decide) (fun K hK => ?_)
    refine goes_ Tryd.func40 (by kernel_rfl) rfl #[.pointer (some ⟨g, 0, none⟩), .string (zerosB (size - (s.size : Int)).toNat)] (by rfl) rfl rfl (by simp only [List.map_toArray, List.map_cons, List.map_nil]; rfl) ?_
    with_reducible refine (bWrite 45 [.bool long] (outLies _) (by decide) B g (Lib.strCells acc ++ Lib.strCells s) (zerosB _) _ (BOut.below (BOut.drew hbo) hb3) (by have := HLE.out; have := HZ.out; have := CC.out; rw [List.length_append, Lib.strCells_length, Lib.strCells_length, zerosB_size]; omega) (Nat.le_trans HB.out (Nat.le_trans hbl.drew.size hb3.size))).mono ?_
    rintro e w4 ⟨rfl, hbo4, hbl4, hbk4⟩
    refine ⟨_, rfl, ?_⟩
    refine hK.out _ _ trivial (fun hHeld => ?_)
    clear hK K
    refine norm_ (a' := ?_) ?_ ?_
    rotate_left
    · show Act.put _ (some 19) _ = _
      simp only [Act.put, List.setIfInBounds_toArray, List.set_cons_zero, List.set_cons_succ, i64_w, i32_w]
      rfl
    refine done_ (by kernel_rfl) ?_
    go_wp2
    go_end0
    have hbd : Below B w w2.drew := hbl.drew
    have hkd : BKeep g w w2.drew := hbk
    exact ⟨rfl, by unfold OutIs; rw [bcells_append, bcells_append, ← List.append_assoc]; exact hbo4, (below_then hbd (Nat.le_trans HB.out hbd.size) hb3).trans hbl4, (hkd.below hb3).trans hbk4⟩
theorem oText_nil (s : ByteArray) (size : Int) (w : World) : Calls Tryd.prog 21 #[.pointer none, .string s, .int .i64 size] w fun e w' => e = .returned (.tuple #[]) ∧ w' = w := by
  go_enter Tryd.func21, Tryd.ntmps21
  go_wp2
  go_end0
  exact ⟨rfl, rfl⟩
/-- What String answers. -/
def outString (acc : ByteArray) (long : Bool) : ByteArray × Option Int := if long = true then (⟨#[]⟩, some 10) else (acc, none)
set_option maxHeartbeats 4000000 in
set_option maxRecDepth 100000 in
/-- String: the bytes, or an error. -/
theorem oString (B g : Nat) (acc : ByteArray) (long : Bool) (w : World) (h : OutIs B g acc long w) :
    Calls Tryd.prog 24 #[.pointer (some ⟨g, 0, none⟩)] w fun e w' => e = .returned (.tuple #[.string (outString acc long).1, errW (outString acc long).2]) ∧ Below B w w' := by
  have HO := Aside0.mk h
  have hc2 := OutIs.cell2 h
  have hf2 := OutIs.frozen2 h
  clear h
  cases long
  · go_enter Tryd.func24, Tryd.ntmps24
    go_wp2_with (go_at_call 41; refine (bString 45 [.bool false] B g acc _ HO.out).mono ?_; rintro e w1 ⟨rfl, hb⟩)
    go_ret2
    exact ⟨rfl, hb⟩
  · go_enter Tryd.func24, Tryd.ntmps24
    go_wp2
    go_ret2
    exact ⟨rfl, Below.refl B w⟩
theorem oString_nil (w : World) : Calls Tryd.prog 24 #[.pointer none] w fun e w' => e = .returned (.tuple #[.string ⟨#[]⟩, errW (some 1)]) ∧ w' = w := by
  go_enter Tryd.func24, Tryd.ntmps24
  go_wp2
  go_ret2
  exact ⟨rfl, rfl⟩


end Go.Proofs.YtdlmgjpnlgdpkaaDoor.VLeOuts
