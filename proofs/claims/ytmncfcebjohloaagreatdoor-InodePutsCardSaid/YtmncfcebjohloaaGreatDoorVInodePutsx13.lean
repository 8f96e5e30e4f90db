/- Contracts of functions of this seat: each call comes to what its Lean function computes; no condition beyond what each theorem states. Printed by a program of this session's own laid over the kit's printer. -/
import Derived.RegionTactic
import Derived.Test.YtmncfcebjohloaaGreatDoorVInodePutsx0
import Derived.Test.YtmncfcebjohloaaGreatDoorVInodePutsx10
import Derived.Test.YtmncfcebjohloaaGreatDoorVInodePutsx11
import Derived.Test.YtmncfcebjohloaaGreatDoorVInodePutsx12
namespace Go.Proofs.YtmncfcebjohloaaGreatDoor.VInodePuts
open Go.RowKit Go.Proofs.YtmncfcebjohloaaGreatDoorW.PrintWords Go.Proofs.YtmncfcebjohloaaGreatDoorW.PrintLast Go.Proofs.YtmncfcebjohloaaGreatDoorW.PrintMore
attribute [local go_sem] max2_int min2_int max_two min_two max_three min_three max_four min_four   -- for this text's walks alone
set_option linter.unusedVariables false
set_option linter.unusedSimpArgs false

-- @GIVEN le_Out
/-! ### le_Out: by hand -/
/-- A le.Out at block g, all in blocks from B on, that holds the bytes acc; long: did something not go into its bytes? -/
def OutIs (B g : Nat) (acc : ByteArray) (long : Bool) (w : World) : Prop := BOut 63 [.bool long] B g (Lib.strCells acc) w
theorem outLies (long : Bool) : BLies 63 [.bool long] := by unfold BLies; kernel_rfl
theorem OutIs.cell2 {B g : Nat} {acc : ByteArray} {long : Bool} {w : World} (h : OutIs B g acc long w) : w.cell? ⟨g, 2, none⟩ = some (.bool long) := by
  rcases h with ⟨_, v, hb, _⟩ | ⟨_, v, hb, _⟩ <;> (rw [Lib.cell_of_heap hb]; rfl)
theorem OutIs.frozen2 {B g : Nat} {acc : ByteArray} {long : Bool} {w : World} (h : OutIs B g acc long w) : w.frozen? ⟨g, 2, none⟩ = false := by
  rcases h with ⟨_, v, hb, _⟩ | ⟨_, v, hb, _⟩ <;> exact Lib.frozen_of_heap hb 2
theorem OutIs.as {B g : Nat} {acc acc' : ByteArray} {long long' : Bool} {w : World} (h : OutIs B g acc long w) (e : acc = acc') (e2 : long = long') : OutIs B g acc' long' w := by subst e; subst e2; exact h
/-- A new one. -/
theorem OutIs.new {B : Nat} {w w' : World} (h : w'.heap[w.heap.size]? = some (.cells #[.pointer none, .slice none 0 0, .bool false] 63 (0, 0))) (hB : B ≤ w.heap.size) : OutIs B w.heap.size ⟨#[]⟩ false w' :=
  .inl ⟨hB, .slice none 0 0, h, World.ownsRow_nil _ _ _ _, by simp [Value.ownBlock], fun _ => rfl⟩
theorem BKeep.below {g : Nat} {w w1 w2 : World} (h : BKeep g w w1) (hb : Below w1.heap.size w1 w2) : BKeep g w w2 := fun a cs t h1 h2 h3 => blk_below (h a cs t h1 h2 h3) hb
theorem out_flag {B g : Nat} {w w1 w2 : World} {u : Value} (hB : B ≤ w.heap.size) (hg : B ≤ g) (h1 : Below w.heap.size w w1) (h2 : Below B (w1.setCell ⟨g, 2, none⟩ u) w2) : Below B w w2 :=
  ((below_then (Below.refl B w) hB h1).setCell (p := ⟨g, 2, none⟩) hg u).trans h2
set_option maxHeartbeats 4000000 in
set_option maxRecDepth 100000 in
/-- Num: a number's bytes go behind. -/
theorem oNum (k : Nat) (B g : Nat) (acc : ByteArray) (long : Bool) (n size : Int) (s : ByteArray) (w : World) (h : OutIs B g acc long w) (hB : B ≤ w.heap.size) (hs : le_Put.f k n size = some s) (hlen : acc.size + s.size ≤ 140737488355328) :
    Calls Tryz.prog 20 #[.pointer (some ⟨g, 0, none⟩), .int .i64 n, .int .i64 size] w fun e w' => e = .returned (.tuple #[]) ∧ OutIs B g (acc ++ s) (long || s.toList.isEmpty) w' ∧ Below B w w' ∧ BKeep g w w' := by
  have HO := Aside0.mk h
  have HS := Aside0.mk hs
  have HLE := Aside0.mk hlen
  have HB := Aside0.mk hB
  clear h hs hlen hB
  cases long
  all_goals
    go_enter Tryz.func20, Tryz.ntmps20
    go_wp2_with (first
      | (go_at_call 39; (with_reducible refine (le_Put.calls k n size s _ HS.out).mono ?_); rintro e w1 ⟨rfl, hb⟩; have HO1 := Aside0.mk (BOut.below HO.out hb); have HW1 := Aside0.mk hb; have hc2 := OutIs.cell2 HO1.out; have hf2 := OutIs.frozen2 HO1.out; clear hb)
      | (go_at_call 40; refine (bWrite 63 [.bool _] (outLies _) (by decide) B g (Lib.strCells acc) s _ (BOut.rest_set HO1.out) (by have := HLE.out; rw [Lib.strCells_length]; omega) (by simpa [World.setCell] using Nat.le_trans HB.out HW1.out.size)).mono ?_; rintro e w2 ⟨rfl, hbo, hbl, hbk⟩))
    go_end0
    exact ⟨rfl, by unfold OutIs; rw [bcells_append]; exact hbo, out_flag HB.out HO1.out.ge HW1.out hbl, (((BKeep.refl g w).below HW1.out).set 2 _).trans hbk⟩
theorem oNum_nil (n size : Int) (w : World) : Calls Tryz.prog 20 #[.pointer none, .int .i64 n, .int .i64 size] w fun e w' => e = .returned (.tuple #[]) ∧ w' = w := by
  go_enter Tryz.func20, Tryz.ntmps20
  go_wp2
  first | go_end0 | ((try simp only [Exit.inBlock, Exit.then]); refine bodyPost_ret (results_none rfl _ _ _) rfl ?_)
  exact ⟨rfl, rfl⟩
/-- What Text makes of it. -/
def outText (acc : ByteArray) (long : Bool) (s : ByteArray) (size : Int) : ByteArray × Bool := if (s.size : Int) > size then (acc, true) else (acc ++ (s ++ zerosB (size - s.size).toNat), long)
/-- What String answers. -/
def outString (acc : ByteArray) (long : Bool) : ByteArray × Option Int := if long = true then (⟨#[]⟩, some 10) else (acc, none)
set_option maxHeartbeats 4000000 in
set_option maxRecDepth 100000 in
/-- String: the bytes, or an error. -/
theorem oString (B g : Nat) (acc : ByteArray) (long : Bool) (w : World) (h : OutIs B g acc long w) :
    Calls Tryz.prog 21 #[.pointer (some ⟨g, 0, none⟩)] w fun e w' => e = .returned (.tuple #[.string (outString acc long).1, errW (outString acc long).2]) ∧ Below B w w' := by
  have HO := Aside0.mk h
  have hc2 := OutIs.cell2 h
  have hf2 := OutIs.frozen2 h
  clear h
  cases long
  · go_enter Tryz.func21, Tryz.ntmps21
    go_wp2_with (go_at_call 41; refine (bString 63 [.bool false] B g acc _ HO.out).mono ?_; rintro e w1 ⟨rfl, hb⟩)
    go_ret2
    exact ⟨rfl, hb⟩
  · go_enter Tryz.func21, Tryz.ntmps21
    go_wp2
    go_ret2
    exact ⟨rfl, Below.refl B w⟩
theorem oString_nil (w : World) : Calls Tryz.prog 21 #[.pointer none] w fun e w' => e = .returned (.tuple #[.string ⟨#[]⟩, errW (some 1)]) ∧ w' = w := by
  go_enter Tryz.func21, Tryz.ntmps21
  go_wp2
  go_ret2
  exact ⟨rfl, rfl⟩


end Go.Proofs.YtmncfcebjohloaaGreatDoor.VInodePuts
