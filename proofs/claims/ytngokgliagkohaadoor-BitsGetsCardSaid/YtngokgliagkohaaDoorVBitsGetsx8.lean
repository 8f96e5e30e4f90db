/- Contracts of functions of this seat: each call comes to what its Lean function computes; no condition beyond what each theorem states. Printed by a program of this session's own laid over the kit's printer. -/
import Derived.Lib.ConvBytes
import Derived.Lib.UnsafeStr
import Derived.Test.YtngokgliagkohaaDoorVBitsGetsx0
import Derived.Test.YtngokgliagkohaaDoorVBitsGetsx1
import Derived.Test.YtngokgliagkohaaDoorVBitsGetsx5
import Derived.Test.YtngokgliagkohaaDoorVBitsGetsx7
namespace Go.Proofs.YtngokgliagkohaaDoor.VBitsGets
open Go.RowKit Go.Proofs.YtngokgliagkohaaDoorW.PrintWords Go.Proofs.YtngokgliagkohaaDoorW.PrintLast Go.Proofs.YtngokgliagkohaaDoorW.PrintMore
attribute [local go_sem] max2_int min2_int max_two min_two max_three min_three max_four min_four   -- for this text's walks alone
set_option linter.unusedVariables false
set_option linter.unusedSimpArgs false

-- @GIVEN bits_Put
/-! ### bits_Put: by hand -/
/-- One byte with a bit more. -/
def orBit (b : UInt8) (j : Nat) : UInt8 := b ||| UInt8.ofNat (2 ^ (j % 8))
/-- The bytes behind i rounds. -/
def setBytes (l : List Bool) : Nat → List UInt8
  | 0 => List.replicate 504 0
  | i + 1 => if l.getD i false = true then (setBytes l i).set (i / 8) (orBit ((setBytes l i).getD (i / 8) 0) i) else setBytes l i
theorem setBytes_len (l : List Bool) : ∀ i, (setBytes l i).length = 504
  | 0 => by rw [setBytes, List.length_replicate]
  | i + 1 => by rw [setBytes]; split <;> simp only [List.length_set, setBytes_len l i]
def bits_Set_Put.f (k : Nat) (l : List Bool) : Option (ByteArray × Option Int) := mark_Seal.f k 5 ⟨(setBytes l l.length).toArray⟩
/-- The cells of some bytes. -/
def byteRow (l : List UInt8) : Array Value := (l.map fun b => Value.int .u8 (b.toNat : Int)).toArray
theorem byteRow_cell {w : World} {g : Nat} {l : List UInt8} {T : TypeId} {fr : Nat × Nat} (h : w.heap[g]? = some (.cells (byteRow l) T fr)) (j : Nat) (hj : j < l.length) : w.cell? ⟨g, j, none⟩ = some (.int .u8 ((l.getD j 0).toNat : Int)) := by
  rw [cell_of_row w g j _ _ _ h]
  simp [byteRow, hj, List.getD_eq_getElem?_getD, List.getElem?_eq_getElem hj]
theorem byteRow_put {w : World} {g : Nat} {l : List UInt8} {T : TypeId} {fr : Nat × Nat} (h : w.heap[g]? = some (.cells (byteRow l) T fr)) (j : Nat) (b : UInt8) :
    (w.setCell ⟨g, j, none⟩ (.int .u8 (b.toNat : Int))).heap[g]? = some (.cells (byteRow (l.set j b)) T fr) := by
  have e : byteRow (l.set j b) = (byteRow l).setIfInBounds j (.int .u8 (b.toNat : Int)) := by
    unfold byteRow
    rw [← Array.toList_inj]
    simp [List.map_set]
  rw [e]
  simp [World.setCell, Array.getElem?_modify, h]
theorem byteRow_made (n : Nat) : madeCells #[Value.int .u8 0] n = byteRow (List.replicate n 0) := by
  unfold byteRow
  rw [← Array.toList_inj]
  apply List.ext_getElem <;> simp [madeCells, Nat.mod_one]
theorem u8n_ (a : Nat) (ha : a < 256) : (BitVec.ofInt 8 (a : Int)).toNat = a := by
  rw [BitVec.ofInt_natCast, BitVec.toNat_ofNat]; exact Nat.mod_eq_of_lt (by omega)
theorem or_bit (b : UInt8) (i : Nat) : Go.bits .or .u8 (b.toNat : Int) ((2 ^ (i % 8) : Nat) : Int) = ((orBit b i).toNat : Int) := by
  have hb := b.toNat_lt
  have h8 : i % 8 < 8 := Nat.mod_lt _ (by decide)
  have hp : 2 ^ (i % 8) < 256 := Nat.pow_lt_pow_right (a := 2) (by decide) h8
  have hx : b.toNat ||| 2 ^ (i % 8) < 256 := Nat.or_lt_two_pow (n := 8) (by omega) (by omega)
  show IntKind.u8.wrap ((BitVec.ofInt 8 (b.toNat : Int) ||| BitVec.ofInt 8 ((2 ^ (i % 8) : Nat) : Int)).toNat : Int) = _
  unfold orBit
  rw [BitVec.toNat_or, u8n_ _ (by omega), u8n_ _ (by omega), UInt8.toNat_or, UInt8.toNat_ofNat', Nat.mod_eq_of_lt (show 2 ^ (i % 8) < 2 ^ 8 by omega)]
  simp only [IntKind.wrap, IntKind.bits, IntKind.signed]
  simp; omega
theorem infoU8_ : (Tryd.prog.info? 5).map (fun i => (i.zero, i.size, i.bytes)) = some (some (.int .u8 0), 1, 1) := by kernel_rfl
set_option maxHeartbeats 8000000 in
set_option maxRecDepth 100000 in
theorem setPut {B g tb c : Nat} {rest : List Value} {l : List Bool} (k : Nat) (s : ByteArray) (e : Option Int) (w : World) (hL_ : Laid w) (h : SetIs B g tb c rest l w) (hf : bits_Set_Put.f k l = some (s, e)) :
    Calls Tryd.prog 29 #[.pointer (some ⟨g, 0, none⟩)] w fun e' w' => e' = .returned (.tuple #[.string s, errW e]) ∧ Below w.heap.size w w' := by
  have HL_ := Aside0.mk hL_
  clear hL_
  have HS := Aside0.mk h
  have HF := Aside0.mk hf
  have HM : ∀ W : World, (Instr.makeSlice 94 (.int .i64 504) (.int .i64 504)).run Tryd.prog W = .ok (.slice (some ⟨W.heap.size, 0, none⟩) 504 504) (W.alloc (.cells (madeCells #[.int .u8 0] 504) 5)) := fun W => run_make_row' (P := Tryd.prog) 94 5 (.int .u8 0) 1 Tryd.underlying94 infoU8_ rfl .i64 .i64 504 (by omega) (by omega) W
  have h0 := (SetIs.below h (below_alloc (Below.refl _ _) (.cells (madeCells #[.int .u8 0] 504) 5))).cell0
  have HG0 := Aside0.mk (show (w.alloc (.cells (madeCells #[.int .u8 0] 504) 5)).heap[w.heap.size]? = some (.cells (byteRow (setBytes l 0)) 5 (0, 0)) from by rw [heap_alloc_new, byteRow_made]; rfl)
  have HS0 := Aside0.mk (SetIs.below h (below_alloc (Below.refl _ _) (.cells (madeCells #[.int .u8 0] 504) 5)))
  have HB0 := Aside0.mk (below_alloc (Below.refl w.heap.size w) (.cells (madeCells #[.int .u8 0] 504) 5))
  have HGL := Aside0.mk (And.intro (show g < w.heap.size from blk_lt h.2.1) (show tb < w.heap.size from blk_lt h.2.2))
  clear h hf
  go_enter Tryd.func29, Tryd.ntmps29
  go_wp2
  clear HM h0
  generalize w.alloc (.cells (madeCells #[.int .u8 0] 504) 5) = w1 at *
  obtain ⟨gb, egb⟩ : ∃ g, g = w.heap.size := ⟨_, rfl⟩
  rw [← egb] at HG0 HGL HB0
  rw [← egb]
  have EGB := Aside0.mk egb
  clear egb
  go_loopg [5, 6, 16] (l.length + 1) (fun kq v5 v6 v16 w' => ∃ i : Nat, v16 = .int .i64 (i : Int) ∧ Aside0 (i ≤ l.length ∧ kq = l.length - i + 1) ∧ Aside0 (SetIs B g tb c rest l w') ∧ Aside0 (w'.heap[gb]? = some (.cells (byteRow (setBytes l i)) 5 (0, 0))) ∧ Aside0 (Below gb w w'))
  case atStart => exact ⟨0, rfl, ⟨by omega, by omega⟩, HS0, HG0, HB0⟩
  case round =>
    clear HS HS0 HG0 HB0
    obtain ⟨i, rfl, HI, HS, HG, HB⟩ := hrel
    have h0 := HS.out.cell0
    by_cases c1 : i < l.length
    · have e1 : decide ((i : Int) < (l.length : Int)) = true := decide_eq_true (by omega)
      have e2 := eq_true (show (i : Int) < (l.length : Int) by omega)
      have e3 := eq_true c1
      have hi1 : wrap64 ((i : Int) + 1) = ((i + 1 : Nat) : Int) := by have := HS.out.1; unfold wrap64; omega
      have h2 := HS.out.cellT i c1
      have hsb : setBytes l (i + 1) = if l.getD i false = true then (setBytes l i).set (i / 8) (orBit ((setBytes l i).getD (i / 8) 0) i) else setBytes l i := rfl
      cases hb : l.getD i false with
      | false =>
        rw [hb] at h2 hsb
        rw [if_neg (by simp)] at hsb
        have HG' := Aside0.mk (show wr.heap[gb]? = some (.cells (byteRow (setBytes l (i + 1))) 5 (0, 0)) by rw [hsb]; exact HG.out)
        clear hb hsb
        go_wp2
        go_roundg (l.length - i)
        case measure => have := HI.out; omega
        case rel => exact ⟨i + 1, by first | rfl | rw [hi1], ⟨by omega, by omega⟩, HS, HG', HB⟩
      | true =>
        rw [hb] at h2 hsb
        rw [if_pos rfl] at hsb
        clear hb
        have hlen := setBytes_len l i
        have hj : i / 8 < 504 := by have := HS.out.1; omega
        have hcB := byteRow_cell HG.out (i / 8) (by omega)
        have hfB : wr.frozen? ⟨gb, i / 8, none⟩ = false := Lib.frozen_of_heap HG.out _
        generalize (setBytes l i).getD (i / 8) 0 = b0 at *
        have w1_ : IntKind.i64.wrap ((i : Int) / 8) = (i : Int) / 8 := by rw [IntKind.wrap_i64]; have := HS.out.1; omega
        have w2_ : wrap64 ((i : Int) / 8) = (i : Int) / 8 := by have := HS.out.1; unfold wrap64; omega
        have q1 := eq_true (show 0 ≤ (i : Int) / 8 by omega)
        have q3 := eq_true (show (i : Int) / 8 < 504 by omega)
        have q4 := eq_true hj
        have q5 : ((i : Int) / 8).toNat = i / 8 := by omega
        have HOR : Go.bits .or .u8 (b0.toNat : Int) ((2 : Int) ^ (i % 8) % 256) = ((orBit b0 i).toNat : Int) := by
          rw [← or_bit b0 i]
          congr 1
          have hp : 2 ^ (i % 8) < 256 := Nat.pow_lt_pow_right (a := 2) (by decide) (Nat.mod_lt i (show 0 < 8 by decide))
          rw [show ((2 : Int) ^ (i % 8)) = ((2 ^ (i % 8) : Nat) : Int) from (Int.natCast_pow 2 (i % 8)).symm]
          generalize 2 ^ (i % 8) = x at *
          omega
        have HG' := Aside0.mk (show (wr.setCell ⟨gb, i / 8, none⟩ (.int .u8 ((orBit b0 i).toNat : Int))).heap[gb]? = some (.cells (byteRow (setBytes l (i + 1))) 5 (0, 0)) by rw [hsb]; exact byteRow_put HG.out _ _)
        have HS' := Aside0.mk (show SetIs B g tb c rest l ((wr.setCell ⟨gb, i / 8, none⟩ (.int .u8 ((orBit b0 i).toNat : Int))).drew) from ⟨HS.out.1, (Below.heap_setCell _ _ _ _ (by have := HGL.out; show g ≠ gb; omega)).trans HS.out.2.1, (Below.heap_setCell _ _ _ _ (by have := HGL.out; show tb ≠ gb; omega)).trans HS.out.2.2⟩)
        have HB' := Aside0.mk ((HB.out.setCell (p := ⟨gb, i / 8, none⟩) (Nat.le_refl gb) (.int .u8 ((orBit b0 i).toNat : Int))).drew)
        clear hsb hlen
        go_wp2
        go_region
        go_wp2
        go_roundg (l.length - i)
        case measure => have := HI.out; omega
        case rel => exact ⟨i + 1, by first | rfl | rw [hi1], ⟨by omega, by omega⟩, HS', HG', HB'⟩
    · have e1 : decide ((i : Int) < (l.length : Int)) = false := decide_eq_false (by omega)
      obtain rfl : i = l.length := by have := HI.out; omega
      have hl := setBytes_len l l.length
      have HFF := Aside0.mk (show mark_Seal.f k 5 ⟨(setBytes l l.length).toArray⟩ = some (s, e) from HF.out)
      generalize setBytes l l.length = L at *
      have hb1 : (convert 94 9 (.slice (some ⟨gb, 0, none⟩) 504 504)).run Tryd.prog wr = .ok (.string ⟨L.toArray⟩) wr := by
        have := run_convert_bytes_back (P := Tryd.prog) wr 94 9 5 ⟨gb, 0, none⟩ 504 L Tryd.underlying94 Tryd.underlying5 Tryd.underlying9 (fun j hj => by
          have := byteRow_cell HG.out j hj
          rw [List.getD_eq_getElem?_getD, List.getElem?_eq_getElem hj] at this
          rw [show (Addr.mk gb 0 none).add j = ⟨gb, j, none⟩ by unfold Addr.add; split <;> simp_all]
          exact this)
        rwa [hl] at this
      clear hl
      have HBw := Aside0.mk (show Below w.heap.size w wr from EGB.out ▸ HB.out)
      go_wp2_with (go_at_call 44; (with_reducible refine (mark_Seal.calls k 5 _ s e _ (Laid.below HL_.out HBw.out) HFF.out).mono ?_); rintro e' w2 ⟨rfl, hb⟩)
      go_ret2
      exact ⟨rfl, below_step HBw.out hb⟩
theorem setPut_nil (w : World) :
    Calls Tryd.prog 29 #[.pointer none] w fun e' w' => e' = .returned (.tuple #[.string ⟨#[]⟩, errW (some 1)]) ∧ w' = w := by
  go_enter Tryd.func29, Tryd.ntmps29
  go_wp2
  go_ret2
  exact ⟨rfl, rfl⟩


end Go.Proofs.YtngokgliagkohaaDoor.VBitsGets
