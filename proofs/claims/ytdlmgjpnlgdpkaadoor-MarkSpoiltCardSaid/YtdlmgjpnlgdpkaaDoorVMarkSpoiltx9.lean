/- Contracts of functions of this seat: each call comes to what its Lean function computes; no condition beyond what each theorem states. Printed by a program of this session's own laid over the kit's printer. -/
import Derived.Lib.ConvBytes
import Derived.Lib.UnsafeStr
import Derived.Test.YtdlmgjpnlgdpkaaDoorVMarkSpoiltx0
import Derived.Test.YtdlmgjpnlgdpkaaDoorVMarkSpoiltx1
import Derived.Test.YtdlmgjpnlgdpkaaDoorVMarkSpoiltx6
import Derived.Test.YtdlmgjpnlgdpkaaDoorVMarkSpoiltx7
import Derived.Test.YtdlmgjpnlgdpkaaDoorVMarkSpoiltx8
namespace Go.Proofs.YtdlmgjpnlgdpkaaDoor.VMarkSpoilt
open Go.RowKit Go.Proofs.YtdlmgjpnlgdpkaaDoorW.PrintWords Go.Proofs.YtdlmgjpnlgdpkaaDoorW.PrintLast Go.Proofs.YtdlmgjpnlgdpkaaDoorW.PrintMore
attribute [local go_sem] max2_int min2_int max_two min_two max_three min_three max_four min_four   -- for this text's walks alone
set_option linter.unusedVariables false
set_option linter.unusedSimpArgs false

-- @GIVEN posthorselaw03_MarkSpoilt
/-! ### posthorselaw03_MarkSpoilt: by hand -/
/-- Where the change begins. -/
def spoilP (h : Int) : Nat := ((h.tmod 512 + 512).tmod 512).toNat
theorem spoilP_eq (h : Int) : (wrap64 (h.tmod 512 + 512)).tmod 512 = (spoilP h : Int) ∧ spoilP h < 512 := by
  have h1 := Int.tmod_lt_of_pos h (show (0 : Int) < 512 by omega)
  have h2 := Int.lt_tmod_of_pos h (show (0 : Int) < 512 by omega)
  unfold spoilP
  rw [show wrap64 (h.tmod 512 + 512) = h.tmod 512 + 512 by unfold wrap64; omega]
  have h3 := Int.tmod_lt_of_pos (h.tmod 512 + 512) (show (0 : Int) < 512 by omega)
  have h4 := Int.tmod_nonneg 512 (show 0 ≤ h.tmod 512 + 512 by omega)
  omega
/-- The byte that is xored at the i-th place. -/
def spoilX (h : Int) (i : Nat) : Int := h / 2 ^ (8 * i) % 256
/-- The bytes behind i rounds. -/
def spoilB (p : Nat) (h : Int) (l : List UInt8) : Nat → List UInt8
  | 0 => l
  | i + 1 => (spoilB p h l i).set (p + i) ((spoilB p h l i).getD (p + i) 0 ^^^ UInt8.ofNat (spoilX h i).toNat)
/-- Was one changed, in i rounds? -/
def spoilC (h : Int) : Nat → Bool
  | 0 => false
  | i + 1 => spoilC h i || (spoilX h i != 0)
/-- How many rounds there are. -/
def spoilN (p : Nat) : Nat := min 4 (512 - p)
def posthorselaw03_MarkSpoilt.f (k : Nat) (a0 : Int) (a1 : ByteArray) (a2_0 : Int) (a2_1 : Int) : Option Bool :=
  (posthorselaw03_speaks.f k).bind fun t => if t = true then ((mark_Seal.f k (wrap64 (1 + (Go.bits .and .i64 a0 127))) (a1.extract 0 ((mn (a1.size : Int) 504) : Int).toNat)).bind fun s => if s.2.isNone = true then (if s.1.size = 512 then
    ((mark_Open.f k (wrap64 (1 + (Go.bits .and .i64 a0 127))) ⟨(spoilB (spoilP a2_0) a2_1 s.1.data.toList (spoilN (spoilP a2_0))).toArray⟩).bind fun o => if (spoilC a2_1 (spoilN (spoilP a2_0)) == !o.2.isNone) = true then
      ((mark_Kind.f k ⟨(spoilB (spoilP a2_0) a2_1 s.1.data.toList (spoilN (spoilP a2_0))).toArray⟩).bind fun q => some ((q == 0) == spoilC a2_1 (spoilN (spoilP a2_0)))) else some false) else none) else some false) else some false
theorem posthorselaw03_MarkSpoilt.mono : ∀ a0 a1 a2 a3 k, LeO (posthorselaw03_MarkSpoilt.f k a0 a1 a2 a3) (posthorselaw03_MarkSpoilt.f (k + 1) a0 a1 a2 a3) := by
  intro a0 a1 a2 a3 k
  unfold posthorselaw03_MarkSpoilt.f
  exact LeO.bind (posthorselaw03_speaks.mono k) fun t => LeO.ite (LeO.bind (mark_Seal.mono _ _ k) fun s => LeO.ite (LeO.ite (LeO.bind (mark_Open.mono _ _ k) fun o => LeO.ite (LeO.bind (mark_Kind.mono _ k) fun q => LeO.refl _) (LeO.refl _)) (LeO.refl _)) (LeO.refl _)) (LeO.refl _)
/-- The cells of the bytes, and those behind. -/
def spoilRow (l : List UInt8) (m : Nat) : Array Value := (l.map fun b => Value.int .u8 b.toNat).toArray ++ Array.replicate m (.int .u8 0)
theorem spoilRow_eq (w : World) (s : ByteArray) : Lib.bytesCells w 5 s = spoilRow s.data.toList (grownCap w s.size 0 5 - s.size) := by
  unfold Lib.bytesCells spoilRow
  congr 1
  rw [← Array.toList_inj]; simp
theorem spoilB_len (p : Nat) (h : Int) (l : List UInt8) : ∀ i, (spoilB p h l i).length = l.length
  | 0 => rfl
  | i + 1 => by rw [spoilB, List.length_set, spoilB_len p h l i]
theorem spoil_cell {w : World} {g m : Nat} {l : List UInt8} {T : TypeId} {fr : Nat × Nat} (h : w.heap[g]? = some (.cells (spoilRow l m) T fr)) (j : Nat) (hj : j < l.length) : w.cell? ⟨g, j, none⟩ = some (.int .u8 ((l.getD j 0).toNat : Int)) := by
  rw [cell_of_row w g j _ _ _ h]
  simp [spoilRow, Array.getElem?_append, hj, List.getD_eq_getElem?_getD, List.getElem?_eq_getElem hj]
theorem spoil_free {w : World} {g m : Nat} {l : List UInt8} {T : TypeId} (h : w.heap[g]? = some (.cells (spoilRow l m) T ((spoilRow l m).size, (spoilRow l m).size + 1))) (j : Nat) (hj : j < l.length) : w.frozen? ⟨g, j, none⟩ = false := by
  simp [World.frozen?, h, spoilRow]
  omega
theorem spoil_put {w : World} {g m : Nat} {l : List UInt8} {T : TypeId} (h : w.heap[g]? = some (.cells (spoilRow l m) T ((spoilRow l m).size, (spoilRow l m).size + 1))) (j : Nat) (hj : j < l.length) (b : UInt8) :
    (w.setCell ⟨g, j, none⟩ (.int .u8 (b.toNat : Int))).heap[g]? = some (.cells (spoilRow (l.set j b) m) T ((spoilRow (l.set j b) m).size, (spoilRow (l.set j b) m).size + 1)) := by
  have e : spoilRow (l.set j b) m = (spoilRow l m).setIfInBounds j (.int .u8 (b.toNat : Int)) := by
    unfold spoilRow
    rw [← Array.toList_inj]
    simp [List.map_set, List.set_append, hj]
  rw [e, Array.size_setIfInBounds]
  simp [World.setCell, Array.getElem?_modify, h]
theorem u8n (a : Nat) (ha : a < 256) : (BitVec.ofInt 8 (a : Int)).toNat = a := by
  rw [BitVec.ofInt_natCast, BitVec.toNat_ofNat]; exact Nat.mod_eq_of_lt (by omega)
theorem spoil_xor (b : UInt8) (x : Int) (h0 : 0 ≤ x) (h1 : x < 256) : Go.bits .xor .u8 (b.toNat : Int) x = ((b ^^^ UInt8.ofNat x.toNat).toNat : Int) := by
  obtain ⟨n, rfl⟩ := Int.eq_ofNat_of_zero_le h0
  have hb := b.toNat_lt
  have hx : b.toNat ^^^ n < 256 := Nat.xor_lt_two_pow (n := 8) (by omega) (by omega)
  show IntKind.u8.wrap ((BitVec.ofInt 8 (b.toNat : Int) ^^^ BitVec.ofInt 8 (n : Int)).toNat : Int) = _
  rw [BitVec.toNat_xor, u8n _ (by omega), u8n n (by omega), Int.toNat_natCast, UInt8.toNat_xor, UInt8.toNat_ofNat', Nat.mod_eq_of_lt (show n < 2 ^ 8 by omega)]
  simp only [IntKind.wrap, IntKind.bits, IntKind.signed]
  simp; omega
theorem spoil_below (w : World) (s : ByteArray) {b : Nat} (hb : b ≤ w.heap.size) : Below b w (Lib.bytesWorld w 5 s) :=
  ((Below.refl b w).drew.alloc hb (.cells (Lib.bytesCells w 5 s) 5)).trans (by
    exact Lib.below_freeze (Below.refl b _) (by simpa using hb) 1)
set_option maxHeartbeats 8000000 in
set_option maxRecDepth 100000 in
theorem posthorselaw03_MarkSpoilt.calls (k : Nat) (a0 : Int) (a1 : ByteArray) (a2_0 : Int) (a2_1 : Int) (r : Bool) (w : World) (hL_ : Laid w) (h : posthorselaw03_MarkSpoilt.f k a0 a1 a2_0 a2_1 = some r) :
    Calls Tryd.prog 4 #[.int .i64 a0, .string a1, .agg #[.int .i64 a2_0, .int .i64 a2_1]] w fun e w' => e = .returned (.bool r) ∧ Below w.heap.size w w' := by
  have HL_ := Aside0.mk hL_
  clear hL_
  unfold posthorselaw03_MarkSpoilt.f at h
  obtain ⟨t, A40, H⟩ := Option.bind_eq_some_iff.mp h
  have A4 := Aside0.mk A40
  clear A40 h
  have HB := Aside0.mk (Below.refl w.heap.size w)
  cases t with
  | false =>
    simp only [Bool.false_eq_true, if_false, Option.some.injEq] at H
    subst H
    go_enter Tryd.func4, Tryd.ntmps4
    go_wp2_with (go_at_call 11; (with_reducible refine (posthorselaw03_speaks.calls k false _ (Laid.below HL_.out (below_alloc HB.out _)) A4.out).mono ?_); rintro e w1 ⟨rfl, hb⟩; have HB1 := Aside0.mk (below_step (below_alloc HB.out _) hb); clear hb)
    go_ret
    exact ⟨rfl, HB1.out⟩
  | true =>
    obtain ⟨hP, hPlt⟩ := spoilP_eq a2_0
    simp only [if_true] at H
    obtain ⟨⟨s, se⟩, A50, H⟩ := Option.bind_eq_some_iff.mp H
    have A5 := Aside0.mk A50
    clear A50
    have H' := Aside0.mk H
    clear H
    obtain ⟨ji, hji⟩ : ∃ j_ : Int, (mn (a1.size : Int) 504) = j_ := ⟨_, rfl⟩
    have hji_ : (if 504 < (a1.size : Int) then 504 else (a1.size : Int)) = ji := hji
    have hj0 := eq_true (show 0 ≤ ji by rw [← hji]; unfold mn; split <;> omega)
    have hj1 := eq_true (show ji ≤ (a1.size : Int) by rw [← hji]; unfold mn; split <;> omega)
    have hj0d : decide (0 ≤ ji) = true := decide_eq_true (of_eq_true hj0)
    have hj1d : decide (ji ≤ (a1.size : Int)) = true := decide_eq_true (of_eq_true hj1)
    rw [hji] at A5
    generalize hct : a1.extract 0 ji.toNat = ct at *
    cases se with
    | some n =>
      have H := H'.out
      simp only [Option.isNone_some, Bool.false_eq_true, if_false, Option.some.injEq] at H
      subst H
      go_enter Tryd.func4, Tryd.ntmps4
      go_wp2_with (first
        | (go_at_call 11; (with_reducible refine (posthorselaw03_speaks.calls k true _ (Laid.below HL_.out (below_alloc HB.out _)) A4.out).mono ?_); rintro e w1 ⟨rfl, hb⟩; have HB1 := Aside0.mk (below_step (below_alloc HB.out _) hb); clear hb)
        | (go_at_call 14; (with_reducible refine (mark_Seal.calls k _ ct s (some n) _ (Laid.below HL_.out HB1.out) A5.out).mono ?_); rintro e w2 ⟨rfl, hb⟩; have HB2 := Aside0.mk (below_step HB1.out hb); simp only [errW_some]; clear hb))
      go_ret
      exact ⟨rfl, HB2.out⟩
    | none =>
      have H := H'.out
      simp only [Option.isNone_none, if_true] at H
      by_cases hs : s.size = 512
      case neg => rw [if_neg hs] at H; cases H
      rw [if_pos hs] at H
      have HS := Aside0.mk hs
      clear H'
      have H' := Aside0.mk H
      clear H hs
      go_enter Tryd.func4, Tryd.ntmps4
      go_wp2_with (first
        | (go_at_call 11; (with_reducible refine (posthorselaw03_speaks.calls k true _ (Laid.below HL_.out (below_alloc HB.out _)) A4.out).mono ?_); rintro e w1 ⟨rfl, hb⟩; have HB1 := Aside0.mk (below_step (below_alloc HB.out _) hb); have HH1 := Aside0.mk (blk_below (heap_alloc_new w _) hb); clear hb)
        | (go_at_call 14; (with_reducible refine (mark_Seal.calls k _ ct s none _ (Laid.below HL_.out HB1.out) A5.out).mono ?_); rintro e w2 ⟨rfl, hb⟩; have HB2 := Aside0.mk (below_step HB1.out hb); have HH2 := Aside0.mk (blk_below HH1.out hb); simp only [errW_none]; have hconv := Lib.run_convert_string_bytes (P := Tryd.prog) w2 9 31 5 s Tryd.underlying9 Tryd.underlying31 Tryd.underlying5; have HG := Aside0.mk (Lib.bytesWorld_at_new w2 5 s); have HH3 := Aside0.mk ((Lib.bytesWorld_at_old w2 5 s _ (blk_lt HH2.out)).trans HH2.out); have HB3 := Aside0.mk (HB2.out.trans (spoil_below w2 s HB2.out.size)); have hcz0 := (blk_cell HH3.out 0).trans rfl; have HH2_ := HH2; clear hb))
      clear hP hconv hj0 hj1 hj0d hj1d hji hji_ hct HB HB1 HB2 HH1 HH2 A4 A5
      generalize spoilP a2_0 = P at *
      obtain ⟨gb, egb⟩ : ∃ g, g = w2.heap.size := ⟨_, rfl⟩
      have HG' := Aside0.mk (show (Lib.bytesWorld w2 5 s).heap[gb]? = some (.cells (spoilRow s.data.toList (grownCap w2 s.size 0 5 - s.size)) 5 ((spoilRow s.data.toList (grownCap w2 s.size 0 5 - s.size)).size, (spoilRow s.data.toList (grownCap w2 s.size 0 5 - s.size)).size + 1)) from by rw [egb, HG.out, spoilRow_eq])
      have HGE := Aside0.mk (show w.heap.size < gb from by rw [egb]; exact blk_lt HH2_.out)
      rw [← egb]
      clear HG egb HH2_
      generalize grownCap w2 s.size 0 5 = cap at *
      generalize Lib.bytesWorld w2 5 s = w3 at *
      clear hcz0
      go_loopg [11, 12] 5 (fun kq v11 v12 w' => ∃ i : Nat, v11 = .bool (spoilC a2_1 i) ∧ v12 = .int .i64 (i : Int) ∧ Aside0 (i ≤ spoilN P ∧ kq = 5 - i) ∧ Aside0 (w'.heap[gb]? = some (.cells (spoilRow (spoilB P a2_1 s.data.toList i) (cap - s.size)) 5 ((spoilRow (spoilB P a2_1 s.data.toList i) (cap - s.size)).size, (spoilRow (spoilB P a2_1 s.data.toList i) (cap - s.size)).size + 1))) ∧ Aside0 (w'.heap[w.heap.size]? = some (.cells #[.int .i64 a2_0, .int .i64 a2_1] 26 (0, 0))) ∧ Aside0 (Below w.heap.size w w'))
      case atStart => exact ⟨0, rfl, rfl, ⟨Nat.zero_le _, rfl⟩, HG', HH3, HB3⟩
      case round =>
        clear HG' HH3 HB3
        obtain ⟨i, rfl, rfl, HI, HG, HH, HB⟩ := hrel
        have hcz1 := (blk_cell HH.out 1).trans rfl
        by_cases c : i < 4 ∧ P + i < 512
        · obtain ⟨c1, c2⟩ := c
          have d1 : decide ((i : Int) < 4) = true := decide_eq_true (by omega)
          have d2 : decide ((P : Int) + (i : Int) < 512) = true := decide_eq_true (by omega)
          have hl : (spoilB P a2_1 s.data.toList i).length = 512 := by rw [spoilB_len, Array.length_toList]; exact HS.out
          have d3 := eq_true (show (P : Int) + (i : Int) < (s.size : Int) by have := HS.out; omega)
          have d4 : decide ((P : Int) + (i : Int) < (s.size : Int)) = true := decide_eq_true (of_eq_true d3)
          have d5 := eq_true (show P + i < s.size by have := HS.out; omega)
          have hcB := spoil_cell HG.out (P + i) (by omega)
          have hfB := spoil_free HG.out (P + i) (by omega)
          have hx0 : 0 ≤ a2_1 / 2 ^ (8 * i) % 256 := by omega
          have hx1 : a2_1 / 2 ^ (8 * i) % 256 < 256 := by omega
          have hxe : spoilX a2_1 i = a2_1 / 2 ^ (8 * i) % 256 := rfl
          have hsc : spoilC a2_1 (i + 1) = (spoilC a2_1 i || (spoilX a2_1 i != 0)) := rfl
          have hsb : spoilB P a2_1 s.data.toList (i + 1) = (spoilB P a2_1 s.data.toList i).set (P + i) ((spoilB P a2_1 s.data.toList i).getD (P + i) 0 ^^^ UInt8.ofNat (spoilX a2_1 i).toNat) := rfl
          rw [hxe] at hsc hsb
          have E1 := spoil_xor ((spoilB P a2_1 s.data.toList i).getD (P + i) 0) _ hx0 hx1
          have HG2 := Aside0.mk (spoil_put HG.out (P + i) (by omega) ((spoilB P a2_1 s.data.toList i).getD (P + i) 0 ^^^ UInt8.ofNat (a2_1 / 2 ^ (8 * i) % 256).toNat))
          rw [← hsb] at HG2
          have HSC := Aside0.mk hsc
          clear hl hsb hsc hx0 hx1 hxe
          generalize (spoilB P a2_1 s.data.toList i).getD (P + i) 0 = b0 at *
          have HH2 := Aside0.mk (blk_far HH.out (p := ⟨gb, P + i, none⟩) (show w.heap.size ≠ gb by have := HGE.out; omega) (.int .u8 ((b0 ^^^ UInt8.ofNat (a2_1 / 2 ^ (8 * i) % 256).toNat).toNat : Int)))
          have HB2 := Aside0.mk (below_set (j := P + i) (v := .int .u8 ((b0 ^^^ UInt8.ofNat (a2_1 / 2 ^ (8 * i) % 256).toNat).toNat : Int)) HB.out (show w.heap.size ≤ gb by have := HGE.out; omega))
          clear HG HH HB
          cases hc : spoilC a2_1 i
          all_goals
            rw [hc] at HSC
            go_wp2
            go_roundg (5 - (i + 1))
            case measure => have := HI.out; omega
            case rel => exact ⟨i + 1, by rw [HSC.out]; first | rfl | simp, by first | rfl | (congr 1; omega), ⟨by unfold spoilN; omega, rfl⟩, HG2, HH2, HB2⟩
        · have hi : i = spoilN P := by have := HI.out; unfold spoilN at *; omega
          subst hi
          have hl : (spoilB P a2_1 s.data.toList (spoilN P)).length = s.size := by rw [spoilB_len, Array.length_toList]; rfl
          have hin : ∃ q1 q2 : Bool, decide ((spoilN P : Int) < 4) = q1 ∧ decide ((P : Int) + (spoilN P : Int) < 512) = q2 ∧ (q1 && q2) = false := ⟨_, _, rfl, rfl, by
            rw [Bool.and_eq_false_iff]
            by_cases h4 : spoilN P < 4
            · exact .inr (decide_eq_false (fun h => c ⟨h4, by omega⟩))
            · exact .inl (decide_eq_false (by omega))⟩
          have H := H'.out
          have hN4 : spoilN P ≤ 4 := by unfold spoilN; omega
          clear H' HI c hcz1
          generalize spoilC a2_1 (spoilN P) = C at *
          generalize spoilB P a2_1 s.data.toList (spoilN P) = L at *
          have HLL := Aside0.mk hl
          have hb1 : (convert 31 9 (.slice (some ⟨gb, 0, none⟩) s.size cap)).run Tryd.prog wr = .ok (.string ⟨L.toArray⟩) wr := by
            have := run_convert_bytes_back (P := Tryd.prog) wr 31 9 5 ⟨gb, 0, none⟩ cap L Tryd.underlying31 Tryd.underlying5 Tryd.underlying9 (fun j hj => by
              have := spoil_cell HG.out j hj
              rw [List.getD_eq_getElem?_getD, List.getElem?_eq_getElem hj] at this
              rw [show (Addr.mk gb 0 none).add j = ⟨gb, j, none⟩ by unfold Addr.add; split <;> simp_all]
              exact this)
            rwa [hl] at this
          clear hl
          obtain ⟨⟨o, oe⟩, A60, H⟩ := Option.bind_eq_some_iff.mp H
          have A6 := Aside0.mk A60
          clear A60
          obtain ⟨q1, q2, d1, d2, hq⟩ := hin
          have fin : ∀ (w4 : World) (r : Bool), Below wr.heap.size wr w4 → (convert 31 9 (.slice (some ⟨gb, 0, none⟩) s.size cap)).run Tryd.prog w4 = .ok (.string ⟨L.toArray⟩) w4 := fun w4 _ hb => by
            have hG4 := blk_below HG.out hb
            have := run_convert_bytes_back (P := Tryd.prog) w4 31 9 5 ⟨gb, 0, none⟩ cap L Tryd.underlying31 Tryd.underlying5 Tryd.underlying9 (fun j hj => by
              have := spoil_cell hG4 j hj
              rw [List.getD_eq_getElem?_getD, List.getElem?_eq_getElem hj] at this
              rw [show (Addr.mk gb 0 none).add j = ⟨gb, j, none⟩ by unfold Addr.add; split <;> simp_all]
              exact this)
            rwa [HLL.out] at this
          have FIN := Aside0.mk fin
          clear fin
          cases q1
          all_goals cases q2
          all_goals first | (exfalso; revert hq; decide) | skip
          all_goals clear hq
          all_goals cases oe
          all_goals cases C
          all_goals
            simp only [Option.isNone_none, Option.isNone_some, Bool.not_true, Bool.not_false, beq_self_eq_true, if_true, show (true == false) = false from rfl, show (false == true) = false from rfl, Bool.false_eq_true, if_false, Option.some.injEq] at H
            first
            | (subst H
               go_wp2_with (go_at_call 15; (with_reducible refine (mark_Open.calls k _ _ o _ _ (Laid.below HL_.out HB.out) A6.out).mono ?_); rintro e w4 ⟨rfl, hb⟩; have HB4 := Aside0.mk (below_step HB.out hb); simp only [errW_none, errW_some]; clear hb)
               go_ret
               exact ⟨rfl, HB4.out⟩)
            | (obtain ⟨q, A70, H⟩ := Option.bind_eq_some_iff.mp H
               have A7 := Aside0.mk A70
               clear A70
               obtain rfl := Option.some.inj H
               clear H
               go_wp2_with (first
                 | (go_at_call 15; (with_reducible refine (mark_Open.calls k _ _ o _ _ (Laid.below HL_.out HB.out) A6.out).mono ?_); rintro e w4 ⟨rfl, hb⟩; have HB4 := Aside0.mk (below_step HB.out hb); have hb2 := FIN.out w4 true hb; simp only [errW_none, errW_some]; clear hb)
                 | (go_at_call 16; (with_reducible refine (mark_Kind.calls k _ q _ (Laid.below HL_.out HB4.out) A7.out).mono ?_); rintro e w5 ⟨rfl, hb⟩; have HB5 := Aside0.mk (below_step HB4.out hb); clear hb))
               go_ret
               exact ⟨by first | rfl | simp, HB5.out⟩)


end Go.Proofs.YtdlmgjpnlgdpkaaDoor.VMarkSpoilt
