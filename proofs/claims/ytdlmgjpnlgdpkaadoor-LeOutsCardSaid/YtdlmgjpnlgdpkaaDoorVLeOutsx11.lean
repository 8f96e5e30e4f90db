/- Contracts of functions of this seat: each call comes to what its Lean function computes; no condition beyond what each theorem states. Printed by a program of this session's own laid over the kit's printer. -/
import Derived.RegionTactic
import Derived.Test.YtdlmgjpnlgdpkaaDoorVLeOutsx0
import Derived.Test.YtdlmgjpnlgdpkaaDoorVLeOutsx1
import Derived.Test.YtdlmgjpnlgdpkaaDoorVLeOutsx2
import Derived.Test.YtdlmgjpnlgdpkaaDoorVLeOutsx3
import Derived.Test.YtdlmgjpnlgdpkaaDoorVLeOutsx4
import Derived.Test.YtdlmgjpnlgdpkaaDoorVLeOutsx5
import Derived.Test.YtdlmgjpnlgdpkaaDoorVLeOutsx6
import Derived.Test.YtdlmgjpnlgdpkaaDoorVLeOutsx7
import Derived.Test.YtdlmgjpnlgdpkaaDoorVLeOutsx8
import Derived.Test.YtdlmgjpnlgdpkaaDoorVLeOutsx10
namespace Go.Proofs.YtdlmgjpnlgdpkaaDoor.VLeOuts
open Go.RowKit Go.Proofs.YtdlmgjpnlgdpkaaDoorW.PrintWords Go.Proofs.YtdlmgjpnlgdpkaaDoorW.PrintLast Go.Proofs.YtdlmgjpnlgdpkaaDoorW.PrintMore
attribute [local go_sem] max2_int min2_int max_two min_two max_three min_three max_four min_four   -- for this text's walks alone
set_option linter.unusedVariables false
set_option linter.unusedSimpArgs false

-- @GIVEN posthorselaw01_LeOuts
/-! ### posthorselaw01_LeOuts: by hand -/
abbrev Item := S47
/-- An item's text, and its size, as the law takes them. -/
def itT (x : Item) : ByteArray := x.f0.extract 0 ((mn (x.f0.size : Int) 50) : Int).toNat
def itZ (x : Item) : Int := mn x.f2 60
def posthorselaw01_LeOuts.l1 : Nat → List Item → ByteArray → Option Int → Int → Option Bool
  | 0, _, _, _, _ => none
  | k + 1, l, s, e, i => if i < (l.length : Int) ∧ i < 20 then
      (if (rd_T47 l i).f3 = true then ((le_In_Text.f s e (itZ (rd_T47 l i))).bind fun a => if (itT (rd_T47 l i)).size ≤ a.1.size then (if (a.1.extract 0 (itT (rd_T47 l i)).size).toList = (itT (rd_T47 l i)).toList then posthorselaw01_LeOuts.l1 k l a.2.1 a.2.2 (i + 1) else some false) else none)
       else ((le_In_Num.f k s e (itZ (rd_T47 l i))).bind fun a => if a.1 = (rd_T47 l i).f1 then posthorselaw01_LeOuts.l1 k l a.2.1 a.2.2 (i + 1) else some false))
    else ((le_In_End.f s e).bind fun a => some a.1.isNone)
def posthorselaw01_LeOuts.l0 : Nat → List Item → ByteArray → Bool → ByteArray → Bool → Int → Option Bool
  | 0, _, _, _, _, _, _ => none
  | k + 1, l, acc, lg, want, long, i => if acc.size ≤ 5000 ∧ want.size ≤ 5000 then (if i < (l.length : Int) ∧ i < 20 then
      (if (rd_T47 l i).f3 = true then
        (if ((itT (rd_T47 l i)).size : Int) > itZ (rd_T47 l i) then posthorselaw01_LeOuts.l0 k l acc true want true (i + 1)
         else posthorselaw01_LeOuts.l0 k l (acc ++ (itT (rd_T47 l i) ++ zerosB (itZ (rd_T47 l i) - (itT (rd_T47 l i)).size).toNat)) lg (want ++ (itT (rd_T47 l i) ++ zerosB (itZ (rd_T47 l i) - (itT (rd_T47 l i)).size).toNat)) long (i + 1))
       else ((le_Put.f k (rd_T47 l i).f1 (itZ (rd_T47 l i))).bind fun s1 => (posthorseref01_Put.f k (rd_T47 l i).f1 (itZ (rd_T47 l i))).bind fun s2 => if s1.size ≤ 7 ∧ s2.size ≤ 7 then posthorselaw01_LeOuts.l0 k l (acc ++ s1) (lg || s1.toList.isEmpty) (want ++ s2) (long || s2.toList.isEmpty) (i + 1) else none))
    else (if long = true then (if (outString acc lg).1.toList = [] then ((posthorselaw01_code.f (outString acc lg).2).bind fun c => some (c == 10)) else some false)
      else (if (outString acc lg).1.toList = want.toList then (if (outString acc lg).2.isNone = true then posthorselaw01_LeOuts.l1 k l (outString acc lg).1 none 0 else some false) else some false))) else none
def posthorselaw01_LeOuts.f (k : Nat) (l : List Item) : Option Bool := posthorselaw01_LeOuts.l0 k l ⟨#[]⟩ false ⟨#[]⟩ false 0
/-- The cells of m bytes 0. -/
def outsZ (m : Nat) : Array Value := madeCells (Value.cells (.int .u8 0)) (m * 1)
theorem outs_make (m : Nat) (hm : m ≤ 60) (W : World) : (Instr.makeSlice 31 (.int .i64 (m : Int)) (.int .i64 (m : Int))).run Tryd.prog W = .ok (.slice (some ⟨W.heap.size, 0, none⟩) m m) (W.alloc (.cells (outsZ m) 5)) := by
  obtain ⟨i0, hi, hzz⟩ := Option.map_eq_some_iff.1 (show (Tryd.prog.info? 5).map (fun i => (i.zero, i.size, i.bytes)) = some (some (.int .u8 0), 1, 1) by kernel_rfl)
  simp only [Prod.mk.injEq] at hzz
  obtain ⟨hz0, hz1, hz2⟩ := hzz
  have hr := run_make (P := Tryd.prog) W 31 5 i0 (.int .u8 0) Tryd.underlying31 hi hz0 .i64 .i64 (m : Int) (m : Int) (by omega) (by omega) (by rw [hz2]; omega) (by omega)
  rw [hz1] at hr
  simpa [outsZ] using hr
theorem outs_conv (m : Nat) (W : World) : (convert 31 9 (.slice (some ⟨W.heap.size, 0, none⟩) m m)).run Tryd.prog (W.alloc (.cells (outsZ m) 5)) = .ok (.string (zerosB m)) (W.alloc (.cells (outsZ m) 5)) := by
  have := run_convert_bytes_back (P := Tryd.prog) (W.alloc (.cells (outsZ m) 5)) 31 9 5 ⟨W.heap.size, 0, none⟩ m (List.replicate m (0 : UInt8)) Tryd.underlying31 Tryd.underlying5 Tryd.underlying9 (fun j hj => by
    rw [List.length_replicate] at hj
    rw [show (Addr.mk W.heap.size 0 none).add j = ⟨W.heap.size, j, none⟩ by unfold Addr.add; split <;> simp_all]
    rw [blk_cell (heap_alloc_new W (.cells (outsZ m) 5)) j]
    simp [outsZ, madeCells, hj, Value.cells, Nat.mod_one])
  rwa [List.length_replicate] at this
theorem outs_convd (m : Nat) (W : World) : (convert 31 9 (.slice (some ⟨W.heap.size, 0, none⟩) m m)).run Tryd.prog (W.alloc (.cells (outsZ m) 5)).drew = .ok (.string (zerosB m)) (W.alloc (.cells (outsZ m) 5)).drew := by
  have := run_convert_bytes_back (P := Tryd.prog) (W.alloc (.cells (outsZ m) 5)).drew 31 9 5 ⟨W.heap.size, 0, none⟩ m (List.replicate m (0 : UInt8)) Tryd.underlying31 Tryd.underlying5 Tryd.underlying9 (fun j hj => by
    rw [List.length_replicate] at hj
    rw [show (Addr.mk W.heap.size 0 none).add j = ⟨W.heap.size, j, none⟩ by unfold Addr.add; split <;> simp_all]
    rw [blk_cell (show (W.alloc (.cells (outsZ m) 5)).drew.heap[W.heap.size]? = some (.cells (outsZ m) 5 (0, 0)) from heap_alloc_new W (.cells (outsZ m) 5)) j]
    simp [outsZ, madeCells, hj, Value.cells, Nat.mod_one])
  rwa [List.length_replicate] at this
set_option maxHeartbeats 8000000 in
set_option maxRecDepth 100000 in
theorem posthorselaw01_LeOuts.calls (k : Nat) (A1 : Option Addr) (c1 : Nat) (l1 : List Item) (r : Bool) (w : World) (hL_ : Laid w) (hr1 : Kd.C k47 w A1 l1.length l1) (hc1 : l1.length ≤ c1) (h : posthorselaw01_LeOuts.f k l1 = some r) :
    Calls Tryd.prog 8 #[.slice A1 l1.length c1] w fun e w' => e = .returned (.bool r) ∧ Below w.heap.size w w' := by
  have HL_ := Aside0.mk hL_
  clear hL_
  have HR := Aside0.mk hr1
  clear hr1 hc1
  have E0 := Aside0.mk (show posthorselaw01_speaks.f = some true from rfl)
  have HB := Aside0.mk (Below.refl w.heap.size w)
  unfold posthorselaw01_LeOuts.f at h
  have H' := Aside0.mk h
  clear h
  go_enter Tryd.func8, Tryd.ntmps8
  go_wp2_with (go_at_call 20; (with_reducible refine (posthorselaw01_speaks.calls true _ E0.out).mono ?_); rintro e w1 ⟨rfl, hb⟩; have HB1 := Aside0.mk (below_step HB.out hb); clear hb)
  have HO := Aside0.mk (OutIs.new (heap_alloc_new w1 (.cells #[.pointer none, .slice none 0 0, .bool false] 45)) HB1.out.size)
  have HB2 := Aside0.mk (below_alloc HB1.out (.cells #[.pointer none, .slice none 0 0, .bool false] 45))
  clear HB1
  generalize w1.alloc (.cells #[.pointer none, .slice none 0 0, .bool false] 45) = w2 at *
  generalize w1.heap.size = g at *
  go_loopg [4, 5, 6] k (fun kq v4 v5 v6 w' => ∃ (acc : ByteArray) (lg : Bool) (want : ByteArray) (long : Bool) (i : Int), v4 = .string want ∧ v5 = .bool long ∧ v6 = .int .i64 i ∧ Aside0 (0 ≤ i) ∧ Aside0 (posthorselaw01_LeOuts.l0 kq l1 acc lg want long i = some r) ∧ Aside0 (kq ≤ k) ∧ Aside0 (OutIs w.heap.size g acc lg w') ∧ Aside0 (Below w.heap.size w w'))
  case atStart => exact ⟨⟨#[]⟩, false, ⟨#[]⟩, false, 0, rfl, rfl, rfl, ⟨Int.le_refl _⟩, H', ⟨Nat.le_refl _⟩, HO, HB2⟩
  case round =>
    clear H' HO HB2 HB
    obtain ⟨acc, lg, want, long, i, rfl, rfl, rfl, hi0, HA, HK1, HO, HB⟩ := hrel
    cases gk with
    | zero => exact absurd HA.out (by simp [posthorselaw01_LeOuts.l0])
    | succ k1 =>
      have H := HA.out
      clear HA
      rw [posthorselaw01_LeOuts.l0] at H
      by_cases cs : acc.size ≤ 5000 ∧ want.size ≤ 5000
      case neg => rw [if_neg cs] at H; cases H
      rw [if_pos cs] at H
      have CS := Aside0.mk cs
      clear cs
      by_cases c : i < (l1.length : Int) ∧ i < 20
      · rw [if_pos c] at H
        obtain ⟨c3, c4⟩ := c
        have c3b : decide (i < (l1.length : Int)) = true := decide_eq_true c3
        have c4b : decide (i < 20) = true := decide_eq_true c4
        obtain ⟨ad, e105, hx0, hx1, hx2, hx3⟩ := at_T47 HR.out i hi0.out c3
        cases e105
        have p105 := eq_true hi0.out
        have q105 := eq_true c3
        have hi1 : wrap64 (i + 1) = i + 1 := by have := hi0.out; unfold wrap64; omega
        have HI := Aside0.mk hi1
        have HJ := Aside0.mk (show 0 ≤ i + 1 from by have := hi0.out; omega)
        clear hi1 c3 c4
        replace hx0 := (HB.out.cell (World.block_lt_of_cell? w _ hx0)).trans hx0
        replace hx1 := (HB.out.cell (World.block_lt_of_cell? w _ hx1)).trans hx1
        replace hx2 := (HB.out.cell (World.block_lt_of_cell? w _ hx2)).trans hx2
        replace hx3 := (HB.out.cell (World.block_lt_of_cell? w _ hx3)).trans hx3
        generalize rd_T47 l1 i = x at *
        obtain ⟨ji, hji⟩ : ∃ j_ : Int, (mn (x.f0.size : Int) 50) = j_ := ⟨_, rfl⟩
        have hji_ : (if 50 < (x.f0.size : Int) then 50 else (x.f0.size : Int)) = ji := hji
        have hj0 := eq_true (show 0 ≤ ji by rw [← hji]; unfold mn; split <;> omega)
        have hj1 := eq_true (show ji ≤ (x.f0.size : Int) by rw [← hji]; unfold mn; split <;> omega)
        have hj0d : decide (0 ≤ ji) = true := decide_eq_true (of_eq_true hj0)
        have hj1d : decide (ji ≤ (x.f0.size : Int)) = true := decide_eq_true (of_eq_true hj1)
        have hct : x.f0.extract 0 ji.toNat = itT x := by rw [← hji]; rfl
        generalize itT x = T at *
        obtain ⟨Z, hZ⟩ : ∃ z : Int, itZ x = z := ⟨_, rfl⟩
        have hZ_ : (if 60 < x.f2 then 60 else x.f2) = Z := hZ
        rw [hZ] at H
        obtain ⟨f0, f1, f2, f3⟩ := x
        simp only at *
        have hT50 : T.size ≤ 50 := by
          rw [← hct, ByteArray.size_extract, ← hji]
          unfold mn
          split <;> omega
        have hZ60 : Z ≤ 60 := by rw [← hZ_]; split <;> omega
        have hgx : wr.heap.size ≠ g := Nat.ne_of_gt (BOut.lt HO.out)
        have HO4 := Aside0.mk (show OutIs w.heap.size g acc lg (wr.alloc (.cells #[.string T, .int .i64 f1, .int .i64 Z, .bool f3] 47)) from BOut.alloc HO.out _)
        have HB4 := Aside0.mk (below_alloc HB.out (.cells #[.string T, .int .i64 f1, .int .i64 Z, .bool f3] 47))
        have HX4 := Aside0.mk (heap_alloc_new wr (.cells #[.string T, .int .i64 f1, .int .i64 Z, .bool f3] 47))
        have HGX := Aside0.mk hgx
        have HTZ := Aside0.mk (show T.size ≤ 50 ∧ Z ≤ 60 from ⟨hT50, hZ60⟩)
        have hb0 : Z ≤ 140737488355328 := by omega
        have hb1 : (acc.size : Int) + Z ≤ 140737488351232 := by have := CS.out; omega
        have HBD := Aside0.mk (show Z ≤ 140737488355328 ∧ (acc.size : Int) + Z ≤ 140737488355328 from ⟨by omega, by omega⟩)
        clear HO HB hgx hb0 hb1
        cases f3 with
        | true =>
          simp only [if_true] at H
          by_cases hT : (T.size : Int) > Z
          · rw [if_pos hT] at H
            have hTd : decide (Z < (T.size : Int)) = true := decide_eq_true hT
            have eo : outText acc lg T Z = (acc, true) := by unfold outText; rw [if_pos hT]
            have H' := Aside0.mk H
            have EO := Aside0.mk eo
            clear H eo hT hT50 hZ60
            go_wp2_with (go_at_call 21; (with_reducible refine (oText w.heap.size g acc lg T Z _ HO4.out HB4.out.size HBD.out.1 HBD.out.2).mono ?_); rintro e_ w5 ⟨rfl, ho5, hb5, hk5⟩; rw [EO.out] at ho5; have HO5 := Aside0.mk ho5; have HB5 := Aside0.mk (HB4.out.trans hb5); have HX5 := Aside0.mk (hk5 _ _ _ HGX.out (by decide) HX4.out); have hcz0 := (blk_cell HX5.out 0).trans rfl; have hcz2 := (blk_cell HX5.out 2).trans rfl; clear ho5 hb5 hk5)
            go_roundg k1
            case measure => have := HK1.out; omega
            case rel => exact ⟨acc, true, want, true, i + 1, rfl, rfl, (by first | rfl | (rw [HI.out])), HJ, H', ⟨by have := HK1.out; omega⟩, HO5, HB5⟩
          · rw [if_neg hT] at H
            have hTd : decide (Z < (T.size : Int)) = false := decide_eq_false hT
            have eo : outText acc lg T Z = (acc ++ (T ++ zerosB (Z - T.size).toNat), lg) := by unfold outText; rw [if_neg hT]
            obtain ⟨m, hm⟩ : ∃ m : Nat, Z - (T.size : Int) = (m : Int) := ⟨(Z - (T.size : Int)).toNat, by omega⟩
            have em : (Z - (T.size : Int)).toNat = m := by omega
            have hm60 : m ≤ 60 := by omega
            rw [em] at H eo
            have H' := Aside0.mk H
            have EO := Aside0.mk eo
            have hmw : wrap64 (Z - (T.size : Int)) = (m : Int) := by unfold wrap64; omega
            have hmi : IntKind.i64.wrap (m : Int) = (m : Int) := (i64_w _).trans (by unfold wrap64; omega)
            have hmk := outs_make m hm60
            have hcv := outs_conv m
            have hcvd := outs_convd m
            have hs1 : (9223372036854775807 < T.size + (zerosB m).size) = False := eq_false (by rw [zerosB_size]; omega)
            have hs2 : (9223372036854775807 < want.size + (T.size + (zerosB m).size)) = False := eq_false (by rw [zerosB_size]; have := CS.out; omega)
            have hs3 : (9223372036854775807 < want.size + (T ++ zerosB m).size) = False := eq_false (by rw [ByteArray.size_append, zerosB_size]; have := CS.out; omega)
            clear H eo hT hT50 hZ60 em hm
            go_wp2_with (go_at_call 21; (with_reducible refine (oText w.heap.size g acc lg T Z _ HO4.out HB4.out.size HBD.out.1 HBD.out.2).mono ?_); rintro e_ w5 ⟨rfl, ho5, hb5, hk5⟩; rw [EO.out] at ho5; have HO5 := Aside0.mk ho5; have HB5 := Aside0.mk (HB4.out.trans hb5); have HX5 := Aside0.mk (hk5 _ _ _ HGX.out (by decide) HX4.out); have hcz0 := (blk_cell HX5.out 0).trans rfl; have hcz2 := (blk_cell HX5.out 2).trans rfl; have HX6 := Aside0.mk (show (w5.alloc (.cells (outsZ m) 5)).heap[wr.heap.size]? = _ from blk_below HX5.out (below_alloc (Below.refl _ _) _)); have hcA0 := (blk_cell HX6.out 0).trans rfl; have hcA2 := (blk_cell HX6.out 2).trans rfl; clear ho5 hb5 hk5)
            go_region
            go_wp2
            go_roundg k1
            case measure => have := HK1.out; omega
            case rel => exact ⟨acc ++ (T ++ zerosB m), lg, want ++ (T ++ zerosB m), long, i + 1, rfl, rfl, (by first | rfl | (rw [HI.out])), HJ, H', ⟨by have := HK1.out; omega⟩, ⟨BOut.drew (BOut.alloc HO5.out _)⟩, ⟨below_drew1 (below_alloc HB5.out _)⟩⟩
        | false =>
          simp only [Bool.false_eq_true, if_false] at H
          obtain ⟨s1, A1_, H⟩ := Option.bind_eq_some_iff.mp H
          obtain ⟨s2, A2_, H⟩ := Option.bind_eq_some_iff.mp H
          have A3 := Aside0.mk A1_
          have A4 := Aside0.mk A2_
          clear A1_ A2_
          by_cases hs : s1.size ≤ 7 ∧ s2.size ≤ 7
          case neg => rw [if_neg hs] at H; cases H
          rw [if_pos hs] at H
          have H' := Aside0.mk H
          have HS := Aside0.mk hs
          have hsum := eq_true (show want.size + s2.size ≤ 9223372036854775807 by have := CS.out; omega)
          have hsumd : decide (want.size + s2.size ≤ 9223372036854775807) = true := decide_eq_true (of_eq_true hsum)
          have hsumn : (9223372036854775807 < want.size + s2.size) = False := eq_false (by have := of_eq_true hsum; omega)
          clear H hs hT50 hZ60
          cases long
          all_goals
            go_wp2_with (first
              | (go_at_call 22; (with_reducible refine (oNum k1 w.heap.size g acc lg f1 Z s1 _ HO4.out HB4.out.size A3.out (by have := CS.out; have := HS.out; omega)).mono ?_); rintro e_ w5 ⟨rfl, ho5, hb5, hk5⟩; have HO5 := Aside0.mk ho5; have HB5 := Aside0.mk (HB4.out.trans hb5); have HX5 := Aside0.mk (hk5 _ _ _ HGX.out (by decide) HX4.out); have hcz1 := (blk_cell HX5.out 1).trans rfl; have hcz2 := (blk_cell HX5.out 2).trans rfl; clear ho5 hb5 hk5)
              | (go_at_call 23; (with_reducible refine (posthorseref01_Put.calls k1 f1 Z s2 _ A4.out).mono ?_); rintro e_ w6 ⟨rfl, hb6⟩; have HO6 := Aside0.mk (BOut.below HO5.out hb6); have HB6 := Aside0.mk (below_step HB5.out hb6); clear hb6))
            go_roundg k1
            case measure => have := HK1.out; omega
            case rel => exact ⟨acc ++ s1, (lg || s1.toList.isEmpty), want ++ s2, _, i + 1, rfl, (by first | rfl | simp), (by first | rfl | (rw [HI.out])), HJ, H', ⟨by have := HK1.out; omega⟩, HO6, HB6⟩
      · rw [if_neg c] at H
        have hi20 : i < 20 ∨ ¬ i < 20 := Decidable.em _
        have hin : decide (i < (l1.length : Int)) = false ∨ (decide (i < (l1.length : Int)) = true ∧ decide (i < 20) = false) := by
          by_cases h4 : i < (l1.length : Int)
          · exact .inr ⟨decide_eq_true h4, decide_eq_false (fun h => c ⟨h4, h⟩)⟩
          · exact .inl (decide_eq_false h4)
        clear c hi20
        obtain ⟨s0, hs0⟩ : ∃ x_, outString acc lg = x_ := ⟨_, rfl⟩
        obtain ⟨s, se⟩ := s0
        rw [hs0] at H
        have OS := Aside0.mk hs0
        clear hs0
        cases long with
        | true =>
          simp only [if_true] at H
          by_cases hn : s.toList = []
          · rw [if_pos hn] at H
            obtain ⟨n1, A1_, H⟩ := Option.bind_eq_some_iff.mp H
            have A4 := Aside0.mk A1_
            clear A1_
            obtain rfl := Option.some.inj H
            clear H
            have hnb : (s.toList == ([] : List UInt8)) = true := by simpa using hn
            have hnc : s.toList.isEmpty = true := by simpa using hn
            rcases hin with d3 | ⟨d3, d4⟩
            all_goals
              go_wp2_with (first
                | (go_at_call 24; (with_reducible refine (oString w.heap.size g acc lg _ HO.out).mono ?_); rintro e_ w5 ⟨rfl, hb5⟩; have HB5 := Aside0.mk (HB.out.trans hb5); rw [OS.out]; clear hb5)
                | (go_at_call 25; (with_reducible refine (posthorselaw01_code.calls se n1 _ (Laid.below HL_.out HB5.out) A4.out).mono ?_); rintro e_ w6 ⟨rfl, hb6⟩; have HB6 := Aside0.mk (below_step HB5.out hb6); clear hb6))
              go_ret
              exact ⟨by first | rfl | simp, HB6.out⟩
          · rw [if_neg hn] at H
            obtain rfl := Option.some.inj H
            clear H
            have hnb : (s.toList == ([] : List UInt8)) = false := by simpa using hn
            have hnc : s.toList.isEmpty = false := by simpa using hn
            rcases hin with d3 | ⟨d3, d4⟩
            all_goals
              go_wp2_with (go_at_call 24; (with_reducible refine (oString w.heap.size g acc lg _ HO.out).mono ?_); rintro e_ w5 ⟨rfl, hb5⟩; have HB5 := Aside0.mk (HB.out.trans hb5); rw [OS.out]; clear hb5)
              go_ret
              exact ⟨by first | rfl | simp, HB5.out⟩
        | false =>
          simp only [Bool.false_eq_true, if_false] at H
          by_cases hw : s.toList = want.toList
          case neg =>
            rw [if_neg hw] at H
            obtain rfl := Option.some.inj H
            clear H
            have hwb : (s.toList == want.toList) = false := by simpa using hw
            have hwn : (s.toList != want.toList) = true := by simpa using hw
            have hwm : (!(s.toList == want.toList)) = true := by simpa using hw
            rcases hin with d3 | ⟨d3, d4⟩
            all_goals
              go_wp2_with (go_at_call 24; (with_reducible refine (oString w.heap.size g acc lg _ HO.out).mono ?_); rintro e_ w5 ⟨rfl, hb5⟩; have HB5 := Aside0.mk (HB.out.trans hb5); rw [OS.out]; clear hb5)
              go_ret
              exact ⟨by first | rfl | simp, HB5.out⟩
          rw [if_pos hw] at H
          have hwb : (s.toList == want.toList) = true := by simpa using hw
          have hwn : (s.toList != want.toList) = false := by simpa using hw
          have hwm : (!(s.toList == want.toList)) = false := by simpa using hw
          cases se with
          | some n =>
            simp only [Option.isNone_some, Bool.false_eq_true, if_false, Option.some.injEq] at H
            subst H
            rcases hin with d3 | ⟨d3, d4⟩
            all_goals
              go_wp2_with (go_at_call 24; (with_reducible refine (oString w.heap.size g acc lg _ HO.out).mono ?_); rintro e_ w5 ⟨rfl, hb5⟩; have HB5 := Aside0.mk (HB.out.trans hb5); rw [OS.out]; simp only [errW_some]; clear hb5)
              go_ret
              exact ⟨by first | rfl | simp, HB5.out⟩
          | none =>
            simp only [Option.isNone_none, if_true] at H
            have H' := Aside0.mk H
            clear H hw
            rcases hin with d3 | ⟨d3, d4⟩
            all_goals
              go_wp2_with (first
                | (go_at_call 24; (with_reducible refine (oString w.heap.size g acc lg _ HO.out).mono ?_); rintro e_ w5 ⟨rfl, hb5⟩; have HB5 := Aside0.mk (HB.out.trans hb5); rw [OS.out]; simp only [errW_none]; clear hb5)
                | (go_at_call 26; (with_reducible refine (le_Read.calls s s none w _ HB5.out rfl).mono ?_); rintro e_ w6 ⟨g1, rfl, hi1, hb1, _⟩; have HI1 := Aside0.mk hi1; have HB6 := Aside0.mk hb1; clear hi1 hb1))
              clear d3
              go_loopg [12] k1 (fun kq v12 w' => ∃ (s : ByteArray) (e : Option Int) (i : Int), v12 = .int .i64 i ∧ Aside0 (0 ≤ i) ∧ Aside0 (posthorselaw01_LeOuts.l1 kq l1 s e i = some r) ∧ Aside0 (kq ≤ k1) ∧ Aside0 (IsS80 w w' g1 s e) ∧ Aside0 (Below w.heap.size w w'))
              case atStart => exact ⟨s, none, 0, rfl, ⟨Int.le_refl _⟩, H', ⟨Nat.le_refl _⟩, HI1, HB6⟩
              case round =>
                clear H' HI1 HB6 HB5 HB HO OS CS hi0 hwb hwn hwm
                obtain ⟨s, e, i, rfl, hi0, HA, HK2, HI1, HB⟩ := hrel
                cases gk with
                | zero => exact absurd HA.out (by simp [posthorselaw01_LeOuts.l1])
                | succ k2 =>
                  have H := HA.out
                  clear HA
                  rw [posthorselaw01_LeOuts.l1] at H
                  by_cases c : i < (l1.length : Int) ∧ i < 20
                  · rw [if_pos c] at H
                    obtain ⟨c3, c4⟩ := c
                    have c3b : decide (i < (l1.length : Int)) = true := decide_eq_true c3
                    have c4b : decide (i < 20) = true := decide_eq_true c4
                    obtain ⟨ad, e105, hx0, hx1, hx2, hx3⟩ := at_T47 HR.out i hi0.out c3
                    cases e105
                    have p105 := eq_true hi0.out
                    have q105 := eq_true c3
                    have hi1 : wrap64 (i + 1) = i + 1 := by have := hi0.out; unfold wrap64; omega
                    have HI := Aside0.mk hi1
                    have HJ := Aside0.mk (show 0 ≤ i + 1 from by have := hi0.out; omega)
                    clear hi1 c3 c4
                    replace hx0 := (HB.out.cell (World.block_lt_of_cell? w _ hx0)).trans hx0
                    replace hx1 := (HB.out.cell (World.block_lt_of_cell? w _ hx1)).trans hx1
                    replace hx2 := (HB.out.cell (World.block_lt_of_cell? w _ hx2)).trans hx2
                    replace hx3 := (HB.out.cell (World.block_lt_of_cell? w _ hx3)).trans hx3
                    generalize rd_T47 l1 i = x at *
                    obtain ⟨ji, hji⟩ : ∃ j_ : Int, (mn (x.f0.size : Int) 50) = j_ := ⟨_, rfl⟩
                    have hji_ : (if 50 < (x.f0.size : Int) then 50 else (x.f0.size : Int)) = ji := hji
                    have hj0 := eq_true (show 0 ≤ ji by rw [← hji]; unfold mn; split <;> omega)
                    have hj1 := eq_true (show ji ≤ (x.f0.size : Int) by rw [← hji]; unfold mn; split <;> omega)
                    have hj0d : decide (0 ≤ ji) = true := decide_eq_true (of_eq_true hj0)
                    have hj1d : decide (ji ≤ (x.f0.size : Int)) = true := decide_eq_true (of_eq_true hj1)
                    have hct : x.f0.extract 0 ji.toNat = itT x := by rw [← hji]; rfl
                    generalize itT x = T at *
                    obtain ⟨Z, hZ⟩ : ∃ z : Int, itZ x = z := ⟨_, rfl⟩
                    have hZ_ : (if 60 < x.f2 then 60 else x.f2) = Z := hZ
                    rw [hZ] at H
                    obtain ⟨f0, f1, f2, f3⟩ := x
                    simp only at *
                    have hgx : wr.heap.size ≠ g1 := Nat.ne_of_gt HI1.out.lt
                    have HI4 := Aside0.mk (HI1.out.alloc (.cells #[.string T, .int .i64 f1, .int .i64 Z, .bool f3] 47))
                    have HB4 := Aside0.mk (below_alloc HB.out (.cells #[.string T, .int .i64 f1, .int .i64 Z, .bool f3] 47))
                    have HX4 := Aside0.mk (heap_alloc_new wr (.cells #[.string T, .int .i64 f1, .int .i64 Z, .bool f3] 47))
                    have HGX := Aside0.mk hgx
                    have HI4d := Aside0.mk (IsS80.drew HI4.out)
                    have HB4d := Aside0.mk (below_drew1 HB4.out)
                    have HX4d := Aside0.mk (show (wr.alloc (.cells #[.string T, .int .i64 f1, .int .i64 Z, .bool f3] 47)).drew.heap[wr.heap.size]? = _ from HX4.out)
                    clear HI1 HB hgx HI4 HB4 HX4
                    cases f3 with
                    | true =>
                      simp only [if_true] at H
                      obtain ⟨⟨b1, s1, e1⟩, A1_, H⟩ := Option.bind_eq_some_iff.mp H
                      have A3 := Aside0.mk A1_
                      clear A1_
                      by_cases hle : T.size ≤ b1.size
                      case neg => rw [if_neg hle] at H; cases H
                      rw [if_pos hle] at H
                      have hl1 := eq_true hle
                      have hl2 := eq_true (show (T.size : Int) ≤ (b1.size : Int) by omega)
                      have hl3 : decide ((T.size : Int) ≤ (b1.size : Int)) = true := decide_eq_true (by omega)
                      have hl4 : decide (T.size ≤ b1.size) = true := decide_eq_true hle
                      clear hle
                      by_cases hb : (b1.extract 0 T.size).toList = T.toList
                      · rw [if_pos hb] at H
                        have H' := Aside0.mk H
                        clear H
                        have hbe : ((b1.extract 0 T.size).toList == T.toList) = true := by simpa using hb
                        have hbn : ((b1.extract 0 T.size).toList != T.toList) = false := by simpa using hb
                        have hbm : (!((b1.extract 0 T.size).toList == T.toList)) = false := by simpa using hb
                        clear hb
                        go_wp2_with fail
                        refine start_ (n := 29) (S := fun w' => w'.cell? ⟨wr.heap.size, 0, none⟩ = some (.string T) ∧ w'.cell? ⟨wr.heap.size, 1, none⟩ = some (.int .i64 f1) ∧ w'.cell? ⟨wr.heap.size, 2, none⟩ = some (.int .i64 Z) ∧ w'.cell? ⟨wr.heap.size, 3, none⟩ = some (.bool true)) (ds := []) #[false, false, false, false, false, false, false, false, false, false, false, false, false, false, false, false, false, false, false, false, false, false, false, false, false, false, false, false, false] (by kernel_rfl) rfl rfl ⟨(blk_cell HX4d.out 0).trans rfl, (blk_cell HX4d.out 1).trans rfl, (blk_cell HX4d.out 2).trans rfl, (blk_cell HX4d.out 3).trans rfl⟩ (fun hHeld => ?_)
                        refine pure_ (i := 0) (N := some 133) (v := ?_) (a' := ?_) #[true, false, false, false, false, false, false, false, false, false, false, false, false, false, false, false, false, false, false, false, false, false, false, false, false, false, false, false, false] rfl rfl (by kernel_rfl) (fun _ _ _ h => h) (Or.inl ⟨by rfl, ?_⟩) ?_ ?_
                        rotate_left
                        · intro w'
                          go_simp
                          with_reducible rfl
                        rotate_left
                        · simp only [Act.put, List.setIfInBounds_toArray, List.set_cons_zero, List.set_cons_succ, i64_w, i32_w]
                          rfl
                        refine take_ (i := 1) (N := some 134) (v := ?_) (a' := ?_) #[true, true, false, false, false, false, false, false, false, false, false, false, false, false, false, false, false, false, false, false, false, false, false, false, false, false, false, false, false] rfl rfl (by kernel_rfl) (fun _ _ _ h => h) (Or.inl ⟨by rfl, ?_⟩) hHeld ?_ ?_
                        rotate_left
                        · rintro w' ⟨s0, s1, s2, s3⟩
                          go_simp
                          with_reducible rfl
                        rotate_left
                        · simp only [Act.put, List.setIfInBounds_toArray, List.set_cons_zero, List.set_cons_succ, i64_w, i32_w]
                          rfl
                        refine pure_ (i := 2) (N := some 135) (v := ?_) (a' := ?_) #[true, true, true, false, false, false, false, false, false, false, false, false, false, false, false, false, false, false, false, false, false, false, false, false, false, false, false, false, false] rfl rfl (by kernel_rfl) (fun _ _ _ h => h) (Or.inl ⟨by rfl, ?_⟩) ?_ ?_
                        rotate_left
                        · intro w'
                          go_simp
                          with_reducible rfl
                        rotate_left
                        · simp only [Act.put, List.setIfInBounds_toArray, List.set_cons_zero, List.set_cons_succ, i64_w, i32_w]
                          rfl
                        refine pure_ (i := 3) (N := some 136) (v := ?_) (a' := ?_) #[true, true, true, true, false, false, false, false, false, false, false, false, false, false, false, false, false, false, false, false, false, false, false, false, false, false, false, false, false] rfl rfl (by kernel_rfl) (fun _ _ _ h => h) (Or.inl ⟨by rfl, ?_⟩) ?_ ?_
                        rotate_left
                        · intro w'
                          go_simp
                          with_reducible rfl
                        rotate_left
                        · simp only [Act.put, List.setIfInBounds_toArray, List.set_cons_zero, List.set_cons_succ, i64_w, i32_w]
                          rfl
                        refine pure_ (i := 4) (N := some 137) (v := ?_) (a' := ?_) #[true, true, true, true, true, false, false, false, false, false, false, false, false, false, false, false, false, false, false, false, false, false, false, false, false, false, false, false, false] rfl rfl (by kernel_rfl) (fun _ _ _ h => h) (Or.inl ⟨by rfl, ?_⟩) ?_ ?_
                        rotate_left
                        · intro w'
                          go_simp
                          with_reducible rfl
                        rotate_left
                        · simp only [Act.put, List.setIfInBounds_toArray, List.set_cons_zero, List.set_cons_succ, i64_w, i32_w]
                          rfl
                        refine pure_ (i := 7) (N := some 140) (v := ?_) (a' := ?_) #[true, true, true, true, true, false, false, true, false, false, false, false, false, false, false, false, false, false, false, false, false, false, false, false, false, false, false, false, false] rfl rfl (by kernel_rfl) (fun _ _ _ h => h) (Or.inl ⟨by rfl, ?_⟩) ?_ ?_
                        rotate_left
                        · intro w'
                          go_simp
                          with_reducible rfl
                        rotate_left
                        · simp only [Act.put, List.setIfInBounds_toArray, List.set_cons_zero, List.set_cons_succ, i64_w, i32_w]
                          rfl
                        refine pure_ (i := 11) (N := some 144) (v := ?_) (a' := ?_) #[true, true, true, true, true, false, false, true, false, false, false, true, false, false, false, false, false, false, false, false, false, false, false, false, false, false, false, false, false] rfl rfl (by kernel_rfl) (fun _ _ _ h => h) (Or.inl ⟨by rfl, ?_⟩) ?_ ?_
                        rotate_left
                        · intro w'
                          go_simp
                          with_reducible rfl
                        rotate_left
                        · simp only [Act.put, List.setIfInBounds_toArray, List.set_cons_zero, List.set_cons_succ, i64_w, i32_w]
                          rfl
                        refine take_ (i := 5) (N := some 138) (v := ?_) (a' := ?_) #[true, true, true, true, true, true, false, true, false, false, false, true, false, false, false, false, false, false, false, false, false, false, false, false, false, false, false, false, false] rfl rfl (by kernel_rfl) (fun _ _ _ h => h) (Or.inl ⟨by rfl, ?_⟩) hHeld ?_ ?_
                        rotate_left
                        · rintro w' ⟨s0, s1, s2, s3⟩
                          go_simp
                          with_reducible rfl
                        rotate_left
                        · simp only [Act.put, List.setIfInBounds_toArray, List.set_cons_zero, List.set_cons_succ, i64_w, i32_w]
                          rfl
                        refine take_ (i := 8) (N := some 141) (v := ?_) (a' := ?_) #[true, true, true, true, true, true, false, true, true, false, false, true, false, false, false, false, false, false, false, false, false, false, false, false, false, false, false, false, false] rfl rfl (by kernel_rfl) (fun _ _ _ h => h) (Or.inl ⟨by rfl, ?_⟩) hHeld ?_ ?_
                        rotate_left
                        · rintro w' ⟨s0, s1, s2, s3⟩
                          go_simp
                          with_reducible rfl
                        rotate_left
                        · simp only [Act.put, List.setIfInBounds_toArray, List.set_cons_zero, List.set_cons_succ, i64_w, i32_w]
                          rfl
                        refine pure_ (i := 9) (N := some 142) (v := ?_) (a' := ?_) #[true, true, true, true, true, true, false, true, true, true, false, true, false, false, false, false, false, false, false, false, false, false, false, false, false, false, false, false, false] rfl rfl (by kernel_rfl) (fun _ _ _ h => h) (Or.inl ⟨by rfl, ?_⟩) ?_ ?_
                        rotate_left
                        · intro w'
                          go_simp
                          with_reducible rfl
                        rotate_left
                        · simp only [Act.put, List.setIfInBounds_toArray, List.set_cons_zero, List.set_cons_succ, i64_w, i32_w]
                          rfl
                        refine take_ (i := 12) (N := some 145) (v := ?_) (a' := ?_) #[true, true, true, true, true, true, false, true, true, true, false, true, true, false, false, false, false, false, false, false, false, false, false, false, false, false, false, false, false] rfl rfl (by kernel_rfl) (fun _ _ _ h => h) (Or.inl ⟨by rfl, ?_⟩) hHeld ?_ ?_
                        rotate_left
                        · rintro w' ⟨s0, s1, s2, s3⟩
                          go_simp
                          with_reducible rfl
                        rotate_left
                        · simp only [Act.put, List.setIfInBounds_toArray, List.set_cons_zero, List.set_cons_succ, i64_w, i32_w]
                          rfl
                        refine one_ (i := 6) (N := some 139) #[true, true, true, true, true, true, true, true, true, true, false, true, true, false, false, false, false, false, false, false, false, false, false, false, false, false, false, false, false] rfl rfl (by kernel_rfl) (by decide) (fun K hK => ?_)
                        refine goes_ Tryd.func27 (by kernel_rfl) rfl #[.pointer (some ⟨g1, 0, none⟩), .int .i64 Z] (by rfl) rfl rfl (by simp only [List.map_toArray, List.map_cons, List.map_nil]; rfl) ?_
                        with_reducible refine (le_In_Text.calls g1 s e Z b1 s1 e1 w _ HI4d.out HB4d.out A3.out).mono ?_
                        rintro e_ w5 ⟨rfl, hi5, hb5, hk5⟩
                        refine ⟨_, rfl, ?_⟩
                        have HI5 := Aside0.mk hi5
                        have HB5 := Aside0.mk hb5
                        have HX5 := Aside0.mk (KeepBut.blk hk5 HX4d.out HGX.out (by simp))
                        clear hi5 hb5 hk5
                        refine hK.out _ _ ⟨(blk_cell HX5.out 0).trans rfl, (blk_cell HX5.out 1).trans rfl, (blk_cell HX5.out 2).trans rfl, (blk_cell HX5.out 3).trans rfl⟩ (fun hHeld => ?_)
                        clear hK K
                        refine norm_ (a' := ?_) ?_ ?_
                        rotate_left
                        · show Act.put _ (some 139) _ = _
                          simp only [Act.put, List.setIfInBounds_toArray, List.set_cons_zero, List.set_cons_succ, i64_w, i32_w]
                          rfl
                        refine pure_ (i := 10) (N := some 143) (v := ?_) (a' := ?_) #[true, true, true, true, true, true, true, true, true, true, true, true, true, false, false, false, false, false, false, false, false, false, false, false, false, false, false, false, false] rfl rfl (by kernel_rfl) (fun _ _ _ h => h) (Or.inl ⟨by rfl, ?_⟩) ?_ ?_
                        rotate_left
                        · intro w'
                          go_simp
                          with_reducible rfl
                        rotate_left
                        · simp only [Act.put, List.setIfInBounds_toArray, List.set_cons_zero, List.set_cons_succ, i64_w, i32_w]
                          rfl
                        refine pure_ (i := 13) (N := some 146) (v := ?_) (a' := ?_) #[true, true, true, true, true, true, true, true, true, true, true, true, true, true, false, false, false, false, false, false, false, false, false, false, false, false, false, false, false] rfl rfl (by kernel_rfl) (fun _ _ _ h => h) (Or.inl ⟨by rfl, ?_⟩) ?_ ?_
                        rotate_left
                        · intro w'
                          go_simp
                          with_reducible rfl
                        rotate_left
                        · simp only [Act.put, List.setIfInBounds_toArray, List.set_cons_zero, List.set_cons_succ, i64_w, i32_w]
                          rfl
                        refine pure_ (i := 14) (N := some 147) (v := ?_) (a' := ?_) #[true, true, true, true, true, true, true, true, true, true, true, true, true, true, true, false, false, false, false, false, false, false, false, false, false, false, false, false, false] rfl rfl (by kernel_rfl) (fun _ _ _ h => h) (Or.inl ⟨by rfl, ?_⟩) ?_ ?_
                        rotate_left
                        · intro w'
                          go_simp
                          with_reducible rfl
                        rotate_left
                        · simp only [Act.put, List.setIfInBounds_toArray, List.set_cons_zero, List.set_cons_succ, i64_w, i32_w]
                          rfl
                        refine pure_ (i := 15) (N := some 148) (v := ?_) (a' := ?_) #[true, true, true, true, true, true, true, true, true, true, true, true, true, true, true, true, false, false, false, false, false, false, false, false, false, false, false, false, false] rfl rfl (by kernel_rfl) (fun _ _ _ h => h) (Or.inl ⟨by rfl, ?_⟩) ?_ ?_
                        rotate_left
                        · intro w'
                          go_simp
                          with_reducible rfl
                        rotate_left
                        · simp only [Act.put, List.setIfInBounds_toArray, List.set_cons_zero, List.set_cons_succ, i64_w, i32_w]
                          rfl
                        refine pure_ (i := 16) (N := some 149) (v := ?_) (a' := ?_) #[true, true, true, true, true, true, true, true, true, true, true, true, true, true, true, true, true, false, false, false, false, false, false, false, false, false, false, false, false] rfl rfl (by kernel_rfl) (fun _ _ _ h => h) (Or.inl ⟨by rfl, ?_⟩) ?_ ?_
                        rotate_left
                        · intro w'
                          go_simp
                          with_reducible rfl
                        rotate_left
                        · simp only [Act.put, List.setIfInBounds_toArray, List.set_cons_zero, List.set_cons_succ, i64_w, i32_w]
                          rfl
                        refine take_ (i := 17) (N := some 150) (v := ?_) (a' := ?_) #[true, true, true, true, true, true, true, true, true, true, true, true, true, true, true, true, true, true, false, false, false, false, false, false, false, false, false, false, false] rfl rfl (by kernel_rfl) (fun _ _ _ h => h) (Or.inl ⟨by rfl, ?_⟩) hHeld ?_ ?_
                        rotate_left
                        · rintro w' ⟨s0, s1, s2, s3⟩
                          go_simp
                          with_reducible rfl
                        rotate_left
                        · simp only [Act.put, List.setIfInBounds_toArray, List.set_cons_zero, List.set_cons_succ, i64_w, i32_w]
                          rfl
                        refine pure_ (i := 18) (N := some 151) (v := ?_) (a' := ?_) #[true, true, true, true, true, true, true, true, true, true, true, true, true, true, true, true, true, true, true, false, false, false, false, false, false, false, false, false, false] rfl rfl (by kernel_rfl) (fun _ _ _ h => h) (Or.inl ⟨by rfl, ?_⟩) ?_ ?_
                        rotate_left
                        · intro w'
                          go_simp
                          with_reducible rfl
                        rotate_left
                        · simp only [Act.put, List.setIfInBounds_toArray, List.set_cons_zero, List.set_cons_succ, i64_w, i32_w]
                          rfl
                        refine pure_ (i := 19) (N := some 152) (v := ?_) (a' := ?_) #[true, true, true, true, true, true, true, true, true, true, true, true, true, true, true, true, true, true, true, true, false, false, false, false, false, false, false, false, false] rfl rfl (by kernel_rfl) (fun _ _ _ h => h) (Or.inl ⟨by rfl, ?_⟩) ?_ ?_
                        rotate_left
                        · intro w'
                          go_simp
                          with_reducible rfl
                        rotate_left
                        · simp only [Act.put, List.setIfInBounds_toArray, List.set_cons_zero, List.set_cons_succ, i64_w, i32_w]
                          rfl
                        refine pure_ (i := 20) (N := some 153) (v := undef) (a' := ?_) #[true, true, true, true, true, true, true, true, true, true, true, true, true, true, true, true, true, true, true, true, true, false, false, false, false, false, false, false, false] rfl rfl (by kernel_rfl) (fun _ _ _ h => h) (Or.inr ⟨by rfl, rfl⟩) ?_ ?_
                        rotate_left
                        · simp only [Act.put, List.setIfInBounds_toArray, List.set_cons_zero, List.set_cons_succ, i64_w, i32_w]
                          rfl
                        refine pure_ (i := 21) (N := some 154) (v := undef) (a' := ?_) #[true, true, true, true, true, true, true, true, true, true, true, true, true, true, true, true, true, true, true, true, true, true, false, false, false, false, false, false, false] rfl rfl (by kernel_rfl) (fun _ _ _ h => h) (Or.inr ⟨by rfl, rfl⟩) ?_ ?_
                        rotate_left
                        · simp only [Act.put, List.setIfInBounds_toArray, List.set_cons_zero, List.set_cons_succ, i64_w, i32_w]
                          rfl
                        refine pure_ (i := 22) (N := some 155) (v := undef) (a' := ?_) #[true, true, true, true, true, true, true, true, true, true, true, true, true, true, true, true, true, true, true, true, true, true, true, false, false, false, false, false, false] rfl rfl (by kernel_rfl) (fun _ _ _ h => h) (Or.inr ⟨by rfl, rfl⟩) ?_ ?_
                        rotate_left
                        · simp only [Act.put, List.setIfInBounds_toArray, List.set_cons_zero, List.set_cons_succ, i64_w, i32_w]
                          rfl
                        refine pure_ (i := 23) (N := some 156) (v := undef) (a' := ?_) #[true, true, true, true, true, true, true, true, true, true, true, true, true, true, true, true, true, true, true, true, true, true, true, true, false, false, false, false, false] rfl rfl (by kernel_rfl) (fun _ _ _ h => h) (Or.inr ⟨by rfl, rfl⟩) ?_ ?_
                        rotate_left
                        · simp only [Act.put, List.setIfInBounds_toArray, List.set_cons_zero, List.set_cons_succ, i64_w, i32_w]
                          rfl
                        refine pure_ (i := 24) (N := some 157) (v := undef) (a' := ?_) #[true, true, true, true, true, true, true, true, true, true, true, true, true, true, true, true, true, true, true, true, true, true, true, true, true, false, false, false, false] rfl rfl (by kernel_rfl) (fun _ _ _ h => h) (Or.inr ⟨by rfl, rfl⟩) ?_ ?_
                        rotate_left
                        · simp only [Act.put, List.setIfInBounds_toArray, List.set_cons_zero, List.set_cons_succ, i64_w, i32_w]
                          rfl
                        refine pure_ (i := 25) (N := some 158) (v := undef) (a' := ?_) #[true, true, true, true, true, true, true, true, true, true, true, true, true, true, true, true, true, true, true, true, true, true, true, true, true, true, false, false, false] rfl rfl (by kernel_rfl) (fun _ _ _ h => h) (Or.inr ⟨by rfl, rfl⟩) ?_ ?_
                        rotate_left
                        · simp only [Act.put, List.setIfInBounds_toArray, List.set_cons_zero, List.set_cons_succ, i64_w, i32_w]
                          rfl
                        refine pure_ (i := 26) (N := some 159) (v := undef) (a' := ?_) #[true, true, true, true, true, true, true, true, true, true, true, true, true, true, true, true, true, true, true, true, true, true, true, true, true, true, true, false, false] rfl rfl (by kernel_rfl) (fun _ _ _ h => h) (Or.inr ⟨by rfl, rfl⟩) ?_ ?_
                        rotate_left
                        · simp only [Act.put, List.setIfInBounds_toArray, List.set_cons_zero, List.set_cons_succ, i64_w, i32_w]
                          rfl
                        refine pure_ (i := 27) (N := some 160) (v := ?_) (a' := ?_) #[true, true, true, true, true, true, true, true, true, true, true, true, true, true, true, true, true, true, true, true, true, true, true, true, true, true, true, true, false] rfl rfl (by kernel_rfl) (fun _ _ _ h => h) (Or.inl ⟨by rfl, ?_⟩) ?_ ?_
                        rotate_left
                        · intro w'
                          go_simp
                          with_reducible rfl
                        rotate_left
                        · simp only [Act.put, List.setIfInBounds_toArray, List.set_cons_zero, List.set_cons_succ, i64_w, i32_w]
                          rfl
                        refine pure_ (i := 28) (N := some 161) (v := ?_) (a' := ?_) #[true, true, true, true, true, true, true, true, true, true, true, true, true, true, true, true, true, true, true, true, true, true, true, true, true, true, true, true, true] rfl rfl (by kernel_rfl) (fun _ _ _ h => h) (Or.inl ⟨by rfl, ?_⟩) ?_ ?_
                        rotate_left
                        · intro w'
                          go_simp
                          with_reducible rfl
                        rotate_left
                        · simp only [Act.put, List.setIfInBounds_toArray, List.set_cons_zero, List.set_cons_succ, i64_w, i32_w]
                          rfl
                        refine done_ (by kernel_rfl) ?_
                        go_wp2
                        go_roundg k2
                        case measure => have := HK2.out; omega
                        case rel => exact ⟨s1, e1, i + 1, (by first | rfl | (rw [HI.out])), HJ, H', ⟨by have := HK2.out; omega⟩, HI5, HB5⟩
                      · rw [if_neg hb] at H
                        obtain rfl := Option.some.inj H
                        clear H
                        have hbe : ((b1.extract 0 T.size).toList == T.toList) = false := by simpa using hb
                        have hbn : ((b1.extract 0 T.size).toList != T.toList) = true := by simpa using hb
                        have hbm : (!((b1.extract 0 T.size).toList == T.toList)) = true := by simpa using hb
                        clear hb
                        go_wp2_with fail
                        refine start_ (n := 29) (S := fun w' => w'.cell? ⟨wr.heap.size, 0, none⟩ = some (.string T) ∧ w'.cell? ⟨wr.heap.size, 1, none⟩ = some (.int .i64 f1) ∧ w'.cell? ⟨wr.heap.size, 2, none⟩ = some (.int .i64 Z) ∧ w'.cell? ⟨wr.heap.size, 3, none⟩ = some (.bool true)) (ds := []) #[false, false, false, false, false, false, false, false, false, false, false, false, false, false, false, false, false, false, false, false, false, false, false, false, false, false, false, false, false] (by kernel_rfl) rfl rfl ⟨(blk_cell HX4d.out 0).trans rfl, (blk_cell HX4d.out 1).trans rfl, (blk_cell HX4d.out 2).trans rfl, (blk_cell HX4d.out 3).trans rfl⟩ (fun hHeld => ?_)
                        refine pure_ (i := 0) (N := some 133) (v := ?_) (a' := ?_) #[true, false, false, false, false, false, false, false, false, false, false, false, false, false, false, false, false, false, false, false, false, false, false, false, false, false, false, false, false] rfl rfl (by kernel_rfl) (fun _ _ _ h => h) (Or.inl ⟨by rfl, ?_⟩) ?_ ?_
                        rotate_left
                        · intro w'
                          go_simp
                          with_reducible rfl
                        rotate_left
                        · simp only [Act.put, List.setIfInBounds_toArray, List.set_cons_zero, List.set_cons_succ, i64_w, i32_w]
                          rfl
                        refine take_ (i := 1) (N := some 134) (v := ?_) (a' := ?_) #[true, true, false, false, false, false, false, false, false, false, false, false, false, false, false, false, false, false, false, false, false, false, false, false, false, false, false, false, false] rfl rfl (by kernel_rfl) (fun _ _ _ h => h) (Or.inl ⟨by rfl, ?_⟩) hHeld ?_ ?_
                        rotate_left
                        · rintro w' ⟨s0, s1, s2, s3⟩
                          go_simp
                          with_reducible rfl
                        rotate_left
                        · simp only [Act.put, List.setIfInBounds_toArray, List.set_cons_zero, List.set_cons_succ, i64_w, i32_w]
                          rfl
                        refine pure_ (i := 2) (N := some 135) (v := ?_) (a' := ?_) #[true, true, true, false, false, false, false, false, false, false, false, false, false, false, false, false, false, false, false, false, false, false, false, false, false, false, false, false, false] rfl rfl (by kernel_rfl) (fun _ _ _ h => h) (Or.inl ⟨by rfl, ?_⟩) ?_ ?_
                        rotate_left
                        · intro w'
                          go_simp
                          with_reducible rfl
                        rotate_left
                        · simp only [Act.put, List.setIfInBounds_toArray, List.set_cons_zero, List.set_cons_succ, i64_w, i32_w]
                          rfl
                        refine pure_ (i := 3) (N := some 136) (v := ?_) (a' := ?_) #[true, true, true, true, false, false, false, false, false, false, false, false, false, false, false, false, false, false, false, false, false, false, false, false, false, false, false, false, false] rfl rfl (by kernel_rfl) (fun _ _ _ h => h) (Or.inl ⟨by rfl, ?_⟩) ?_ ?_
                        rotate_left
                        · intro w'
                          go_simp
                          with_reducible rfl
                        rotate_left
                        · simp only [Act.put, List.setIfInBounds_toArray, List.set_cons_zero, List.set_cons_succ, i64_w, i32_w]
                          rfl
                        refine pure_ (i := 4) (N := some 137) (v := ?_) (a' := ?_) #[true, true, true, true, true, false, false, false, false, false, false, false, false, false, false, false, false, false, false, false, false, false, false, false, false, false, false, false, false] rfl rfl (by kernel_rfl) (fun _ _ _ h => h) (Or.inl ⟨by rfl, ?_⟩) ?_ ?_
                        rotate_left
                        · intro w'
                          go_simp
                          with_reducible rfl
                        rotate_left
                        · simp only [Act.put, List.setIfInBounds_toArray, List.set_cons_zero, List.set_cons_succ, i64_w, i32_w]
                          rfl
                        refine pure_ (i := 7) (N := some 140) (v := ?_) (a' := ?_) #[true, true, true, true, true, false, false, true, false, false, false, false, false, false, false, false, false, false, false, false, false, false, false, false, false, false, false, false, false] rfl rfl (by kernel_rfl) (fun _ _ _ h => h) (Or.inl ⟨by rfl, ?_⟩) ?_ ?_
                        rotate_left
                        · intro w'
                          go_simp
                          with_reducible rfl
                        rotate_left
                        · simp only [Act.put, List.setIfInBounds_toArray, List.set_cons_zero, List.set_cons_succ, i64_w, i32_w]
                          rfl
                        refine pure_ (i := 11) (N := some 144) (v := ?_) (a' := ?_) #[true, true, true, true, true, false, false, true, false, false, false, true, false, false, false, false, false, false, false, false, false, false, false, false, false, false, false, false, false] rfl rfl (by kernel_rfl) (fun _ _ _ h => h) (Or.inl ⟨by rfl, ?_⟩) ?_ ?_
                        rotate_left
                        · intro w'
                          go_simp
                          with_reducible rfl
                        rotate_left
                        · simp only [Act.put, List.setIfInBounds_toArray, List.set_cons_zero, List.set_cons_succ, i64_w, i32_w]
                          rfl
                        refine take_ (i := 5) (N := some 138) (v := ?_) (a' := ?_) #[true, true, true, true, true, true, false, true, false, false, false, true, false, false, false, false, false, false, false, false, false, false, false, false, false, false, false, false, false] rfl rfl (by kernel_rfl) (fun _ _ _ h => h) (Or.inl ⟨by rfl, ?_⟩) hHeld ?_ ?_
                        rotate_left
                        · rintro w' ⟨s0, s1, s2, s3⟩
                          go_simp
                          with_reducible rfl
                        rotate_left
                        · simp only [Act.put, List.setIfInBounds_toArray, List.set_cons_zero, List.set_cons_succ, i64_w, i32_w]
                          rfl
                        refine take_ (i := 8) (N := some 141) (v := ?_) (a' := ?_) #[true, true, true, true, true, true, false, true, true, false, false, true, false, false, false, false, false, false, false, false, false, false, false, false, false, false, false, false, false] rfl rfl (by kernel_rfl) (fun _ _ _ h => h) (Or.inl ⟨by rfl, ?_⟩) hHeld ?_ ?_
                        rotate_left
                        · rintro w' ⟨s0, s1, s2, s3⟩
                          go_simp
                          with_reducible rfl
                        rotate_left
                        · simp only [Act.put, List.setIfInBounds_toArray, List.set_cons_zero, List.set_cons_succ, i64_w, i32_w]
                          rfl
                        refine pure_ (i := 9) (N := some 142) (v := ?_) (a' := ?_) #[true, true, true, true, true, true, false, true, true, true, false, true, false, false, false, false, false, false, false, false, false, false, false, false, false, false, false, false, false] rfl rfl (by kernel_rfl) (fun _ _ _ h => h) (Or.inl ⟨by rfl, ?_⟩) ?_ ?_
                        rotate_left
                        · intro w'
                          go_simp
                          with_reducible rfl
                        rotate_left
                        · simp only [Act.put, List.setIfInBounds_toArray, List.set_cons_zero, List.set_cons_succ, i64_w, i32_w]
                          rfl
                        refine take_ (i := 12) (N := some 145) (v := ?_) (a' := ?_) #[true, true, true, true, true, true, false, true, true, true, false, true, true, false, false, false, false, false, false, false, false, false, false, false, false, false, false, false, false] rfl rfl (by kernel_rfl) (fun _ _ _ h => h) (Or.inl ⟨by rfl, ?_⟩) hHeld ?_ ?_
                        rotate_left
                        · rintro w' ⟨s0, s1, s2, s3⟩
                          go_simp
                          with_reducible rfl
                        rotate_left
                        · simp only [Act.put, List.setIfInBounds_toArray, List.set_cons_zero, List.set_cons_succ, i64_w, i32_w]
                          rfl
                        refine one_ (i := 6) (N := some 139) #[true, true, true, true, true, true, true, true, true, true, false, true, true, false, false, false, false, false, false, false, false, false, false, false, false, false, false, false, false] rfl rfl (by kernel_rfl) (by decide) (fun K hK => ?_)
                        refine goes_ Tryd.func27 (by kernel_rfl) rfl #[.pointer (some ⟨g1, 0, none⟩), .int .i64 Z] (by rfl) rfl rfl (by simp only [List.map_toArray, List.map_cons, List.map_nil]; rfl) ?_
                        with_reducible refine (le_In_Text.calls g1 s e Z b1 s1 e1 w _ HI4d.out HB4d.out A3.out).mono ?_
                        rintro e_ w5 ⟨rfl, hi5, hb5, hk5⟩
                        refine ⟨_, rfl, ?_⟩
                        have HI5 := Aside0.mk hi5
                        have HB5 := Aside0.mk hb5
                        have HX5 := Aside0.mk (KeepBut.blk hk5 HX4d.out HGX.out (by simp))
                        clear hi5 hb5 hk5
                        refine hK.out _ _ ⟨(blk_cell HX5.out 0).trans rfl, (blk_cell HX5.out 1).trans rfl, (blk_cell HX5.out 2).trans rfl, (blk_cell HX5.out 3).trans rfl⟩ (fun hHeld => ?_)
                        clear hK K
                        refine norm_ (a' := ?_) ?_ ?_
                        rotate_left
                        · show Act.put _ (some 139) _ = _
                          simp only [Act.put, List.setIfInBounds_toArray, List.set_cons_zero, List.set_cons_succ, i64_w, i32_w]
                          rfl
                        refine pure_ (i := 10) (N := some 143) (v := ?_) (a' := ?_) #[true, true, true, true, true, true, true, true, true, true, true, true, true, false, false, false, false, false, false, false, false, false, false, false, false, false, false, false, false] rfl rfl (by kernel_rfl) (fun _ _ _ h => h) (Or.inl ⟨by rfl, ?_⟩) ?_ ?_
                        rotate_left
                        · intro w'
                          go_simp
                          with_reducible rfl
                        rotate_left
                        · simp only [Act.put, List.setIfInBounds_toArray, List.set_cons_zero, List.set_cons_succ, i64_w, i32_w]
                          rfl
                        refine pure_ (i := 13) (N := some 146) (v := ?_) (a' := ?_) #[true, true, true, true, true, true, true, true, true, true, true, true, true, true, false, false, false, false, false, false, false, false, false, false, false, false, false, false, false] rfl rfl (by kernel_rfl) (fun _ _ _ h => h) (Or.inl ⟨by rfl, ?_⟩) ?_ ?_
                        rotate_left
                        · intro w'
                          go_simp
                          with_reducible rfl
                        rotate_left
                        · simp only [Act.put, List.setIfInBounds_toArray, List.set_cons_zero, List.set_cons_succ, i64_w, i32_w]
                          rfl
                        refine pure_ (i := 14) (N := some 147) (v := ?_) (a' := ?_) #[true, true, true, true, true, true, true, true, true, true, true, true, true, true, true, false, false, false, false, false, false, false, false, false, false, false, false, false, false] rfl rfl (by kernel_rfl) (fun _ _ _ h => h) (Or.inl ⟨by rfl, ?_⟩) ?_ ?_
                        rotate_left
                        · intro w'
                          go_simp
                          with_reducible rfl
                        rotate_left
                        · simp only [Act.put, List.setIfInBounds_toArray, List.set_cons_zero, List.set_cons_succ, i64_w, i32_w]
                          rfl
                        refine pure_ (i := 15) (N := some 148) (v := ?_) (a' := ?_) #[true, true, true, true, true, true, true, true, true, true, true, true, true, true, true, true, false, false, false, false, false, false, false, false, false, false, false, false, false] rfl rfl (by kernel_rfl) (fun _ _ _ h => h) (Or.inl ⟨by rfl, ?_⟩) ?_ ?_
                        rotate_left
                        · intro w'
                          go_simp
                          with_reducible rfl
                        rotate_left
                        · simp only [Act.put, List.setIfInBounds_toArray, List.set_cons_zero, List.set_cons_succ, i64_w, i32_w]
                          rfl
                        refine pure_ (i := 16) (N := some 149) (v := undef) (a' := ?_) #[true, true, true, true, true, true, true, true, true, true, true, true, true, true, true, true, true, false, false, false, false, false, false, false, false, false, false, false, false] rfl rfl (by kernel_rfl) (fun _ _ _ h => h) (Or.inr ⟨by rfl, rfl⟩) ?_ ?_
                        rotate_left
                        · simp only [Act.put, List.setIfInBounds_toArray, List.set_cons_zero, List.set_cons_succ, i64_w, i32_w]
                          rfl
                        refine pure_ (i := 17) (N := some 150) (v := undef) (a' := ?_) #[true, true, true, true, true, true, true, true, true, true, true, true, true, true, true, true, true, true, false, false, false, false, false, false, false, false, false, false, false] rfl rfl (by kernel_rfl) (fun _ _ _ h => h) (Or.inr ⟨by rfl, rfl⟩) ?_ ?_
                        rotate_left
                        · simp only [Act.put, List.setIfInBounds_toArray, List.set_cons_zero, List.set_cons_succ, i64_w, i32_w]
                          rfl
                        refine pure_ (i := 18) (N := some 151) (v := undef) (a' := ?_) #[true, true, true, true, true, true, true, true, true, true, true, true, true, true, true, true, true, true, true, false, false, false, false, false, false, false, false, false, false] rfl rfl (by kernel_rfl) (fun _ _ _ h => h) (Or.inr ⟨by rfl, rfl⟩) ?_ ?_
                        rotate_left
                        · simp only [Act.put, List.setIfInBounds_toArray, List.set_cons_zero, List.set_cons_succ, i64_w, i32_w]
                          rfl
                        refine pure_ (i := 19) (N := some 152) (v := undef) (a' := ?_) #[true, true, true, true, true, true, true, true, true, true, true, true, true, true, true, true, true, true, true, true, false, false, false, false, false, false, false, false, false] rfl rfl (by kernel_rfl) (fun _ _ _ h => h) (Or.inr ⟨by rfl, rfl⟩) ?_ ?_
                        rotate_left
                        · simp only [Act.put, List.setIfInBounds_toArray, List.set_cons_zero, List.set_cons_succ, i64_w, i32_w]
                          rfl
                        refine pure_ (i := 20) (N := some 153) (v := undef) (a' := ?_) #[true, true, true, true, true, true, true, true, true, true, true, true, true, true, true, true, true, true, true, true, true, false, false, false, false, false, false, false, false] rfl rfl (by kernel_rfl) (fun _ _ _ h => h) (Or.inr ⟨by rfl, rfl⟩) ?_ ?_
                        rotate_left
                        · simp only [Act.put, List.setIfInBounds_toArray, List.set_cons_zero, List.set_cons_succ, i64_w, i32_w]
                          rfl
                        refine pure_ (i := 21) (N := some 154) (v := undef) (a' := ?_) #[true, true, true, true, true, true, true, true, true, true, true, true, true, true, true, true, true, true, true, true, true, true, false, false, false, false, false, false, false] rfl rfl (by kernel_rfl) (fun _ _ _ h => h) (Or.inr ⟨by rfl, rfl⟩) ?_ ?_
                        rotate_left
                        · simp only [Act.put, List.setIfInBounds_toArray, List.set_cons_zero, List.set_cons_succ, i64_w, i32_w]
                          rfl
                        refine pure_ (i := 22) (N := some 155) (v := undef) (a' := ?_) #[true, true, true, true, true, true, true, true, true, true, true, true, true, true, true, true, true, true, true, true, true, true, true, false, false, false, false, false, false] rfl rfl (by kernel_rfl) (fun _ _ _ h => h) (Or.inr ⟨by rfl, rfl⟩) ?_ ?_
                        rotate_left
                        · simp only [Act.put, List.setIfInBounds_toArray, List.set_cons_zero, List.set_cons_succ, i64_w, i32_w]
                          rfl
                        refine pure_ (i := 23) (N := some 156) (v := undef) (a' := ?_) #[true, true, true, true, true, true, true, true, true, true, true, true, true, true, true, true, true, true, true, true, true, true, true, true, false, false, false, false, false] rfl rfl (by kernel_rfl) (fun _ _ _ h => h) (Or.inr ⟨by rfl, rfl⟩) ?_ ?_
                        rotate_left
                        · simp only [Act.put, List.setIfInBounds_toArray, List.set_cons_zero, List.set_cons_succ, i64_w, i32_w]
                          rfl
                        refine pure_ (i := 24) (N := some 157) (v := undef) (a' := ?_) #[true, true, true, true, true, true, true, true, true, true, true, true, true, true, true, true, true, true, true, true, true, true, true, true, true, false, false, false, false] rfl rfl (by kernel_rfl) (fun _ _ _ h => h) (Or.inr ⟨by rfl, rfl⟩) ?_ ?_
                        rotate_left
                        · simp only [Act.put, List.setIfInBounds_toArray, List.set_cons_zero, List.set_cons_succ, i64_w, i32_w]
                          rfl
                        refine pure_ (i := 25) (N := some 158) (v := undef) (a' := ?_) #[true, true, true, true, true, true, true, true, true, true, true, true, true, true, true, true, true, true, true, true, true, true, true, true, true, true, false, false, false] rfl rfl (by kernel_rfl) (fun _ _ _ h => h) (Or.inr ⟨by rfl, rfl⟩) ?_ ?_
                        rotate_left
                        · simp only [Act.put, List.setIfInBounds_toArray, List.set_cons_zero, List.set_cons_succ, i64_w, i32_w]
                          rfl
                        refine pure_ (i := 26) (N := some 159) (v := undef) (a' := ?_) #[true, true, true, true, true, true, true, true, true, true, true, true, true, true, true, true, true, true, true, true, true, true, true, true, true, true, true, false, false] rfl rfl (by kernel_rfl) (fun _ _ _ h => h) (Or.inr ⟨by rfl, rfl⟩) ?_ ?_
                        rotate_left
                        · simp only [Act.put, List.setIfInBounds_toArray, List.set_cons_zero, List.set_cons_succ, i64_w, i32_w]
                          rfl
                        refine pure_ (i := 27) (N := some 160) (v := undef) (a' := ?_) #[true, true, true, true, true, true, true, true, true, true, true, true, true, true, true, true, true, true, true, true, true, true, true, true, true, true, true, true, false] rfl rfl (by kernel_rfl) (fun _ _ _ h => h) (Or.inr ⟨by rfl, rfl⟩) ?_ ?_
                        rotate_left
                        · simp only [Act.put, List.setIfInBounds_toArray, List.set_cons_zero, List.set_cons_succ, i64_w, i32_w]
                          rfl
                        refine pure_ (i := 28) (N := some 161) (v := ?_) (a' := ?_) #[true, true, true, true, true, true, true, true, true, true, true, true, true, true, true, true, true, true, true, true, true, true, true, true, true, true, true, true, true] rfl rfl (by kernel_rfl) (fun _ _ _ h => h) (Or.inl ⟨by rfl, ?_⟩) ?_ ?_
                        rotate_left
                        · intro w'
                          go_simp
                          with_reducible rfl
                        rotate_left
                        · simp only [Act.put, List.setIfInBounds_toArray, List.set_cons_zero, List.set_cons_succ, i64_w, i32_w]
                          rfl
                        refine done_ (by kernel_rfl) ?_
                        go_wp2
                        go_ret
                        exact ⟨by first | rfl | simp, HB5.out⟩
                    | false =>
                      simp only [Bool.false_eq_true, if_false] at H
                      obtain ⟨⟨b1, s1, e1⟩, A1_, H⟩ := Option.bind_eq_some_iff.mp H
                      have A3 := Aside0.mk A1_
                      clear A1_
                      by_cases hb : b1 = f1
                      · rw [if_pos hb] at H
                        have H' := Aside0.mk H
                        clear H
                        subst hb
                        go_wp2_with fail
                        refine start_ (n := 29) (S := fun w' => w'.cell? ⟨wr.heap.size, 0, none⟩ = some (.string T) ∧ w'.cell? ⟨wr.heap.size, 1, none⟩ = some (.int .i64 b1) ∧ w'.cell? ⟨wr.heap.size, 2, none⟩ = some (.int .i64 Z) ∧ w'.cell? ⟨wr.heap.size, 3, none⟩ = some (.bool false)) (ds := []) #[false, false, false, false, false, false, false, false, false, false, false, false, false, false, false, false, false, false, false, false, false, false, false, false, false, false, false, false, false] (by kernel_rfl) rfl rfl ⟨(blk_cell HX4d.out 0).trans rfl, (blk_cell HX4d.out 1).trans rfl, (blk_cell HX4d.out 2).trans rfl, (blk_cell HX4d.out 3).trans rfl⟩ (fun hHeld => ?_)
                        refine pure_ (i := 0) (N := some 133) (v := ?_) (a' := ?_) #[true, false, false, false, false, false, false, false, false, false, false, false, false, false, false, false, false, false, false, false, false, false, false, false, false, false, false, false, false] rfl rfl (by kernel_rfl) (fun _ _ _ h => h) (Or.inl ⟨by rfl, ?_⟩) ?_ ?_
                        rotate_left
                        · intro w'
                          go_simp
                          with_reducible rfl
                        rotate_left
                        · simp only [Act.put, List.setIfInBounds_toArray, List.set_cons_zero, List.set_cons_succ, i64_w, i32_w]
                          rfl
                        refine take_ (i := 1) (N := some 134) (v := ?_) (a' := ?_) #[true, true, false, false, false, false, false, false, false, false, false, false, false, false, false, false, false, false, false, false, false, false, false, false, false, false, false, false, false] rfl rfl (by kernel_rfl) (fun _ _ _ h => h) (Or.inl ⟨by rfl, ?_⟩) hHeld ?_ ?_
                        rotate_left
                        · rintro w' ⟨s0, s1, s2, s3⟩
                          go_simp
                          with_reducible rfl
                        rotate_left
                        · simp only [Act.put, List.setIfInBounds_toArray, List.set_cons_zero, List.set_cons_succ, i64_w, i32_w]
                          rfl
                        refine pure_ (i := 2) (N := some 135) (v := ?_) (a' := ?_) #[true, true, true, false, false, false, false, false, false, false, false, false, false, false, false, false, false, false, false, false, false, false, false, false, false, false, false, false, false] rfl rfl (by kernel_rfl) (fun _ _ _ h => h) (Or.inl ⟨by rfl, ?_⟩) ?_ ?_
                        rotate_left
                        · intro w'
                          go_simp
                          with_reducible rfl
                        rotate_left
                        · simp only [Act.put, List.setIfInBounds_toArray, List.set_cons_zero, List.set_cons_succ, i64_w, i32_w]
                          rfl
                        refine pure_ (i := 3) (N := some 136) (v := undef) (a' := ?_) #[true, true, true, true, false, false, false, false, false, false, false, false, false, false, false, false, false, false, false, false, false, false, false, false, false, false, false, false, false] rfl rfl (by kernel_rfl) (fun _ _ _ h => h) (Or.inr ⟨by rfl, rfl⟩) ?_ ?_
                        rotate_left
                        · simp only [Act.put, List.setIfInBounds_toArray, List.set_cons_zero, List.set_cons_succ, i64_w, i32_w]
                          rfl
                        refine pure_ (i := 4) (N := some 137) (v := undef) (a' := ?_) #[true, true, true, true, true, false, false, false, false, false, false, false, false, false, false, false, false, false, false, false, false, false, false, false, false, false, false, false, false] rfl rfl (by kernel_rfl) (fun _ _ _ h => h) (Or.inr ⟨by rfl, rfl⟩) ?_ ?_
                        rotate_left
                        · simp only [Act.put, List.setIfInBounds_toArray, List.set_cons_zero, List.set_cons_succ, i64_w, i32_w]
                          rfl
                        refine pure_ (i := 5) (N := some 138) (v := undef) (a' := ?_) #[true, true, true, true, true, true, false, false, false, false, false, false, false, false, false, false, false, false, false, false, false, false, false, false, false, false, false, false, false] rfl rfl (by kernel_rfl) (fun _ _ _ h => h) (Or.inr ⟨by rfl, rfl⟩) ?_ ?_
                        rotate_left
                        · simp only [Act.put, List.setIfInBounds_toArray, List.set_cons_zero, List.set_cons_succ, i64_w, i32_w]
                          rfl
                        refine pure_ (i := 6) (N := some 139) (v := undef) (a' := ?_) #[true, true, true, true, true, true, true, false, false, false, false, false, false, false, false, false, false, false, false, false, false, false, false, false, false, false, false, false, false] rfl rfl (by kernel_rfl) (fun _ _ _ h => h) (Or.inr ⟨by rfl, rfl⟩) ?_ ?_
                        rotate_left
                        · simp only [Act.put, List.setIfInBounds_toArray, List.set_cons_zero, List.set_cons_succ, i64_w, i32_w]
                          rfl
                        refine pure_ (i := 7) (N := some 140) (v := undef) (a' := ?_) #[true, true, true, true, true, true, true, true, false, false, false, false, false, false, false, false, false, false, false, false, false, false, false, false, false, false, false, false, false] rfl rfl (by kernel_rfl) (fun _ _ _ h => h) (Or.inr ⟨by rfl, rfl⟩) ?_ ?_
                        rotate_left
                        · simp only [Act.put, List.setIfInBounds_toArray, List.set_cons_zero, List.set_cons_succ, i64_w, i32_w]
                          rfl
                        refine pure_ (i := 8) (N := some 141) (v := undef) (a' := ?_) #[true, true, true, true, true, true, true, true, true, false, false, false, false, false, false, false, false, false, false, false, false, false, false, false, false, false, false, false, false] rfl rfl (by kernel_rfl) (fun _ _ _ h => h) (Or.inr ⟨by rfl, rfl⟩) ?_ ?_
                        rotate_left
                        · simp only [Act.put, List.setIfInBounds_toArray, List.set_cons_zero, List.set_cons_succ, i64_w, i32_w]
                          rfl
                        refine pure_ (i := 9) (N := some 142) (v := undef) (a' := ?_) #[true, true, true, true, true, true, true, true, true, true, false, false, false, false, false, false, false, false, false, false, false, false, false, false, false, false, false, false, false] rfl rfl (by kernel_rfl) (fun _ _ _ h => h) (Or.inr ⟨by rfl, rfl⟩) ?_ ?_
                        rotate_left
                        · simp only [Act.put, List.setIfInBounds_toArray, List.set_cons_zero, List.set_cons_succ, i64_w, i32_w]
                          rfl
                        refine pure_ (i := 10) (N := some 143) (v := undef) (a' := ?_) #[true, true, true, true, true, true, true, true, true, true, true, false, false, false, false, false, false, false, false, false, false, false, false, false, false, false, false, false, false] rfl rfl (by kernel_rfl) (fun _ _ _ h => h) (Or.inr ⟨by rfl, rfl⟩) ?_ ?_
                        rotate_left
                        · simp only [Act.put, List.setIfInBounds_toArray, List.set_cons_zero, List.set_cons_succ, i64_w, i32_w]
                          rfl
                        refine pure_ (i := 11) (N := some 144) (v := undef) (a' := ?_) #[true, true, true, true, true, true, true, true, true, true, true, true, false, false, false, false, false, false, false, false, false, false, false, false, false, false, false, false, false] rfl rfl (by kernel_rfl) (fun _ _ _ h => h) (Or.inr ⟨by rfl, rfl⟩) ?_ ?_
                        rotate_left
                        · simp only [Act.put, List.setIfInBounds_toArray, List.set_cons_zero, List.set_cons_succ, i64_w, i32_w]
                          rfl
                        refine pure_ (i := 12) (N := some 145) (v := undef) (a' := ?_) #[true, true, true, true, true, true, true, true, true, true, true, true, true, false, false, false, false, false, false, false, false, false, false, false, false, false, false, false, false] rfl rfl (by kernel_rfl) (fun _ _ _ h => h) (Or.inr ⟨by rfl, rfl⟩) ?_ ?_
                        rotate_left
                        · simp only [Act.put, List.setIfInBounds_toArray, List.set_cons_zero, List.set_cons_succ, i64_w, i32_w]
                          rfl
                        refine pure_ (i := 13) (N := some 146) (v := undef) (a' := ?_) #[true, true, true, true, true, true, true, true, true, true, true, true, true, true, false, false, false, false, false, false, false, false, false, false, false, false, false, false, false] rfl rfl (by kernel_rfl) (fun _ _ _ h => h) (Or.inr ⟨by rfl, rfl⟩) ?_ ?_
                        rotate_left
                        · simp only [Act.put, List.setIfInBounds_toArray, List.set_cons_zero, List.set_cons_succ, i64_w, i32_w]
                          rfl
                        refine pure_ (i := 14) (N := some 147) (v := ?_) (a' := ?_) #[true, true, true, true, true, true, true, true, true, true, true, true, true, true, true, false, false, false, false, false, false, false, false, false, false, false, false, false, false] rfl rfl (by kernel_rfl) (fun _ _ _ h => h) (Or.inl ⟨by rfl, ?_⟩) ?_ ?_
                        rotate_left
                        · intro w'
                          go_simp
                          with_reducible rfl
                        rotate_left
                        · simp only [Act.put, List.setIfInBounds_toArray, List.set_cons_zero, List.set_cons_succ, i64_w, i32_w]
                          rfl
                        refine pure_ (i := 15) (N := some 148) (v := ?_) (a' := ?_) #[true, true, true, true, true, true, true, true, true, true, true, true, true, true, true, true, false, false, false, false, false, false, false, false, false, false, false, false, false] rfl rfl (by kernel_rfl) (fun _ _ _ h => h) (Or.inl ⟨by rfl, ?_⟩) ?_ ?_
                        rotate_left
                        · intro w'
                          go_simp
                          with_reducible rfl
                        rotate_left
                        · simp only [Act.put, List.setIfInBounds_toArray, List.set_cons_zero, List.set_cons_succ, i64_w, i32_w]
                          rfl
                        refine pure_ (i := 16) (N := some 149) (v := ?_) (a' := ?_) #[true, true, true, true, true, true, true, true, true, true, true, true, true, true, true, true, true, false, false, false, false, false, false, false, false, false, false, false, false] rfl rfl (by kernel_rfl) (fun _ _ _ h => h) (Or.inl ⟨by rfl, ?_⟩) ?_ ?_
                        rotate_left
                        · intro w'
                          go_simp
                          with_reducible rfl
                        rotate_left
                        · simp only [Act.put, List.setIfInBounds_toArray, List.set_cons_zero, List.set_cons_succ, i64_w, i32_w]
                          rfl
                        refine take_ (i := 17) (N := some 150) (v := ?_) (a' := ?_) #[true, true, true, true, true, true, true, true, true, true, true, true, true, true, true, true, true, true, false, false, false, false, false, false, false, false, false, false, false] rfl rfl (by kernel_rfl) (fun _ _ _ h => h) (Or.inl ⟨by rfl, ?_⟩) hHeld ?_ ?_
                        rotate_left
                        · rintro w' ⟨s0, s1, s2, s3⟩
                          go_simp
                          with_reducible rfl
                        rotate_left
                        · simp only [Act.put, List.setIfInBounds_toArray, List.set_cons_zero, List.set_cons_succ, i64_w, i32_w]
                          rfl
                        refine pure_ (i := 18) (N := some 151) (v := ?_) (a' := ?_) #[true, true, true, true, true, true, true, true, true, true, true, true, true, true, true, true, true, true, true, false, false, false, false, false, false, false, false, false, false] rfl rfl (by kernel_rfl) (fun _ _ _ h => h) (Or.inl ⟨by rfl, ?_⟩) ?_ ?_
                        rotate_left
                        · intro w'
                          go_simp
                          with_reducible rfl
                        rotate_left
                        · simp only [Act.put, List.setIfInBounds_toArray, List.set_cons_zero, List.set_cons_succ, i64_w, i32_w]
                          rfl
                        refine pure_ (i := 19) (N := some 152) (v := ?_) (a' := ?_) #[true, true, true, true, true, true, true, true, true, true, true, true, true, true, true, true, true, true, true, true, false, false, false, false, false, false, false, false, false] rfl rfl (by kernel_rfl) (fun _ _ _ h => h) (Or.inl ⟨by rfl, ?_⟩) ?_ ?_
                        rotate_left
                        · intro w'
                          go_simp
                          with_reducible rfl
                        rotate_left
                        · simp only [Act.put, List.setIfInBounds_toArray, List.set_cons_zero, List.set_cons_succ, i64_w, i32_w]
                          rfl
                        refine pure_ (i := 20) (N := some 153) (v := ?_) (a' := ?_) #[true, true, true, true, true, true, true, true, true, true, true, true, true, true, true, true, true, true, true, true, true, false, false, false, false, false, false, false, false] rfl rfl (by kernel_rfl) (fun _ _ _ h => h) (Or.inl ⟨by rfl, ?_⟩) ?_ ?_
                        rotate_left
                        · intro w'
                          go_simp
                          with_reducible rfl
                        rotate_left
                        · simp only [Act.put, List.setIfInBounds_toArray, List.set_cons_zero, List.set_cons_succ, i64_w, i32_w]
                          rfl
                        refine pure_ (i := 21) (N := some 154) (v := ?_) (a' := ?_) #[true, true, true, true, true, true, true, true, true, true, true, true, true, true, true, true, true, true, true, true, true, true, false, false, false, false, false, false, false] rfl rfl (by kernel_rfl) (fun _ _ _ h => h) (Or.inl ⟨by rfl, ?_⟩) ?_ ?_
                        rotate_left
                        · intro w'
                          go_simp
                          with_reducible rfl
                        rotate_left
                        · simp only [Act.put, List.setIfInBounds_toArray, List.set_cons_zero, List.set_cons_succ, i64_w, i32_w]
                          rfl
                        refine pure_ (i := 24) (N := some 157) (v := ?_) (a' := ?_) #[true, true, true, true, true, true, true, true, true, true, true, true, true, true, true, true, true, true, true, true, true, true, false, false, true, false, false, false, false] rfl rfl (by kernel_rfl) (fun _ _ _ h => h) (Or.inl ⟨by rfl, ?_⟩) ?_ ?_
                        rotate_left
                        · intro w'
                          go_simp
                          with_reducible rfl
                        rotate_left
                        · simp only [Act.put, List.setIfInBounds_toArray, List.set_cons_zero, List.set_cons_succ, i64_w, i32_w]
                          rfl
                        refine take_ (i := 22) (N := some 155) (v := ?_) (a' := ?_) #[true, true, true, true, true, true, true, true, true, true, true, true, true, true, true, true, true, true, true, true, true, true, true, false, true, false, false, false, false] rfl rfl (by kernel_rfl) (fun _ _ _ h => h) (Or.inl ⟨by rfl, ?_⟩) hHeld ?_ ?_
                        rotate_left
                        · rintro w' ⟨s0, s1, s2, s3⟩
                          go_simp
                          with_reducible rfl
                        rotate_left
                        · simp only [Act.put, List.setIfInBounds_toArray, List.set_cons_zero, List.set_cons_succ, i64_w, i32_w]
                          rfl
                        refine take_ (i := 25) (N := some 158) (v := ?_) (a' := ?_) #[true, true, true, true, true, true, true, true, true, true, true, true, true, true, true, true, true, true, true, true, true, true, true, false, true, true, false, false, false] rfl rfl (by kernel_rfl) (fun _ _ _ h => h) (Or.inl ⟨by rfl, ?_⟩) hHeld ?_ ?_
                        rotate_left
                        · rintro w' ⟨s0, s1, s2, s3⟩
                          go_simp
                          with_reducible rfl
                        rotate_left
                        · simp only [Act.put, List.setIfInBounds_toArray, List.set_cons_zero, List.set_cons_succ, i64_w, i32_w]
                          rfl
                        refine one_ (i := 23) (N := some 156) #[true, true, true, true, true, true, true, true, true, true, true, true, true, true, true, true, true, true, true, true, true, true, true, true, true, true, false, false, false] rfl rfl (by kernel_rfl) (by decide) (fun K hK => ?_)
                        refine goes_ Tryd.func28 (by kernel_rfl) rfl #[.pointer (some ⟨g1, 0, none⟩), .int .i64 Z] (by rfl) rfl rfl (by simp only [List.map_toArray, List.map_cons, List.map_nil]; rfl) ?_
                        with_reducible refine (le_In_Num.calls k2 g1 s e Z b1 s1 e1 w _ HI4d.out HB4d.out A3.out).mono ?_
                        rintro e_ w5 ⟨rfl, hi5, hb5, hk5⟩
                        refine ⟨_, rfl, ?_⟩
                        have HI5 := Aside0.mk hi5
                        have HB5 := Aside0.mk hb5
                        have HX5 := Aside0.mk (KeepBut.blk hk5 HX4d.out HGX.out (by simp))
                        clear hi5 hb5 hk5
                        refine hK.out _ _ ⟨(blk_cell HX5.out 0).trans rfl, (blk_cell HX5.out 1).trans rfl, (blk_cell HX5.out 2).trans rfl, (blk_cell HX5.out 3).trans rfl⟩ (fun hHeld => ?_)
                        clear hK K
                        refine norm_ (a' := ?_) ?_ ?_
                        rotate_left
                        · show Act.put _ (some 156) _ = _
                          simp only [Act.put, List.setIfInBounds_toArray, List.set_cons_zero, List.set_cons_succ, i64_w, i32_w]
                          rfl
                        refine pure_ (i := 26) (N := some 159) (v := ?_) (a' := ?_) #[true, true, true, true, true, true, true, true, true, true, true, true, true, true, true, true, true, true, true, true, true, true, true, true, true, true, true, false, false] rfl rfl (by kernel_rfl) (fun _ _ _ h => h) (Or.inl ⟨by rfl, ?_⟩) ?_ ?_
                        rotate_left
                        · intro w'
                          go_simp
                          with_reducible rfl
                        rotate_left
                        · simp only [Act.put, List.setIfInBounds_toArray, List.set_cons_zero, List.set_cons_succ, i64_w, i32_w]
                          rfl
                        refine pure_ (i := 27) (N := some 160) (v := ?_) (a' := ?_) #[true, true, true, true, true, true, true, true, true, true, true, true, true, true, true, true, true, true, true, true, true, true, true, true, true, true, true, true, false] rfl rfl (by kernel_rfl) (fun _ _ _ h => h) (Or.inl ⟨by rfl, ?_⟩) ?_ ?_
                        rotate_left
                        · intro w'
                          go_simp
                          with_reducible rfl
                        rotate_left
                        · simp only [Act.put, List.setIfInBounds_toArray, List.set_cons_zero, List.set_cons_succ, i64_w, i32_w]
                          rfl
                        refine pure_ (i := 28) (N := some 161) (v := ?_) (a' := ?_) #[true, true, true, true, true, true, true, true, true, true, true, true, true, true, true, true, true, true, true, true, true, true, true, true, true, true, true, true, true] rfl rfl (by kernel_rfl) (fun _ _ _ h => h) (Or.inl ⟨by rfl, ?_⟩) ?_ ?_
                        rotate_left
                        · intro w'
                          go_simp
                          with_reducible rfl
                        rotate_left
                        · simp only [Act.put, List.setIfInBounds_toArray, List.set_cons_zero, List.set_cons_succ, i64_w, i32_w]
                          rfl
                        refine done_ (by kernel_rfl) ?_
                        go_wp2
                        go_roundg k2
                        case measure => have := HK2.out; omega
                        case rel => exact ⟨s1, e1, i + 1, (by first | rfl | (rw [HI.out])), HJ, H', ⟨by have := HK2.out; omega⟩, HI5, HB5⟩
                      · rw [if_neg hb] at H
                        obtain rfl := Option.some.inj H
                        clear H
                        have hbe : (b1 == f1) = false := beq_eq_false_iff_ne.2 hb
                        have hbn : (b1 != f1) = true := bne_iff_ne.2 hb
                        clear hb
                        go_wp2_with fail
                        refine start_ (n := 29) (S := fun w' => w'.cell? ⟨wr.heap.size, 0, none⟩ = some (.string T) ∧ w'.cell? ⟨wr.heap.size, 1, none⟩ = some (.int .i64 f1) ∧ w'.cell? ⟨wr.heap.size, 2, none⟩ = some (.int .i64 Z) ∧ w'.cell? ⟨wr.heap.size, 3, none⟩ = some (.bool false)) (ds := []) #[false, false, false, false, false, false, false, false, false, false, false, false, false, false, false, false, false, false, false, false, false, false, false, false, false, false, false, false, false] (by kernel_rfl) rfl rfl ⟨(blk_cell HX4d.out 0).trans rfl, (blk_cell HX4d.out 1).trans rfl, (blk_cell HX4d.out 2).trans rfl, (blk_cell HX4d.out 3).trans rfl⟩ (fun hHeld => ?_)
                        refine pure_ (i := 0) (N := some 133) (v := ?_) (a' := ?_) #[true, false, false, false, false, false, false, false, false, false, false, false, false, false, false, false, false, false, false, false, false, false, false, false, false, false, false, false, false] rfl rfl (by kernel_rfl) (fun _ _ _ h => h) (Or.inl ⟨by rfl, ?_⟩) ?_ ?_
                        rotate_left
                        · intro w'
                          go_simp
                          with_reducible rfl
                        rotate_left
                        · simp only [Act.put, List.setIfInBounds_toArray, List.set_cons_zero, List.set_cons_succ, i64_w, i32_w]
                          rfl
                        refine take_ (i := 1) (N := some 134) (v := ?_) (a' := ?_) #[true, true, false, false, false, false, false, false, false, false, false, false, false, false, false, false, false, false, false, false, false, false, false, false, false, false, false, false, false] rfl rfl (by kernel_rfl) (fun _ _ _ h => h) (Or.inl ⟨by rfl, ?_⟩) hHeld ?_ ?_
                        rotate_left
                        · rintro w' ⟨s0, s1, s2, s3⟩
                          go_simp
                          with_reducible rfl
                        rotate_left
                        · simp only [Act.put, List.setIfInBounds_toArray, List.set_cons_zero, List.set_cons_succ, i64_w, i32_w]
                          rfl
                        refine pure_ (i := 2) (N := some 135) (v := ?_) (a' := ?_) #[true, true, true, false, false, false, false, false, false, false, false, false, false, false, false, false, false, false, false, false, false, false, false, false, false, false, false, false, false] rfl rfl (by kernel_rfl) (fun _ _ _ h => h) (Or.inl ⟨by rfl, ?_⟩) ?_ ?_
                        rotate_left
                        · intro w'
                          go_simp
                          with_reducible rfl
                        rotate_left
                        · simp only [Act.put, List.setIfInBounds_toArray, List.set_cons_zero, List.set_cons_succ, i64_w, i32_w]
                          rfl
                        refine pure_ (i := 3) (N := some 136) (v := undef) (a' := ?_) #[true, true, true, true, false, false, false, false, false, false, false, false, false, false, false, false, false, false, false, false, false, false, false, false, false, false, false, false, false] rfl rfl (by kernel_rfl) (fun _ _ _ h => h) (Or.inr ⟨by rfl, rfl⟩) ?_ ?_
                        rotate_left
                        · simp only [Act.put, List.setIfInBounds_toArray, List.set_cons_zero, List.set_cons_succ, i64_w, i32_w]
                          rfl
                        refine pure_ (i := 4) (N := some 137) (v := undef) (a' := ?_) #[true, true, true, true, true, false, false, false, false, false, false, false, false, false, false, false, false, false, false, false, false, false, false, false, false, false, false, false, false] rfl rfl (by kernel_rfl) (fun _ _ _ h => h) (Or.inr ⟨by rfl, rfl⟩) ?_ ?_
                        rotate_left
                        · simp only [Act.put, List.setIfInBounds_toArray, List.set_cons_zero, List.set_cons_succ, i64_w, i32_w]
                          rfl
                        refine pure_ (i := 5) (N := some 138) (v := undef) (a' := ?_) #[true, true, true, true, true, true, false, false, false, false, false, false, false, false, false, false, false, false, false, false, false, false, false, false, false, false, false, false, false] rfl rfl (by kernel_rfl) (fun _ _ _ h => h) (Or.inr ⟨by rfl, rfl⟩) ?_ ?_
                        rotate_left
                        · simp only [Act.put, List.setIfInBounds_toArray, List.set_cons_zero, List.set_cons_succ, i64_w, i32_w]
                          rfl
                        refine pure_ (i := 6) (N := some 139) (v := undef) (a' := ?_) #[true, true, true, true, true, true, true, false, false, false, false, false, false, false, false, false, false, false, false, false, false, false, false, false, false, false, false, false, false] rfl rfl (by kernel_rfl) (fun _ _ _ h => h) (Or.inr ⟨by rfl, rfl⟩) ?_ ?_
                        rotate_left
                        · simp only [Act.put, List.setIfInBounds_toArray, List.set_cons_zero, List.set_cons_succ, i64_w, i32_w]
                          rfl
                        refine pure_ (i := 7) (N := some 140) (v := undef) (a' := ?_) #[true, true, true, true, true, true, true, true, false, false, false, false, false, false, false, false, false, false, false, false, false, false, false, false, false, false, false, false, false] rfl rfl (by kernel_rfl) (fun _ _ _ h => h) (Or.inr ⟨by rfl, rfl⟩) ?_ ?_
                        rotate_left
                        · simp only [Act.put, List.setIfInBounds_toArray, List.set_cons_zero, List.set_cons_succ, i64_w, i32_w]
                          rfl
                        refine pure_ (i := 8) (N := some 141) (v := undef) (a' := ?_) #[true, true, true, true, true, true, true, true, true, false, false, false, false, false, false, false, false, false, false, false, false, false, false, false, false, false, false, false, false] rfl rfl (by kernel_rfl) (fun _ _ _ h => h) (Or.inr ⟨by rfl, rfl⟩) ?_ ?_
                        rotate_left
                        · simp only [Act.put, List.setIfInBounds_toArray, List.set_cons_zero, List.set_cons_succ, i64_w, i32_w]
                          rfl
                        refine pure_ (i := 9) (N := some 142) (v := undef) (a' := ?_) #[true, true, true, true, true, true, true, true, true, true, false, false, false, false, false, false, false, false, false, false, false, false, false, false, false, false, false, false, false] rfl rfl (by kernel_rfl) (fun _ _ _ h => h) (Or.inr ⟨by rfl, rfl⟩) ?_ ?_
                        rotate_left
                        · simp only [Act.put, List.setIfInBounds_toArray, List.set_cons_zero, List.set_cons_succ, i64_w, i32_w]
                          rfl
                        refine pure_ (i := 10) (N := some 143) (v := undef) (a' := ?_) #[true, true, true, true, true, true, true, true, true, true, true, false, false, false, false, false, false, false, false, false, false, false, false, false, false, false, false, false, false] rfl rfl (by kernel_rfl) (fun _ _ _ h => h) (Or.inr ⟨by rfl, rfl⟩) ?_ ?_
                        rotate_left
                        · simp only [Act.put, List.setIfInBounds_toArray, List.set_cons_zero, List.set_cons_succ, i64_w, i32_w]
                          rfl
                        refine pure_ (i := 11) (N := some 144) (v := undef) (a' := ?_) #[true, true, true, true, true, true, true, true, true, true, true, true, false, false, false, false, false, false, false, false, false, false, false, false, false, false, false, false, false] rfl rfl (by kernel_rfl) (fun _ _ _ h => h) (Or.inr ⟨by rfl, rfl⟩) ?_ ?_
                        rotate_left
                        · simp only [Act.put, List.setIfInBounds_toArray, List.set_cons_zero, List.set_cons_succ, i64_w, i32_w]
                          rfl
                        refine pure_ (i := 12) (N := some 145) (v := undef) (a' := ?_) #[true, true, true, true, true, true, true, true, true, true, true, true, true, false, false, false, false, false, false, false, false, false, false, false, false, false, false, false, false] rfl rfl (by kernel_rfl) (fun _ _ _ h => h) (Or.inr ⟨by rfl, rfl⟩) ?_ ?_
                        rotate_left
                        · simp only [Act.put, List.setIfInBounds_toArray, List.set_cons_zero, List.set_cons_succ, i64_w, i32_w]
                          rfl
                        refine pure_ (i := 13) (N := some 146) (v := undef) (a' := ?_) #[true, true, true, true, true, true, true, true, true, true, true, true, true, true, false, false, false, false, false, false, false, false, false, false, false, false, false, false, false] rfl rfl (by kernel_rfl) (fun _ _ _ h => h) (Or.inr ⟨by rfl, rfl⟩) ?_ ?_
                        rotate_left
                        · simp only [Act.put, List.setIfInBounds_toArray, List.set_cons_zero, List.set_cons_succ, i64_w, i32_w]
                          rfl
                        refine pure_ (i := 14) (N := some 147) (v := ?_) (a' := ?_) #[true, true, true, true, true, true, true, true, true, true, true, true, true, true, true, false, false, false, false, false, false, false, false, false, false, false, false, false, false] rfl rfl (by kernel_rfl) (fun _ _ _ h => h) (Or.inl ⟨by rfl, ?_⟩) ?_ ?_
                        rotate_left
                        · intro w'
                          go_simp
                          with_reducible rfl
                        rotate_left
                        · simp only [Act.put, List.setIfInBounds_toArray, List.set_cons_zero, List.set_cons_succ, i64_w, i32_w]
                          rfl
                        refine pure_ (i := 15) (N := some 148) (v := ?_) (a' := ?_) #[true, true, true, true, true, true, true, true, true, true, true, true, true, true, true, true, false, false, false, false, false, false, false, false, false, false, false, false, false] rfl rfl (by kernel_rfl) (fun _ _ _ h => h) (Or.inl ⟨by rfl, ?_⟩) ?_ ?_
                        rotate_left
                        · intro w'
                          go_simp
                          with_reducible rfl
                        rotate_left
                        · simp only [Act.put, List.setIfInBounds_toArray, List.set_cons_zero, List.set_cons_succ, i64_w, i32_w]
                          rfl
                        refine pure_ (i := 16) (N := some 149) (v := ?_) (a' := ?_) #[true, true, true, true, true, true, true, true, true, true, true, true, true, true, true, true, true, false, false, false, false, false, false, false, false, false, false, false, false] rfl rfl (by kernel_rfl) (fun _ _ _ h => h) (Or.inl ⟨by rfl, ?_⟩) ?_ ?_
                        rotate_left
                        · intro w'
                          go_simp
                          with_reducible rfl
                        rotate_left
                        · simp only [Act.put, List.setIfInBounds_toArray, List.set_cons_zero, List.set_cons_succ, i64_w, i32_w]
                          rfl
                        refine take_ (i := 17) (N := some 150) (v := ?_) (a' := ?_) #[true, true, true, true, true, true, true, true, true, true, true, true, true, true, true, true, true, true, false, false, false, false, false, false, false, false, false, false, false] rfl rfl (by kernel_rfl) (fun _ _ _ h => h) (Or.inl ⟨by rfl, ?_⟩) hHeld ?_ ?_
                        rotate_left
                        · rintro w' ⟨s0, s1, s2, s3⟩
                          go_simp
                          with_reducible rfl
                        rotate_left
                        · simp only [Act.put, List.setIfInBounds_toArray, List.set_cons_zero, List.set_cons_succ, i64_w, i32_w]
                          rfl
                        refine pure_ (i := 18) (N := some 151) (v := ?_) (a' := ?_) #[true, true, true, true, true, true, true, true, true, true, true, true, true, true, true, true, true, true, true, false, false, false, false, false, false, false, false, false, false] rfl rfl (by kernel_rfl) (fun _ _ _ h => h) (Or.inl ⟨by rfl, ?_⟩) ?_ ?_
                        rotate_left
                        · intro w'
                          go_simp
                          with_reducible rfl
                        rotate_left
                        · simp only [Act.put, List.setIfInBounds_toArray, List.set_cons_zero, List.set_cons_succ, i64_w, i32_w]
                          rfl
                        refine pure_ (i := 19) (N := some 152) (v := ?_) (a' := ?_) #[true, true, true, true, true, true, true, true, true, true, true, true, true, true, true, true, true, true, true, true, false, false, false, false, false, false, false, false, false] rfl rfl (by kernel_rfl) (fun _ _ _ h => h) (Or.inl ⟨by rfl, ?_⟩) ?_ ?_
                        rotate_left
                        · intro w'
                          go_simp
                          with_reducible rfl
                        rotate_left
                        · simp only [Act.put, List.setIfInBounds_toArray, List.set_cons_zero, List.set_cons_succ, i64_w, i32_w]
                          rfl
                        refine pure_ (i := 20) (N := some 153) (v := ?_) (a' := ?_) #[true, true, true, true, true, true, true, true, true, true, true, true, true, true, true, true, true, true, true, true, true, false, false, false, false, false, false, false, false] rfl rfl (by kernel_rfl) (fun _ _ _ h => h) (Or.inl ⟨by rfl, ?_⟩) ?_ ?_
                        rotate_left
                        · intro w'
                          go_simp
                          with_reducible rfl
                        rotate_left
                        · simp only [Act.put, List.setIfInBounds_toArray, List.set_cons_zero, List.set_cons_succ, i64_w, i32_w]
                          rfl
                        refine pure_ (i := 21) (N := some 154) (v := ?_) (a' := ?_) #[true, true, true, true, true, true, true, true, true, true, true, true, true, true, true, true, true, true, true, true, true, true, false, false, false, false, false, false, false] rfl rfl (by kernel_rfl) (fun _ _ _ h => h) (Or.inl ⟨by rfl, ?_⟩) ?_ ?_
                        rotate_left
                        · intro w'
                          go_simp
                          with_reducible rfl
                        rotate_left
                        · simp only [Act.put, List.setIfInBounds_toArray, List.set_cons_zero, List.set_cons_succ, i64_w, i32_w]
                          rfl
                        refine pure_ (i := 24) (N := some 157) (v := ?_) (a' := ?_) #[true, true, true, true, true, true, true, true, true, true, true, true, true, true, true, true, true, true, true, true, true, true, false, false, true, false, false, false, false] rfl rfl (by kernel_rfl) (fun _ _ _ h => h) (Or.inl ⟨by rfl, ?_⟩) ?_ ?_
                        rotate_left
                        · intro w'
                          go_simp
                          with_reducible rfl
                        rotate_left
                        · simp only [Act.put, List.setIfInBounds_toArray, List.set_cons_zero, List.set_cons_succ, i64_w, i32_w]
                          rfl
                        refine take_ (i := 22) (N := some 155) (v := ?_) (a' := ?_) #[true, true, true, true, true, true, true, true, true, true, true, true, true, true, true, true, true, true, true, true, true, true, true, false, true, false, false, false, false] rfl rfl (by kernel_rfl) (fun _ _ _ h => h) (Or.inl ⟨by rfl, ?_⟩) hHeld ?_ ?_
                        rotate_left
                        · rintro w' ⟨s0, s1, s2, s3⟩
                          go_simp
                          with_reducible rfl
                        rotate_left
                        · simp only [Act.put, List.setIfInBounds_toArray, List.set_cons_zero, List.set_cons_succ, i64_w, i32_w]
                          rfl
                        refine take_ (i := 25) (N := some 158) (v := ?_) (a' := ?_) #[true, true, true, true, true, true, true, true, true, true, true, true, true, true, true, true, true, true, true, true, true, true, true, false, true, true, false, false, false] rfl rfl (by kernel_rfl) (fun _ _ _ h => h) (Or.inl ⟨by rfl, ?_⟩) hHeld ?_ ?_
                        rotate_left
                        · rintro w' ⟨s0, s1, s2, s3⟩
                          go_simp
                          with_reducible rfl
                        rotate_left
                        · simp only [Act.put, List.setIfInBounds_toArray, List.set_cons_zero, List.set_cons_succ, i64_w, i32_w]
                          rfl
                        refine one_ (i := 23) (N := some 156) #[true, true, true, true, true, true, true, true, true, true, true, true, true, true, true, true, true, true, true, true, true, true, true, true, true, true, false, false, false] rfl rfl (by kernel_rfl) (by decide) (fun K hK => ?_)
                        refine goes_ Tryd.func28 (by kernel_rfl) rfl #[.pointer (some ⟨g1, 0, none⟩), .int .i64 Z] (by rfl) rfl rfl (by simp only [List.map_toArray, List.map_cons, List.map_nil]; rfl) ?_
                        with_reducible refine (le_In_Num.calls k2 g1 s e Z b1 s1 e1 w _ HI4d.out HB4d.out A3.out).mono ?_
                        rintro e_ w5 ⟨rfl, hi5, hb5, hk5⟩
                        refine ⟨_, rfl, ?_⟩
                        have HI5 := Aside0.mk hi5
                        have HB5 := Aside0.mk hb5
                        have HX5 := Aside0.mk (KeepBut.blk hk5 HX4d.out HGX.out (by simp))
                        clear hi5 hb5 hk5
                        refine hK.out _ _ ⟨(blk_cell HX5.out 0).trans rfl, (blk_cell HX5.out 1).trans rfl, (blk_cell HX5.out 2).trans rfl, (blk_cell HX5.out 3).trans rfl⟩ (fun hHeld => ?_)
                        clear hK K
                        refine norm_ (a' := ?_) ?_ ?_
                        rotate_left
                        · show Act.put _ (some 156) _ = _
                          simp only [Act.put, List.setIfInBounds_toArray, List.set_cons_zero, List.set_cons_succ, i64_w, i32_w]
                          rfl
                        refine pure_ (i := 26) (N := some 159) (v := ?_) (a' := ?_) #[true, true, true, true, true, true, true, true, true, true, true, true, true, true, true, true, true, true, true, true, true, true, true, true, true, true, true, false, false] rfl rfl (by kernel_rfl) (fun _ _ _ h => h) (Or.inl ⟨by rfl, ?_⟩) ?_ ?_
                        rotate_left
                        · intro w'
                          go_simp
                          with_reducible rfl
                        rotate_left
                        · simp only [Act.put, List.setIfInBounds_toArray, List.set_cons_zero, List.set_cons_succ, i64_w, i32_w]
                          rfl
                        refine pure_ (i := 27) (N := some 160) (v := ?_) (a' := ?_) #[true, true, true, true, true, true, true, true, true, true, true, true, true, true, true, true, true, true, true, true, true, true, true, true, true, true, true, true, false] rfl rfl (by kernel_rfl) (fun _ _ _ h => h) (Or.inl ⟨by rfl, ?_⟩) ?_ ?_
                        rotate_left
                        · intro w'
                          go_simp
                          with_reducible rfl
                        rotate_left
                        · simp only [Act.put, List.setIfInBounds_toArray, List.set_cons_zero, List.set_cons_succ, i64_w, i32_w]
                          rfl
                        refine pure_ (i := 28) (N := some 161) (v := ?_) (a' := ?_) #[true, true, true, true, true, true, true, true, true, true, true, true, true, true, true, true, true, true, true, true, true, true, true, true, true, true, true, true, true] rfl rfl (by kernel_rfl) (fun _ _ _ h => h) (Or.inl ⟨by rfl, ?_⟩) ?_ ?_
                        rotate_left
                        · intro w'
                          go_simp
                          with_reducible rfl
                        rotate_left
                        · simp only [Act.put, List.setIfInBounds_toArray, List.set_cons_zero, List.set_cons_succ, i64_w, i32_w]
                          rfl
                        refine done_ (by kernel_rfl) ?_
                        go_wp2
                        go_ret
                        exact ⟨by first | rfl | simp, HB5.out⟩
                  · rw [if_neg c] at H
                    obtain ⟨⟨b1, s1, e1⟩, A1_, H⟩ := Option.bind_eq_some_iff.mp H
                    have A3 := Aside0.mk A1_
                    clear A1_
                    obtain rfl := Option.some.inj H
                    clear H
                    have hin : decide (i < (l1.length : Int)) = false ∨ (decide (i < (l1.length : Int)) = true ∧ decide (i < 20) = false) := by
                      by_cases h4 : i < (l1.length : Int)
                      · exact .inr ⟨decide_eq_true h4, decide_eq_false (fun h => c ⟨h4, h⟩)⟩
                      · exact .inl (decide_eq_false h4)
                    clear c
                    cases b1
                    all_goals rcases hin with d3 | ⟨d3, d4⟩
                    all_goals
                      go_wp2_with (go_at_call 29; (with_reducible refine (le_In_End.calls g1 s e _ s1 e1 w _ HI1.out HB.out A3.out).mono ?_); rintro e_ w5 ⟨rfl, hi5, hb5, hk5⟩; have HB5 := Aside0.mk hb5; simp only [errW_none, errW_some]; clear hi5 hb5 hk5)
                      go_ret
                      exact ⟨by first | rfl | simp, HB5.out⟩


end Go.Proofs.YtdlmgjpnlgdpkaaDoor.VLeOuts
