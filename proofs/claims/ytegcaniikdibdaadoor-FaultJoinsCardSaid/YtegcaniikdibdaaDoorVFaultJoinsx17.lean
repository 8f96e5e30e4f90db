/- Contracts of functions of this seat: each call comes to what its Lean function computes; no condition beyond what each theorem states. Printed by a program of this session's own laid over the kit's printer. -/
import Derived.Test.YtegcaniikdibdaaDoorVFaultJoinsx0
import Derived.Test.YtegcaniikdibdaaDoorVFaultJoinsx1
import Derived.Test.YtegcaniikdibdaaDoorVFaultJoinsx3
import Derived.Test.YtegcaniikdibdaaDoorVFaultJoinsx4
import Derived.Test.YtegcaniikdibdaaDoorVFaultJoinsx7
import Derived.Test.YtegcaniikdibdaaDoorVFaultJoinsx10
import Derived.Test.YtegcaniikdibdaaDoorVFaultJoinsx12
import Derived.Test.YtegcaniikdibdaaDoorVFaultJoinsx14
import Derived.Test.YtegcaniikdibdaaDoorVFaultJoinsx15
import Derived.Test.YtegcaniikdibdaaDoorVFaultJoinsx16
namespace Go.Proofs.YtegcaniikdibdaaDoor.VFaultJoins
open Go.RowKit Go.Proofs.YtegcaniikdibdaaDoorW.PrintWords Go.Proofs.YtegcaniikdibdaaDoorW.PrintLast Go.Proofs.YtegcaniikdibdaaDoorW.PrintMore
attribute [local go_sem] max2_int min2_int max_two min_two max_three min_three max_four min_four   -- for this text's walks alone
set_option linter.unusedVariables false
set_option linter.unusedSimpArgs false

-- @GIVEN posthorselaw02_FaultJoins
/-! ### posthorselaw02_FaultJoins: by hand -/
/-- The number of one input. -/
def nJ (a : Int) : Int := (wrap64 (a.tmod 20 + 20)).tmod 20
theorem nJ_lim (a : Int) : 0 ≤ nJ a ∧ nJ a < 20 := by
  have h2 := Int.tmod_lt_of_pos a (show (0 : Int) < 20 by decide)
  have h3 := Int.lt_tmod_of_pos a (show (0 : Int) < 20 by decide)
  unfold nJ
  rw [show wrap64 (a.tmod 20 + 20) = a.tmod 20 + 20 by unfold wrap64; omega]
  exact ⟨Int.tmod_nonneg 20 (by omega), Int.tmod_lt_of_pos _ (by decide)⟩
def vJ (a : Int) : Value := if nJ a = 0 then .nilIface else eNum (nJ a)
def wsJ (x : List Int) : List Int := (x.map nJ).filter fun n => !(n == 0)
theorem vJ_kind (a : Int) : vJ a = .nilIface ∨ ∃ t x, vJ a = .iface t x := by
  unfold vJ
  split
  · exact .inl rfl
  · exact .inr ⟨_, _, rfl⟩
theorem there_vJ (x : List Int) : thereE (x.map vJ) = (wsJ x).map eNum := by
  induction x with
  | nil => rfl
  | cons a x ih =>
    have h1 : thereE ((a :: x).map vJ) = thereE [vJ a] ++ thereE (x.map vJ) := by unfold thereE; rw [List.map_cons, ← List.filter_append]; rfl
    have h2 : wsJ (a :: x) = wsJ [a] ++ wsJ x := by unfold wsJ; rw [← List.filter_append]; rfl
    rw [h1, h2, List.map_append, ih]
    congr 1
    by_cases h : nJ a = 0
    · simp [thereE, wsJ, vJ, h, isNil]
    · simp [thereE, wsJ, vJ, h, isNil, eNum]
theorem wsJ_snoc (x : List Int) (j : Nat) (h : j < x.length) : wsJ (x.take (j + 1)) = if nJ x[j] = 0 then wsJ (x.take j) else wsJ (x.take j) ++ [nJ x[j]] := by
  rw [List.take_add_one, List.getElem?_eq_getElem h]
  unfold wsJ
  rw [List.map_append, List.filter_append]
  by_cases h2 : nJ x[j] = 0
  · simp [h2]
  · simp [h2]
theorem wsJ_len (x : List Int) (j : Nat) : (wsJ (x.take j)).length ≤ j := by
  have h1 := List.length_filter_le (fun n : Int => !(n == 0)) ((x.take j).map nJ)
  have h2 := List.length_take_le j x
  unfold wsJ
  rw [List.length_map] at h1
  omega
theorem join_row {B : Nat} (sv : Value) (vs : List Value) (w : World) (h : w.ownsRow B 27 1 sv vs.length vs) (hv : ∀ u ∈ vs, u = .nilIface ∨ ∃ t x, u = .iface t x) (hn : vs.length ≤ 100) :
    Calls Tryd.prog 20 #[sv] w fun r w' => JoinPost w (thereE vs) r w' := by
  rcases Nat.eq_zero_or_pos vs.length with h0 | h0
  · rcases h.2 with ⟨rfl, _⟩ | ⟨g, c, cur, rfl, _⟩
    · obtain rfl := List.length_eq_zero_iff.1 h0
      exact (eJoin_none w).mono (by rintro r w' ⟨rfl, rfl⟩; exact ⟨Below.refl _ _, .inl ⟨rfl, rfl⟩⟩)
    · obtain rfl := List.length_eq_zero_iff.1 h0
      exact eJoin g c [] w (fun j u hu => by simp at hu) hv hn
  · obtain ⟨g, c, rfl, _, _, _, hc⟩ := row_open h h0
    exact eJoin g c vs w hc hv hn
theorem own_base0 {w : World} {B e s n : Nat} {v : Value} {xs : List Value} (h : w.ownsRow B e s v n xs) : w.ownsRow 0 e s v n xs := by
  refine ⟨h.1, ?_⟩
  rcases h.2 with h0 | ⟨g, c, cur, h0, _, h2⟩
  · exact .inl h0
  · exact .inr ⟨g, c, cur, h0, Nat.zero_le _, h2⟩
theorem row_cell {w : World} {B e n c g : Nat} {xs : List Value} (h : w.ownsRow B e 1 (.slice (some ⟨g, 0, none⟩) n c) n xs) (j : Nat) (u : Value) (hj : xs[j]? = some u) : w.cell? ⟨g, j, none⟩ = some u := by
  have := World.ownsRow.cells h (g := g) rfl j u hj
  rwa [add_plain] at this
theorem erv_row {w : World} {gm NW cm : Nat} {n0 n1 : Int} {rest : List Int} (h : w.ownsRow 0 27 1 (.slice (some ⟨gm, 0, none⟩) NW cm) NW ((n0 :: n1 :: rest).map eNum)) (hn : NW = (n0 :: n1 :: rest).length ∧ 2 ≤ NW ∧ NW ≤ 10) : ErV w (.iface 52 (.slice (some ⟨gm, 0, none⟩) NW cm)) (.many (.num n0) (n1 :: rest)) := by
  obtain ⟨h1, h2, h3⟩ := hn
  simp only [List.length_cons] at h1
  refine ⟨_, eNum n0, rfl, ?_, by simp only [List.length_cons]; omega, rfl⟩
  rw [show (n1 :: rest).length + 1 = NW from by simp only [List.length_cons]; omega]
  exact h
theorem number_many {gm NW cm : Nat} {n0 n1 : Int} {rest : List Int} (v : Value) (w : World) (hL : Laid w) (h : w.ownsRow 0 27 1 (.slice (some ⟨gm, 0, none⟩) NW cm) NW ((n0 :: n1 :: rest).map eNum)) (hn : NW = (n0 :: n1 :: rest).length ∧ 2 ≤ NW ∧ NW ≤ 10) :
    Calls Tryd.prog 19 #[.iface 52 (.slice (some ⟨gm, 0, none⟩) NW cm)] w fun r w' => r = .returned (.int .i64 n0) ∧ Below w.heap.size w w' :=
  eNumber (.many (.num n0) (n1 :: rest)) _ w hL (erv_row h hn)
theorem unwrap_many {gm NW cm : Nat} {n0 n1 : Int} {rest : List Int} (w : World) (h : w.ownsRow 0 27 1 (.slice (some ⟨gm, 0, none⟩) NW cm) NW ((n0 :: n1 :: rest).map eNum)) (hn : NW = (n0 :: n1 :: rest).length ∧ 2 ≤ NW ∧ NW ≤ 10) :
    Calls Tryd.prog 22 #[.slice (some ⟨gm, 0, none⟩) NW cm] w fun r w' => ∃ gb cb, r = .returned (.slice (some ⟨gb, 0, none⟩) NW cb) ∧ w'.ownsRow 0 27 1 (.slice (some ⟨gb, 0, none⟩) NW cb) NW ((n0 :: n1 :: rest).map eNum) ∧ Below w.heap.size w w' := by
  obtain ⟨h1, h2, h3⟩ := hn
  simp only [List.length_cons] at h1
  have h4 : (n1 :: rest).length + 1 = NW := by simp only [List.length_cons]; omega
  have h5 := eUnwraps (eNum n0) (.slice (some ⟨gm, 0, none⟩) NW cm) (n1 :: rest) w (by rw [h4]; exact h) (by simp only [List.length_cons]; omega) rfl
  rw [h4] at h5
  refine h5.mono ?_
  rintro r w' ⟨sv, rfl, ho, hb⟩
  obtain ⟨gb, cb, rfl, _⟩ := row_open ho (by omega)
  exact ⟨gb, cb, rfl, own_base0 ho, hb⟩
theorem is_manyJ {gm NW cm : Nat} {n0 n1 m : Int} {rest : List Int} (hm : m ∈ n0 :: n1 :: rest) (w : World) (h : w.ownsRow 0 27 1 (.slice (some ⟨gm, 0, none⟩) NW cm) NW ((n0 :: n1 :: rest).map eNum)) (hn : NW = (n0 :: n1 :: rest).length ∧ 2 ≤ NW ∧ NW ≤ 10) :
    Calls Tryd.prog 13 #[.iface 52 (.slice (some ⟨gm, 0, none⟩) NW cm), .iface 36 (.int .i64 m)] w fun r w' => r = .returned (.bool true) ∧ Below w.heap.size w w' := by
  have h1 : (Er.many (.num n0) (n1 :: rest)).hasNum m = true := by
    show ((n0 == m) || (n1 :: rest).any (· == m)) = true
    rcases List.mem_cons.1 hm with rfl | hm
    · simp
    · rw [List.any_eq_true.2 ⟨m, hm, by simp⟩, Bool.or_true]
  have h2 := eIsN m (.many (.num n0) (n1 :: rest)) _ w (erv_row h hn)
  rw [h1] at h2
  exact h2
theorem number_one (n : Int) (w : World) (hL : Laid w) : Calls Tryd.prog 19 #[.iface 36 (.int .i64 n)] w fun r w' => r = .returned (.int .i64 n) ∧ Below w.heap.size w w' := eNumber (.num n) _ w hL (ErV.mkN n w)
def fj.T19 : Bool × List (List Nat × List Nat) := (true, [([], []), ([0], [0]), ([1], [1]), ([2], [2]), ([2], [2]), ([3, 4, 2, 2], [2, 3, 4]), ([5, 2], [2, 5]), ([2, 6], [2, 6]), ([7, 5], [7]), ([8], [8]), ([9, 8, 8], [8, 9]), ([8], [8]), ([11, 8], [8, 11]), ([12, 8], [8, 12]), ([10, 13, 8], [8, 10, 13]), ([8, 14], [8, 14]), ([15, 10], [15]), ([16], [16]), ([17, 16, 16], [16, 17]), ([18, 16], [16, 18]), ([19, 16], [16, 19]), ([16, 20], [16, 20]), ([21, 18, 0, 1, 2, 3, 4, 5, 6, 7, 8, 9, 10, 11, 12, 13, 14, 15, 16, 17, 18, 19, 20, 21], [21])])
def fj.B19 : List Nat := [0, 1, 3, 7, 7, 31, 63, 127, 255, 511, 1023, 511, 2559, 6655, 16383, 32767, 65535, 131071, 262143, 524287, 1048575, 2097151, 4194303]
theorem fj.tab19 : rtab .any (opsOf Tryd.f5 19) = fj.T19 := by kernel_rfl
theorem fj.bits19 : waitsOk fj.T19.2 fj.B19 = true := by kernel_rfl
def fj.T21 : Bool × List (List Nat × List Nat) := (true, [([], []), ([], []), ([0, 1], [0, 1]), ([2], [2]), ([3, 2], [3]), ([4], [4]), ([5, 4], [4, 5]), ([4], [4]), ([7, 4], [4, 7]), ([6, 8, 4], [4, 6, 8]), ([4, 9], [4, 9]), ([10, 4], [10]), ([11], [11]), ([12, 11, 11], [11, 12]), ([11], [11]), ([14, 11], [11, 14]), ([15, 11], [11, 15]), ([13, 16, 11], [11, 13, 16]), ([11, 17], [11, 17])])
def fj.B21 : List Nat := [0, 0, 3, 7, 15, 31, 63, 31, 159, 511, 1023, 2047, 4095, 8191, 4095, 20479, 53247, 131071, 262143]
theorem fj.tab21 : rtab .any (opsOf Tryd.f5 21) = fj.T21 := by kernel_rfl
theorem fj.bits21 : waitsOk fj.T21.2 fj.B21 = true := by kernel_rfl
def fj.T27 : Bool × List (List Nat × List Nat) := (true, [([], []), ([], []), ([0, 1], [0, 1]), ([2], [2]), ([3], [3]), ([], []), ([], []), ([5, 6], [5, 6]), ([7], [7]), ([4, 8], [4, 8]), ([9, 4], [9]), ([10], [10]), ([10], [10]), ([11, 12, 10], [10, 11, 12]), ([13, 10], [10, 13]), ([14, 10, 10], [10, 14]), ([10], [10]), ([10], [10]), ([16, 17, 10], [10, 16, 17]), ([18, 10], [10, 18]), ([15, 19, 10], [10, 15, 19]), ([10, 20], [10, 20]), ([21, 15], [21]), ([22], [22]), ([22], [22]), ([22], [22]), ([24, 25, 22], [22, 24, 25]), ([26, 22], [22, 26]), ([27, 22], [22, 27]), ([23, 28, 22, 22], [22, 23, 28]), ([29, 22], [22, 29]), ([22, 30], [22, 30])])
def fj.B27 : List Nat := [0, 0, 3, 7, 15, 0, 0, 96, 224, 511, 1023, 2047, 2047, 8191, 16383, 32767, 2047, 2047, 198655, 460799, 1048575, 2097151, 4194303, 8388607, 8388607, 8388607, 58720255, 125829119, 260046847, 536870911, 1073741823, 2147483647]
theorem fj.tab27 : rtab .any (opsOf Tryd.f5 27) = fj.T27 := by kernel_rfl
theorem fj.bits27 : waitsOk fj.T27.2 fj.B27 = true := by kernel_rfl
def posthorselaw02_FaultJoins.f (l : List Int) : Option Bool := some true
theorem infoN : (Tryd.prog.info? 36).map (fun i => (i.zero, i.size, i.bytes)) = some (some (.int .i64 0), 1, 8) := by kernel_rfl
set_option maxHeartbeats 8000000 in
set_option maxRecDepth 100000 in
theorem posthorselaw02_FaultJoins.calls (A0 : Option Addr) (c0 : Nat) (x : List Int) (r : Bool) (w : World) (hL_ : Laid w) (hr0 : Kd.C (Kd.int .i64) w A0 x.length x) (hc0 : x.length ≤ c0) (h : posthorselaw02_FaultJoins.f x = some r) :
    Calls Tryd.prog 5 #[.slice A0 x.length c0] w fun e w' => e = .returned (.bool r) ∧ Below w.heap.size w w' := by
  have HL_ := Aside0.mk hL_
  clear hL_
  obtain rfl := Option.some.inj h
  have HR := Aside0.mk hr0
  have HSP := Aside0.mk (show posthorselaw02_speaks.f = some true from rfl)
  obtain ⟨i0, hi0, he⟩ := Option.map_eq_some_iff.1 infoE
  simp only [Prod.mk.injEq] at he
  obtain ⟨hz0, hzs, hzb⟩ := he
  have HI := Aside0.mk (And.intro hi0 (And.intro hz0 (And.intro hzs hzb)))
  obtain ⟨i1, hi1, he1⟩ := Option.map_eq_some_iff.1 infoN
  simp only [Prod.mk.injEq] at he1
  obtain ⟨hy0, hys, hyb⟩ := he1
  have HJ := Aside0.mk (And.intro hi1 (And.intro hy0 (And.intro hys hyb)))
  clear h hr0 hi0 hz0 hzs hzb hi1 hy0 hys hyb
  go_enter Tryd.func5, Tryd.ntmps5
  go_wp2_with (go_at_call 10; (with_reducible refine (posthorselaw02_speaks.calls true _ HL_.out HSP.out).mono ?_); rintro e w1 ⟨rfl, hb1⟩; have HB1 := Aside0.mk hb1; clear hb1)
  have HC1 := Aside0.mk (Kd.C_below HR.out HB1.out)
  clear HR HSP
  go_loopg [3, 4, 5] (x.length + 1) (fun kq v3 v4 v5 w' => ∃ (j : Nat) (sa sw : Value), v3 = sa ∧ v4 = sw ∧ v5 = .int .i64 (j : Int) ∧ Aside0 (kq = x.length + 1 - j ∧ j ≤ x.length ∧ j ≤ 10) ∧ Aside0 (w'.ownsRow w1.heap.size 27 1 sa j ((x.take j).map vJ)) ∧ Aside0 (w'.ownsRow w1.heap.size 36 1 sw (wsJ (x.take j)).length ((wsJ (x.take j)).map (Value.int .i64))) ∧ Aside0 (Below w1.heap.size w1 w'))
  case atStart => exact ⟨0, _, _, rfl, rfl, rfl, ⟨by omega, by omega, by omega⟩, ⟨own_nil _ _ _ _⟩, ⟨own_nil _ _ _ _⟩, ⟨Below.refl _ _⟩⟩
  case round =>
    obtain ⟨j, sa, sw, hs3, hs4, hs5, HK, HA, HW, HB⟩ := hrel
    subst hs3 hs4 hs5
    have hkj := HK.out
    by_cases hlt : j < x.length ∧ j < 10
    · obtain ⟨hlt, hl10⟩ := hlt
      have d1 : decide ((j : Int) < (x.length : Int)) = true := decide_eq_true (by omega)
      have d2 : decide ((j : Int) < 10) = true := decide_eq_true (by omega)
      have d3 : decide (j < x.length) = true := decide_eq_true hlt
      have d4 : decide (j < 10) = true := decide_eq_true hl10
      have p0 := eq_true (show (0 : Int) ≤ (j : Int) by omega)
      have p1 := eq_true (show (j : Int) < (x.length : Int) by omega)
      have p2 := eq_true hlt
      have HI1 := Aside0.mk (show wrap64 ((j : Int) + 1) = ((j + 1 : Nat) : Int) by unfold wrap64; omega)
      obtain ⟨ad, rfl, hx0⟩ := Kd.at_int (Kd.C_below HC1.out HB.out) (j : Int) (by omega) (by omega)
      rw [show ((j : Int)).toNat = j from rfl] at hx0
      have hrd : rd x (j : Int) = x[j] := by simp [rd, hlt]
      rw [hrd] at hx0
      have HS := Aside0.mk (wsJ_snoc x j hlt)
      have HL := Aside0.mk (wsJ_len x j)
      have hv : (x.take (j + 1)).map vJ = (x.take j).map vJ ++ [vJ x[j]] := by rw [List.take_add_one, List.getElem?_eq_getElem hlt, List.map_append]; rfl
      have HV := Aside0.mk hv
      clear hv hrd hkj
      generalize x[j] = a at hx0 HS HV
      have hn : (wrap64 (a.tmod 20 + 20)).tmod 20 = nJ a := rfl
      have hnl := nJ_lim a
      by_cases hz : nJ a = 0
      · have hn0 : (wrap64 (a.tmod 20 + 20)).tmod 20 = 0 := hz
        have hvz : vJ a = .nilIface := by unfold vJ; rw [if_pos hz]
        have hsz := HS.out
        rw [if_pos hz] at hsz
        have hba := below_alloc (Below.refl wr.heap.size wr) (.cells #[.nilIface] 27)
        obtain ⟨v, ww, hrun, hown, hgr, _⟩ := run_append_own (P := Tryd.prog) (wr.alloc (.cells #[.nilIface] 27)) w1.heap.size 49 49 27 i0 .nilIface 1 16 Tryd.underlying49 HI.out.1 HI.out.2.1 HI.out.2.2.1 HI.out.2.2.2 rfl (by decide) _ _ _ (pw_own_below HA.out hba) ⟨wr.heap.size, 0, none⟩ 1 1 [.nilIface] rfl (fun q u hq => by
          rw [add_plain]
          have h1 := blk_cell (blk_new wr (.cells #[.nilIface] 27)) q
          rw [h1]
          simpa using hq) (fun u hu => by rw [List.mem_singleton.1 hu]; rfl) (by have := HL.out; unfold maxLen; omega) (by have := HL.out; omega) (Nat.le_trans HB.out.size hba.size)
        have HR1 := Aside0.mk hrun
        have HO1 := Aside0.mk hown
        have HW1 := Aside0.mk (own_other (pw_own_below HW.out hba) hgr (own_type_ne (pw_own_below HW.out hba) (pw_own_below HA.out hba) (by decide)))
        have HB2 := Aside0.mk ((below_step HB.out hba).grown hgr (Nat.le_trans HB.out.size hba.size) (own_base (pw_own_below HA.out hba)))
        have HVZ := Aside0.mk hvz
        have HSZ := Aside0.mk hsz
        clear hrun hown hgr hba hvz hsz hn hnl hz
        go_wp2_with (at_builtin; refine Lib.wpList_append_run _ rfl _ _ _ _ rfl _ _ rfl rfl _ _ HR1.out ?_)
        go_roundg (x.length + 1 - (j + 1))
        case measure => have := HK.out; omega
        case rel => exact ⟨j + 1, _, _, rfl, rfl, by first | rfl | go_num, ⟨rfl, by have := HK.out; omega, by omega⟩, ⟨by rw [HV.out, HVZ.out]; exact HO1.out⟩, ⟨by rw [HSZ.out]; exact HW1.out⟩, HB2⟩
      · have hvz : vJ a = eNum (nJ a) := by unfold vJ; rw [if_neg hz]
        have hsz := HS.out
        rw [if_neg hz] at hsz
        have hn1 : (nJ a == 0) = false := beq_eq_false_iff_ne.2 hz
        have hn2 := eq_false hz
        have hba := below_alloc (Below.refl wr.heap.size wr) (.cells #[.iface 36 (.int .i64 (nJ a))] 27)
        obtain ⟨v, ww, hrun, hown, hgr, _⟩ := run_append_own (P := Tryd.prog) (wr.alloc (.cells #[.iface 36 (.int .i64 (nJ a))] 27)) w1.heap.size 49 49 27 i0 .nilIface 1 16 Tryd.underlying49 HI.out.1 HI.out.2.1 HI.out.2.2.1 HI.out.2.2.2 rfl (by decide) _ _ _ (pw_own_below HA.out hba) ⟨wr.heap.size, 0, none⟩ 1 1 [.iface 36 (.int .i64 (nJ a))] rfl (fun q u hq => by
          rw [add_plain]
          have h1 := blk_cell (blk_new wr (.cells #[.iface 36 (.int .i64 (nJ a))] 27)) q
          rw [h1]
          simpa using hq) (fun u hu => by rw [List.mem_singleton.1 hu]; rfl) (by have := HL.out; unfold maxLen; omega) (by have := HL.out; omega) (Nat.le_trans HB.out.size hba.size)
        have hw1 := own_other (pw_own_below HW.out hba) hgr (own_type_ne (pw_own_below HW.out hba) (pw_own_below HA.out hba) (by decide))
        have hb2 := (below_step HB.out hba).grown hgr (Nat.le_trans HB.out.size hba.size) (own_base (pw_own_below HA.out hba))
        have hbab := below_alloc (Below.refl ww.heap.size ww) (.cells #[.int .i64 (nJ a)] 36)
        obtain ⟨vb, wwb, hrunb, hownb, hgrb, _⟩ := run_append_own (P := Tryd.prog) (ww.alloc (.cells #[.int .i64 (nJ a)] 36)) w1.heap.size 50 50 36 i1 (.int .i64 0) 1 8 Tryd.underlying50 HJ.out.1 HJ.out.2.1 HJ.out.2.2.1 HJ.out.2.2.2 rfl (by decide) _ _ _ (pw_own_below hw1 hbab) ⟨ww.heap.size, 0, none⟩ 1 1 [.int .i64 (nJ a)] rfl (fun q u hq => by
          rw [add_plain]
          have h1 := blk_cell (blk_new ww (.cells #[.int .i64 (nJ a)] 36)) q
          rw [h1]
          simpa using hq) (fun u hu => by rw [List.mem_singleton.1 hu]; rfl) (by have := HL.out; unfold maxLen; omega) (by have := HL.out; omega) (Nat.le_trans hb2.size hbab.size)
        have HR1 := Aside0.mk hrun
        have HR2 := Aside0.mk hrunb
        have HO1 := Aside0.mk (own_other (pw_own_below hown hbab) hgrb (own_type_ne (pw_own_below hown hbab) (pw_own_below hw1 hbab) (by decide)))
        have HW1 := Aside0.mk hownb
        have HB2 := Aside0.mk ((below_step hb2 hbab).grown hgrb (Nat.le_trans hb2.size hbab.size) (own_base (pw_own_below hw1 hbab)))
        have HVZ := Aside0.mk hvz
        have HSZ := Aside0.mk hsz
        clear hrun hown hgr hba hvz hsz hnl hz hrunb hownb hgrb hbab hw1 hb2
        generalize nJ a = n at *
        go_wp2_with (at_builtin; first | (refine Lib.wpList_append_run _ rfl _ _ _ _ rfl _ _ rfl rfl _ _ HR1.out ?_) | (refine Lib.wpList_append_run _ rfl _ _ _ _ rfl _ _ rfl rfl _ _ HR2.out ?_))
        go_roundg (x.length + 1 - (j + 1))
        case measure => have := HK.out; omega
        case rel => exact ⟨j + 1, _, _, rfl, rfl, by first | rfl | go_num, ⟨rfl, by have := HK.out; omega, by omega⟩, ⟨by rw [HV.out, HVZ.out]; exact HO1.out⟩, ⟨by rw [HSZ.out, List.length_append, List.map_append]; exact HW1.out⟩, HB2⟩
    · have hjx : j = min x.length 10 := by omega
      have HY := Aside0.mk (show x.take j = x.take 10 from by
        rw [hjx]
        rcases Nat.le_total x.length 10 with h | h
        · rw [Nat.min_eq_left h, List.take_length, List.take_of_length_le h]
        · rw [Nat.min_eq_right h])
      have HLW := Aside0.mk (wsJ_len x 10)
      have hlj : ((x.take 10).map vJ).length = j := by rw [List.length_map, List.length_take]; omega
      have ha := HA.out
      rw [HY.out, ← hlj] at ha
      have hjr := join_row _ _ _ ha (fun u hu => by obtain ⟨a, _, rfl⟩ := List.mem_map.1 hu; exact vJ_kind a) (by omega)
      rw [there_vJ] at hjr
      have hw := HW.out
      rw [HY.out] at hw
      have hl := wsJ_len x 10
      have HJ2 := Aside0.mk hjr
      have HW2 := Aside0.mk hw
      have HBw := Aside0.mk (below_then HB1.out HB1.out.size HB.out)
      obtain ⟨Aw, cw, hsw⟩ := own_slice hw
      subst hsw
      generalize wsJ (x.take 10) = ws at *
      clear HA HW HC1 hjr hw hl ha
      have d1 : (decide ((j : Int) < (x.length : Int)) = false ∧ decide (j < x.length) = false ∧ (j < x.length) = False) ∨ ((decide ((j : Int) < (x.length : Int)) = true ∧ decide (j < x.length) = true ∧ (j < x.length) = True) ∧ decide ((j : Int) < 10) = false ∧ decide (j < 10) = false ∧ (j < 10) = False) := by
        by_cases h : j < x.length
        · exact .inr ⟨⟨decide_eq_true (by omega), decide_eq_true h, eq_true h⟩, decide_eq_false (by omega), decide_eq_false (by omega), eq_false (by omega)⟩
        · exact .inl ⟨decide_eq_false (by omega), decide_eq_false h, eq_false h⟩
      have HX := Aside0.mk d1
      have HZJ := Aside0.mk hlt
      clear d1 hlt hkj hjx hlj
      cases ws with
      | nil =>
        have HJN : Aside0 (Calls Tryd.prog 20 #[_] _ fun r w' => r = .returned .nilIface ∧ Below _ _ w') := ⟨HJ2.out.mono (by
          rintro r w' ⟨hb, h | h | h⟩
          · exact ⟨h.2, hb⟩
          · obtain ⟨u, hu, _⟩ := h; simp at hu
          · simp at h)⟩
        have HN0 := Aside0.mk (fun (W : World) (hL : Laid W) => by have := fault_Number.calls none 0 W hL rfl; rw [errW_none] at this; exact this)
        rcases HX.out with ⟨d1, d3, p3⟩ | ⟨⟨d1, d3, p3⟩, d2, d4, p4⟩
        · go_wp2_with (first
            | (go_at_call 20; (with_reducible refine HJN.out.mono ?_); rintro r w5 ⟨rfl, hb5⟩; have HB5 := Aside0.mk (below_step HBw.out hb5); clear hb5)
            | (go_at_call 19; (with_reducible refine (HN0.out _ (Laid.below HL_.out HB5.out)).mono ?_); rintro r w6 ⟨rfl, hb6⟩; have HB6 := Aside0.mk (below_step HB5.out hb6); clear hb6))
          go_ret
          exact ⟨by first | rfl | simp, HB6.out⟩
        · go_wp2_with (first
            | (go_at_call 20; (with_reducible refine HJN.out.mono ?_); rintro r w5 ⟨rfl, hb5⟩; have HB5 := Aside0.mk (below_step HBw.out hb5); clear hb5)
            | (go_at_call 19; (with_reducible refine (HN0.out _ (Laid.below HL_.out HB5.out)).mono ?_); rintro r w6 ⟨rfl, hb6⟩; have HB6 := Aside0.mk (below_step HB5.out hb6); clear hb6))
          go_ret
          exact ⟨by first | rfl | simp, HB6.out⟩
      | cons n0 rest =>
        obtain ⟨gw, cw2, hgw, _, _, _, hcw⟩ := row_open HW2.out (by simp)
        injection hgw with hA _ hc
        subst hA hc
        have hcw0 := hcw 0 _ rfl
        cases rest with
        | nil =>
          clear hcw
          have HJN : Aside0 (Calls Tryd.prog 20 #[_] _ fun r w' => r = .returned (eNum n0) ∧ Below _ _ w') := ⟨HJ2.out.mono (by
            rintro r w' ⟨hb, h | h | h⟩
            · simp at h
            · obtain ⟨u, hu, rfl⟩ := h; simp at hu; rw [hu]; exact ⟨rfl, hb⟩
            · simp at h)⟩
          have HC0 := Aside0.mk hcw0
          clear hcw0
          have HN1 := Aside0.mk (fun (W : World) (hL : Laid W) => by have := fault_Number.calls (some n0) n0 W hL rfl; rw [errW_some] at this; exact this)
          unfold eNum at HJN
          rcases HX.out with ⟨d1, d3, p3⟩ | ⟨⟨d1, d3, p3⟩, d2, d4, p4⟩
          all_goals
            go_upto_region 19 with (go_at_call 20; (with_reducible refine HJN.out.mono ?_); rintro r w5 ⟨rfl, hb5⟩; have GB := Aside0.mk (below_alloc (below_step HBw.out hb5) (.cells #[.slice none 0 0] 52)); have GC := Aside0.mk (pw_cell_below (below_alloc (Below.refl _ _) (.cells #[.slice none 0 0] 52)) (pw_cell_below hb5 HC0.out)); have GM := Aside0.mk (blk_new w5 (.cells #[.slice none 0 0] 52)); clear hb5)
            refine start_ (n := 23) (S := fun w' => True) (ds := []) #[false, false, false, false, false, false, false, false, false, false, false, false, false, false, false, false, false, false, false, false, false, false, false] (by kernel_rfl) rfl rfl trivial (fun hHeld => ?_)
            refine with_tabW fj.tab19 fj.bits19 (fun HT_ HW_ => ?_)
            have n0_ := Aside0.mk GB.out.drew; have n1_ := Aside0.mk (blk_drew GM.out); have n2_ := Aside0.mk (pw_cell_below (Below.refl _ _).drew GC.out); clear GB GM GC; have GB := n0_; have GM := n1_; have GC := n2_; clear n0_ n1_ n2_; generalize (w5.alloc (.cells #[.slice none 0 0] 52)).drew = wd at GB GM GC ⊢
            refine pure_ (i := 0) (N := some 60) (v := ?_) (a' := ?_) #[true, false, false, false, false, false, false, false, false, false, false, false, false, false, false, false, false, false, false, false, false, false, false] rfl rfl (any_of HT_.out (by kernel_rfl)) (fun _ _ _ h => h) (Or.inl ⟨by rfl, ?_⟩) ?_ ?_
            rotate_left
            · intro w'
              go_simp
              with_reducible rfl
            rotate_left
            · simp only [Act.put, List.setIfInBounds_toArray, List.set_cons_zero, List.set_cons_succ, i64_w, i32_w]
              rfl
            refine pure_ (i := 1) (N := some 61) (v := ?_) (a' := ?_) #[true, true, false, false, false, false, false, false, false, false, false, false, false, false, false, false, false, false, false, false, false, false, false] rfl rfl (any_of HT_.out (by kernel_rfl)) (fun _ _ _ h => h) (Or.inl ⟨by rfl, ?_⟩) ?_ ?_
            rotate_left
            · intro w'
              go_simp
              with_reducible rfl
            rotate_left
            · simp only [Act.put, List.setIfInBounds_toArray, List.set_cons_zero, List.set_cons_succ, i64_w, i32_w]
              rfl
            refine pure_ (i := 2) (N := some 62) (v := ?_) (a' := ?_) #[true, true, true, false, false, false, false, false, false, false, false, false, false, false, false, false, false, false, false, false, false, false, false] rfl rfl (any_of HT_.out (by kernel_rfl)) (fun _ _ _ h => h) (Or.inl ⟨by rfl, ?_⟩) ?_ ?_
            rotate_left
            · intro w'
              go_simp
              with_reducible rfl
            rotate_left
            · simp only [Act.put, List.setIfInBounds_toArray, List.set_cons_zero, List.set_cons_succ, i64_w, i32_w]
              rfl
            refine pure_ (i := 3) (N := some 63) (v := ?_) (a' := ?_) #[true, true, true, true, false, false, false, false, false, false, false, false, false, false, false, false, false, false, false, false, false, false, false] rfl rfl (any_of HT_.out (by kernel_rfl)) (fun _ _ _ h => h) (Or.inl ⟨by rfl, ?_⟩) ?_ ?_
            rotate_left
            · intro w'
              go_simp
              with_reducible rfl
            rotate_left
            · simp only [Act.put, List.setIfInBounds_toArray, List.set_cons_zero, List.set_cons_succ, i64_w, i32_w]
              rfl
            refine pure_ (i := 4) (N := some 64) (v := ?_) (a' := ?_) #[true, true, true, true, true, false, false, false, false, false, false, false, false, false, false, false, false, false, false, false, false, false, false] rfl rfl (any_of HT_.out (by kernel_rfl)) (fun _ _ _ h => h) (Or.inl ⟨by rfl, ?_⟩) ?_ ?_
            rotate_left
            · intro w'
              go_simp
              with_reducible rfl
            rotate_left
            · simp only [Act.put, List.setIfInBounds_toArray, List.set_cons_zero, List.set_cons_succ, i64_w, i32_w]
              rfl
            refine inv_at [5, 6, 7, 8, 9, 10, 11, 12, 13, 14, 15, 16, 17, 18, 19, 20, 21, 22] (fun a0_ b a w' => a = putSel a0_ b [(5, 65, .bool false), (6, 66, .bool true), (7, 67, .bool true), (8, 68, .bool true), (9, 69, .iface 36 (.int .i64 n0)), (10, 70, .int .i64 n0), (11, 71, .slice (some ⟨gw, 0, none⟩) 1 cw), (12, 72, .pointer (some ⟨gw, 0, none⟩)), (13, 73, .int .i64 n0), (14, 74, .bool true), (15, 75, .bool true), (16, 76, .bool true), (17, 77, .iface 36 (.int .i64 n0)), (18, 78, .slice none 0 0), (19, 79, .int .i64 0), (20, 80, .bool true), (21, 81, .bool true), (22, 2, .bool true)] ∧ (Below w.heap.size w w') ∧ (w'.heap[w5.heap.size]? = some (.cells #[.slice none 0 0] 52 (0, 0))) ∧ (w'.cell? ⟨gw, 0, none⟩ = some (.int .i64 n0))) HT_.out HW_.out (by kernel_rfl) (by kernel_rfl) ?_ ?_ ?_
            · exact ⟨by simp only [putSel, Bool.false_eq_true, if_false], GB.out, GM.out, GC.out⟩
            · skip
              clear GB GC GM
              refine steps_cons ?_ ?_
              · rintro b a w' ⟨ha, Q_GB, Q_GM, Q_GC⟩ hb_ hon hoff
                refine ⟨_, rfl, fun K hK => ?_⟩
                have e63 : a.tmps[63]? = some (.iface 36 (.int .i64 n0)) := by rw [ha]; exact (putSel_off rfl).trans rfl
                have e64 : a.tmps[64]? = some (.iface 54 (.pointer (some ⟨w5.heap.size, 0, none⟩))) := by rw [ha]; exact (putSel_off rfl).trans rfl
                have e62 : a.tmps[62]? = some (.bool true) := by rw [ha]; exact (putSel_off rfl).trans rfl
                replace ha := Aside0.mk ha
                have GB := Aside0.mk Q_GB
                have GM := Aside0.mk Q_GM
                have GC := Aside0.mk Q_GC
                refine goes_ Tryd.func21 (by kernel_rfl) rfl #[.iface 36 (.int .i64 n0), .iface 54 (.pointer (some ⟨w5.heap.size, 0, none⟩))] (wanted_on rfl rfl rfl (e62.trans (by first | rfl | (simp [*]; done)))) rfl rfl (by first | (simp only [List.map_toArray, List.map_cons, List.map_nil, Act.eval, Array.getD_eq_getD_getElem?, Option.getD_some, e63, e64, e62]; done) | (simp only [List.map_toArray, List.map_cons, List.map_nil, Act.eval, Array.getD_eq_getD_getElem?, Option.getD_some, e63, e64, e62]; rfl)) ?_
                refine (asM_num n0 ⟨w5.heap.size, 0, none⟩ (.slice none 0 0) _ (Laid.errorType (Laid.below HL_.out GB.out)) ((blk_cell GM.out 0).trans rfl)).mono ?_
                rintro e_ wN ⟨rfl, hbw_⟩
                refine ⟨_, rfl, ?_⟩
                refine hK.out _ _ ⟨(by rw [ha.out]; exact putSel_upk 0 hb_ rfl rfl rfl), below_step GB.out hbw_, blk_below GM.out hbw_, (fun hc_ hb_ => pw_cell_below hb_ hc_) (GC.out) (hbw_)⟩
              refine steps_cons ?_ ?_
              · rintro b a w' ⟨ha, Q_GB, Q_GM, Q_GC⟩ hb_ hon hoff
                refine ⟨_, rfl, fun K hK => ?_⟩
                have e65 : a.tmps[65]? = some (.bool false) := by rw [ha]; exact putSel_on (e := (5, 65, .bool false)) 0 rfl rfl (hon 5 (by kernel_rfl)) rfl
                have e62 : a.tmps[62]? = some (.bool true) := by rw [ha]; exact (putSel_off rfl).trans rfl
                replace ha := Aside0.mk ha
                have GB := Aside0.mk Q_GB
                have GM := Aside0.mk Q_GM
                have GC := Aside0.mk Q_GC
                refine value_ (w1 := w') (v := .bool true) (wanted_on rfl rfl rfl (e62.trans (by first | rfl | (simp [*]; done)))) rfl ?_ ?_
                · go_simp
                  (try simp only [i64_w])
                  try rfl
                refine hK.out _ _ ⟨(by rw [ha.out]; exact putSel_upk 1 hb_ rfl rfl rfl), Q_GB, Q_GM, Q_GC⟩
              refine steps_cons ?_ ?_
              · rintro b a w' ⟨ha, Q_GB, Q_GM, Q_GC⟩ hb_ hon hoff
                refine ⟨_, rfl, fun K hK => ?_⟩
                have e62 : a.tmps[62]? = some (.bool true) := by rw [ha]; exact (putSel_off rfl).trans rfl
                have e66 : a.tmps[66]? = some (.bool true) := by rw [ha]; exact putSel_on (e := (6, 66, .bool true)) 1 rfl rfl (hon 6 (by kernel_rfl)) rfl
                replace ha := Aside0.mk ha
                have GB := Aside0.mk Q_GB
                have GM := Aside0.mk Q_GM
                have GC := Aside0.mk Q_GC
                refine value_ (w1 := w') (v := .bool true) (by rfl) rfl ?_ ?_
                · go_simp
                  (try simp only [i64_w])
                  try rfl
                refine hK.out _ _ ⟨(by rw [ha.out]; exact putSel_upk 2 hb_ rfl rfl rfl), Q_GB, Q_GM, Q_GC⟩
              refine steps_cons ?_ ?_
              · rintro b a w' ⟨ha, Q_GB, Q_GM, Q_GC⟩ hb_ hon hoff
                refine ⟨_, rfl, fun K hK => ?_⟩
                have e67 : a.tmps[67]? = some (.bool true) := by rw [ha]; exact putSel_on (e := (7, 67, .bool true)) 2 rfl rfl (hon 7 (by kernel_rfl)) rfl
                replace ha := Aside0.mk ha
                have GB := Aside0.mk Q_GB
                have GM := Aside0.mk Q_GM
                have GC := Aside0.mk Q_GC
                refine value_ (w1 := w') (v := .bool true) (by rfl) rfl ?_ ?_
                · go_simp
                  (try simp only [i64_w])
                  try rfl
                refine hK.out _ _ ⟨(by rw [ha.out]; exact putSel_upk 3 hb_ rfl rfl rfl), Q_GB, Q_GM, Q_GC⟩
              refine steps_cons ?_ ?_
              · rintro b a w' ⟨ha, Q_GB, Q_GM, Q_GC⟩ hb_ hon hoff
                refine ⟨_, rfl, fun K hK => ?_⟩
                have e7 : a.tmps[7]? = some (.iface 36 (.int .i64 n0)) := by rw [ha]; exact (putSel_off rfl).trans rfl
                have e68 : a.tmps[68]? = some (.bool true) := by rw [ha]; exact putSel_on (e := (8, 68, .bool true)) 3 rfl rfl (hon 8 (by kernel_rfl)) rfl
                replace ha := Aside0.mk ha
                have GB := Aside0.mk Q_GB
                have GM := Aside0.mk Q_GM
                have GC := Aside0.mk Q_GC
                refine value_ (w1 := w') (v := .iface 36 (.int .i64 n0)) (wanted_on rfl rfl rfl (e68.trans (by first | rfl | (simp [*]; done)))) rfl ?_ ?_
                · go_simp
                  (try simp only [i64_w])
                  try rfl
                refine hK.out _ _ ⟨(by rw [ha.out]; exact putSel_upk 4 hb_ rfl rfl rfl), Q_GB, Q_GM, Q_GC⟩
              refine steps_cons ?_ ?_
              · rintro b a w' ⟨ha, Q_GB, Q_GM, Q_GC⟩ hb_ hon hoff
                refine ⟨_, rfl, fun K hK => ?_⟩
                have e69 : a.tmps[69]? = some (.iface 36 (.int .i64 n0)) := by rw [ha]; exact putSel_on (e := (9, 69, .iface 36 (.int .i64 n0))) 4 rfl rfl (hon 9 (by kernel_rfl)) rfl
                have e68 : a.tmps[68]? = some (.bool true) := by rw [ha]; exact putSel_on (e := (8, 68, .bool true)) 3 rfl rfl (hon 8 (by kernel_rfl)) rfl
                replace ha := Aside0.mk ha
                have GB := Aside0.mk Q_GB
                have GM := Aside0.mk Q_GM
                have GC := Aside0.mk Q_GC
                refine goes_ Tryd.func19 (by kernel_rfl) rfl #[.iface 36 (.int .i64 n0)] (wanted_on rfl rfl rfl (e68.trans (by first | rfl | (simp [*]; done)))) rfl rfl (by first | (simp only [List.map_toArray, List.map_cons, List.map_nil, Act.eval, Array.getD_eq_getD_getElem?, Option.getD_some, e69, e68]; done) | (simp only [List.map_toArray, List.map_cons, List.map_nil, Act.eval, Array.getD_eq_getD_getElem?, Option.getD_some, e69, e68]; rfl)) ?_
                refine (HN1.out _ (Laid.below HL_.out GB.out)).mono ?_
                rintro e_ wN ⟨rfl, hbw_⟩
                refine ⟨_, rfl, ?_⟩
                refine hK.out _ _ ⟨(by rw [ha.out]; exact putSel_upk 5 hb_ rfl rfl rfl), below_step GB.out hbw_, blk_below GM.out hbw_, (fun hc_ hb_ => pw_cell_below hb_ hc_) (GC.out) (hbw_)⟩
              refine steps_cons ?_ ?_
              · rintro b a w' ⟨ha, Q_GB, Q_GM, Q_GC⟩ hb_ hon hoff
                refine ⟨_, rfl, fun K hK => ?_⟩
                have e4 : a.tmps[4]? = some (.slice (some ⟨gw, 0, none⟩) 1 cw) := by rw [ha]; exact (putSel_off rfl).trans rfl
                have e68 : a.tmps[68]? = some (.bool true) := by rw [ha]; exact putSel_on (e := (8, 68, .bool true)) 3 rfl rfl (hon 8 (by kernel_rfl)) rfl
                replace ha := Aside0.mk ha
                have GB := Aside0.mk Q_GB
                have GM := Aside0.mk Q_GM
                have GC := Aside0.mk Q_GC
                refine value_ (w1 := w') (v := .slice (some ⟨gw, 0, none⟩) 1 cw) (wanted_on rfl rfl rfl (e68.trans (by first | rfl | (simp [*]; done)))) rfl ?_ ?_
                · go_simp
                  (try simp only [i64_w])
                  try rfl
                refine hK.out _ _ ⟨(by rw [ha.out]; exact putSel_upk 6 hb_ rfl rfl rfl), Q_GB, Q_GM, Q_GC⟩
              refine steps_cons ?_ ?_
              · rintro b a w' ⟨ha, Q_GB, Q_GM, Q_GC⟩ hb_ hon hoff
                refine ⟨_, rfl, fun K hK => ?_⟩
                have e71 : a.tmps[71]? = some (.slice (some ⟨gw, 0, none⟩) 1 cw) := by rw [ha]; exact putSel_on (e := (11, 71, .slice (some ⟨gw, 0, none⟩) 1 cw)) 6 rfl rfl (hon 11 (by kernel_rfl)) rfl
                have e68 : a.tmps[68]? = some (.bool true) := by rw [ha]; exact putSel_on (e := (8, 68, .bool true)) 3 rfl rfl (hon 8 (by kernel_rfl)) rfl
                replace ha := Aside0.mk ha
                have GB := Aside0.mk Q_GB
                have GM := Aside0.mk Q_GM
                have GC := Aside0.mk Q_GC
                refine value_ (w1 := w') (v := .pointer (some ⟨gw, 0, none⟩)) (wanted_on rfl rfl rfl (e68.trans (by first | rfl | (simp [*]; done)))) rfl ?_ ?_
                · go_simp
                  (try simp only [i64_w])
                  try rfl
                refine hK.out _ _ ⟨(by rw [ha.out]; exact putSel_upk 7 hb_ rfl rfl rfl), Q_GB, Q_GM, Q_GC⟩
              refine steps_cons ?_ ?_
              · rintro b a w' ⟨ha, Q_GB, Q_GM, Q_GC⟩ hb_ hon hoff
                refine ⟨_, rfl, fun K hK => ?_⟩
                have e72 : a.tmps[72]? = some (.pointer (some ⟨gw, 0, none⟩)) := by rw [ha]; exact putSel_on (e := (12, 72, .pointer (some ⟨gw, 0, none⟩))) 7 rfl rfl (hon 12 (by kernel_rfl)) rfl
                have e68 : a.tmps[68]? = some (.bool true) := by rw [ha]; exact putSel_on (e := (8, 68, .bool true)) 3 rfl rfl (hon 8 (by kernel_rfl)) rfl
                replace ha := Aside0.mk ha
                have GB := Aside0.mk Q_GB
                have GM := Aside0.mk Q_GM
                have GC := Aside0.mk Q_GC
                have hx_ := GC.out
                refine value_ (w1 := w') (v := .int .i64 n0) (wanted_on rfl rfl rfl (e68.trans (by first | rfl | (simp [*]; done)))) rfl ?_ ?_
                · go_simp
                  (try simp only [i64_w])
                  try rfl
                refine hK.out _ _ ⟨(by rw [ha.out]; exact putSel_upk 8 hb_ rfl rfl rfl), Q_GB, Q_GM, Q_GC⟩
              refine steps_cons ?_ ?_
              · rintro b a w' ⟨ha, Q_GB, Q_GM, Q_GC⟩ hb_ hon hoff
                refine ⟨_, rfl, fun K hK => ?_⟩
                have e70 : a.tmps[70]? = some (.int .i64 n0) := by rw [ha]; exact putSel_on (e := (10, 70, .int .i64 n0)) 5 rfl rfl (hon 10 (by kernel_rfl)) rfl
                have e73 : a.tmps[73]? = some (.int .i64 n0) := by rw [ha]; exact putSel_on (e := (13, 73, .int .i64 n0)) 8 rfl rfl (hon 13 (by kernel_rfl)) rfl
                have e68 : a.tmps[68]? = some (.bool true) := by rw [ha]; exact putSel_on (e := (8, 68, .bool true)) 3 rfl rfl (hon 8 (by kernel_rfl)) rfl
                replace ha := Aside0.mk ha
                have GB := Aside0.mk Q_GB
                have GM := Aside0.mk Q_GM
                have GC := Aside0.mk Q_GC
                refine value_ (w1 := w') (v := .bool true) (wanted_on rfl rfl rfl (e68.trans (by first | rfl | (simp [*]; done)))) rfl ?_ ?_
                · go_simp
                  (try simp only [i64_w])
                  try rfl
                refine hK.out _ _ ⟨(by rw [ha.out]; exact putSel_upk 9 hb_ rfl rfl rfl), Q_GB, Q_GM, Q_GC⟩
              refine steps_cons ?_ ?_
              · rintro b a w' ⟨ha, Q_GB, Q_GM, Q_GC⟩ hb_ hon hoff
                refine ⟨_, rfl, fun K hK => ?_⟩
                have e68 : a.tmps[68]? = some (.bool true) := by rw [ha]; exact putSel_on (e := (8, 68, .bool true)) 3 rfl rfl (hon 8 (by kernel_rfl)) rfl
                have e74 : a.tmps[74]? = some (.bool true) := by rw [ha]; exact putSel_on (e := (14, 74, .bool true)) 9 rfl rfl (hon 14 (by kernel_rfl)) rfl
                replace ha := Aside0.mk ha
                have GB := Aside0.mk Q_GB
                have GM := Aside0.mk Q_GM
                have GC := Aside0.mk Q_GC
                refine value_ (w1 := w') (v := .bool true) (by rfl) rfl ?_ ?_
                · go_simp
                  (try simp only [i64_w])
                  try rfl
                refine hK.out _ _ ⟨(by rw [ha.out]; exact putSel_upk 10 hb_ rfl rfl rfl), Q_GB, Q_GM, Q_GC⟩
              refine steps_cons ?_ ?_
              · rintro b a w' ⟨ha, Q_GB, Q_GM, Q_GC⟩ hb_ hon hoff
                refine ⟨_, rfl, fun K hK => ?_⟩
                have e75 : a.tmps[75]? = some (.bool true) := by rw [ha]; exact putSel_on (e := (15, 75, .bool true)) 10 rfl rfl (hon 15 (by kernel_rfl)) rfl
                replace ha := Aside0.mk ha
                have GB := Aside0.mk Q_GB
                have GM := Aside0.mk Q_GM
                have GC := Aside0.mk Q_GC
                refine value_ (w1 := w') (v := .bool true) (by rfl) rfl ?_ ?_
                · go_simp
                  (try simp only [i64_w])
                  try rfl
                refine hK.out _ _ ⟨(by rw [ha.out]; exact putSel_upk 11 hb_ rfl rfl rfl), Q_GB, Q_GM, Q_GC⟩
              refine steps_cons ?_ ?_
              · rintro b a w' ⟨ha, Q_GB, Q_GM, Q_GC⟩ hb_ hon hoff
                refine ⟨_, rfl, fun K hK => ?_⟩
                have e7 : a.tmps[7]? = some (.iface 36 (.int .i64 n0)) := by rw [ha]; exact (putSel_off rfl).trans rfl
                have e76 : a.tmps[76]? = some (.bool true) := by rw [ha]; exact putSel_on (e := (16, 76, .bool true)) 11 rfl rfl (hon 16 (by kernel_rfl)) rfl
                replace ha := Aside0.mk ha
                have GB := Aside0.mk Q_GB
                have GM := Aside0.mk Q_GM
                have GC := Aside0.mk Q_GC
                refine value_ (w1 := w') (v := .iface 36 (.int .i64 n0)) (wanted_on rfl rfl rfl (e76.trans (by first | rfl | (simp [*]; done)))) rfl ?_ ?_
                · go_simp
                  (try simp only [i64_w])
                  try rfl
                refine hK.out _ _ ⟨(by rw [ha.out]; exact putSel_upk 12 hb_ rfl rfl rfl), Q_GB, Q_GM, Q_GC⟩
              refine steps_cons ?_ ?_
              · rintro b a w' ⟨ha, Q_GB, Q_GM, Q_GC⟩ hb_ hon hoff
                refine ⟨_, rfl, fun K hK => ?_⟩
                have e77 : a.tmps[77]? = some (.iface 36 (.int .i64 n0)) := by rw [ha]; exact putSel_on (e := (17, 77, .iface 36 (.int .i64 n0))) 12 rfl rfl (hon 17 (by kernel_rfl)) rfl
                have e76 : a.tmps[76]? = some (.bool true) := by rw [ha]; exact putSel_on (e := (16, 76, .bool true)) 11 rfl rfl (hon 16 (by kernel_rfl)) rfl
                replace ha := Aside0.mk ha
                have GB := Aside0.mk Q_GB
                have GM := Aside0.mk Q_GM
                have GC := Aside0.mk Q_GC
                refine goes_ Tryd.func15 (by kernel_rfl) rfl #[.iface 36 (.int .i64 n0)] (wanted_on rfl rfl rfl (e76.trans (by first | rfl | (simp [*]; done)))) rfl rfl (by first | (simp only [List.map_toArray, List.map_cons, List.map_nil, Act.eval, Array.getD_eq_getD_getElem?, Option.getD_some, e77, e76]; done) | (simp only [List.map_toArray, List.map_cons, List.map_nil, Act.eval, Array.getD_eq_getD_getElem?, Option.getD_some, e77, e76]; rfl)) ?_
                refine (eOps_num n0 _).mono ?_
                rintro e_ wN ⟨rfl, hw_⟩
                have hbw_ : Below w'.heap.size w' wN := by rw [hw_]; exact Below.refl _ _
                refine ⟨_, rfl, ?_⟩
                refine hK.out _ _ ⟨(by rw [ha.out]; exact putSel_upk 13 hb_ rfl rfl rfl), below_step GB.out hbw_, blk_below GM.out hbw_, (fun hc_ hb_ => pw_cell_below hb_ hc_) (GC.out) (hbw_)⟩
              refine steps_cons ?_ ?_
              · rintro b a w' ⟨ha, Q_GB, Q_GM, Q_GC⟩ hb_ hon hoff
                refine ⟨_, rfl, fun K hK => ?_⟩
                have e78 : a.tmps[78]? = some (.slice none 0 0) := by rw [ha]; exact putSel_on (e := (18, 78, .slice none 0 0)) 13 rfl rfl (hon 18 (by kernel_rfl)) rfl
                have e76 : a.tmps[76]? = some (.bool true) := by rw [ha]; exact putSel_on (e := (16, 76, .bool true)) 11 rfl rfl (hon 16 (by kernel_rfl)) rfl
                replace ha := Aside0.mk ha
                have GB := Aside0.mk Q_GB
                have GM := Aside0.mk Q_GM
                have GC := Aside0.mk Q_GC
                refine value_ (w1 := w') (v := .int .i64 0) (wanted_on rfl rfl rfl (e76.trans (by first | rfl | (simp [*]; done)))) rfl ?_ ?_
                · go_simp
                  (try simp only [i64_w])
                  try rfl
                refine hK.out _ _ ⟨(by rw [ha.out]; exact putSel_upk 14 hb_ rfl rfl rfl), Q_GB, Q_GM, Q_GC⟩
              refine steps_cons ?_ ?_
              · rintro b a w' ⟨ha, Q_GB, Q_GM, Q_GC⟩ hb_ hon hoff
                refine ⟨_, rfl, fun K hK => ?_⟩
                have e79 : a.tmps[79]? = some (.int .i64 0) := by rw [ha]; exact putSel_on (e := (19, 79, .int .i64 0)) 14 rfl rfl (hon 19 (by kernel_rfl)) rfl
                have e76 : a.tmps[76]? = some (.bool true) := by rw [ha]; exact putSel_on (e := (16, 76, .bool true)) 11 rfl rfl (hon 16 (by kernel_rfl)) rfl
                replace ha := Aside0.mk ha
                have GB := Aside0.mk Q_GB
                have GM := Aside0.mk Q_GM
                have GC := Aside0.mk Q_GC
                refine value_ (w1 := w') (v := .bool true) (wanted_on rfl rfl rfl (e76.trans (by first | rfl | (simp [*]; done)))) rfl ?_ ?_
                · go_simp
                  (try simp only [i64_w])
                  try rfl
                refine hK.out _ _ ⟨(by rw [ha.out]; exact putSel_upk 15 hb_ rfl rfl rfl), Q_GB, Q_GM, Q_GC⟩
              refine steps_cons ?_ ?_
              · rintro b a w' ⟨ha, Q_GB, Q_GM, Q_GC⟩ hb_ hon hoff
                refine ⟨_, rfl, fun K hK => ?_⟩
                have e76 : a.tmps[76]? = some (.bool true) := by rw [ha]; exact putSel_on (e := (16, 76, .bool true)) 11 rfl rfl (hon 16 (by kernel_rfl)) rfl
                have e80 : a.tmps[80]? = some (.bool true) := by rw [ha]; exact putSel_on (e := (20, 80, .bool true)) 15 rfl rfl (hon 20 (by kernel_rfl)) rfl
                replace ha := Aside0.mk ha
                have GB := Aside0.mk Q_GB
                have GM := Aside0.mk Q_GM
                have GC := Aside0.mk Q_GC
                refine value_ (w1 := w') (v := .bool true) (by rfl) rfl ?_ ?_
                · go_simp
                  (try simp only [i64_w])
                  try rfl
                refine hK.out _ _ ⟨(by rw [ha.out]; exact putSel_upk 16 hb_ rfl rfl rfl), Q_GB, Q_GM, Q_GC⟩
              refine steps_cons ?_ ?_
              · rintro b a w' ⟨ha, Q_GB, Q_GM, Q_GC⟩ hb_ hon hoff
                refine ⟨_, rfl, fun K hK => ?_⟩
                have e81 : a.tmps[81]? = some (.bool true) := by rw [ha]; exact putSel_on (e := (21, 81, .bool true)) 16 rfl rfl (hon 21 (by kernel_rfl)) rfl
                replace ha := Aside0.mk ha
                have GB := Aside0.mk Q_GB
                have GM := Aside0.mk Q_GM
                have GC := Aside0.mk Q_GC
                refine value_ (w1 := w') (v := .bool true) (by rfl) rfl ?_ ?_
                · go_simp
                  (try simp only [i64_w])
                  try rfl
                refine hK.out _ _ ⟨(by rw [ha.out]; exact putSel_upk 17 hb_ rfl rfl rfl), Q_GB, Q_GM, Q_GC⟩
              exact steps_nil
            rintro b a w9 hall ⟨ha, Q_GB, Q_GM, Q_GC⟩
            clear GB GC GM
            have hb5_ := hall 5 (by kernel_rfl)
            have hb6_ := hall 6 (by kernel_rfl)
            have hb7_ := hall 7 (by kernel_rfl)
            have hb8_ := hall 8 (by kernel_rfl)
            have hb9_ := hall 9 (by kernel_rfl)
            have hb10_ := hall 10 (by kernel_rfl)
            have hb11_ := hall 11 (by kernel_rfl)
            have hb12_ := hall 12 (by kernel_rfl)
            have hb13_ := hall 13 (by kernel_rfl)
            have hb14_ := hall 14 (by kernel_rfl)
            have hb15_ := hall 15 (by kernel_rfl)
            have hb16_ := hall 16 (by kernel_rfl)
            have hb17_ := hall 17 (by kernel_rfl)
            have hb18_ := hall 18 (by kernel_rfl)
            have hb19_ := hall 19 (by kernel_rfl)
            have hb20_ := hall 20 (by kernel_rfl)
            have hb21_ := hall 21 (by kernel_rfl)
            have hb22_ := hall 22 (by kernel_rfl)
            subst ha
            simp only [putSel, hb5_, hb6_, hb7_, hb8_, hb9_, hb10_, hb11_, hb12_, hb13_, hb14_, hb15_, hb16_, hb17_, hb18_, hb19_, hb20_, hb21_, hb22_, if_true, Act.put, List.setIfInBounds_toArray, List.set_cons_zero, List.set_cons_succ]
            have GB := Aside0.mk Q_GB
            clear Q_GB
            have GM := Aside0.mk Q_GM
            clear Q_GM
            have GC := Aside0.mk Q_GC
            clear Q_GC
            clear hall hb5_ hb6_ hb7_ hb8_ hb9_ hb10_ hb11_ hb12_ hb13_ hb14_ hb15_ hb16_ hb17_ hb18_ hb19_ hb20_ hb21_ hb22_
            go_wp2
            go_ret
            exact ⟨by first | rfl | simp, GB.out⟩
        | cons n1 rest =>
          clear hcw hcw0
          obtain ⟨NW, hNW⟩ : ∃ NW : Nat, NW = (n0 :: n1 :: rest).length := ⟨_, rfl⟩
          have hw3 := HW2.out
          have hl3 := HLW.out
          have hj3 := HJ2.out
          clear HW2 HLW HJ2
          rw [← hNW] at hw3 hl3 ⊢
          have HGW := Aside0.mk hw3
          have hn2 : 2 ≤ NW := by rw [hNW]; simp
          have HNW := Aside0.mk (And.intro hNW (And.intro hn2 hl3))
          have HJN : Aside0 (Calls Tryd.prog 20 #[_] _ fun r w' => ∃ gm cm, r = .returned (.iface 52 (.slice (some ⟨gm, 0, none⟩) NW cm)) ∧ w'.ownsRow 0 27 1 (.slice (some ⟨gm, 0, none⟩) NW cm) NW ((n0 :: n1 :: rest).map eNum) ∧ Below _ _ w') := ⟨hj3.mono (by
            rintro r w' ⟨hb, h | h | h⟩
            · simp at h
            · obtain ⟨u, hu, _⟩ := h; simp at hu
            · obtain ⟨_, sv, hr, ho⟩ := h
              rw [List.length_map, ← hNW] at ho
              obtain ⟨gm, cm, hsv, _⟩ := row_open ho (by omega)
              subst hsv
              exact ⟨gm, cm, hr, own_base0 ho, hb⟩)⟩
          have q1 : ((NW : Int) == 0) = false := beq_eq_false_iff_ne.2 (by omega)
          have q2 : ((NW : Int) == 1) = false := beq_eq_false_iff_ne.2 (by omega)
          have q3 := eq_false (show ¬ ((NW : Int) = 0) by omega)
          have q4 := eq_false (show ¬ ((NW : Int) = 1) by omega)
          have q5 := eq_false (show ¬ (NW = 0) by omega)
          have q6 := eq_false (show ¬ (NW = 1) by omega)
          have q7 := eq_true (show (0 : Int) < (NW : Int) by omega)
          have q8 := eq_true (show 0 < NW by omega)
          clear hNW hw3 hl3 hj3 hn2
          rcases HX.out with ⟨d1, d3, p3⟩ | ⟨⟨d1, d3, p3⟩, d2, d4, p4⟩
          all_goals
            go_upto_region 21 with (go_at_call 20; (with_reducible refine HJN.out.mono ?_); rintro r w5 ⟨gm, cm, rfl, ho5, hb5⟩; have GB := Aside0.mk (below_alloc (below_step HBw.out hb5) (.cells #[.slice none 0 0] 52)); have HS5 := Aside0.mk (below_step HBw.out hb5).size; have GW := Aside0.mk (pw_own_below (pw_own_below HGW.out hb5) (below_alloc (Below.refl _ _) (.cells #[.slice none 0 0] 52))); have GR := Aside0.mk (pw_own_below ho5 (below_alloc (Below.refl _ _) (.cells #[.slice none 0 0] 52))); have GM := Aside0.mk (blk_new w5 (.cells #[.slice none 0 0] 52)); clear hb5 ho5)
            refine start_ (n := 19) (S := fun w' => True) (ds := []) #[false, false, false, false, false, false, false, false, false, false, false, false, false, false, false, false, false, false, false] (by kernel_rfl) rfl rfl trivial (fun hHeld => ?_)
            refine with_tabW fj.tab21 fj.bits21 (fun HT_ HW_ => ?_)
            have n0_ := Aside0.mk GB.out.drew; have n1_ := Aside0.mk (blk_drew GM.out); have n2_ := Aside0.mk (pw_own_below GW.out (Below.refl _ _).drew); have n3_ := Aside0.mk (pw_own_below GR.out (Below.refl _ _).drew); clear GB GM GW GR; have GB := n0_; have GT0 := n1_; have GW := n2_; have GR := n3_; clear n0_ n1_ n2_ n3_; generalize (w5.alloc (.cells #[.slice none 0 0] 52)).drew = wd at GB GT0 GW GR ⊢
            refine pure_ (i := 0) (N := some 82) (v := ?_) (a' := ?_) #[true, false, false, false, false, false, false, false, false, false, false, false, false, false, false, false, false, false, false] rfl rfl (any_of HT_.out (by kernel_rfl)) (fun _ _ _ h => h) (Or.inl ⟨by rfl, ?_⟩) ?_ ?_
            rotate_left
            · intro w'
              go_simp
              with_reducible rfl
            rotate_left
            · simp only [Act.put, List.setIfInBounds_toArray, List.set_cons_zero, List.set_cons_succ, i64_w, i32_w]
              rfl
            refine pure_ (i := 1) (N := some 83) (v := ?_) (a' := ?_) #[true, true, false, false, false, false, false, false, false, false, false, false, false, false, false, false, false, false, false] rfl rfl (any_of HT_.out (by kernel_rfl)) (fun _ _ _ h => h) (Or.inl ⟨by rfl, ?_⟩) ?_ ?_
            rotate_left
            · intro w'
              go_simp
              with_reducible rfl
            rotate_left
            · simp only [Act.put, List.setIfInBounds_toArray, List.set_cons_zero, List.set_cons_succ, i64_w, i32_w]
              rfl
            refine inv_at [2, 3, 4, 5, 6, 7, 8, 9, 10, 11, 12, 13, 14, 15, 16, 17, 18] (fun a0_ b a w' => a = putSel a0_ b [(2, 84, .bool true), (3, 85, .bool false), (4, 86, .bool false), (5, 87, .slice (some ⟨gm, 0, none⟩) NW cm), (6, 88, .int .i64 (NW : Int)), (7, 89, .slice (some ⟨gw, 0, none⟩) NW cw), (8, 90, .int .i64 (NW : Int)), (9, 91, .bool false), (10, 92, .bool false), (11, 93, .bool false), (12, 94, .iface 52 (.slice (some ⟨gm, 0, none⟩) NW cm)), (13, 95, .int .i64 n0), (14, 96, .slice (some ⟨gw, 0, none⟩) NW cw), (15, 97, .pointer (some ⟨gw, 0, none⟩)), (16, 98, .int .i64 n0), (17, 99, .bool false), (18, 100, .bool false)] ∧ (Below w.heap.size w w') ∧ (b 2 = false → w'.heap[w5.heap.size]? = some (.cells #[.slice none 0 0] 52 (0, 0))) ∧ (b 2 = true → w'.heap[w5.heap.size]? = some (.cells #[.slice (some ⟨gm, 0, none⟩) NW cm] 52 (0, 0))) ∧ (w'.ownsRow w1.heap.size 36 1 (.slice (some ⟨gw, 0, none⟩) NW cw) NW ((n0 :: n1 :: rest).map (Value.int .i64))) ∧ (w'.ownsRow 0 27 1 (.slice (some ⟨gm, 0, none⟩) NW cm) NW ((n0 :: n1 :: rest).map eNum))) HT_.out HW_.out (by kernel_rfl) (by kernel_rfl) ?_ ?_ ?_
            · exact ⟨by simp only [putSel, Bool.false_eq_true, if_false], GB.out, fun _ => GT0.out, fun h_ => absurd h_ (by decide), GW.out, GR.out⟩
            · skip
              clear GB GR GT0 GW
              refine steps_cons ?_ ?_
              · rintro b a w' ⟨ha, Q_GB, Q_GT0, Q_GT1, Q_GW, Q_GR⟩ hb_ hon hoff
                refine ⟨_, rfl, fun K hK => ?_⟩
                have e82 : a.tmps[82]? = some (.iface 52 (.slice (some ⟨gm, 0, none⟩) NW cm)) := by rw [ha]; exact (putSel_off rfl).trans rfl
                have e83 : a.tmps[83]? = some (.iface 54 (.pointer (some ⟨w5.heap.size, 0, none⟩))) := by rw [ha]; exact (putSel_off rfl).trans rfl
                replace ha := Aside0.mk ha
                have GB := Aside0.mk Q_GB
                have GT0 := Aside0.mk (Q_GT0 hb_)
                have GW := Aside0.mk Q_GW
                have GR := Aside0.mk Q_GR
                refine goes_ Tryd.func21 (by kernel_rfl) rfl #[.iface 52 (.slice (some ⟨gm, 0, none⟩) NW cm), .iface 54 (.pointer (some ⟨w5.heap.size, 0, none⟩))] (by rfl) rfl rfl (by first | (simp only [List.map_toArray, List.map_cons, List.map_nil, Act.eval, Array.getD_eq_getD_getElem?, Option.getD_some, e82, e83]; done) | (simp only [List.map_toArray, List.map_cons, List.map_nil, Act.eval, Array.getD_eq_getD_getElem?, Option.getD_some, e82, e83]; rfl)) ?_
                refine (asM_hit (some ⟨gm, 0, none⟩) NW cm ⟨w5.heap.size, 0, none⟩ (.slice none 0 0) _ (Laid.errorType (Laid.below HL_.out GB.out)) ((blk_cell GT0.out 0).trans rfl) (blk_frozen GT0.out 0)).mono ?_
                rintro e_ wN ⟨W1, rfl, hbw_, rfl⟩
                refine ⟨_, rfl, ?_⟩
                refine hK.out _ _ ⟨(by rw [ha.out]; exact putSel_upk 0 hb_ rfl rfl rfl), (below_step GB.out hbw_).setCell (p := ⟨w5.heap.size, 0, none⟩) HS5.out _, fun h0_ => absurd ((up_self b 2).symm.trans h0_) (by decide), fun h0_ => (by have h_ := blk_set (blk_below GT0.out hbw_) 0 (.slice (some ⟨gm, 0, none⟩) NW cm); simpa using h_), own_setCell (pw_own_below GW.out hbw_) (own_ne (pw_own_below GW.out hbw_) (blk_below GT0.out hbw_) (by decide)) _, own_setCell (pw_own_below GR.out hbw_) (own_ne (pw_own_below GR.out hbw_) (blk_below GT0.out hbw_) (by decide)) _⟩
              refine steps_cons ?_ ?_
              · rintro b a w' ⟨ha, Q_GB, Q_GT0, Q_GT1, Q_GW, Q_GR⟩ hb_ hon hoff
                refine ⟨_, rfl, fun K hK => ?_⟩
                have e84 : a.tmps[84]? = some (.bool true) := by rw [ha]; exact putSel_on (e := (2, 84, .bool true)) 0 rfl rfl (hon 2 (by kernel_rfl)) rfl
                replace ha := Aside0.mk ha
                have GB := Aside0.mk Q_GB
                have GT1 := Aside0.mk (Q_GT1 (hon 2 (by kernel_rfl)))
                have GW := Aside0.mk Q_GW
                have GR := Aside0.mk Q_GR
                refine value_ (w1 := w') (v := .bool false) (by rfl) rfl ?_ ?_
                · go_simp
                  (try simp only [i64_w])
                  try rfl
                refine hK.out _ _ ⟨(by rw [ha.out]; exact putSel_upk 1 hb_ rfl rfl rfl), Q_GB, fun h0_ => absurd ((hon 2 (by kernel_rfl)).symm.trans h0_) (by decide), Q_GT1, Q_GW, Q_GR⟩
              refine steps_cons ?_ ?_
              · rintro b a w' ⟨ha, Q_GB, Q_GT0, Q_GT1, Q_GW, Q_GR⟩ hb_ hon hoff
                refine ⟨_, rfl, fun K hK => ?_⟩
                have e85 : a.tmps[85]? = some (.bool false) := by rw [ha]; exact putSel_on (e := (3, 85, .bool false)) 1 rfl rfl (hon 3 (by kernel_rfl)) rfl
                replace ha := Aside0.mk ha
                have GB := Aside0.mk Q_GB
                have GT1 := Aside0.mk (Q_GT1 (hon 2 (by kernel_rfl)))
                have GW := Aside0.mk Q_GW
                have GR := Aside0.mk Q_GR
                refine value_ (w1 := w') (v := .bool false) (by rfl) rfl ?_ ?_
                · go_simp
                  (try simp only [i64_w])
                  try rfl
                refine hK.out _ _ ⟨(by rw [ha.out]; exact putSel_upk 2 hb_ rfl rfl rfl), Q_GB, fun h0_ => absurd ((hon 2 (by kernel_rfl)).symm.trans h0_) (by decide), Q_GT1, Q_GW, Q_GR⟩
              refine steps_cons ?_ ?_
              · rintro b a w' ⟨ha, Q_GB, Q_GT0, Q_GT1, Q_GW, Q_GR⟩ hb_ hon hoff
                refine ⟨_, rfl, fun K hK => ?_⟩
                have e9 : a.tmps[9]? = some (.pointer (some ⟨w5.heap.size, 0, none⟩)) := by rw [ha]; exact (putSel_off rfl).trans rfl
                have e86 : a.tmps[86]? = some (.bool false) := by rw [ha]; exact putSel_on (e := (4, 86, .bool false)) 2 rfl rfl (hon 4 (by kernel_rfl)) rfl
                replace ha := Aside0.mk ha
                have GB := Aside0.mk Q_GB
                have GT1 := Aside0.mk (Q_GT1 (hon 2 (by kernel_rfl)))
                have GW := Aside0.mk Q_GW
                have GR := Aside0.mk Q_GR
                have hx_ := (blk_cell GT1.out 0).trans rfl
                refine value_ (w1 := w') (v := .slice (some ⟨gm, 0, none⟩) NW cm) (wanted_on rfl rfl rfl (e86.trans (by first | rfl | (simp [*]; done)))) rfl ?_ ?_
                · go_simp
                  (try simp only [i64_w])
                  try rfl
                refine hK.out _ _ ⟨(by rw [ha.out]; exact putSel_upk 3 hb_ rfl rfl rfl), Q_GB, fun h0_ => absurd ((hon 2 (by kernel_rfl)).symm.trans h0_) (by decide), Q_GT1, Q_GW, Q_GR⟩
              refine steps_cons ?_ ?_
              · rintro b a w' ⟨ha, Q_GB, Q_GT0, Q_GT1, Q_GW, Q_GR⟩ hb_ hon hoff
                refine ⟨_, rfl, fun K hK => ?_⟩
                have e87 : a.tmps[87]? = some (.slice (some ⟨gm, 0, none⟩) NW cm) := by rw [ha]; exact putSel_on (e := (5, 87, .slice (some ⟨gm, 0, none⟩) NW cm)) 3 rfl rfl (hon 5 (by kernel_rfl)) rfl
                have e86 : a.tmps[86]? = some (.bool false) := by rw [ha]; exact putSel_on (e := (4, 86, .bool false)) 2 rfl rfl (hon 4 (by kernel_rfl)) rfl
                replace ha := Aside0.mk ha
                have GB := Aside0.mk Q_GB
                have GT1 := Aside0.mk (Q_GT1 (hon 2 (by kernel_rfl)))
                have GW := Aside0.mk Q_GW
                have GR := Aside0.mk Q_GR
                refine value_ (w1 := w') (v := .int .i64 (NW : Int)) (wanted_on rfl rfl rfl (e86.trans (by first | rfl | (simp [*]; done)))) rfl ?_ ?_
                · go_simp
                  (try simp only [i64_w])
                  try rfl
                refine hK.out _ _ ⟨(by rw [ha.out]; exact putSel_upk 4 hb_ rfl rfl rfl), Q_GB, fun h0_ => absurd ((hon 2 (by kernel_rfl)).symm.trans h0_) (by decide), Q_GT1, Q_GW, Q_GR⟩
              refine steps_cons ?_ ?_
              · rintro b a w' ⟨ha, Q_GB, Q_GT0, Q_GT1, Q_GW, Q_GR⟩ hb_ hon hoff
                refine ⟨_, rfl, fun K hK => ?_⟩
                have e4 : a.tmps[4]? = some (.slice (some ⟨gw, 0, none⟩) NW cw) := by rw [ha]; exact (putSel_off rfl).trans rfl
                have e86 : a.tmps[86]? = some (.bool false) := by rw [ha]; exact putSel_on (e := (4, 86, .bool false)) 2 rfl rfl (hon 4 (by kernel_rfl)) rfl
                replace ha := Aside0.mk ha
                have GB := Aside0.mk Q_GB
                have GT1 := Aside0.mk (Q_GT1 (hon 2 (by kernel_rfl)))
                have GW := Aside0.mk Q_GW
                have GR := Aside0.mk Q_GR
                refine value_ (w1 := w') (v := .slice (some ⟨gw, 0, none⟩) NW cw) (wanted_on rfl rfl rfl (e86.trans (by first | rfl | (simp [*]; done)))) rfl ?_ ?_
                · go_simp
                  (try simp only [i64_w])
                  try rfl
                refine hK.out _ _ ⟨(by rw [ha.out]; exact putSel_upk 5 hb_ rfl rfl rfl), Q_GB, fun h0_ => absurd ((hon 2 (by kernel_rfl)).symm.trans h0_) (by decide), Q_GT1, Q_GW, Q_GR⟩
              refine steps_cons ?_ ?_
              · rintro b a w' ⟨ha, Q_GB, Q_GT0, Q_GT1, Q_GW, Q_GR⟩ hb_ hon hoff
                refine ⟨_, rfl, fun K hK => ?_⟩
                have e89 : a.tmps[89]? = some (.slice (some ⟨gw, 0, none⟩) NW cw) := by rw [ha]; exact putSel_on (e := (7, 89, .slice (some ⟨gw, 0, none⟩) NW cw)) 5 rfl rfl (hon 7 (by kernel_rfl)) rfl
                have e86 : a.tmps[86]? = some (.bool false) := by rw [ha]; exact putSel_on (e := (4, 86, .bool false)) 2 rfl rfl (hon 4 (by kernel_rfl)) rfl
                replace ha := Aside0.mk ha
                have GB := Aside0.mk Q_GB
                have GT1 := Aside0.mk (Q_GT1 (hon 2 (by kernel_rfl)))
                have GW := Aside0.mk Q_GW
                have GR := Aside0.mk Q_GR
                refine value_ (w1 := w') (v := .int .i64 (NW : Int)) (wanted_on rfl rfl rfl (e86.trans (by first | rfl | (simp [*]; done)))) rfl ?_ ?_
                · go_simp
                  (try simp only [i64_w])
                  try rfl
                refine hK.out _ _ ⟨(by rw [ha.out]; exact putSel_upk 6 hb_ rfl rfl rfl), Q_GB, fun h0_ => absurd ((hon 2 (by kernel_rfl)).symm.trans h0_) (by decide), Q_GT1, Q_GW, Q_GR⟩
              refine steps_cons ?_ ?_
              · rintro b a w' ⟨ha, Q_GB, Q_GT0, Q_GT1, Q_GW, Q_GR⟩ hb_ hon hoff
                refine ⟨_, rfl, fun K hK => ?_⟩
                have e88 : a.tmps[88]? = some (.int .i64 (NW : Int)) := by rw [ha]; exact putSel_on (e := (6, 88, .int .i64 (NW : Int))) 4 rfl rfl (hon 6 (by kernel_rfl)) rfl
                have e90 : a.tmps[90]? = some (.int .i64 (NW : Int)) := by rw [ha]; exact putSel_on (e := (8, 90, .int .i64 (NW : Int))) 6 rfl rfl (hon 8 (by kernel_rfl)) rfl
                have e86 : a.tmps[86]? = some (.bool false) := by rw [ha]; exact putSel_on (e := (4, 86, .bool false)) 2 rfl rfl (hon 4 (by kernel_rfl)) rfl
                replace ha := Aside0.mk ha
                have GB := Aside0.mk Q_GB
                have GT1 := Aside0.mk (Q_GT1 (hon 2 (by kernel_rfl)))
                have GW := Aside0.mk Q_GW
                have GR := Aside0.mk Q_GR
                refine value_ (w1 := w') (v := .bool false) (wanted_on rfl rfl rfl (e86.trans (by first | rfl | (simp [*]; done)))) rfl ?_ ?_
                · go_simp
                  (try simp only [i64_w])
                  try rfl
                refine hK.out _ _ ⟨(by rw [ha.out]; exact putSel_upk 7 hb_ rfl rfl rfl), Q_GB, fun h0_ => absurd ((hon 2 (by kernel_rfl)).symm.trans h0_) (by decide), Q_GT1, Q_GW, Q_GR⟩
              refine steps_cons ?_ ?_
              · rintro b a w' ⟨ha, Q_GB, Q_GT0, Q_GT1, Q_GW, Q_GR⟩ hb_ hon hoff
                refine ⟨_, rfl, fun K hK => ?_⟩
                have e86 : a.tmps[86]? = some (.bool false) := by rw [ha]; exact putSel_on (e := (4, 86, .bool false)) 2 rfl rfl (hon 4 (by kernel_rfl)) rfl
                have e91 : a.tmps[91]? = some (.bool false) := by rw [ha]; exact putSel_on (e := (9, 91, .bool false)) 7 rfl rfl (hon 9 (by kernel_rfl)) rfl
                replace ha := Aside0.mk ha
                have GB := Aside0.mk Q_GB
                have GT1 := Aside0.mk (Q_GT1 (hon 2 (by kernel_rfl)))
                have GW := Aside0.mk Q_GW
                have GR := Aside0.mk Q_GR
                refine value_ (w1 := w') (v := .bool false) (by rfl) rfl ?_ ?_
                · go_simp
                  (try simp only [i64_w])
                  try rfl
                refine hK.out _ _ ⟨(by rw [ha.out]; exact putSel_upk 8 hb_ rfl rfl rfl), Q_GB, fun h0_ => absurd ((hon 2 (by kernel_rfl)).symm.trans h0_) (by decide), Q_GT1, Q_GW, Q_GR⟩
              refine steps_cons ?_ ?_
              · rintro b a w' ⟨ha, Q_GB, Q_GT0, Q_GT1, Q_GW, Q_GR⟩ hb_ hon hoff
                refine ⟨_, rfl, fun K hK => ?_⟩
                have e92 : a.tmps[92]? = some (.bool false) := by rw [ha]; exact putSel_on (e := (10, 92, .bool false)) 8 rfl rfl (hon 10 (by kernel_rfl)) rfl
                replace ha := Aside0.mk ha
                have GB := Aside0.mk Q_GB
                have GT1 := Aside0.mk (Q_GT1 (hon 2 (by kernel_rfl)))
                have GW := Aside0.mk Q_GW
                have GR := Aside0.mk Q_GR
                refine value_ (w1 := w') (v := .bool false) (by rfl) rfl ?_ ?_
                · go_simp
                  (try simp only [i64_w])
                  try rfl
                refine hK.out _ _ ⟨(by rw [ha.out]; exact putSel_upk 9 hb_ rfl rfl rfl), Q_GB, fun h0_ => absurd ((hon 2 (by kernel_rfl)).symm.trans h0_) (by decide), Q_GT1, Q_GW, Q_GR⟩
              refine steps_cons ?_ ?_
              · rintro b a w' ⟨ha, Q_GB, Q_GT0, Q_GT1, Q_GW, Q_GR⟩ hb_ hon hoff
                refine ⟨_, rfl, fun K hK => ?_⟩
                have e7 : a.tmps[7]? = some (.iface 52 (.slice (some ⟨gm, 0, none⟩) NW cm)) := by rw [ha]; exact (putSel_off rfl).trans rfl
                have e93 : a.tmps[93]? = some (.bool false) := by rw [ha]; exact putSel_on (e := (11, 93, .bool false)) 9 rfl rfl (hon 11 (by kernel_rfl)) rfl
                replace ha := Aside0.mk ha
                have GB := Aside0.mk Q_GB
                have GT1 := Aside0.mk (Q_GT1 (hon 2 (by kernel_rfl)))
                have GW := Aside0.mk Q_GW
                have GR := Aside0.mk Q_GR
                refine value_ (w1 := w') (v := .iface 52 (.slice (some ⟨gm, 0, none⟩) NW cm)) (wanted_on rfl rfl rfl (e93.trans (by first | rfl | (simp [*]; done)))) rfl ?_ ?_
                · go_simp
                  (try simp only [i64_w])
                  try rfl
                refine hK.out _ _ ⟨(by rw [ha.out]; exact putSel_upk 10 hb_ rfl rfl rfl), Q_GB, fun h0_ => absurd ((hon 2 (by kernel_rfl)).symm.trans h0_) (by decide), Q_GT1, Q_GW, Q_GR⟩
              refine steps_cons ?_ ?_
              · rintro b a w' ⟨ha, Q_GB, Q_GT0, Q_GT1, Q_GW, Q_GR⟩ hb_ hon hoff
                refine ⟨_, rfl, fun K hK => ?_⟩
                have e94 : a.tmps[94]? = some (.iface 52 (.slice (some ⟨gm, 0, none⟩) NW cm)) := by rw [ha]; exact putSel_on (e := (12, 94, .iface 52 (.slice (some ⟨gm, 0, none⟩) NW cm))) 10 rfl rfl (hon 12 (by kernel_rfl)) rfl
                have e93 : a.tmps[93]? = some (.bool false) := by rw [ha]; exact putSel_on (e := (11, 93, .bool false)) 9 rfl rfl (hon 11 (by kernel_rfl)) rfl
                replace ha := Aside0.mk ha
                have GB := Aside0.mk Q_GB
                have GT1 := Aside0.mk (Q_GT1 (hon 2 (by kernel_rfl)))
                have GW := Aside0.mk Q_GW
                have GR := Aside0.mk Q_GR
                refine goes_ Tryd.func19 (by kernel_rfl) rfl #[.iface 52 (.slice (some ⟨gm, 0, none⟩) NW cm)] (wanted_on rfl rfl rfl (e93.trans (by first | rfl | (simp [*]; done)))) rfl rfl (by first | (simp only [List.map_toArray, List.map_cons, List.map_nil, Act.eval, Array.getD_eq_getD_getElem?, Option.getD_some, e94, e93]; done) | (simp only [List.map_toArray, List.map_cons, List.map_nil, Act.eval, Array.getD_eq_getD_getElem?, Option.getD_some, e94, e93]; rfl)) ?_
                refine (number_many .nilIface _ (Laid.below HL_.out GB.out) GR.out HNW.out).mono ?_
                rintro e_ wN ⟨rfl, hbw_⟩
                refine ⟨_, rfl, ?_⟩
                refine hK.out _ _ ⟨(by rw [ha.out]; exact putSel_upk 11 hb_ rfl rfl rfl), below_step GB.out hbw_, fun h0_ => absurd ((hon 2 (by kernel_rfl)).symm.trans h0_) (by decide), fun _ => blk_below GT1.out hbw_, pw_own_below (GW.out) (hbw_), pw_own_below (GR.out) (hbw_)⟩
              refine steps_cons ?_ ?_
              · rintro b a w' ⟨ha, Q_GB, Q_GT0, Q_GT1, Q_GW, Q_GR⟩ hb_ hon hoff
                refine ⟨_, rfl, fun K hK => ?_⟩
                have e4 : a.tmps[4]? = some (.slice (some ⟨gw, 0, none⟩) NW cw) := by rw [ha]; exact (putSel_off rfl).trans rfl
                have e93 : a.tmps[93]? = some (.bool false) := by rw [ha]; exact putSel_on (e := (11, 93, .bool false)) 9 rfl rfl (hon 11 (by kernel_rfl)) rfl
                replace ha := Aside0.mk ha
                have GB := Aside0.mk Q_GB
                have GT1 := Aside0.mk (Q_GT1 (hon 2 (by kernel_rfl)))
                have GW := Aside0.mk Q_GW
                have GR := Aside0.mk Q_GR
                refine value_ (w1 := w') (v := .slice (some ⟨gw, 0, none⟩) NW cw) (wanted_on rfl rfl rfl (e93.trans (by first | rfl | (simp [*]; done)))) rfl ?_ ?_
                · go_simp
                  (try simp only [i64_w])
                  try rfl
                refine hK.out _ _ ⟨(by rw [ha.out]; exact putSel_upk 12 hb_ rfl rfl rfl), Q_GB, fun h0_ => absurd ((hon 2 (by kernel_rfl)).symm.trans h0_) (by decide), Q_GT1, Q_GW, Q_GR⟩
              refine steps_cons ?_ ?_
              · rintro b a w' ⟨ha, Q_GB, Q_GT0, Q_GT1, Q_GW, Q_GR⟩ hb_ hon hoff
                refine ⟨_, rfl, fun K hK => ?_⟩
                have e96 : a.tmps[96]? = some (.slice (some ⟨gw, 0, none⟩) NW cw) := by rw [ha]; exact putSel_on (e := (14, 96, .slice (some ⟨gw, 0, none⟩) NW cw)) 12 rfl rfl (hon 14 (by kernel_rfl)) rfl
                have e93 : a.tmps[93]? = some (.bool false) := by rw [ha]; exact putSel_on (e := (11, 93, .bool false)) 9 rfl rfl (hon 11 (by kernel_rfl)) rfl
                replace ha := Aside0.mk ha
                have GB := Aside0.mk Q_GB
                have GT1 := Aside0.mk (Q_GT1 (hon 2 (by kernel_rfl)))
                have GW := Aside0.mk Q_GW
                have GR := Aside0.mk Q_GR
                refine value_ (w1 := w') (v := .pointer (some ⟨gw, 0, none⟩)) (wanted_on rfl rfl rfl (e93.trans (by first | rfl | (simp [*]; done)))) rfl ?_ ?_
                · go_simp
                  (try simp only [i64_w])
                  try rfl
                refine hK.out _ _ ⟨(by rw [ha.out]; exact putSel_upk 13 hb_ rfl rfl rfl), Q_GB, fun h0_ => absurd ((hon 2 (by kernel_rfl)).symm.trans h0_) (by decide), Q_GT1, Q_GW, Q_GR⟩
              refine steps_cons ?_ ?_
              · rintro b a w' ⟨ha, Q_GB, Q_GT0, Q_GT1, Q_GW, Q_GR⟩ hb_ hon hoff
                refine ⟨_, rfl, fun K hK => ?_⟩
                have e97 : a.tmps[97]? = some (.pointer (some ⟨gw, 0, none⟩)) := by rw [ha]; exact putSel_on (e := (15, 97, .pointer (some ⟨gw, 0, none⟩))) 13 rfl rfl (hon 15 (by kernel_rfl)) rfl
                have e93 : a.tmps[93]? = some (.bool false) := by rw [ha]; exact putSel_on (e := (11, 93, .bool false)) 9 rfl rfl (hon 11 (by kernel_rfl)) rfl
                replace ha := Aside0.mk ha
                have GB := Aside0.mk Q_GB
                have GT1 := Aside0.mk (Q_GT1 (hon 2 (by kernel_rfl)))
                have GW := Aside0.mk Q_GW
                have GR := Aside0.mk Q_GR
                have hx_ := row_cell GW.out 0 (.int .i64 n0) rfl
                refine value_ (w1 := w') (v := .int .i64 n0) (wanted_on rfl rfl rfl (e93.trans (by first | rfl | (simp [*]; done)))) rfl ?_ ?_
                · go_simp
                  (try simp only [i64_w])
                  try rfl
                refine hK.out _ _ ⟨(by rw [ha.out]; exact putSel_upk 14 hb_ rfl rfl rfl), Q_GB, fun h0_ => absurd ((hon 2 (by kernel_rfl)).symm.trans h0_) (by decide), Q_GT1, Q_GW, Q_GR⟩
              refine steps_cons ?_ ?_
              · rintro b a w' ⟨ha, Q_GB, Q_GT0, Q_GT1, Q_GW, Q_GR⟩ hb_ hon hoff
                refine ⟨_, rfl, fun K hK => ?_⟩
                have e95 : a.tmps[95]? = some (.int .i64 n0) := by rw [ha]; exact putSel_on (e := (13, 95, .int .i64 n0)) 11 rfl rfl (hon 13 (by kernel_rfl)) rfl
                have e98 : a.tmps[98]? = some (.int .i64 n0) := by rw [ha]; exact putSel_on (e := (16, 98, .int .i64 n0)) 14 rfl rfl (hon 16 (by kernel_rfl)) rfl
                have e93 : a.tmps[93]? = some (.bool false) := by rw [ha]; exact putSel_on (e := (11, 93, .bool false)) 9 rfl rfl (hon 11 (by kernel_rfl)) rfl
                replace ha := Aside0.mk ha
                have GB := Aside0.mk Q_GB
                have GT1 := Aside0.mk (Q_GT1 (hon 2 (by kernel_rfl)))
                have GW := Aside0.mk Q_GW
                have GR := Aside0.mk Q_GR
                refine value_ (w1 := w') (v := .bool false) (wanted_on rfl rfl rfl (e93.trans (by first | rfl | (simp [*]; done)))) rfl ?_ ?_
                · go_simp
                  (try simp only [i64_w])
                  try rfl
                refine hK.out _ _ ⟨(by rw [ha.out]; exact putSel_upk 15 hb_ rfl rfl rfl), Q_GB, fun h0_ => absurd ((hon 2 (by kernel_rfl)).symm.trans h0_) (by decide), Q_GT1, Q_GW, Q_GR⟩
              refine steps_cons ?_ ?_
              · rintro b a w' ⟨ha, Q_GB, Q_GT0, Q_GT1, Q_GW, Q_GR⟩ hb_ hon hoff
                refine ⟨_, rfl, fun K hK => ?_⟩
                have e93 : a.tmps[93]? = some (.bool false) := by rw [ha]; exact putSel_on (e := (11, 93, .bool false)) 9 rfl rfl (hon 11 (by kernel_rfl)) rfl
                have e99 : a.tmps[99]? = some (.bool false) := by rw [ha]; exact putSel_on (e := (17, 99, .bool false)) 15 rfl rfl (hon 17 (by kernel_rfl)) rfl
                replace ha := Aside0.mk ha
                have GB := Aside0.mk Q_GB
                have GT1 := Aside0.mk (Q_GT1 (hon 2 (by kernel_rfl)))
                have GW := Aside0.mk Q_GW
                have GR := Aside0.mk Q_GR
                refine value_ (w1 := w') (v := .bool false) (by rfl) rfl ?_ ?_
                · go_simp
                  (try simp only [i64_w])
                  try rfl
                refine hK.out _ _ ⟨(by rw [ha.out]; exact putSel_upk 16 hb_ rfl rfl rfl), Q_GB, fun h0_ => absurd ((hon 2 (by kernel_rfl)).symm.trans h0_) (by decide), Q_GT1, Q_GW, Q_GR⟩
              exact steps_nil
            rintro b a w9 hall ⟨ha, Q_GB, Q_GT0, Q_GT1, Q_GW, Q_GR⟩
            clear GB GR GT0 GW
            have hb2_ := hall 2 (by kernel_rfl)
            have hb3_ := hall 3 (by kernel_rfl)
            have hb4_ := hall 4 (by kernel_rfl)
            have hb5_ := hall 5 (by kernel_rfl)
            have hb6_ := hall 6 (by kernel_rfl)
            have hb7_ := hall 7 (by kernel_rfl)
            have hb8_ := hall 8 (by kernel_rfl)
            have hb9_ := hall 9 (by kernel_rfl)
            have hb10_ := hall 10 (by kernel_rfl)
            have hb11_ := hall 11 (by kernel_rfl)
            have hb12_ := hall 12 (by kernel_rfl)
            have hb13_ := hall 13 (by kernel_rfl)
            have hb14_ := hall 14 (by kernel_rfl)
            have hb15_ := hall 15 (by kernel_rfl)
            have hb16_ := hall 16 (by kernel_rfl)
            have hb17_ := hall 17 (by kernel_rfl)
            have hb18_ := hall 18 (by kernel_rfl)
            subst ha
            simp only [putSel, hb2_, hb3_, hb4_, hb5_, hb6_, hb7_, hb8_, hb9_, hb10_, hb11_, hb12_, hb13_, hb14_, hb15_, hb16_, hb17_, hb18_, if_true, Act.put, List.setIfInBounds_toArray, List.set_cons_zero, List.set_cons_succ]
            have GB := Aside0.mk Q_GB
            clear Q_GB
            clear Q_GT0
            have GT1 := Aside0.mk (Q_GT1 hb2_)
            clear Q_GT1
            have GW := Aside0.mk Q_GW
            clear Q_GW
            have GR := Aside0.mk Q_GR
            clear Q_GR
            clear hall hb2_ hb3_ hb4_ hb5_ hb6_ hb7_ hb8_ hb9_ hb10_ hb11_ hb12_ hb13_ hb14_ hb15_ hb16_ hb17_ hb18_
            have hx9 := (blk_cell GT1.out 0).trans rfl
            go_wp2_with (go_at_call 22; (with_reducible refine (unwrap_many _ GR.out HNW.out).mono ?_); rintro r w10 ⟨gb, cb, rfl, hk, hb10⟩; have GK := Aside0.mk hk; have GB2 := Aside0.mk (below_step GB.out hb10); have GR2 := Aside0.mk (pw_own_below GR.out hb10); have GW2 := Aside0.mk (pw_own_below GW.out hb10); have GT2 := Aside0.mk (blk_below GT1.out hb10); clear hk hb10)
            clear GB GR GW GT1 hx9
            go_loopg [11] (NW + 1) (fun kq v11 w' => ∃ i : Nat, v11 = .int .i64 (i : Int) ∧ Aside0 (kq = NW + 1 - i ∧ i ≤ NW) ∧ Aside0 (Below w.heap.size w w') ∧ Aside0 (w'.ownsRow 0 27 1 (.slice (some ⟨gm, 0, none⟩) NW cm) NW ((n0 :: n1 :: rest).map eNum)) ∧ Aside0 (w'.ownsRow 0 27 1 (.slice (some ⟨gb, 0, none⟩) NW cb) NW ((n0 :: n1 :: rest).map eNum)) ∧ Aside0 (w'.ownsRow w1.heap.size 36 1 (.slice (some ⟨gw, 0, none⟩) NW cw) NW ((n0 :: n1 :: rest).map (Value.int .i64))) ∧ Aside0 (w'.heap[w5.heap.size]? = some (.cells #[.slice (some ⟨gm, 0, none⟩) NW cm] 52 (0, 0))))
            case atStart => exact ⟨0, rfl, ⟨by omega, by omega⟩, GB2, GR2, GK, GW2, GT2⟩
            case round =>
              clear GB2 GR2 GK GW2 GT2 HB HBw HJN HGW
              obtain ⟨i, hs11, HI2, GB, GR, GK, GW, GT⟩ := hrel
              subst hs11
              have hi2 := HI2.out
              by_cases hlt : i < NW
              · have u1 : decide ((i : Int) < (NW : Int)) = true := decide_eq_true (by omega)
                have u2 : decide (i < NW) = true := decide_eq_true hlt
                have u3 := eq_true (show (0 : Int) ≤ (i : Int) by omega)
                have u4 := eq_true (show (i : Int) < (NW : Int) by omega)
                have u5 := eq_true hlt
                have HU := Aside0.mk (show wrap64 ((i : Int) + 1) = ((i + 1 : Nat) : Int) by have := HNW.out.2.2; unfold wrap64; omega)
                have hil : i < (n0 :: n1 :: rest).length := by rw [← HNW.out.1]; exact hlt
                have hge := List.getElem?_eq_getElem hil
                have HMM := Aside0.mk (List.getElem_mem hil)
                have HLT := Aside0.mk hlt
                generalize (n0 :: n1 :: rest)[i] = m at hge HMM
                have HE1 := Aside0.mk (show ((n0 :: n1 :: rest).map eNum)[i]? = some (eNum m) by rw [List.getElem?_map, hge]; rfl)
                have HE2 := Aside0.mk (show ((n0 :: n1 :: rest).map (Value.int .i64))[i]? = some (Value.int .i64 m) by rw [List.getElem?_map, hge]; rfl)
                clear hge hil hi2
                go_upto_region 27 with (fail)
                refine start_ (n := 32) (S := fun w' => True) (ds := []) #[false, false, false, false, false, false, false, false, false, false, false, false, false, false, false, false, false, false, false, false, false, false, false, false, false, false, false, false, false, false, false, false] (by kernel_rfl) rfl rfl trivial (fun hHeld => ?_)
                refine with_tabW fj.tab27 fj.bits27 (fun HT_ HW_ => ?_)
                have n0_ := Aside0.mk GB.out.drew; have n1_ := Aside0.mk (blk_drew GT.out); have n2_ := Aside0.mk (pw_own_below GW.out (Below.refl _ _).drew); have n3_ := Aside0.mk (pw_own_below GR.out (Below.refl _ _).drew); have n4_ := Aside0.mk (pw_own_below GK.out (Below.refl _ _).drew); clear GB GT GW GR GK; have GB := n0_; have GT := n1_; have GW := n2_; have GR := n3_; have GK := n4_; clear n0_ n1_ n2_ n3_ n4_; generalize wr.drew = wd at GB GT GW GR GK ⊢
                refine pure_ (i := 1) (N := some 110) (v := ?_) (a' := ?_) #[false, true, false, false, false, false, false, false, false, false, false, false, false, false, false, false, false, false, false, false, false, false, false, false, false, false, false, false, false, false, false, false] rfl rfl (any_of HT_.out (by kernel_rfl)) (fun _ _ _ h => h) (Or.inl ⟨by rfl, ?_⟩) ?_ ?_
                rotate_left
                · intro w'
                  go_simp
                  with_reducible rfl
                rotate_left
                · simp only [Act.put, List.setIfInBounds_toArray, List.set_cons_zero, List.set_cons_succ, i64_w, i32_w]
                  rfl
                refine pure_ (i := 5) (N := some 114) (v := ?_) (a' := ?_) #[false, true, false, false, false, true, false, false, false, false, false, false, false, false, false, false, false, false, false, false, false, false, false, false, false, false, false, false, false, false, false, false] rfl rfl (any_of HT_.out (by kernel_rfl)) (fun _ _ _ h => h) (Or.inl ⟨by rfl, ?_⟩) ?_ ?_
                rotate_left
                · intro w'
                  go_simp
                  with_reducible rfl
                rotate_left
                · simp only [Act.put, List.setIfInBounds_toArray, List.set_cons_zero, List.set_cons_succ, i64_w, i32_w]
                  rfl
                refine pure_ (i := 6) (N := some 115) (v := ?_) (a' := ?_) #[false, true, false, false, false, true, true, false, false, false, false, false, false, false, false, false, false, false, false, false, false, false, false, false, false, false, false, false, false, false, false, false] rfl rfl (any_of HT_.out (by kernel_rfl)) (fun _ _ _ h => h) (Or.inl ⟨by rfl, ?_⟩) ?_ ?_
                rotate_left
                · intro w'
                  go_simp
                  with_reducible rfl
                rotate_left
                · simp only [Act.put, List.setIfInBounds_toArray, List.set_cons_zero, List.set_cons_succ, i64_w, i32_w]
                  rfl
                refine inv_at [0, 2, 3, 4, 7, 8, 9, 10, 11, 12, 13, 14, 15, 16, 17, 18, 19, 20, 21, 22, 23, 24, 25, 26, 27, 28, 29, 30, 31] (fun a0_ b a w' => a = putSel a0_ b [(0, 109, .slice (some ⟨gm, 0, none⟩) NW cm), (2, 111, .pointer (some ⟨gm, i, none⟩)), (3, 112, .iface 36 (.int .i64 m)), (4, 113, .int .i64 m), (7, 116, .pointer (some ⟨gw, i, none⟩)), (8, 117, .int .i64 m), (9, 118, .bool false), (10, 119, .bool false), (11, 120, .slice (some ⟨gb, 0, none⟩) NW cb), (12, 121, .int .i64 (i : Int)), (13, 122, .pointer (some ⟨gb, i, none⟩)), (14, 123, .iface 36 (.int .i64 m)), (15, 124, .int .i64 m), (16, 125, .slice (some ⟨gw, 0, none⟩) NW cw), (17, 126, .int .i64 (i : Int)), (18, 127, .pointer (some ⟨gw, i, none⟩)), (19, 128, .int .i64 m), (20, 129, .bool false), (21, 130, .bool false), (22, 131, .bool false), (23, 132, .iface 52 (.slice (some ⟨gm, 0, none⟩) NW cm)), (24, 133, .slice (some ⟨gw, 0, none⟩) NW cw), (25, 134, .int .i64 (i : Int)), (26, 135, .pointer (some ⟨gw, i, none⟩)), (27, 136, .int .i64 m), (28, 137, .iface 36 (.int .i64 m)), (29, 138, .bool true), (30, 139, .bool false), (31, 140, .bool false)] ∧ (Below w.heap.size w w') ∧ (w'.heap[w5.heap.size]? = some (.cells #[.slice (some ⟨gm, 0, none⟩) NW cm] 52 (0, 0))) ∧ (w'.ownsRow w1.heap.size 36 1 (.slice (some ⟨gw, 0, none⟩) NW cw) NW ((n0 :: n1 :: rest).map (Value.int .i64))) ∧ (w'.ownsRow 0 27 1 (.slice (some ⟨gm, 0, none⟩) NW cm) NW ((n0 :: n1 :: rest).map eNum)) ∧ (w'.ownsRow 0 27 1 (.slice (some ⟨gb, 0, none⟩) NW cb) NW ((n0 :: n1 :: rest).map eNum))) HT_.out HW_.out (by kernel_rfl) (by kernel_rfl) ?_ ?_ ?_
                · exact ⟨by simp only [putSel, Bool.false_eq_true, if_false], GB.out, GT.out, GW.out, GR.out, GK.out⟩
                · skip
                  clear GB GK GR GT GW
                  refine steps_cons ?_ ?_
                  · rintro b a w' ⟨ha, Q_GB, Q_GT, Q_GW, Q_GR, Q_GK⟩ hb_ hon hoff
                    refine ⟨_, rfl, fun K hK => ?_⟩
                    have e9 : a.tmps[9]? = some (.pointer (some ⟨w5.heap.size, 0, none⟩)) := by rw [ha]; exact (putSel_off rfl).trans rfl
                    replace ha := Aside0.mk ha
                    have GB := Aside0.mk Q_GB
                    have GT := Aside0.mk Q_GT
                    have GW := Aside0.mk Q_GW
                    have GR := Aside0.mk Q_GR
                    have GK := Aside0.mk Q_GK
                    have hx_ := (blk_cell GT.out 0).trans rfl
                    refine value_ (w1 := w') (v := .slice (some ⟨gm, 0, none⟩) NW cm) (by rfl) rfl ?_ ?_
                    · go_simp
                      (try simp only [i64_w])
                      try rfl
                    refine hK.out _ _ ⟨(by rw [ha.out]; exact putSel_upk 0 hb_ rfl rfl rfl), Q_GB, Q_GT, Q_GW, Q_GR, Q_GK⟩
                  refine steps_cons ?_ ?_
                  · rintro b a w' ⟨ha, Q_GB, Q_GT, Q_GW, Q_GR, Q_GK⟩ hb_ hon hoff
                    refine ⟨_, rfl, fun K hK => ?_⟩
                    have e109 : a.tmps[109]? = some (.slice (some ⟨gm, 0, none⟩) NW cm) := by rw [ha]; exact putSel_on (e := (0, 109, .slice (some ⟨gm, 0, none⟩) NW cm)) 0 rfl rfl (hon 0 (by kernel_rfl)) rfl
                    have e110 : a.tmps[110]? = some (.int .i64 (i : Int)) := by rw [ha]; exact (putSel_off rfl).trans rfl
                    replace ha := Aside0.mk ha
                    have GB := Aside0.mk Q_GB
                    have GT := Aside0.mk Q_GT
                    have GW := Aside0.mk Q_GW
                    have GR := Aside0.mk Q_GR
                    have GK := Aside0.mk Q_GK
                    refine value_ (w1 := w') (v := .pointer (some ⟨gm, i, none⟩)) (by rfl) rfl ?_ ?_
                    · go_simp
                      (try simp only [i64_w])
                      try rfl
                    refine hK.out _ _ ⟨(by rw [ha.out]; exact putSel_upk 1 hb_ rfl rfl rfl), Q_GB, Q_GT, Q_GW, Q_GR, Q_GK⟩
                  refine steps_cons ?_ ?_
                  · rintro b a w' ⟨ha, Q_GB, Q_GT, Q_GW, Q_GR, Q_GK⟩ hb_ hon hoff
                    refine ⟨_, rfl, fun K hK => ?_⟩
                    have e111 : a.tmps[111]? = some (.pointer (some ⟨gm, i, none⟩)) := by rw [ha]; exact putSel_on (e := (2, 111, .pointer (some ⟨gm, i, none⟩))) 1 rfl rfl (hon 2 (by kernel_rfl)) rfl
                    replace ha := Aside0.mk ha
                    have GB := Aside0.mk Q_GB
                    have GT := Aside0.mk Q_GT
                    have GW := Aside0.mk Q_GW
                    have GR := Aside0.mk Q_GR
                    have GK := Aside0.mk Q_GK
                    have hx_ := row_cell GR.out i _ HE1.out
                    unfold eNum at hx_
                    refine value_ (w1 := w') (v := .iface 36 (.int .i64 m)) (by rfl) rfl ?_ ?_
                    · go_simp
                      (try simp only [i64_w])
                      try rfl
                    refine hK.out _ _ ⟨(by rw [ha.out]; exact putSel_upk 2 hb_ rfl rfl rfl), Q_GB, Q_GT, Q_GW, Q_GR, Q_GK⟩
                  refine steps_cons ?_ ?_
                  · rintro b a w' ⟨ha, Q_GB, Q_GT, Q_GW, Q_GR, Q_GK⟩ hb_ hon hoff
                    refine ⟨_, rfl, fun K hK => ?_⟩
                    have e112 : a.tmps[112]? = some (.iface 36 (.int .i64 m)) := by rw [ha]; exact putSel_on (e := (3, 112, .iface 36 (.int .i64 m))) 2 rfl rfl (hon 3 (by kernel_rfl)) rfl
                    replace ha := Aside0.mk ha
                    have GB := Aside0.mk Q_GB
                    have GT := Aside0.mk Q_GT
                    have GW := Aside0.mk Q_GW
                    have GR := Aside0.mk Q_GR
                    have GK := Aside0.mk Q_GK
                    refine goes_ Tryd.func19 (by kernel_rfl) rfl #[.iface 36 (.int .i64 m)] (by rfl) rfl rfl (by first | (simp only [List.map_toArray, List.map_cons, List.map_nil, Act.eval, Array.getD_eq_getD_getElem?, Option.getD_some, e112]; done) | (simp only [List.map_toArray, List.map_cons, List.map_nil, Act.eval, Array.getD_eq_getD_getElem?, Option.getD_some, e112]; rfl)) ?_
                    refine (number_one m _ (Laid.below HL_.out GB.out)).mono ?_
                    rintro e_ wN ⟨rfl, hbw_⟩
                    refine ⟨_, rfl, ?_⟩
                    refine hK.out _ _ ⟨(by rw [ha.out]; exact putSel_upk 3 hb_ rfl rfl rfl), below_step GB.out hbw_, blk_below GT.out hbw_, pw_own_below (GW.out) (hbw_), pw_own_below (GR.out) (hbw_), pw_own_below (GK.out) (hbw_)⟩
                  refine steps_cons ?_ ?_
                  · rintro b a w' ⟨ha, Q_GB, Q_GT, Q_GW, Q_GR, Q_GK⟩ hb_ hon hoff
                    refine ⟨_, rfl, fun K hK => ?_⟩
                    have e114 : a.tmps[114]? = some (.slice (some ⟨gw, 0, none⟩) NW cw) := by rw [ha]; exact (putSel_off rfl).trans rfl
                    have e115 : a.tmps[115]? = some (.int .i64 (i : Int)) := by rw [ha]; exact (putSel_off rfl).trans rfl
                    replace ha := Aside0.mk ha
                    have GB := Aside0.mk Q_GB
                    have GT := Aside0.mk Q_GT
                    have GW := Aside0.mk Q_GW
                    have GR := Aside0.mk Q_GR
                    have GK := Aside0.mk Q_GK
                    refine value_ (w1 := w') (v := .pointer (some ⟨gw, i, none⟩)) (by rfl) rfl ?_ ?_
                    · go_simp
                      (try simp only [i64_w])
                      try rfl
                    refine hK.out _ _ ⟨(by rw [ha.out]; exact putSel_upk 4 hb_ rfl rfl rfl), Q_GB, Q_GT, Q_GW, Q_GR, Q_GK⟩
                  refine steps_cons ?_ ?_
                  · rintro b a w' ⟨ha, Q_GB, Q_GT, Q_GW, Q_GR, Q_GK⟩ hb_ hon hoff
                    refine ⟨_, rfl, fun K hK => ?_⟩
                    have e116 : a.tmps[116]? = some (.pointer (some ⟨gw, i, none⟩)) := by rw [ha]; exact putSel_on (e := (7, 116, .pointer (some ⟨gw, i, none⟩))) 4 rfl rfl (hon 7 (by kernel_rfl)) rfl
                    replace ha := Aside0.mk ha
                    have GB := Aside0.mk Q_GB
                    have GT := Aside0.mk Q_GT
                    have GW := Aside0.mk Q_GW
                    have GR := Aside0.mk Q_GR
                    have GK := Aside0.mk Q_GK
                    have hx_ := row_cell GW.out i _ HE2.out
                    refine value_ (w1 := w') (v := .int .i64 m) (by rfl) rfl ?_ ?_
                    · go_simp
                      (try simp only [i64_w])
                      try rfl
                    refine hK.out _ _ ⟨(by rw [ha.out]; exact putSel_upk 5 hb_ rfl rfl rfl), Q_GB, Q_GT, Q_GW, Q_GR, Q_GK⟩
                  refine steps_cons ?_ ?_
                  · rintro b a w' ⟨ha, Q_GB, Q_GT, Q_GW, Q_GR, Q_GK⟩ hb_ hon hoff
                    refine ⟨_, rfl, fun K hK => ?_⟩
                    have e113 : a.tmps[113]? = some (.int .i64 m) := by rw [ha]; exact putSel_on (e := (4, 113, .int .i64 m)) 3 rfl rfl (hon 4 (by kernel_rfl)) rfl
                    have e117 : a.tmps[117]? = some (.int .i64 m) := by rw [ha]; exact putSel_on (e := (8, 117, .int .i64 m)) 5 rfl rfl (hon 8 (by kernel_rfl)) rfl
                    replace ha := Aside0.mk ha
                    have GB := Aside0.mk Q_GB
                    have GT := Aside0.mk Q_GT
                    have GW := Aside0.mk Q_GW
                    have GR := Aside0.mk Q_GR
                    have GK := Aside0.mk Q_GK
                    refine value_ (w1 := w') (v := .bool false) (by rfl) rfl ?_ ?_
                    · go_simp
                      (try simp only [i64_w])
                      try rfl
                    refine hK.out _ _ ⟨(by rw [ha.out]; exact putSel_upk 6 hb_ rfl rfl rfl), Q_GB, Q_GT, Q_GW, Q_GR, Q_GK⟩
                  refine steps_cons ?_ ?_
                  · rintro b a w' ⟨ha, Q_GB, Q_GT, Q_GW, Q_GR, Q_GK⟩ hb_ hon hoff
                    refine ⟨_, rfl, fun K hK => ?_⟩
                    have e118 : a.tmps[118]? = some (.bool false) := by rw [ha]; exact putSel_on (e := (9, 118, .bool false)) 6 rfl rfl (hon 9 (by kernel_rfl)) rfl
                    replace ha := Aside0.mk ha
                    have GB := Aside0.mk Q_GB
                    have GT := Aside0.mk Q_GT
                    have GW := Aside0.mk Q_GW
                    have GR := Aside0.mk Q_GR
                    have GK := Aside0.mk Q_GK
                    refine value_ (w1 := w') (v := .bool false) (by rfl) rfl ?_ ?_
                    · go_simp
                      (try simp only [i64_w])
                      try rfl
                    refine hK.out _ _ ⟨(by rw [ha.out]; exact putSel_upk 7 hb_ rfl rfl rfl), Q_GB, Q_GT, Q_GW, Q_GR, Q_GK⟩
                  refine steps_cons ?_ ?_
                  · rintro b a w' ⟨ha, Q_GB, Q_GT, Q_GW, Q_GR, Q_GK⟩ hb_ hon hoff
                    refine ⟨_, rfl, fun K hK => ?_⟩
                    have e10 : a.tmps[10]? = some (.slice (some ⟨gb, 0, none⟩) NW cb) := by rw [ha]; exact (putSel_off rfl).trans rfl
                    have e119 : a.tmps[119]? = some (.bool false) := by rw [ha]; exact putSel_on (e := (10, 119, .bool false)) 7 rfl rfl (hon 10 (by kernel_rfl)) rfl
                    replace ha := Aside0.mk ha
                    have GB := Aside0.mk Q_GB
                    have GT := Aside0.mk Q_GT
                    have GW := Aside0.mk Q_GW
                    have GR := Aside0.mk Q_GR
                    have GK := Aside0.mk Q_GK
                    refine value_ (w1 := w') (v := .slice (some ⟨gb, 0, none⟩) NW cb) (wanted_on rfl rfl rfl (e119.trans (by first | rfl | (simp [*]; done)))) rfl ?_ ?_
                    · go_simp
                      (try simp only [i64_w])
                      try rfl
                    refine hK.out _ _ ⟨(by rw [ha.out]; exact putSel_upk 8 hb_ rfl rfl rfl), Q_GB, Q_GT, Q_GW, Q_GR, Q_GK⟩
                  refine steps_cons ?_ ?_
                  · rintro b a w' ⟨ha, Q_GB, Q_GT, Q_GW, Q_GR, Q_GK⟩ hb_ hon hoff
                    refine ⟨_, rfl, fun K hK => ?_⟩
                    have e11 : a.tmps[11]? = some (.int .i64 (i : Int)) := by rw [ha]; exact (putSel_off rfl).trans rfl
                    have e119 : a.tmps[119]? = some (.bool false) := by rw [ha]; exact putSel_on (e := (10, 119, .bool false)) 7 rfl rfl (hon 10 (by kernel_rfl)) rfl
                    replace ha := Aside0.mk ha
                    have GB := Aside0.mk Q_GB
                    have GT := Aside0.mk Q_GT
                    have GW := Aside0.mk Q_GW
                    have GR := Aside0.mk Q_GR
                    have GK := Aside0.mk Q_GK
                    refine value_ (w1 := w') (v := .int .i64 (i : Int)) (wanted_on rfl rfl rfl (e119.trans (by first | rfl | (simp [*]; done)))) rfl ?_ ?_
                    · go_simp
                      (try simp only [i64_w])
                      try rfl
                    refine hK.out _ _ ⟨(by rw [ha.out]; exact putSel_upk 9 hb_ rfl rfl rfl), Q_GB, Q_GT, Q_GW, Q_GR, Q_GK⟩
                  refine steps_cons ?_ ?_
                  · rintro b a w' ⟨ha, Q_GB, Q_GT, Q_GW, Q_GR, Q_GK⟩ hb_ hon hoff
                    refine ⟨_, rfl, fun K hK => ?_⟩
                    have e120 : a.tmps[120]? = some (.slice (some ⟨gb, 0, none⟩) NW cb) := by rw [ha]; exact putSel_on (e := (11, 120, .slice (some ⟨gb, 0, none⟩) NW cb)) 8 rfl rfl (hon 11 (by kernel_rfl)) rfl
                    have e121 : a.tmps[121]? = some (.int .i64 (i : Int)) := by rw [ha]; exact putSel_on (e := (12, 121, .int .i64 (i : Int))) 9 rfl rfl (hon 12 (by kernel_rfl)) rfl
                    have e119 : a.tmps[119]? = some (.bool false) := by rw [ha]; exact putSel_on (e := (10, 119, .bool false)) 7 rfl rfl (hon 10 (by kernel_rfl)) rfl
                    replace ha := Aside0.mk ha
                    have GB := Aside0.mk Q_GB
                    have GT := Aside0.mk Q_GT
                    have GW := Aside0.mk Q_GW
                    have GR := Aside0.mk Q_GR
                    have GK := Aside0.mk Q_GK
                    refine value_ (w1 := w') (v := .pointer (some ⟨gb, i, none⟩)) (wanted_on rfl rfl rfl (e119.trans (by first | rfl | (simp [*]; done)))) rfl ?_ ?_
                    · go_simp
                      (try simp only [i64_w])
                      try rfl
                    refine hK.out _ _ ⟨(by rw [ha.out]; exact putSel_upk 10 hb_ rfl rfl rfl), Q_GB, Q_GT, Q_GW, Q_GR, Q_GK⟩
                  refine steps_cons ?_ ?_
                  · rintro b a w' ⟨ha, Q_GB, Q_GT, Q_GW, Q_GR, Q_GK⟩ hb_ hon hoff
                    refine ⟨_, rfl, fun K hK => ?_⟩
                    have e122 : a.tmps[122]? = some (.pointer (some ⟨gb, i, none⟩)) := by rw [ha]; exact putSel_on (e := (13, 122, .pointer (some ⟨gb, i, none⟩))) 10 rfl rfl (hon 13 (by kernel_rfl)) rfl
                    have e119 : a.tmps[119]? = some (.bool false) := by rw [ha]; exact putSel_on (e := (10, 119, .bool false)) 7 rfl rfl (hon 10 (by kernel_rfl)) rfl
                    replace ha := Aside0.mk ha
                    have GB := Aside0.mk Q_GB
                    have GT := Aside0.mk Q_GT
                    have GW := Aside0.mk Q_GW
                    have GR := Aside0.mk Q_GR
                    have GK := Aside0.mk Q_GK
                    have hx_ := row_cell GK.out i _ HE1.out
                    unfold eNum at hx_
                    refine value_ (w1 := w') (v := .iface 36 (.int .i64 m)) (wanted_on rfl rfl rfl (e119.trans (by first | rfl | (simp [*]; done)))) rfl ?_ ?_
                    · go_simp
                      (try simp only [i64_w])
                      try rfl
                    refine hK.out _ _ ⟨(by rw [ha.out]; exact putSel_upk 11 hb_ rfl rfl rfl), Q_GB, Q_GT, Q_GW, Q_GR, Q_GK⟩
                  refine steps_cons ?_ ?_
                  · rintro b a w' ⟨ha, Q_GB, Q_GT, Q_GW, Q_GR, Q_GK⟩ hb_ hon hoff
                    refine ⟨_, rfl, fun K hK => ?_⟩
                    have e123 : a.tmps[123]? = some (.iface 36 (.int .i64 m)) := by rw [ha]; exact putSel_on (e := (14, 123, .iface 36 (.int .i64 m))) 11 rfl rfl (hon 14 (by kernel_rfl)) rfl
                    have e119 : a.tmps[119]? = some (.bool false) := by rw [ha]; exact putSel_on (e := (10, 119, .bool false)) 7 rfl rfl (hon 10 (by kernel_rfl)) rfl
                    replace ha := Aside0.mk ha
                    have GB := Aside0.mk Q_GB
                    have GT := Aside0.mk Q_GT
                    have GW := Aside0.mk Q_GW
                    have GR := Aside0.mk Q_GR
                    have GK := Aside0.mk Q_GK
                    refine goes_ Tryd.func19 (by kernel_rfl) rfl #[.iface 36 (.int .i64 m)] (wanted_on rfl rfl rfl (e119.trans (by first | rfl | (simp [*]; done)))) rfl rfl (by first | (simp only [List.map_toArray, List.map_cons, List.map_nil, Act.eval, Array.getD_eq_getD_getElem?, Option.getD_some, e123, e119]; done) | (simp only [List.map_toArray, List.map_cons, List.map_nil, Act.eval, Array.getD_eq_getD_getElem?, Option.getD_some, e123, e119]; rfl)) ?_
                    refine (number_one m _ (Laid.below HL_.out GB.out)).mono ?_
                    rintro e_ wN ⟨rfl, hbw_⟩
                    refine ⟨_, rfl, ?_⟩
                    refine hK.out _ _ ⟨(by rw [ha.out]; exact putSel_upk 12 hb_ rfl rfl rfl), below_step GB.out hbw_, blk_below GT.out hbw_, pw_own_below (GW.out) (hbw_), pw_own_below (GR.out) (hbw_), pw_own_below (GK.out) (hbw_)⟩
                  refine steps_cons ?_ ?_
                  · rintro b a w' ⟨ha, Q_GB, Q_GT, Q_GW, Q_GR, Q_GK⟩ hb_ hon hoff
                    refine ⟨_, rfl, fun K hK => ?_⟩
                    have e4 : a.tmps[4]? = some (.slice (some ⟨gw, 0, none⟩) NW cw) := by rw [ha]; exact (putSel_off rfl).trans rfl
                    have e119 : a.tmps[119]? = some (.bool false) := by rw [ha]; exact putSel_on (e := (10, 119, .bool false)) 7 rfl rfl (hon 10 (by kernel_rfl)) rfl
                    replace ha := Aside0.mk ha
                    have GB := Aside0.mk Q_GB
                    have GT := Aside0.mk Q_GT
                    have GW := Aside0.mk Q_GW
                    have GR := Aside0.mk Q_GR
                    have GK := Aside0.mk Q_GK
                    refine value_ (w1 := w') (v := .slice (some ⟨gw, 0, none⟩) NW cw) (wanted_on rfl rfl rfl (e119.trans (by first | rfl | (simp [*]; done)))) rfl ?_ ?_
                    · go_simp
                      (try simp only [i64_w])
                      try rfl
                    refine hK.out _ _ ⟨(by rw [ha.out]; exact putSel_upk 13 hb_ rfl rfl rfl), Q_GB, Q_GT, Q_GW, Q_GR, Q_GK⟩
                  refine steps_cons ?_ ?_
                  · rintro b a w' ⟨ha, Q_GB, Q_GT, Q_GW, Q_GR, Q_GK⟩ hb_ hon hoff
                    refine ⟨_, rfl, fun K hK => ?_⟩
                    have e11 : a.tmps[11]? = some (.int .i64 (i : Int)) := by rw [ha]; exact (putSel_off rfl).trans rfl
                    have e119 : a.tmps[119]? = some (.bool false) := by rw [ha]; exact putSel_on (e := (10, 119, .bool false)) 7 rfl rfl (hon 10 (by kernel_rfl)) rfl
                    replace ha := Aside0.mk ha
                    have GB := Aside0.mk Q_GB
                    have GT := Aside0.mk Q_GT
                    have GW := Aside0.mk Q_GW
                    have GR := Aside0.mk Q_GR
                    have GK := Aside0.mk Q_GK
                    refine value_ (w1 := w') (v := .int .i64 (i : Int)) (wanted_on rfl rfl rfl (e119.trans (by first | rfl | (simp [*]; done)))) rfl ?_ ?_
                    · go_simp
                      (try simp only [i64_w])
                      try rfl
                    refine hK.out _ _ ⟨(by rw [ha.out]; exact putSel_upk 14 hb_ rfl rfl rfl), Q_GB, Q_GT, Q_GW, Q_GR, Q_GK⟩
                  refine steps_cons ?_ ?_
                  · rintro b a w' ⟨ha, Q_GB, Q_GT, Q_GW, Q_GR, Q_GK⟩ hb_ hon hoff
                    refine ⟨_, rfl, fun K hK => ?_⟩
                    have e125 : a.tmps[125]? = some (.slice (some ⟨gw, 0, none⟩) NW cw) := by rw [ha]; exact putSel_on (e := (16, 125, .slice (some ⟨gw, 0, none⟩) NW cw)) 13 rfl rfl (hon 16 (by kernel_rfl)) rfl
                    have e126 : a.tmps[126]? = some (.int .i64 (i : Int)) := by rw [ha]; exact putSel_on (e := (17, 126, .int .i64 (i : Int))) 14 rfl rfl (hon 17 (by kernel_rfl)) rfl
                    have e119 : a.tmps[119]? = some (.bool false) := by rw [ha]; exact putSel_on (e := (10, 119, .bool false)) 7 rfl rfl (hon 10 (by kernel_rfl)) rfl
                    replace ha := Aside0.mk ha
                    have GB := Aside0.mk Q_GB
                    have GT := Aside0.mk Q_GT
                    have GW := Aside0.mk Q_GW
                    have GR := Aside0.mk Q_GR
                    have GK := Aside0.mk Q_GK
                    refine value_ (w1 := w') (v := .pointer (some ⟨gw, i, none⟩)) (wanted_on rfl rfl rfl (e119.trans (by first | rfl | (simp [*]; done)))) rfl ?_ ?_
                    · go_simp
                      (try simp only [i64_w])
                      try rfl
                    refine hK.out _ _ ⟨(by rw [ha.out]; exact putSel_upk 15 hb_ rfl rfl rfl), Q_GB, Q_GT, Q_GW, Q_GR, Q_GK⟩
                  refine steps_cons ?_ ?_
                  · rintro b a w' ⟨ha, Q_GB, Q_GT, Q_GW, Q_GR, Q_GK⟩ hb_ hon hoff
                    refine ⟨_, rfl, fun K hK => ?_⟩
                    have e127 : a.tmps[127]? = some (.pointer (some ⟨gw, i, none⟩)) := by rw [ha]; exact putSel_on (e := (18, 127, .pointer (some ⟨gw, i, none⟩))) 15 rfl rfl (hon 18 (by kernel_rfl)) rfl
                    have e119 : a.tmps[119]? = some (.bool false) := by rw [ha]; exact putSel_on (e := (10, 119, .bool false)) 7 rfl rfl (hon 10 (by kernel_rfl)) rfl
                    replace ha := Aside0.mk ha
                    have GB := Aside0.mk Q_GB
                    have GT := Aside0.mk Q_GT
                    have GW := Aside0.mk Q_GW
                    have GR := Aside0.mk Q_GR
                    have GK := Aside0.mk Q_GK
                    have hx_ := row_cell GW.out i _ HE2.out
                    refine value_ (w1 := w') (v := .int .i64 m) (wanted_on rfl rfl rfl (e119.trans (by first | rfl | (simp [*]; done)))) rfl ?_ ?_
                    · go_simp
                      (try simp only [i64_w])
                      try rfl
                    refine hK.out _ _ ⟨(by rw [ha.out]; exact putSel_upk 16 hb_ rfl rfl rfl), Q_GB, Q_GT, Q_GW, Q_GR, Q_GK⟩
                  refine steps_cons ?_ ?_
                  · rintro b a w' ⟨ha, Q_GB, Q_GT, Q_GW, Q_GR, Q_GK⟩ hb_ hon hoff
                    refine ⟨_, rfl, fun K hK => ?_⟩
                    have e124 : a.tmps[124]? = some (.int .i64 m) := by rw [ha]; exact putSel_on (e := (15, 124, .int .i64 m)) 12 rfl rfl (hon 15 (by kernel_rfl)) rfl
                    have e128 : a.tmps[128]? = some (.int .i64 m) := by rw [ha]; exact putSel_on (e := (19, 128, .int .i64 m)) 16 rfl rfl (hon 19 (by kernel_rfl)) rfl
                    have e119 : a.tmps[119]? = some (.bool false) := by rw [ha]; exact putSel_on (e := (10, 119, .bool false)) 7 rfl rfl (hon 10 (by kernel_rfl)) rfl
                    replace ha := Aside0.mk ha
                    have GB := Aside0.mk Q_GB
                    have GT := Aside0.mk Q_GT
                    have GW := Aside0.mk Q_GW
                    have GR := Aside0.mk Q_GR
                    have GK := Aside0.mk Q_GK
                    refine value_ (w1 := w') (v := .bool false) (wanted_on rfl rfl rfl (e119.trans (by first | rfl | (simp [*]; done)))) rfl ?_ ?_
                    · go_simp
                      (try simp only [i64_w])
                      try rfl
                    refine hK.out _ _ ⟨(by rw [ha.out]; exact putSel_upk 17 hb_ rfl rfl rfl), Q_GB, Q_GT, Q_GW, Q_GR, Q_GK⟩
                  refine steps_cons ?_ ?_
                  · rintro b a w' ⟨ha, Q_GB, Q_GT, Q_GW, Q_GR, Q_GK⟩ hb_ hon hoff
                    refine ⟨_, rfl, fun K hK => ?_⟩
                    have e119 : a.tmps[119]? = some (.bool false) := by rw [ha]; exact putSel_on (e := (10, 119, .bool false)) 7 rfl rfl (hon 10 (by kernel_rfl)) rfl
                    have e129 : a.tmps[129]? = some (.bool false) := by rw [ha]; exact putSel_on (e := (20, 129, .bool false)) 17 rfl rfl (hon 20 (by kernel_rfl)) rfl
                    replace ha := Aside0.mk ha
                    have GB := Aside0.mk Q_GB
                    have GT := Aside0.mk Q_GT
                    have GW := Aside0.mk Q_GW
                    have GR := Aside0.mk Q_GR
                    have GK := Aside0.mk Q_GK
                    refine value_ (w1 := w') (v := .bool false) (by rfl) rfl ?_ ?_
                    · go_simp
                      (try simp only [i64_w])
                      try rfl
                    refine hK.out _ _ ⟨(by rw [ha.out]; exact putSel_upk 18 hb_ rfl rfl rfl), Q_GB, Q_GT, Q_GW, Q_GR, Q_GK⟩
                  refine steps_cons ?_ ?_
                  · rintro b a w' ⟨ha, Q_GB, Q_GT, Q_GW, Q_GR, Q_GK⟩ hb_ hon hoff
                    refine ⟨_, rfl, fun K hK => ?_⟩
                    have e130 : a.tmps[130]? = some (.bool false) := by rw [ha]; exact putSel_on (e := (21, 130, .bool false)) 18 rfl rfl (hon 21 (by kernel_rfl)) rfl
                    replace ha := Aside0.mk ha
                    have GB := Aside0.mk Q_GB
                    have GT := Aside0.mk Q_GT
                    have GW := Aside0.mk Q_GW
                    have GR := Aside0.mk Q_GR
                    have GK := Aside0.mk Q_GK
                    refine value_ (w1 := w') (v := .bool false) (by rfl) rfl ?_ ?_
                    · go_simp
                      (try simp only [i64_w])
                      try rfl
                    refine hK.out _ _ ⟨(by rw [ha.out]; exact putSel_upk 19 hb_ rfl rfl rfl), Q_GB, Q_GT, Q_GW, Q_GR, Q_GK⟩
                  refine steps_cons ?_ ?_
                  · rintro b a w' ⟨ha, Q_GB, Q_GT, Q_GW, Q_GR, Q_GK⟩ hb_ hon hoff
                    refine ⟨_, rfl, fun K hK => ?_⟩
                    have e7 : a.tmps[7]? = some (.iface 52 (.slice (some ⟨gm, 0, none⟩) NW cm)) := by rw [ha]; exact (putSel_off rfl).trans rfl
                    have e131 : a.tmps[131]? = some (.bool false) := by rw [ha]; exact putSel_on (e := (22, 131, .bool false)) 19 rfl rfl (hon 22 (by kernel_rfl)) rfl
                    replace ha := Aside0.mk ha
                    have GB := Aside0.mk Q_GB
                    have GT := Aside0.mk Q_GT
                    have GW := Aside0.mk Q_GW
                    have GR := Aside0.mk Q_GR
                    have GK := Aside0.mk Q_GK
                    refine value_ (w1 := w') (v := .iface 52 (.slice (some ⟨gm, 0, none⟩) NW cm)) (wanted_on rfl rfl rfl (e131.trans (by first | rfl | (simp [*]; done)))) rfl ?_ ?_
                    · go_simp
                      (try simp only [i64_w])
                      try rfl
                    refine hK.out _ _ ⟨(by rw [ha.out]; exact putSel_upk 20 hb_ rfl rfl rfl), Q_GB, Q_GT, Q_GW, Q_GR, Q_GK⟩
                  refine steps_cons ?_ ?_
                  · rintro b a w' ⟨ha, Q_GB, Q_GT, Q_GW, Q_GR, Q_GK⟩ hb_ hon hoff
                    refine ⟨_, rfl, fun K hK => ?_⟩
                    have e4 : a.tmps[4]? = some (.slice (some ⟨gw, 0, none⟩) NW cw) := by rw [ha]; exact (putSel_off rfl).trans rfl
                    have e131 : a.tmps[131]? = some (.bool false) := by rw [ha]; exact putSel_on (e := (22, 131, .bool false)) 19 rfl rfl (hon 22 (by kernel_rfl)) rfl
                    replace ha := Aside0.mk ha
                    have GB := Aside0.mk Q_GB
                    have GT := Aside0.mk Q_GT
                    have GW := Aside0.mk Q_GW
                    have GR := Aside0.mk Q_GR
                    have GK := Aside0.mk Q_GK
                    refine value_ (w1 := w') (v := .slice (some ⟨gw, 0, none⟩) NW cw) (wanted_on rfl rfl rfl (e131.trans (by first | rfl | (simp [*]; done)))) rfl ?_ ?_
                    · go_simp
                      (try simp only [i64_w])
                      try rfl
                    refine hK.out _ _ ⟨(by rw [ha.out]; exact putSel_upk 21 hb_ rfl rfl rfl), Q_GB, Q_GT, Q_GW, Q_GR, Q_GK⟩
                  refine steps_cons ?_ ?_
                  · rintro b a w' ⟨ha, Q_GB, Q_GT, Q_GW, Q_GR, Q_GK⟩ hb_ hon hoff
                    refine ⟨_, rfl, fun K hK => ?_⟩
                    have e11 : a.tmps[11]? = some (.int .i64 (i : Int)) := by rw [ha]; exact (putSel_off rfl).trans rfl
                    have e131 : a.tmps[131]? = some (.bool false) := by rw [ha]; exact putSel_on (e := (22, 131, .bool false)) 19 rfl rfl (hon 22 (by kernel_rfl)) rfl
                    replace ha := Aside0.mk ha
                    have GB := Aside0.mk Q_GB
                    have GT := Aside0.mk Q_GT
                    have GW := Aside0.mk Q_GW
                    have GR := Aside0.mk Q_GR
                    have GK := Aside0.mk Q_GK
                    refine value_ (w1 := w') (v := .int .i64 (i : Int)) (wanted_on rfl rfl rfl (e131.trans (by first | rfl | (simp [*]; done)))) rfl ?_ ?_
                    · go_simp
                      (try simp only [i64_w])
                      try rfl
                    refine hK.out _ _ ⟨(by rw [ha.out]; exact putSel_upk 22 hb_ rfl rfl rfl), Q_GB, Q_GT, Q_GW, Q_GR, Q_GK⟩
                  refine steps_cons ?_ ?_
                  · rintro b a w' ⟨ha, Q_GB, Q_GT, Q_GW, Q_GR, Q_GK⟩ hb_ hon hoff
                    refine ⟨_, rfl, fun K hK => ?_⟩
                    have e133 : a.tmps[133]? = some (.slice (some ⟨gw, 0, none⟩) NW cw) := by rw [ha]; exact putSel_on (e := (24, 133, .slice (some ⟨gw, 0, none⟩) NW cw)) 21 rfl rfl (hon 24 (by kernel_rfl)) rfl
                    have e134 : a.tmps[134]? = some (.int .i64 (i : Int)) := by rw [ha]; exact putSel_on (e := (25, 134, .int .i64 (i : Int))) 22 rfl rfl (hon 25 (by kernel_rfl)) rfl
                    have e131 : a.tmps[131]? = some (.bool false) := by rw [ha]; exact putSel_on (e := (22, 131, .bool false)) 19 rfl rfl (hon 22 (by kernel_rfl)) rfl
                    replace ha := Aside0.mk ha
                    have GB := Aside0.mk Q_GB
                    have GT := Aside0.mk Q_GT
                    have GW := Aside0.mk Q_GW
                    have GR := Aside0.mk Q_GR
                    have GK := Aside0.mk Q_GK
                    refine value_ (w1 := w') (v := .pointer (some ⟨gw, i, none⟩)) (wanted_on rfl rfl rfl (e131.trans (by first | rfl | (simp [*]; done)))) rfl ?_ ?_
                    · go_simp
                      (try simp only [i64_w])
                      try rfl
                    refine hK.out _ _ ⟨(by rw [ha.out]; exact putSel_upk 23 hb_ rfl rfl rfl), Q_GB, Q_GT, Q_GW, Q_GR, Q_GK⟩
                  refine steps_cons ?_ ?_
                  · rintro b a w' ⟨ha, Q_GB, Q_GT, Q_GW, Q_GR, Q_GK⟩ hb_ hon hoff
                    refine ⟨_, rfl, fun K hK => ?_⟩
                    have e135 : a.tmps[135]? = some (.pointer (some ⟨gw, i, none⟩)) := by rw [ha]; exact putSel_on (e := (26, 135, .pointer (some ⟨gw, i, none⟩))) 23 rfl rfl (hon 26 (by kernel_rfl)) rfl
                    have e131 : a.tmps[131]? = some (.bool false) := by rw [ha]; exact putSel_on (e := (22, 131, .bool false)) 19 rfl rfl (hon 22 (by kernel_rfl)) rfl
                    replace ha := Aside0.mk ha
                    have GB := Aside0.mk Q_GB
                    have GT := Aside0.mk Q_GT
                    have GW := Aside0.mk Q_GW
                    have GR := Aside0.mk Q_GR
                    have GK := Aside0.mk Q_GK
                    have hx_ := row_cell GW.out i _ HE2.out
                    refine value_ (w1 := w') (v := .int .i64 m) (wanted_on rfl rfl rfl (e131.trans (by first | rfl | (simp [*]; done)))) rfl ?_ ?_
                    · go_simp
                      (try simp only [i64_w])
                      try rfl
                    refine hK.out _ _ ⟨(by rw [ha.out]; exact putSel_upk 24 hb_ rfl rfl rfl), Q_GB, Q_GT, Q_GW, Q_GR, Q_GK⟩
                  refine steps_cons ?_ ?_
                  · rintro b a w' ⟨ha, Q_GB, Q_GT, Q_GW, Q_GR, Q_GK⟩ hb_ hon hoff
                    refine ⟨_, rfl, fun K hK => ?_⟩
                    have e136 : a.tmps[136]? = some (.int .i64 m) := by rw [ha]; exact putSel_on (e := (27, 136, .int .i64 m)) 24 rfl rfl (hon 27 (by kernel_rfl)) rfl
                    have e131 : a.tmps[131]? = some (.bool false) := by rw [ha]; exact putSel_on (e := (22, 131, .bool false)) 19 rfl rfl (hon 22 (by kernel_rfl)) rfl
                    replace ha := Aside0.mk ha
                    have GB := Aside0.mk Q_GB
                    have GT := Aside0.mk Q_GT
                    have GW := Aside0.mk Q_GW
                    have GR := Aside0.mk Q_GR
                    have GK := Aside0.mk Q_GK
                    refine value_ (w1 := w') (v := .iface 36 (.int .i64 m)) (wanted_on rfl rfl rfl (e131.trans (by first | rfl | (simp [*]; done)))) rfl ?_ ?_
                    · go_simp
                      (try simp only [i64_w])
                      try rfl
                    refine hK.out _ _ ⟨(by rw [ha.out]; exact putSel_upk 25 hb_ rfl rfl rfl), Q_GB, Q_GT, Q_GW, Q_GR, Q_GK⟩
                  refine steps_cons ?_ ?_
                  · rintro b a w' ⟨ha, Q_GB, Q_GT, Q_GW, Q_GR, Q_GK⟩ hb_ hon hoff
                    refine ⟨_, rfl, fun K hK => ?_⟩
                    have e132 : a.tmps[132]? = some (.iface 52 (.slice (some ⟨gm, 0, none⟩) NW cm)) := by rw [ha]; exact putSel_on (e := (23, 132, .iface 52 (.slice (some ⟨gm, 0, none⟩) NW cm))) 20 rfl rfl (hon 23 (by kernel_rfl)) rfl
                    have e137 : a.tmps[137]? = some (.iface 36 (.int .i64 m)) := by rw [ha]; exact putSel_on (e := (28, 137, .iface 36 (.int .i64 m))) 25 rfl rfl (hon 28 (by kernel_rfl)) rfl
                    have e131 : a.tmps[131]? = some (.bool false) := by rw [ha]; exact putSel_on (e := (22, 131, .bool false)) 19 rfl rfl (hon 22 (by kernel_rfl)) rfl
                    replace ha := Aside0.mk ha
                    have GB := Aside0.mk Q_GB
                    have GT := Aside0.mk Q_GT
                    have GW := Aside0.mk Q_GW
                    have GR := Aside0.mk Q_GR
                    have GK := Aside0.mk Q_GK
                    refine goes_ Tryd.func13 (by kernel_rfl) rfl #[.iface 52 (.slice (some ⟨gm, 0, none⟩) NW cm), .iface 36 (.int .i64 m)] (wanted_on rfl rfl rfl (e131.trans (by first | rfl | (simp [*]; done)))) rfl rfl (by first | (simp only [List.map_toArray, List.map_cons, List.map_nil, Act.eval, Array.getD_eq_getD_getElem?, Option.getD_some, e132, e137, e131]; done) | (simp only [List.map_toArray, List.map_cons, List.map_nil, Act.eval, Array.getD_eq_getD_getElem?, Option.getD_some, e132, e137, e131]; rfl)) ?_
                    refine (is_manyJ HMM.out _ GR.out HNW.out).mono ?_
                    rintro e_ wN ⟨rfl, hbw_⟩
                    refine ⟨_, rfl, ?_⟩
                    refine hK.out _ _ ⟨(by rw [ha.out]; exact putSel_upk 26 hb_ rfl rfl rfl), below_step GB.out hbw_, blk_below GT.out hbw_, pw_own_below (GW.out) (hbw_), pw_own_below (GR.out) (hbw_), pw_own_below (GK.out) (hbw_)⟩
                  refine steps_cons ?_ ?_
                  · rintro b a w' ⟨ha, Q_GB, Q_GT, Q_GW, Q_GR, Q_GK⟩ hb_ hon hoff
                    refine ⟨_, rfl, fun K hK => ?_⟩
                    have e138 : a.tmps[138]? = some (.bool true) := by rw [ha]; exact putSel_on (e := (29, 138, .bool true)) 26 rfl rfl (hon 29 (by kernel_rfl)) rfl
                    have e131 : a.tmps[131]? = some (.bool false) := by rw [ha]; exact putSel_on (e := (22, 131, .bool false)) 19 rfl rfl (hon 22 (by kernel_rfl)) rfl
                    replace ha := Aside0.mk ha
                    have GB := Aside0.mk Q_GB
                    have GT := Aside0.mk Q_GT
                    have GW := Aside0.mk Q_GW
                    have GR := Aside0.mk Q_GR
                    have GK := Aside0.mk Q_GK
                    refine value_ (w1 := w') (v := .bool false) (wanted_on rfl rfl rfl (e131.trans (by first | rfl | (simp [*]; done)))) rfl ?_ ?_
                    · go_simp
                      (try simp only [i64_w])
                      try rfl
                    refine hK.out _ _ ⟨(by rw [ha.out]; exact putSel_upk 27 hb_ rfl rfl rfl), Q_GB, Q_GT, Q_GW, Q_GR, Q_GK⟩
                  refine steps_cons ?_ ?_
                  · rintro b a w' ⟨ha, Q_GB, Q_GT, Q_GW, Q_GR, Q_GK⟩ hb_ hon hoff
                    refine ⟨_, rfl, fun K hK => ?_⟩
                    have e131 : a.tmps[131]? = some (.bool false) := by rw [ha]; exact putSel_on (e := (22, 131, .bool false)) 19 rfl rfl (hon 22 (by kernel_rfl)) rfl
                    have e139 : a.tmps[139]? = some (.bool false) := by rw [ha]; exact putSel_on (e := (30, 139, .bool false)) 27 rfl rfl (hon 30 (by kernel_rfl)) rfl
                    replace ha := Aside0.mk ha
                    have GB := Aside0.mk Q_GB
                    have GT := Aside0.mk Q_GT
                    have GW := Aside0.mk Q_GW
                    have GR := Aside0.mk Q_GR
                    have GK := Aside0.mk Q_GK
                    refine value_ (w1 := w') (v := .bool false) (by rfl) rfl ?_ ?_
                    · go_simp
                      (try simp only [i64_w])
                      try rfl
                    refine hK.out _ _ ⟨(by rw [ha.out]; exact putSel_upk 28 hb_ rfl rfl rfl), Q_GB, Q_GT, Q_GW, Q_GR, Q_GK⟩
                  exact steps_nil
                rintro b a w9 hall ⟨ha, Q_GB, Q_GT, Q_GW, Q_GR, Q_GK⟩
                clear GB GK GR GT GW
                have hb0_ := hall 0 (by kernel_rfl)
                have hb2_ := hall 2 (by kernel_rfl)
                have hb3_ := hall 3 (by kernel_rfl)
                have hb4_ := hall 4 (by kernel_rfl)
                have hb7_ := hall 7 (by kernel_rfl)
                have hb8_ := hall 8 (by kernel_rfl)
                have hb9_ := hall 9 (by kernel_rfl)
                have hb10_ := hall 10 (by kernel_rfl)
                have hb11_ := hall 11 (by kernel_rfl)
                have hb12_ := hall 12 (by kernel_rfl)
                have hb13_ := hall 13 (by kernel_rfl)
                have hb14_ := hall 14 (by kernel_rfl)
                have hb15_ := hall 15 (by kernel_rfl)
                have hb16_ := hall 16 (by kernel_rfl)
                have hb17_ := hall 17 (by kernel_rfl)
                have hb18_ := hall 18 (by kernel_rfl)
                have hb19_ := hall 19 (by kernel_rfl)
                have hb20_ := hall 20 (by kernel_rfl)
                have hb21_ := hall 21 (by kernel_rfl)
                have hb22_ := hall 22 (by kernel_rfl)
                have hb23_ := hall 23 (by kernel_rfl)
                have hb24_ := hall 24 (by kernel_rfl)
                have hb25_ := hall 25 (by kernel_rfl)
                have hb26_ := hall 26 (by kernel_rfl)
                have hb27_ := hall 27 (by kernel_rfl)
                have hb28_ := hall 28 (by kernel_rfl)
                have hb29_ := hall 29 (by kernel_rfl)
                have hb30_ := hall 30 (by kernel_rfl)
                have hb31_ := hall 31 (by kernel_rfl)
                subst ha
                simp only [putSel, hb0_, hb2_, hb3_, hb4_, hb7_, hb8_, hb9_, hb10_, hb11_, hb12_, hb13_, hb14_, hb15_, hb16_, hb17_, hb18_, hb19_, hb20_, hb21_, hb22_, hb23_, hb24_, hb25_, hb26_, hb27_, hb28_, hb29_, hb30_, hb31_, if_true, Act.put, List.setIfInBounds_toArray, List.set_cons_zero, List.set_cons_succ]
                have GB := Aside0.mk Q_GB
                clear Q_GB
                have GT := Aside0.mk Q_GT
                clear Q_GT
                have GW := Aside0.mk Q_GW
                clear Q_GW
                have GR := Aside0.mk Q_GR
                clear Q_GR
                have GK := Aside0.mk Q_GK
                clear Q_GK
                clear hall hb0_ hb2_ hb3_ hb4_ hb7_ hb8_ hb9_ hb10_ hb11_ hb12_ hb13_ hb14_ hb15_ hb16_ hb17_ hb18_ hb19_ hb20_ hb21_ hb22_ hb23_ hb24_ hb25_ hb26_ hb27_ hb28_ hb29_ hb30_ hb31_
                go_wp2_with fail
                go_roundg (NW + 1 - (i + 1))
                case measure => have := HI2.out; omega
                case rel => exact ⟨i + 1, by rw [HU.out], ⟨rfl, by have := HLT.out; omega⟩, GB, GR, GK, GW, GT⟩
              · have u1 : decide ((i : Int) < (NW : Int)) = false := decide_eq_false (by omega)
                have u2 : decide (i < NW) = false := decide_eq_false hlt
                have u5 := eq_false hlt
                go_wp2_with fail
                go_ret
                exact ⟨by first | rfl | simp, GB.out⟩


end Go.Proofs.YtegcaniikdibdaaDoor.VFaultJoins
