/- Contracts of functions of this seat: each call comes to what its Lean function computes; no condition beyond what each theorem states. Printed by a program of this session's own laid over the kit's printer. -/
import Derived.Test.YtmncfcebjohloaaVInodeMapsx0
import Derived.Test.YtmncfcebjohloaaVInodeMapsx1
import Derived.Test.YtmncfcebjohloaaVInodeMapsx6
import Derived.Test.YtmncfcebjohloaaVInodeMapsx7
import Derived.Test.YtmncfcebjohloaaVInodeMapsx8
import Derived.Test.YtmncfcebjohloaaVInodeMapsx9
namespace Go.Proofs.Ytmncfcebjohloaa.VInodeMaps
open Go.RowKit Go.Proofs.YtmncfcebjohloaaW.PrintWords Go.Proofs.YtmncfcebjohloaaW.PrintLast Go.Proofs.YtmncfcebjohloaaW.PrintMore
attribute [local go_sem] max2_int min2_int max_two min_two max_three min_three max_four min_four   -- for this text's walks alone
set_option linter.unusedVariables false
set_option linter.unusedSimpArgs false

-- @GIVEN posthorselaw08_InodeMaps
/-! ### posthorselaw08_InodeMaps: by hand -/
abbrev ExtL := S41
abbrev ExtR := S78
def mapsTail (k : Nat) (xs : List S46) (ys : List ExtR) (block sector : Int) : Option Bool :=
  (posthorseref08_Sectors.f k 0 ys).bind fun S => (inode_Map.f k 0 xs block).bind fun m => (inode_Block.f k 0 xs sector).bind fun q => (posthorseref08_Has.f k S sector).bind fun at_ => (inode_Size.f k 0 xs).bind fun n =>
    if n = (S.length : Int) ∧ m.2 = decide (0 ≤ block ∧ block < (S.length : Int)) ∧ q.2 = decide (0 ≤ at_) ∧ m.1 = (if m.2 = true then rd S block else 0) ∧ q.1 = (if q.2 = true then at_ else 0) then some true else none
def posthorselaw08_InodeMaps.f (k : Nat) (l0 : List ExtL) (a1 a2 : Int) : Option Bool :=
  (posthorselaw08_speaks.f k).bind fun t => if t = true then (posthorselaw08_both.f k 0 l0).bind fun b => if b.1 = 0 ∧ b.2.2.1 = 0 then (posthorseref08_Right.f k 0 b.2.2.2 2048).bind fun r => if r = true then mapsTail k b.2.1 b.2.2.2 a1 a2 else some true else none else none
theorem two_old (w : World) (o1 o2 : Obj) : ((w.alloc o1).alloc o2).heap[w.heap.size]? = some o1 := (Below.heap_alloc _ _ _ (by simp)).trans (heap_alloc_new _ _)
theorem two_new (w : World) (o1 o2 : Obj) : ((w.alloc o1).alloc o2).heap[w.heap.size + 1]? = some o2 := by
  have := heap_alloc_new (w.alloc o1) o2
  rw [show (w.alloc o1).heap.size = w.heap.size + 1 by simp] at this
  exact this
set_option maxHeartbeats 8000000 in
set_option maxRecDepth 100000 in
theorem posthorselaw08_InodeMaps.calls (k : Nat) (A0 : Option Addr) (c0 : Nat) (l0 : List ExtL) (a1 a2 : Int) (r : Bool) (w : World) (hr0 : Kd.C k41 w A0 l0.length l0) (hc0 : l0.length ≤ c0) (h : posthorselaw08_InodeMaps.f k l0 a1 a2 = some r) :
    Calls Try.prog 3 #[.slice A0 l0.length c0, .int .i64 a1, .int .i64 a2] w fun e w' => e = .returned (.bool r) ∧ Below w.heap.size w w' := by
  have HR0 := Aside0.mk hr0
  have HC0 := Aside0.mk hc0
  clear hr0 hc0
  unfold posthorselaw08_InodeMaps.f at h
  obtain ⟨t, hP, h⟩ := Option.bind_eq_some_iff.mp h
  cases t with
  | false => rw [if_neg (by decide)] at h; cases h
  | true =>
  rw [if_pos rfl] at h
  obtain ⟨⟨r1, xs, r3, ys⟩, hB, h⟩ := Option.bind_eq_some_iff.mp h
  by_cases hz : r1 = 0 ∧ r3 = 0
  case neg => rw [if_neg hz] at h; cases h
  rw [if_pos hz] at h
  obtain ⟨rfl, rfl⟩ := hz
  obtain ⟨t, hRt, h⟩ := Option.bind_eq_some_iff.mp h
  dsimp only at hRt h
  have HP := Aside0.mk hP
  have HBo := Aside0.mk hB
  have HRt := Aside0.mk hRt
  clear hP hB hRt
  cases t with
  | false =>
    rw [if_neg (by decide)] at h
    obtain rfl := Option.some.inj h
    clear h
    go_enter Try.func3, Try.ntmps3
    go_wp2_with (first
      | (go_at_call 8; (with_reducible refine (posthorselaw08_speaks.calls k true _ HP.out).mono ?_); rintro e w1 ⟨rfl, hb1⟩; have HB1 := Aside0.mk hb1; have HR1 := Aside0.mk (Kd.C_below HR0.out hb1); clear hb1)
      | (go_at_call 9; (with_reducible refine (posthorselaw08_both.calls k 0 A0 c0 l0 0 xs 0 ys _ HR1.out HC0.out HBo.out).mono ?_); rintro e w2 ⟨v1_, v3_, rfl, hr2, hr3, hb2⟩; obtain ⟨Aa, ca, rfl, hca, _⟩ := Kd.R_reads hr2; obtain ⟨Ab, cb, rfl, hcb, _⟩ := Kd.R_reads hr3; have HB2 := below_step HB1.out hb2; have HXS := Aside0.mk (Kd.R_lower (Kd.R_alloc (Kd.R_alloc hr2 (.cells #[.int .i64 0, .slice Aa xs.length ca] 26)) (.cells #[.int .i64 0, .slice Ab ys.length cb] 29)) (Nat.zero_le _)); have HYS := Aside0.mk (Kd.R_lower (Kd.R_alloc (Kd.R_alloc hr3 (.cells #[.int .i64 0, .slice Aa xs.length ca] 26)) (.cells #[.int .i64 0, .slice Ab ys.length cb] 29)) (Nat.zero_le _)); have HCA := Aside0.mk hca; have HCB := Aside0.mk hcb; have HB3 := Aside0.mk (below_alloc (below_alloc HB2 (.cells #[.int .i64 0, .slice Aa xs.length ca] 26)) (.cells #[.int .i64 0, .slice Ab ys.length cb] 29)); have HA3 := Aside0.mk (two_old w2 (.cells #[.int .i64 0, .slice Aa xs.length ca] 26) (.cells #[.int .i64 0, .slice Ab ys.length cb] 29)); have HD3 := Aside0.mk (two_new w2 (.cells #[.int .i64 0, .slice Aa xs.length ca] 26) (.cells #[.int .i64 0, .slice Ab ys.length cb] 29)); have hd30 := (blk_cell HD3.out 0).trans rfl; have hd31 := (blk_cell HD3.out 1).trans rfl; clear hb2 hr2 hr3 hca hcb)
      | (go_at_call 10; (with_reducible refine (posthorseref08_Right.calls k 0 Ab cb ys 2048 false _ (Kd.R_reads' HYS.out).2.2 HCB.out HRt.out).mono ?_); rintro e w4 ⟨rfl, hb⟩; have HXS4 := Aside0.mk (Kd.R_below HXS.out hb); have HYS4 := Aside0.mk (Kd.R_below HYS.out hb); have HB4 := Aside0.mk (below_step HB3.out hb); have HA4 := Aside0.mk (blk_below HA3.out hb); have HD4 := Aside0.mk (blk_below HD3.out hb); have ha40 := (blk_cell HA4.out 0).trans rfl; have ha41 := (blk_cell HA4.out 1).trans rfl; have hd40 := (blk_cell HD4.out 0).trans rfl; have hd41 := (blk_cell HD4.out 1).trans rfl; clear hb))
    go_ret
    exact ⟨rfl, HB4.out⟩
  | true =>
    rw [if_pos rfl] at h
    unfold mapsTail at h
    obtain ⟨Sx, hSx, h⟩ := Option.bind_eq_some_iff.mp h
    obtain ⟨⟨ms, mo⟩, hMp, h⟩ := Option.bind_eq_some_iff.mp h
    obtain ⟨⟨qs, qo⟩, hBk, h⟩ := Option.bind_eq_some_iff.mp h
    obtain ⟨at_, hHs, h⟩ := Option.bind_eq_some_iff.mp h
    obtain ⟨n, hSz, h⟩ := Option.bind_eq_some_iff.mp h
    by_cases hc : n = (Sx.length : Int) ∧ mo = decide (0 ≤ a1 ∧ a1 < (Sx.length : Int)) ∧ qo = decide (0 ≤ at_) ∧ ms = (if mo = true then rd Sx a1 else 0) ∧ qs = (if qo = true then at_ else 0)
    case neg => rw [if_neg hc] at h; cases h
    rw [if_pos hc] at h
    obtain rfl := Option.some.inj h
    obtain ⟨rfl, e1, e2, e3, e4⟩ := hc
    have HSx := Aside0.mk hSx
    have HMp := Aside0.mk hMp
    have HBk := Aside0.mk hBk
    have HHs := Aside0.mk hHs
    have HSz := Aside0.mk hSz
    clear h hSx hMp hBk hHs hSz
    by_cases g3 : 0 ≤ at_
    · by_cases g1 : 0 ≤ a1
      · by_cases g2 : a1 < (Sx.length : Int)
        · have d3 : decide (0 ≤ at_) = true := decide_eq_true g3
          have d1 : decide (0 ≤ a1) = true := decide_eq_true g1
          have d2 : decide (a1 < (Sx.length : Int)) = true := decide_eq_true g2
          have HIN := Aside0.mk (And.intro g1 g2)
          have p1 := eq_true g1
          have p2 := eq_true g2
          rw [decide_eq_true (And.intro g1 g2)] at e1
          rw [d3] at e2
          subst e1 e2
          simp only [if_true, Bool.false_eq_true, if_false] at e3 e4
          subst ms
          subst qs
          have f1 := eq_true g3
          have n1 : (rd Sx a1 != rd Sx a1) = false := by simp
          have n2 : (at_ != at_) = false := by simp
          go_enter Try.func3, Try.ntmps3
          go_wp2_with (first
            | (go_at_call 8; (with_reducible refine (posthorselaw08_speaks.calls k true _ HP.out).mono ?_); rintro e w1 ⟨rfl, hb1⟩; have HB1 := Aside0.mk hb1; have HR1 := Aside0.mk (Kd.C_below HR0.out hb1); clear hb1)
            | (go_at_call 9; (with_reducible refine (posthorselaw08_both.calls k 0 A0 c0 l0 0 xs 0 ys _ HR1.out HC0.out HBo.out).mono ?_); rintro e w2 ⟨v1_, v3_, rfl, hr2, hr3, hb2⟩; obtain ⟨Aa, ca, rfl, hca, _⟩ := Kd.R_reads hr2; obtain ⟨Ab, cb, rfl, hcb, _⟩ := Kd.R_reads hr3; have HB2 := below_step HB1.out hb2; have HXS := Aside0.mk (Kd.R_lower (Kd.R_alloc (Kd.R_alloc hr2 (.cells #[.int .i64 0, .slice Aa xs.length ca] 26)) (.cells #[.int .i64 0, .slice Ab ys.length cb] 29)) (Nat.zero_le _)); have HYS := Aside0.mk (Kd.R_lower (Kd.R_alloc (Kd.R_alloc hr3 (.cells #[.int .i64 0, .slice Aa xs.length ca] 26)) (.cells #[.int .i64 0, .slice Ab ys.length cb] 29)) (Nat.zero_le _)); have HCA := Aside0.mk hca; have HCB := Aside0.mk hcb; have HB3 := Aside0.mk (below_alloc (below_alloc HB2 (.cells #[.int .i64 0, .slice Aa xs.length ca] 26)) (.cells #[.int .i64 0, .slice Ab ys.length cb] 29)); have HA3 := Aside0.mk (two_old w2 (.cells #[.int .i64 0, .slice Aa xs.length ca] 26) (.cells #[.int .i64 0, .slice Ab ys.length cb] 29)); have HD3 := Aside0.mk (two_new w2 (.cells #[.int .i64 0, .slice Aa xs.length ca] 26) (.cells #[.int .i64 0, .slice Ab ys.length cb] 29)); have hd30 := (blk_cell HD3.out 0).trans rfl; have hd31 := (blk_cell HD3.out 1).trans rfl; clear hb2 hr2 hr3 hca hcb)
            | (go_at_call 10; (with_reducible refine (posthorseref08_Right.calls k 0 Ab cb ys 2048 true _ (Kd.R_reads' HYS.out).2.2 HCB.out HRt.out).mono ?_); rintro e w4 ⟨rfl, hb⟩; have HXS4 := Aside0.mk (Kd.R_below HXS.out hb); have HYS4 := Aside0.mk (Kd.R_below HYS.out hb); have HB4 := Aside0.mk (below_step HB3.out hb); have HA4 := Aside0.mk (blk_below HA3.out hb); have HD4 := Aside0.mk (blk_below HD3.out hb); have ha40 := (blk_cell HA4.out 0).trans rfl; have ha41 := (blk_cell HA4.out 1).trans rfl; have hd40 := (blk_cell HD4.out 0).trans rfl; have hd41 := (blk_cell HD4.out 1).trans rfl; clear hb)
            | (go_at_call 11; (with_reducible refine (posthorseref08_Sectors.calls k 0 Ab cb ys Sx _ (Kd.R_reads' HYS4.out).2.2 HCB.out HSx.out).mono ?_); rintro e w5 ⟨v0_, rfl, hrs, hb⟩; have HXS5 := Aside0.mk (Kd.R_below HXS4.out hb); have HYS5 := Aside0.mk (Kd.R_below HYS4.out hb); have HB5 := Aside0.mk (below_step HB4.out hb); have HA5 := Aside0.mk (blk_below HA4.out hb); have HD5 := Aside0.mk (blk_below HD4.out hb); have ha50 := (blk_cell HA5.out 0).trans rfl; have ha51 := (blk_cell HA5.out 1).trans rfl; have hd50 := (blk_cell HD5.out 0).trans rfl; have hd51 := (blk_cell HD5.out 1).trans rfl; obtain ⟨As, cs, rfl, hcs, _⟩ := Kd.R_reads hrs; have HS5 := Aside0.mk hrs; have HCS := Aside0.mk hcs; clear hrs hcs; clear hb)
            | (go_at_call 12; (with_reducible refine (inode_Map.calls k 0 Aa ca xs a1 _ _ _ (Kd.R_reads' HXS5.out).2.2 HCA.out HMp.out).mono ?_); rintro e w6 ⟨rfl, hb⟩; have HXS6 := Aside0.mk (Kd.R_below HXS5.out hb); have HYS6 := Aside0.mk (Kd.R_below HYS5.out hb); have HB6 := Aside0.mk (below_step HB5.out hb); have HA6 := Aside0.mk (blk_below HA5.out hb); have HD6 := Aside0.mk (blk_below HD5.out hb); have ha60 := (blk_cell HA6.out 0).trans rfl; have ha61 := (blk_cell HA6.out 1).trans rfl; have hd60 := (blk_cell HD6.out 0).trans rfl; have hd61 := (blk_cell HD6.out 1).trans rfl; have HS6 := Aside0.mk (Kd.R_below HS5.out hb); clear hb)
            | (go_at_call 13; (with_reducible refine (inode_Block.calls k 0 Aa ca xs a2 _ _ _ (Kd.R_reads' HXS6.out).2.2 HCA.out HBk.out).mono ?_); rintro e w7 ⟨rfl, hb⟩; have HXS7 := Aside0.mk (Kd.R_below HXS6.out hb); have HYS7 := Aside0.mk (Kd.R_below HYS6.out hb); have HB7 := Aside0.mk (below_step HB6.out hb); have HA7 := Aside0.mk (blk_below HA6.out hb); have HD7 := Aside0.mk (blk_below HD6.out hb); have ha70 := (blk_cell HA7.out 0).trans rfl; have ha71 := (blk_cell HA7.out 1).trans rfl; have hd70 := (blk_cell HD7.out 0).trans rfl; have hd71 := (blk_cell HD7.out 1).trans rfl; have HS7 := Aside0.mk (Kd.R_below HS6.out hb); clear hb)
            | (go_at_call 14; (with_reducible refine (posthorseref08_Has.calls k As cs Sx a2 at_ _ (Kd.R_reads' HS7.out).2.2 HCS.out HHs.out).mono ?_); rintro e w8 ⟨rfl, hb_⟩; have hb := hb_.below; clear hb_; have HXS8 := Aside0.mk (Kd.R_below HXS7.out hb); have HYS8 := Aside0.mk (Kd.R_below HYS7.out hb); have HB8 := Aside0.mk (below_step HB7.out hb); have HA8 := Aside0.mk (blk_below HA7.out hb); have HD8 := Aside0.mk (blk_below HD7.out hb); have ha80 := (blk_cell HA8.out 0).trans rfl; have ha81 := (blk_cell HA8.out 1).trans rfl; have hd80 := (blk_cell HD8.out 0).trans rfl; have hd81 := (blk_cell HD8.out 1).trans rfl; have HS8 := Aside0.mk (Kd.R_below HS7.out hb); clear hb)
            | (go_at_call 15; (with_reducible refine (inode_Size.calls k 0 Aa ca xs (Sx.length : Int) _ (Kd.R_reads' HXS8.out).2.2 HCA.out HSz.out).mono ?_); rintro e w9 ⟨rfl, hb⟩; have HXS9 := Aside0.mk (Kd.R_below HXS8.out hb); have HYS9 := Aside0.mk (Kd.R_below HYS8.out hb); have HB9 := Aside0.mk (below_step HB8.out hb); have HA9 := Aside0.mk (blk_below HA8.out hb); have HD9 := Aside0.mk (blk_below HD8.out hb); have ha90 := (blk_cell HA9.out 0).trans rfl; have ha91 := (blk_cell HA9.out 1).trans rfl; have hd90 := (blk_cell HD9.out 0).trans rfl; have hd91 := (blk_cell HD9.out 1).trans rfl; have HS9 := Aside0.mk (Kd.R_below HS8.out hb); obtain ⟨adx, hex, hlx⟩ := Kd.at_int (Kd.R_reads' HS9.out).2.2 a1 HIN.out.1 HIN.out.2; cases hex; clear hb))
          go_ret
          exact ⟨by first | rfl | simp, HB9.out⟩
        · have d3 : decide (0 ≤ at_) = true := decide_eq_true g3
          have d1 : decide (0 ≤ a1) = true := decide_eq_true g1
          have d2 : decide (a1 < (Sx.length : Int)) = false := decide_eq_false g2
          rw [decide_eq_false (fun h => g2 h.2)] at e1
          rw [d3] at e2
          subst e1 e2
          simp only [if_true, Bool.false_eq_true, if_false] at e3 e4
          subst ms
          subst qs
          have f1 := eq_true g3
          have n2 : (at_ != at_) = false := by simp
          go_enter Try.func3, Try.ntmps3
          go_wp2_with (first
            | (go_at_call 8; (with_reducible refine (posthorselaw08_speaks.calls k true _ HP.out).mono ?_); rintro e w1 ⟨rfl, hb1⟩; have HB1 := Aside0.mk hb1; have HR1 := Aside0.mk (Kd.C_below HR0.out hb1); clear hb1)
            | (go_at_call 9; (with_reducible refine (posthorselaw08_both.calls k 0 A0 c0 l0 0 xs 0 ys _ HR1.out HC0.out HBo.out).mono ?_); rintro e w2 ⟨v1_, v3_, rfl, hr2, hr3, hb2⟩; obtain ⟨Aa, ca, rfl, hca, _⟩ := Kd.R_reads hr2; obtain ⟨Ab, cb, rfl, hcb, _⟩ := Kd.R_reads hr3; have HB2 := below_step HB1.out hb2; have HXS := Aside0.mk (Kd.R_lower (Kd.R_alloc (Kd.R_alloc hr2 (.cells #[.int .i64 0, .slice Aa xs.length ca] 26)) (.cells #[.int .i64 0, .slice Ab ys.length cb] 29)) (Nat.zero_le _)); have HYS := Aside0.mk (Kd.R_lower (Kd.R_alloc (Kd.R_alloc hr3 (.cells #[.int .i64 0, .slice Aa xs.length ca] 26)) (.cells #[.int .i64 0, .slice Ab ys.length cb] 29)) (Nat.zero_le _)); have HCA := Aside0.mk hca; have HCB := Aside0.mk hcb; have HB3 := Aside0.mk (below_alloc (below_alloc HB2 (.cells #[.int .i64 0, .slice Aa xs.length ca] 26)) (.cells #[.int .i64 0, .slice Ab ys.length cb] 29)); have HA3 := Aside0.mk (two_old w2 (.cells #[.int .i64 0, .slice Aa xs.length ca] 26) (.cells #[.int .i64 0, .slice Ab ys.length cb] 29)); have HD3 := Aside0.mk (two_new w2 (.cells #[.int .i64 0, .slice Aa xs.length ca] 26) (.cells #[.int .i64 0, .slice Ab ys.length cb] 29)); have hd30 := (blk_cell HD3.out 0).trans rfl; have hd31 := (blk_cell HD3.out 1).trans rfl; clear hb2 hr2 hr3 hca hcb)
            | (go_at_call 10; (with_reducible refine (posthorseref08_Right.calls k 0 Ab cb ys 2048 true _ (Kd.R_reads' HYS.out).2.2 HCB.out HRt.out).mono ?_); rintro e w4 ⟨rfl, hb⟩; have HXS4 := Aside0.mk (Kd.R_below HXS.out hb); have HYS4 := Aside0.mk (Kd.R_below HYS.out hb); have HB4 := Aside0.mk (below_step HB3.out hb); have HA4 := Aside0.mk (blk_below HA3.out hb); have HD4 := Aside0.mk (blk_below HD3.out hb); have ha40 := (blk_cell HA4.out 0).trans rfl; have ha41 := (blk_cell HA4.out 1).trans rfl; have hd40 := (blk_cell HD4.out 0).trans rfl; have hd41 := (blk_cell HD4.out 1).trans rfl; clear hb)
            | (go_at_call 11; (with_reducible refine (posthorseref08_Sectors.calls k 0 Ab cb ys Sx _ (Kd.R_reads' HYS4.out).2.2 HCB.out HSx.out).mono ?_); rintro e w5 ⟨v0_, rfl, hrs, hb⟩; have HXS5 := Aside0.mk (Kd.R_below HXS4.out hb); have HYS5 := Aside0.mk (Kd.R_below HYS4.out hb); have HB5 := Aside0.mk (below_step HB4.out hb); have HA5 := Aside0.mk (blk_below HA4.out hb); have HD5 := Aside0.mk (blk_below HD4.out hb); have ha50 := (blk_cell HA5.out 0).trans rfl; have ha51 := (blk_cell HA5.out 1).trans rfl; have hd50 := (blk_cell HD5.out 0).trans rfl; have hd51 := (blk_cell HD5.out 1).trans rfl; obtain ⟨As, cs, rfl, hcs, _⟩ := Kd.R_reads hrs; have HS5 := Aside0.mk hrs; have HCS := Aside0.mk hcs; clear hrs hcs; clear hb)
            | (go_at_call 12; (with_reducible refine (inode_Map.calls k 0 Aa ca xs a1 _ _ _ (Kd.R_reads' HXS5.out).2.2 HCA.out HMp.out).mono ?_); rintro e w6 ⟨rfl, hb⟩; have HXS6 := Aside0.mk (Kd.R_below HXS5.out hb); have HYS6 := Aside0.mk (Kd.R_below HYS5.out hb); have HB6 := Aside0.mk (below_step HB5.out hb); have HA6 := Aside0.mk (blk_below HA5.out hb); have HD6 := Aside0.mk (blk_below HD5.out hb); have ha60 := (blk_cell HA6.out 0).trans rfl; have ha61 := (blk_cell HA6.out 1).trans rfl; have hd60 := (blk_cell HD6.out 0).trans rfl; have hd61 := (blk_cell HD6.out 1).trans rfl; have HS6 := Aside0.mk (Kd.R_below HS5.out hb); clear hb)
            | (go_at_call 13; (with_reducible refine (inode_Block.calls k 0 Aa ca xs a2 _ _ _ (Kd.R_reads' HXS6.out).2.2 HCA.out HBk.out).mono ?_); rintro e w7 ⟨rfl, hb⟩; have HXS7 := Aside0.mk (Kd.R_below HXS6.out hb); have HYS7 := Aside0.mk (Kd.R_below HYS6.out hb); have HB7 := Aside0.mk (below_step HB6.out hb); have HA7 := Aside0.mk (blk_below HA6.out hb); have HD7 := Aside0.mk (blk_below HD6.out hb); have ha70 := (blk_cell HA7.out 0).trans rfl; have ha71 := (blk_cell HA7.out 1).trans rfl; have hd70 := (blk_cell HD7.out 0).trans rfl; have hd71 := (blk_cell HD7.out 1).trans rfl; have HS7 := Aside0.mk (Kd.R_below HS6.out hb); clear hb)
            | (go_at_call 14; (with_reducible refine (posthorseref08_Has.calls k As cs Sx a2 at_ _ (Kd.R_reads' HS7.out).2.2 HCS.out HHs.out).mono ?_); rintro e w8 ⟨rfl, hb_⟩; have hb := hb_.below; clear hb_; have HXS8 := Aside0.mk (Kd.R_below HXS7.out hb); have HYS8 := Aside0.mk (Kd.R_below HYS7.out hb); have HB8 := Aside0.mk (below_step HB7.out hb); have HA8 := Aside0.mk (blk_below HA7.out hb); have HD8 := Aside0.mk (blk_below HD7.out hb); have ha80 := (blk_cell HA8.out 0).trans rfl; have ha81 := (blk_cell HA8.out 1).trans rfl; have hd80 := (blk_cell HD8.out 0).trans rfl; have hd81 := (blk_cell HD8.out 1).trans rfl; have HS8 := Aside0.mk (Kd.R_below HS7.out hb); clear hb)
            | (go_at_call 15; (with_reducible refine (inode_Size.calls k 0 Aa ca xs (Sx.length : Int) _ (Kd.R_reads' HXS8.out).2.2 HCA.out HSz.out).mono ?_); rintro e w9 ⟨rfl, hb⟩; have HXS9 := Aside0.mk (Kd.R_below HXS8.out hb); have HYS9 := Aside0.mk (Kd.R_below HYS8.out hb); have HB9 := Aside0.mk (below_step HB8.out hb); have HA9 := Aside0.mk (blk_below HA8.out hb); have HD9 := Aside0.mk (blk_below HD8.out hb); have ha90 := (blk_cell HA9.out 0).trans rfl; have ha91 := (blk_cell HA9.out 1).trans rfl; have hd90 := (blk_cell HD9.out 0).trans rfl; have hd91 := (blk_cell HD9.out 1).trans rfl; have HS9 := Aside0.mk (Kd.R_below HS8.out hb); clear hb))
          go_ret
          exact ⟨by first | rfl | simp, HB9.out⟩
      · have d3 : decide (0 ≤ at_) = true := decide_eq_true g3
        have d1 : decide (0 ≤ a1) = false := decide_eq_false g1
        rw [decide_eq_false (fun h => g1 h.1)] at e1
        rw [d3] at e2
        subst e1 e2
        simp only [if_true, Bool.false_eq_true, if_false] at e3 e4
        subst ms
        subst qs
        have f1 := eq_true g3
        have n2 : (at_ != at_) = false := by simp
        go_enter Try.func3, Try.ntmps3
        go_wp2_with (first
          | (go_at_call 8; (with_reducible refine (posthorselaw08_speaks.calls k true _ HP.out).mono ?_); rintro e w1 ⟨rfl, hb1⟩; have HB1 := Aside0.mk hb1; have HR1 := Aside0.mk (Kd.C_below HR0.out hb1); clear hb1)
          | (go_at_call 9; (with_reducible refine (posthorselaw08_both.calls k 0 A0 c0 l0 0 xs 0 ys _ HR1.out HC0.out HBo.out).mono ?_); rintro e w2 ⟨v1_, v3_, rfl, hr2, hr3, hb2⟩; obtain ⟨Aa, ca, rfl, hca, _⟩ := Kd.R_reads hr2; obtain ⟨Ab, cb, rfl, hcb, _⟩ := Kd.R_reads hr3; have HB2 := below_step HB1.out hb2; have HXS := Aside0.mk (Kd.R_lower (Kd.R_alloc (Kd.R_alloc hr2 (.cells #[.int .i64 0, .slice Aa xs.length ca] 26)) (.cells #[.int .i64 0, .slice Ab ys.length cb] 29)) (Nat.zero_le _)); have HYS := Aside0.mk (Kd.R_lower (Kd.R_alloc (Kd.R_alloc hr3 (.cells #[.int .i64 0, .slice Aa xs.length ca] 26)) (.cells #[.int .i64 0, .slice Ab ys.length cb] 29)) (Nat.zero_le _)); have HCA := Aside0.mk hca; have HCB := Aside0.mk hcb; have HB3 := Aside0.mk (below_alloc (below_alloc HB2 (.cells #[.int .i64 0, .slice Aa xs.length ca] 26)) (.cells #[.int .i64 0, .slice Ab ys.length cb] 29)); have HA3 := Aside0.mk (two_old w2 (.cells #[.int .i64 0, .slice Aa xs.length ca] 26) (.cells #[.int .i64 0, .slice Ab ys.length cb] 29)); have HD3 := Aside0.mk (two_new w2 (.cells #[.int .i64 0, .slice Aa xs.length ca] 26) (.cells #[.int .i64 0, .slice Ab ys.length cb] 29)); have hd30 := (blk_cell HD3.out 0).trans rfl; have hd31 := (blk_cell HD3.out 1).trans rfl; clear hb2 hr2 hr3 hca hcb)
          | (go_at_call 10; (with_reducible refine (posthorseref08_Right.calls k 0 Ab cb ys 2048 true _ (Kd.R_reads' HYS.out).2.2 HCB.out HRt.out).mono ?_); rintro e w4 ⟨rfl, hb⟩; have HXS4 := Aside0.mk (Kd.R_below HXS.out hb); have HYS4 := Aside0.mk (Kd.R_below HYS.out hb); have HB4 := Aside0.mk (below_step HB3.out hb); have HA4 := Aside0.mk (blk_below HA3.out hb); have HD4 := Aside0.mk (blk_below HD3.out hb); have ha40 := (blk_cell HA4.out 0).trans rfl; have ha41 := (blk_cell HA4.out 1).trans rfl; have hd40 := (blk_cell HD4.out 0).trans rfl; have hd41 := (blk_cell HD4.out 1).trans rfl; clear hb)
          | (go_at_call 11; (with_reducible refine (posthorseref08_Sectors.calls k 0 Ab cb ys Sx _ (Kd.R_reads' HYS4.out).2.2 HCB.out HSx.out).mono ?_); rintro e w5 ⟨v0_, rfl, hrs, hb⟩; have HXS5 := Aside0.mk (Kd.R_below HXS4.out hb); have HYS5 := Aside0.mk (Kd.R_below HYS4.out hb); have HB5 := Aside0.mk (below_step HB4.out hb); have HA5 := Aside0.mk (blk_below HA4.out hb); have HD5 := Aside0.mk (blk_below HD4.out hb); have ha50 := (blk_cell HA5.out 0).trans rfl; have ha51 := (blk_cell HA5.out 1).trans rfl; have hd50 := (blk_cell HD5.out 0).trans rfl; have hd51 := (blk_cell HD5.out 1).trans rfl; obtain ⟨As, cs, rfl, hcs, _⟩ := Kd.R_reads hrs; have HS5 := Aside0.mk hrs; have HCS := Aside0.mk hcs; clear hrs hcs; clear hb)
          | (go_at_call 12; (with_reducible refine (inode_Map.calls k 0 Aa ca xs a1 _ _ _ (Kd.R_reads' HXS5.out).2.2 HCA.out HMp.out).mono ?_); rintro e w6 ⟨rfl, hb⟩; have HXS6 := Aside0.mk (Kd.R_below HXS5.out hb); have HYS6 := Aside0.mk (Kd.R_below HYS5.out hb); have HB6 := Aside0.mk (below_step HB5.out hb); have HA6 := Aside0.mk (blk_below HA5.out hb); have HD6 := Aside0.mk (blk_below HD5.out hb); have ha60 := (blk_cell HA6.out 0).trans rfl; have ha61 := (blk_cell HA6.out 1).trans rfl; have hd60 := (blk_cell HD6.out 0).trans rfl; have hd61 := (blk_cell HD6.out 1).trans rfl; have HS6 := Aside0.mk (Kd.R_below HS5.out hb); clear hb)
          | (go_at_call 13; (with_reducible refine (inode_Block.calls k 0 Aa ca xs a2 _ _ _ (Kd.R_reads' HXS6.out).2.2 HCA.out HBk.out).mono ?_); rintro e w7 ⟨rfl, hb⟩; have HXS7 := Aside0.mk (Kd.R_below HXS6.out hb); have HYS7 := Aside0.mk (Kd.R_below HYS6.out hb); have HB7 := Aside0.mk (below_step HB6.out hb); have HA7 := Aside0.mk (blk_below HA6.out hb); have HD7 := Aside0.mk (blk_below HD6.out hb); have ha70 := (blk_cell HA7.out 0).trans rfl; have ha71 := (blk_cell HA7.out 1).trans rfl; have hd70 := (blk_cell HD7.out 0).trans rfl; have hd71 := (blk_cell HD7.out 1).trans rfl; have HS7 := Aside0.mk (Kd.R_below HS6.out hb); clear hb)
          | (go_at_call 14; (with_reducible refine (posthorseref08_Has.calls k As cs Sx a2 at_ _ (Kd.R_reads' HS7.out).2.2 HCS.out HHs.out).mono ?_); rintro e w8 ⟨rfl, hb_⟩; have hb := hb_.below; clear hb_; have HXS8 := Aside0.mk (Kd.R_below HXS7.out hb); have HYS8 := Aside0.mk (Kd.R_below HYS7.out hb); have HB8 := Aside0.mk (below_step HB7.out hb); have HA8 := Aside0.mk (blk_below HA7.out hb); have HD8 := Aside0.mk (blk_below HD7.out hb); have ha80 := (blk_cell HA8.out 0).trans rfl; have ha81 := (blk_cell HA8.out 1).trans rfl; have hd80 := (blk_cell HD8.out 0).trans rfl; have hd81 := (blk_cell HD8.out 1).trans rfl; have HS8 := Aside0.mk (Kd.R_below HS7.out hb); clear hb)
          | (go_at_call 15; (with_reducible refine (inode_Size.calls k 0 Aa ca xs (Sx.length : Int) _ (Kd.R_reads' HXS8.out).2.2 HCA.out HSz.out).mono ?_); rintro e w9 ⟨rfl, hb⟩; have HXS9 := Aside0.mk (Kd.R_below HXS8.out hb); have HYS9 := Aside0.mk (Kd.R_below HYS8.out hb); have HB9 := Aside0.mk (below_step HB8.out hb); have HA9 := Aside0.mk (blk_below HA8.out hb); have HD9 := Aside0.mk (blk_below HD8.out hb); have ha90 := (blk_cell HA9.out 0).trans rfl; have ha91 := (blk_cell HA9.out 1).trans rfl; have hd90 := (blk_cell HD9.out 0).trans rfl; have hd91 := (blk_cell HD9.out 1).trans rfl; have HS9 := Aside0.mk (Kd.R_below HS8.out hb); clear hb))
        go_ret
        exact ⟨by first | rfl | simp, HB9.out⟩
    · by_cases g1 : 0 ≤ a1
      · by_cases g2 : a1 < (Sx.length : Int)
        · have d3 : decide (0 ≤ at_) = false := decide_eq_false g3
          have d1 : decide (0 ≤ a1) = true := decide_eq_true g1
          have d2 : decide (a1 < (Sx.length : Int)) = true := decide_eq_true g2
          have HIN := Aside0.mk (And.intro g1 g2)
          have p1 := eq_true g1
          have p2 := eq_true g2
          rw [decide_eq_true (And.intro g1 g2)] at e1
          rw [d3] at e2
          subst e1 e2
          simp only [if_true, Bool.false_eq_true, if_false] at e3 e4
          subst ms
          subst qs
          have f1 := eq_false g3
          have n1 : (rd Sx a1 != rd Sx a1) = false := by simp
          go_enter Try.func3, Try.ntmps3
          go_wp2_with (first
            | (go_at_call 8; (with_reducible refine (posthorselaw08_speaks.calls k true _ HP.out).mono ?_); rintro e w1 ⟨rfl, hb1⟩; have HB1 := Aside0.mk hb1; have HR1 := Aside0.mk (Kd.C_below HR0.out hb1); clear hb1)
            | (go_at_call 9; (with_reducible refine (posthorselaw08_both.calls k 0 A0 c0 l0 0 xs 0 ys _ HR1.out HC0.out HBo.out).mono ?_); rintro e w2 ⟨v1_, v3_, rfl, hr2, hr3, hb2⟩; obtain ⟨Aa, ca, rfl, hca, _⟩ := Kd.R_reads hr2; obtain ⟨Ab, cb, rfl, hcb, _⟩ := Kd.R_reads hr3; have HB2 := below_step HB1.out hb2; have HXS := Aside0.mk (Kd.R_lower (Kd.R_alloc (Kd.R_alloc hr2 (.cells #[.int .i64 0, .slice Aa xs.length ca] 26)) (.cells #[.int .i64 0, .slice Ab ys.length cb] 29)) (Nat.zero_le _)); have HYS := Aside0.mk (Kd.R_lower (Kd.R_alloc (Kd.R_alloc hr3 (.cells #[.int .i64 0, .slice Aa xs.length ca] 26)) (.cells #[.int .i64 0, .slice Ab ys.length cb] 29)) (Nat.zero_le _)); have HCA := Aside0.mk hca; have HCB := Aside0.mk hcb; have HB3 := Aside0.mk (below_alloc (below_alloc HB2 (.cells #[.int .i64 0, .slice Aa xs.length ca] 26)) (.cells #[.int .i64 0, .slice Ab ys.length cb] 29)); have HA3 := Aside0.mk (two_old w2 (.cells #[.int .i64 0, .slice Aa xs.length ca] 26) (.cells #[.int .i64 0, .slice Ab ys.length cb] 29)); have HD3 := Aside0.mk (two_new w2 (.cells #[.int .i64 0, .slice Aa xs.length ca] 26) (.cells #[.int .i64 0, .slice Ab ys.length cb] 29)); have hd30 := (blk_cell HD3.out 0).trans rfl; have hd31 := (blk_cell HD3.out 1).trans rfl; clear hb2 hr2 hr3 hca hcb)
            | (go_at_call 10; (with_reducible refine (posthorseref08_Right.calls k 0 Ab cb ys 2048 true _ (Kd.R_reads' HYS.out).2.2 HCB.out HRt.out).mono ?_); rintro e w4 ⟨rfl, hb⟩; have HXS4 := Aside0.mk (Kd.R_below HXS.out hb); have HYS4 := Aside0.mk (Kd.R_below HYS.out hb); have HB4 := Aside0.mk (below_step HB3.out hb); have HA4 := Aside0.mk (blk_below HA3.out hb); have HD4 := Aside0.mk (blk_below HD3.out hb); have ha40 := (blk_cell HA4.out 0).trans rfl; have ha41 := (blk_cell HA4.out 1).trans rfl; have hd40 := (blk_cell HD4.out 0).trans rfl; have hd41 := (blk_cell HD4.out 1).trans rfl; clear hb)
            | (go_at_call 11; (with_reducible refine (posthorseref08_Sectors.calls k 0 Ab cb ys Sx _ (Kd.R_reads' HYS4.out).2.2 HCB.out HSx.out).mono ?_); rintro e w5 ⟨v0_, rfl, hrs, hb⟩; have HXS5 := Aside0.mk (Kd.R_below HXS4.out hb); have HYS5 := Aside0.mk (Kd.R_below HYS4.out hb); have HB5 := Aside0.mk (below_step HB4.out hb); have HA5 := Aside0.mk (blk_below HA4.out hb); have HD5 := Aside0.mk (blk_below HD4.out hb); have ha50 := (blk_cell HA5.out 0).trans rfl; have ha51 := (blk_cell HA5.out 1).trans rfl; have hd50 := (blk_cell HD5.out 0).trans rfl; have hd51 := (blk_cell HD5.out 1).trans rfl; obtain ⟨As, cs, rfl, hcs, _⟩ := Kd.R_reads hrs; have HS5 := Aside0.mk hrs; have HCS := Aside0.mk hcs; clear hrs hcs; clear hb)
            | (go_at_call 12; (with_reducible refine (inode_Map.calls k 0 Aa ca xs a1 _ _ _ (Kd.R_reads' HXS5.out).2.2 HCA.out HMp.out).mono ?_); rintro e w6 ⟨rfl, hb⟩; have HXS6 := Aside0.mk (Kd.R_below HXS5.out hb); have HYS6 := Aside0.mk (Kd.R_below HYS5.out hb); have HB6 := Aside0.mk (below_step HB5.out hb); have HA6 := Aside0.mk (blk_below HA5.out hb); have HD6 := Aside0.mk (blk_below HD5.out hb); have ha60 := (blk_cell HA6.out 0).trans rfl; have ha61 := (blk_cell HA6.out 1).trans rfl; have hd60 := (blk_cell HD6.out 0).trans rfl; have hd61 := (blk_cell HD6.out 1).trans rfl; have HS6 := Aside0.mk (Kd.R_below HS5.out hb); clear hb)
            | (go_at_call 13; (with_reducible refine (inode_Block.calls k 0 Aa ca xs a2 _ _ _ (Kd.R_reads' HXS6.out).2.2 HCA.out HBk.out).mono ?_); rintro e w7 ⟨rfl, hb⟩; have HXS7 := Aside0.mk (Kd.R_below HXS6.out hb); have HYS7 := Aside0.mk (Kd.R_below HYS6.out hb); have HB7 := Aside0.mk (below_step HB6.out hb); have HA7 := Aside0.mk (blk_below HA6.out hb); have HD7 := Aside0.mk (blk_below HD6.out hb); have ha70 := (blk_cell HA7.out 0).trans rfl; have ha71 := (blk_cell HA7.out 1).trans rfl; have hd70 := (blk_cell HD7.out 0).trans rfl; have hd71 := (blk_cell HD7.out 1).trans rfl; have HS7 := Aside0.mk (Kd.R_below HS6.out hb); clear hb)
            | (go_at_call 14; (with_reducible refine (posthorseref08_Has.calls k As cs Sx a2 at_ _ (Kd.R_reads' HS7.out).2.2 HCS.out HHs.out).mono ?_); rintro e w8 ⟨rfl, hb_⟩; have hb := hb_.below; clear hb_; have HXS8 := Aside0.mk (Kd.R_below HXS7.out hb); have HYS8 := Aside0.mk (Kd.R_below HYS7.out hb); have HB8 := Aside0.mk (below_step HB7.out hb); have HA8 := Aside0.mk (blk_below HA7.out hb); have HD8 := Aside0.mk (blk_below HD7.out hb); have ha80 := (blk_cell HA8.out 0).trans rfl; have ha81 := (blk_cell HA8.out 1).trans rfl; have hd80 := (blk_cell HD8.out 0).trans rfl; have hd81 := (blk_cell HD8.out 1).trans rfl; have HS8 := Aside0.mk (Kd.R_below HS7.out hb); clear hb)
            | (go_at_call 15; (with_reducible refine (inode_Size.calls k 0 Aa ca xs (Sx.length : Int) _ (Kd.R_reads' HXS8.out).2.2 HCA.out HSz.out).mono ?_); rintro e w9 ⟨rfl, hb⟩; have HXS9 := Aside0.mk (Kd.R_below HXS8.out hb); have HYS9 := Aside0.mk (Kd.R_below HYS8.out hb); have HB9 := Aside0.mk (below_step HB8.out hb); have HA9 := Aside0.mk (blk_below HA8.out hb); have HD9 := Aside0.mk (blk_below HD8.out hb); have ha90 := (blk_cell HA9.out 0).trans rfl; have ha91 := (blk_cell HA9.out 1).trans rfl; have hd90 := (blk_cell HD9.out 0).trans rfl; have hd91 := (blk_cell HD9.out 1).trans rfl; have HS9 := Aside0.mk (Kd.R_below HS8.out hb); obtain ⟨adx, hex, hlx⟩ := Kd.at_int (Kd.R_reads' HS9.out).2.2 a1 HIN.out.1 HIN.out.2; cases hex; clear hb))
          go_ret
          exact ⟨by first | rfl | simp, HB9.out⟩
        · have d3 : decide (0 ≤ at_) = false := decide_eq_false g3
          have d1 : decide (0 ≤ a1) = true := decide_eq_true g1
          have d2 : decide (a1 < (Sx.length : Int)) = false := decide_eq_false g2
          rw [decide_eq_false (fun h => g2 h.2)] at e1
          rw [d3] at e2
          subst e1 e2
          simp only [if_true, Bool.false_eq_true, if_false] at e3 e4
          subst ms
          subst qs
          have f1 := eq_false g3
          go_enter Try.func3, Try.ntmps3
          go_wp2_with (first
            | (go_at_call 8; (with_reducible refine (posthorselaw08_speaks.calls k true _ HP.out).mono ?_); rintro e w1 ⟨rfl, hb1⟩; have HB1 := Aside0.mk hb1; have HR1 := Aside0.mk (Kd.C_below HR0.out hb1); clear hb1)
            | (go_at_call 9; (with_reducible refine (posthorselaw08_both.calls k 0 A0 c0 l0 0 xs 0 ys _ HR1.out HC0.out HBo.out).mono ?_); rintro e w2 ⟨v1_, v3_, rfl, hr2, hr3, hb2⟩; obtain ⟨Aa, ca, rfl, hca, _⟩ := Kd.R_reads hr2; obtain ⟨Ab, cb, rfl, hcb, _⟩ := Kd.R_reads hr3; have HB2 := below_step HB1.out hb2; have HXS := Aside0.mk (Kd.R_lower (Kd.R_alloc (Kd.R_alloc hr2 (.cells #[.int .i64 0, .slice Aa xs.length ca] 26)) (.cells #[.int .i64 0, .slice Ab ys.length cb] 29)) (Nat.zero_le _)); have HYS := Aside0.mk (Kd.R_lower (Kd.R_alloc (Kd.R_alloc hr3 (.cells #[.int .i64 0, .slice Aa xs.length ca] 26)) (.cells #[.int .i64 0, .slice Ab ys.length cb] 29)) (Nat.zero_le _)); have HCA := Aside0.mk hca; have HCB := Aside0.mk hcb; have HB3 := Aside0.mk (below_alloc (below_alloc HB2 (.cells #[.int .i64 0, .slice Aa xs.length ca] 26)) (.cells #[.int .i64 0, .slice Ab ys.length cb] 29)); have HA3 := Aside0.mk (two_old w2 (.cells #[.int .i64 0, .slice Aa xs.length ca] 26) (.cells #[.int .i64 0, .slice Ab ys.length cb] 29)); have HD3 := Aside0.mk (two_new w2 (.cells #[.int .i64 0, .slice Aa xs.length ca] 26) (.cells #[.int .i64 0, .slice Ab ys.length cb] 29)); have hd30 := (blk_cell HD3.out 0).trans rfl; have hd31 := (blk_cell HD3.out 1).trans rfl; clear hb2 hr2 hr3 hca hcb)
            | (go_at_call 10; (with_reducible refine (posthorseref08_Right.calls k 0 Ab cb ys 2048 true _ (Kd.R_reads' HYS.out).2.2 HCB.out HRt.out).mono ?_); rintro e w4 ⟨rfl, hb⟩; have HXS4 := Aside0.mk (Kd.R_below HXS.out hb); have HYS4 := Aside0.mk (Kd.R_below HYS.out hb); have HB4 := Aside0.mk (below_step HB3.out hb); have HA4 := Aside0.mk (blk_below HA3.out hb); have HD4 := Aside0.mk (blk_below HD3.out hb); have ha40 := (blk_cell HA4.out 0).trans rfl; have ha41 := (blk_cell HA4.out 1).trans rfl; have hd40 := (blk_cell HD4.out 0).trans rfl; have hd41 := (blk_cell HD4.out 1).trans rfl; clear hb)
            | (go_at_call 11; (with_reducible refine (posthorseref08_Sectors.calls k 0 Ab cb ys Sx _ (Kd.R_reads' HYS4.out).2.2 HCB.out HSx.out).mono ?_); rintro e w5 ⟨v0_, rfl, hrs, hb⟩; have HXS5 := Aside0.mk (Kd.R_below HXS4.out hb); have HYS5 := Aside0.mk (Kd.R_below HYS4.out hb); have HB5 := Aside0.mk (below_step HB4.out hb); have HA5 := Aside0.mk (blk_below HA4.out hb); have HD5 := Aside0.mk (blk_below HD4.out hb); have ha50 := (blk_cell HA5.out 0).trans rfl; have ha51 := (blk_cell HA5.out 1).trans rfl; have hd50 := (blk_cell HD5.out 0).trans rfl; have hd51 := (blk_cell HD5.out 1).trans rfl; obtain ⟨As, cs, rfl, hcs, _⟩ := Kd.R_reads hrs; have HS5 := Aside0.mk hrs; have HCS := Aside0.mk hcs; clear hrs hcs; clear hb)
            | (go_at_call 12; (with_reducible refine (inode_Map.calls k 0 Aa ca xs a1 _ _ _ (Kd.R_reads' HXS5.out).2.2 HCA.out HMp.out).mono ?_); rintro e w6 ⟨rfl, hb⟩; have HXS6 := Aside0.mk (Kd.R_below HXS5.out hb); have HYS6 := Aside0.mk (Kd.R_below HYS5.out hb); have HB6 := Aside0.mk (below_step HB5.out hb); have HA6 := Aside0.mk (blk_below HA5.out hb); have HD6 := Aside0.mk (blk_below HD5.out hb); have ha60 := (blk_cell HA6.out 0).trans rfl; have ha61 := (blk_cell HA6.out 1).trans rfl; have hd60 := (blk_cell HD6.out 0).trans rfl; have hd61 := (blk_cell HD6.out 1).trans rfl; have HS6 := Aside0.mk (Kd.R_below HS5.out hb); clear hb)
            | (go_at_call 13; (with_reducible refine (inode_Block.calls k 0 Aa ca xs a2 _ _ _ (Kd.R_reads' HXS6.out).2.2 HCA.out HBk.out).mono ?_); rintro e w7 ⟨rfl, hb⟩; have HXS7 := Aside0.mk (Kd.R_below HXS6.out hb); have HYS7 := Aside0.mk (Kd.R_below HYS6.out hb); have HB7 := Aside0.mk (below_step HB6.out hb); have HA7 := Aside0.mk (blk_below HA6.out hb); have HD7 := Aside0.mk (blk_below HD6.out hb); have ha70 := (blk_cell HA7.out 0).trans rfl; have ha71 := (blk_cell HA7.out 1).trans rfl; have hd70 := (blk_cell HD7.out 0).trans rfl; have hd71 := (blk_cell HD7.out 1).trans rfl; have HS7 := Aside0.mk (Kd.R_below HS6.out hb); clear hb)
            | (go_at_call 14; (with_reducible refine (posthorseref08_Has.calls k As cs Sx a2 at_ _ (Kd.R_reads' HS7.out).2.2 HCS.out HHs.out).mono ?_); rintro e w8 ⟨rfl, hb_⟩; have hb := hb_.below; clear hb_; have HXS8 := Aside0.mk (Kd.R_below HXS7.out hb); have HYS8 := Aside0.mk (Kd.R_below HYS7.out hb); have HB8 := Aside0.mk (below_step HB7.out hb); have HA8 := Aside0.mk (blk_below HA7.out hb); have HD8 := Aside0.mk (blk_below HD7.out hb); have ha80 := (blk_cell HA8.out 0).trans rfl; have ha81 := (blk_cell HA8.out 1).trans rfl; have hd80 := (blk_cell HD8.out 0).trans rfl; have hd81 := (blk_cell HD8.out 1).trans rfl; have HS8 := Aside0.mk (Kd.R_below HS7.out hb); clear hb)
            | (go_at_call 15; (with_reducible refine (inode_Size.calls k 0 Aa ca xs (Sx.length : Int) _ (Kd.R_reads' HXS8.out).2.2 HCA.out HSz.out).mono ?_); rintro e w9 ⟨rfl, hb⟩; have HXS9 := Aside0.mk (Kd.R_below HXS8.out hb); have HYS9 := Aside0.mk (Kd.R_below HYS8.out hb); have HB9 := Aside0.mk (below_step HB8.out hb); have HA9 := Aside0.mk (blk_below HA8.out hb); have HD9 := Aside0.mk (blk_below HD8.out hb); have ha90 := (blk_cell HA9.out 0).trans rfl; have ha91 := (blk_cell HA9.out 1).trans rfl; have hd90 := (blk_cell HD9.out 0).trans rfl; have hd91 := (blk_cell HD9.out 1).trans rfl; have HS9 := Aside0.mk (Kd.R_below HS8.out hb); clear hb))
          go_ret
          exact ⟨by first | rfl | simp, HB9.out⟩
      · have d3 : decide (0 ≤ at_) = false := decide_eq_false g3
        have d1 : decide (0 ≤ a1) = false := decide_eq_false g1
        rw [decide_eq_false (fun h => g1 h.1)] at e1
        rw [d3] at e2
        subst e1 e2
        simp only [if_true, Bool.false_eq_true, if_false] at e3 e4
        subst ms
        subst qs
        have f1 := eq_false g3
        go_enter Try.func3, Try.ntmps3
        go_wp2_with (first
          | (go_at_call 8; (with_reducible refine (posthorselaw08_speaks.calls k true _ HP.out).mono ?_); rintro e w1 ⟨rfl, hb1⟩; have HB1 := Aside0.mk hb1; have HR1 := Aside0.mk (Kd.C_below HR0.out hb1); clear hb1)
          | (go_at_call 9; (with_reducible refine (posthorselaw08_both.calls k 0 A0 c0 l0 0 xs 0 ys _ HR1.out HC0.out HBo.out).mono ?_); rintro e w2 ⟨v1_, v3_, rfl, hr2, hr3, hb2⟩; obtain ⟨Aa, ca, rfl, hca, _⟩ := Kd.R_reads hr2; obtain ⟨Ab, cb, rfl, hcb, _⟩ := Kd.R_reads hr3; have HB2 := below_step HB1.out hb2; have HXS := Aside0.mk (Kd.R_lower (Kd.R_alloc (Kd.R_alloc hr2 (.cells #[.int .i64 0, .slice Aa xs.length ca] 26)) (.cells #[.int .i64 0, .slice Ab ys.length cb] 29)) (Nat.zero_le _)); have HYS := Aside0.mk (Kd.R_lower (Kd.R_alloc (Kd.R_alloc hr3 (.cells #[.int .i64 0, .slice Aa xs.length ca] 26)) (.cells #[.int .i64 0, .slice Ab ys.length cb] 29)) (Nat.zero_le _)); have HCA := Aside0.mk hca; have HCB := Aside0.mk hcb; have HB3 := Aside0.mk (below_alloc (below_alloc HB2 (.cells #[.int .i64 0, .slice Aa xs.length ca] 26)) (.cells #[.int .i64 0, .slice Ab ys.length cb] 29)); have HA3 := Aside0.mk (two_old w2 (.cells #[.int .i64 0, .slice Aa xs.length ca] 26) (.cells #[.int .i64 0, .slice Ab ys.length cb] 29)); have HD3 := Aside0.mk (two_new w2 (.cells #[.int .i64 0, .slice Aa xs.length ca] 26) (.cells #[.int .i64 0, .slice Ab ys.length cb] 29)); have hd30 := (blk_cell HD3.out 0).trans rfl; have hd31 := (blk_cell HD3.out 1).trans rfl; clear hb2 hr2 hr3 hca hcb)
          | (go_at_call 10; (with_reducible refine (posthorseref08_Right.calls k 0 Ab cb ys 2048 true _ (Kd.R_reads' HYS.out).2.2 HCB.out HRt.out).mono ?_); rintro e w4 ⟨rfl, hb⟩; have HXS4 := Aside0.mk (Kd.R_below HXS.out hb); have HYS4 := Aside0.mk (Kd.R_below HYS.out hb); have HB4 := Aside0.mk (below_step HB3.out hb); have HA4 := Aside0.mk (blk_below HA3.out hb); have HD4 := Aside0.mk (blk_below HD3.out hb); have ha40 := (blk_cell HA4.out 0).trans rfl; have ha41 := (blk_cell HA4.out 1).trans rfl; have hd40 := (blk_cell HD4.out 0).trans rfl; have hd41 := (blk_cell HD4.out 1).trans rfl; clear hb)
          | (go_at_call 11; (with_reducible refine (posthorseref08_Sectors.calls k 0 Ab cb ys Sx _ (Kd.R_reads' HYS4.out).2.2 HCB.out HSx.out).mono ?_); rintro e w5 ⟨v0_, rfl, hrs, hb⟩; have HXS5 := Aside0.mk (Kd.R_below HXS4.out hb); have HYS5 := Aside0.mk (Kd.R_below HYS4.out hb); have HB5 := Aside0.mk (below_step HB4.out hb); have HA5 := Aside0.mk (blk_below HA4.out hb); have HD5 := Aside0.mk (blk_below HD4.out hb); have ha50 := (blk_cell HA5.out 0).trans rfl; have ha51 := (blk_cell HA5.out 1).trans rfl; have hd50 := (blk_cell HD5.out 0).trans rfl; have hd51 := (blk_cell HD5.out 1).trans rfl; obtain ⟨As, cs, rfl, hcs, _⟩ := Kd.R_reads hrs; have HS5 := Aside0.mk hrs; have HCS := Aside0.mk hcs; clear hrs hcs; clear hb)
          | (go_at_call 12; (with_reducible refine (inode_Map.calls k 0 Aa ca xs a1 _ _ _ (Kd.R_reads' HXS5.out).2.2 HCA.out HMp.out).mono ?_); rintro e w6 ⟨rfl, hb⟩; have HXS6 := Aside0.mk (Kd.R_below HXS5.out hb); have HYS6 := Aside0.mk (Kd.R_below HYS5.out hb); have HB6 := Aside0.mk (below_step HB5.out hb); have HA6 := Aside0.mk (blk_below HA5.out hb); have HD6 := Aside0.mk (blk_below HD5.out hb); have ha60 := (blk_cell HA6.out 0).trans rfl; have ha61 := (blk_cell HA6.out 1).trans rfl; have hd60 := (blk_cell HD6.out 0).trans rfl; have hd61 := (blk_cell HD6.out 1).trans rfl; have HS6 := Aside0.mk (Kd.R_below HS5.out hb); clear hb)
          | (go_at_call 13; (with_reducible refine (inode_Block.calls k 0 Aa ca xs a2 _ _ _ (Kd.R_reads' HXS6.out).2.2 HCA.out HBk.out).mono ?_); rintro e w7 ⟨rfl, hb⟩; have HXS7 := Aside0.mk (Kd.R_below HXS6.out hb); have HYS7 := Aside0.mk (Kd.R_below HYS6.out hb); have HB7 := Aside0.mk (below_step HB6.out hb); have HA7 := Aside0.mk (blk_below HA6.out hb); have HD7 := Aside0.mk (blk_below HD6.out hb); have ha70 := (blk_cell HA7.out 0).trans rfl; have ha71 := (blk_cell HA7.out 1).trans rfl; have hd70 := (blk_cell HD7.out 0).trans rfl; have hd71 := (blk_cell HD7.out 1).trans rfl; have HS7 := Aside0.mk (Kd.R_below HS6.out hb); clear hb)
          | (go_at_call 14; (with_reducible refine (posthorseref08_Has.calls k As cs Sx a2 at_ _ (Kd.R_reads' HS7.out).2.2 HCS.out HHs.out).mono ?_); rintro e w8 ⟨rfl, hb_⟩; have hb := hb_.below; clear hb_; have HXS8 := Aside0.mk (Kd.R_below HXS7.out hb); have HYS8 := Aside0.mk (Kd.R_below HYS7.out hb); have HB8 := Aside0.mk (below_step HB7.out hb); have HA8 := Aside0.mk (blk_below HA7.out hb); have HD8 := Aside0.mk (blk_below HD7.out hb); have ha80 := (blk_cell HA8.out 0).trans rfl; have ha81 := (blk_cell HA8.out 1).trans rfl; have hd80 := (blk_cell HD8.out 0).trans rfl; have hd81 := (blk_cell HD8.out 1).trans rfl; have HS8 := Aside0.mk (Kd.R_below HS7.out hb); clear hb)
          | (go_at_call 15; (with_reducible refine (inode_Size.calls k 0 Aa ca xs (Sx.length : Int) _ (Kd.R_reads' HXS8.out).2.2 HCA.out HSz.out).mono ?_); rintro e w9 ⟨rfl, hb⟩; have HXS9 := Aside0.mk (Kd.R_below HXS8.out hb); have HYS9 := Aside0.mk (Kd.R_below HYS8.out hb); have HB9 := Aside0.mk (below_step HB8.out hb); have HA9 := Aside0.mk (blk_below HA8.out hb); have HD9 := Aside0.mk (blk_below HD8.out hb); have ha90 := (blk_cell HA9.out 0).trans rfl; have ha91 := (blk_cell HA9.out 1).trans rfl; have hd90 := (blk_cell HD9.out 0).trans rfl; have hd91 := (blk_cell HD9.out 1).trans rfl; have HS9 := Aside0.mk (Kd.R_below HS8.out hb); clear hb))
        go_ret
        exact ⟨by first | rfl | simp, HB9.out⟩


end Go.Proofs.Ytmncfcebjohloaa.VInodeMaps
