/- Contracts of functions of this seat: each call comes to what its Lean function computes; no condition beyond what each theorem states. Printed by a program of this session's own laid over the kit's printer. -/
import Derived.Test.YtdlmgjpnlgdpkaaDoorVLeReadsx0
import Derived.Test.YtdlmgjpnlgdpkaaDoorVLeReadsx5
import Derived.Test.YtdlmgjpnlgdpkaaDoorVLeReadsx6
import Derived.Test.YtdlmgjpnlgdpkaaDoorVLeReadsx7
import Derived.Test.YtdlmgjpnlgdpkaaDoorVLeReadsx9
import Derived.Test.YtdlmgjpnlgdpkaaDoorVLeReadsx10
import Derived.Test.YtdlmgjpnlgdpkaaDoorVLeReadsx13
namespace Go.Proofs.YtdlmgjpnlgdpkaaDoor.VLeReads
open Go.RowKit Go.Proofs.YtdlmgjpnlgdpkaaDoorW.PrintWords Go.Proofs.YtdlmgjpnlgdpkaaDoorW.PrintLast Go.Proofs.YtdlmgjpnlgdpkaaDoorW.PrintMore
attribute [local go_sem] max2_int min2_int max_two min_two max_three min_three max_four min_four   -- for this text's walks alone
set_option linter.unusedVariables false
set_option linter.unusedSimpArgs false

-- @GIVEN posthorselaw01_LeReads
/-! ### posthorselaw01_LeReads: by hand -/
abbrev Item := S47
/-- Which way of reading. -/
def readSel (n : Int) : Int := (wrap64 (n.tmod 3 + 3)).tmod 3
def posthorselaw01_LeReads.l0 : Nat → List Item → ByteArray → Option Int → ByteArray → Int → Int → Option Bool
  | 0, _, _, _, _, _, _ => none
  | k + 1, l, s, e, t, d, i => if i < (l.length : Int) ∧ i < 20 then
      (if readSel (rd_T47 l i).f1 = 0 then ((le_In_Num.f k s e (rd_T47 l i).f2).bind fun a => (posthorseref01_Num.f k t d (rd_T47 l i).f2).bind fun b => if a.1 = b.1 then posthorselaw01_LeReads.l0 k l a.2.1 a.2.2 b.2.1 b.2.2 (i + 1) else some false)
       else if readSel (rd_T47 l i).f1 = 1 then ((le_In_Text.f s e (rd_T47 l i).f2).bind fun a => (posthorseref01_Take.f k t d (rd_T47 l i).f2).bind fun b => if a.1.toList = b.1.toList then posthorselaw01_LeReads.l0 k l a.2.1 a.2.2 b.2.1 b.2.2 (i + 1) else some false)
       else ((le_In_Noughts.f s e (rd_T47 l i).f2).bind fun a => (posthorseref01_Noughts.f k t d (rd_T47 l i).f2).bind fun b => posthorselaw01_LeReads.l0 k l a.1 a.2 b.1 b.2 (i + 1)))
    else ((le_In_End.f s e).bind fun a => (posthorselaw01_code.f a.1).bind fun c => (posthorseref01_End.f t d).bind fun b => some (c == b.1))
def posthorselaw01_LeReads.f (k : Nat) (s : ByteArray) (l : List Item) : Option Bool := if (s.size : Int) > 500 then some true else posthorselaw01_LeReads.l0 k l s none s 0 0
theorem inS_keep {w0 w w1 : World} {g g' : Nat} {s : ByteArray} {e : Option Int} (h : IsS80 w0 w g s e) (hk : KeepBut w w1 g' none) (hne : g ≠ g') : IsS80 w0 w1 g s e := ⟨KeepBut.blk hk h.1 hne (by simp), h.2⟩
theorem refS_keep {w0 w w1 : World} {g g' : Nat} {s : ByteArray} {e : Int} (h : IsS61 w0 w g s e) (hk : KeepBut w w1 g' none) (hne : g ≠ g') : IsS61 w0 w1 g s e := ⟨KeepBut.blk hk h.1 hne (by simp), h.2⟩
set_option maxHeartbeats 8000000 in
set_option maxRecDepth 100000 in
theorem posthorselaw01_LeReads.calls (k : Nat) (a0 : ByteArray) (A1 : Option Addr) (c1 : Nat) (l1 : List Item) (r : Bool) (w : World) (hL_ : Laid w) (hr1 : Kd.C k47 w A1 l1.length l1) (hc1 : l1.length ≤ c1) (h : posthorselaw01_LeReads.f k a0 l1 = some r) :
    Calls Tryd.prog 9 #[.string a0, .slice A1 l1.length c1] w fun e w' => e = .returned (.bool r) ∧ Below w.heap.size w w' := by
  have HL_ := Aside0.mk hL_
  clear hL_
  have HR := Aside0.mk hr1
  clear hr1 hc1
  have E0 := Aside0.mk (show posthorselaw01_speaks.f = some true from rfl)
  have HB := Aside0.mk (Below.refl w.heap.size w)
  unfold posthorselaw01_LeReads.f at h
  by_cases c0 : (a0.size : Int) > 500
  · rw [if_pos c0] at h
    have c0b : decide (500 < (a0.size : Int)) = true := decide_eq_true c0
    have c0c : decide (500 < a0.size) = true := decide_eq_true (by omega)
    clear c0
    obtain rfl := Option.some.inj h
    clear h
    go_enter Tryd.func9, Tryd.ntmps9
    go_wp2_with (go_at_call 20; (with_reducible refine (posthorselaw01_speaks.calls true _ E0.out).mono ?_); rintro e w1 ⟨rfl, hb⟩; have HB1 := Aside0.mk (below_step HB.out hb); clear hb)
    go_ret
    exact ⟨rfl, HB1.out⟩
  · rw [if_neg c0] at h
    have c0b : decide (500 < (a0.size : Int)) = false := decide_eq_false c0
    have c0c : decide (500 < a0.size) = false := decide_eq_false (by omega)
    clear c0
    have H' := Aside0.mk h
    clear h
    go_enter Tryd.func9, Tryd.ntmps9
    go_wp2_with (first
      | (go_at_call 20; (with_reducible refine (posthorselaw01_speaks.calls true _ E0.out).mono ?_); rintro e w1 ⟨rfl, hb⟩; have HB1 := Aside0.mk (below_step HB.out hb); clear hb)
      | (go_at_call 26; (with_reducible refine (le_Read.calls a0 a0 none w _ HB1.out rfl).mono ?_); rintro e w2 ⟨g1, rfl, hi1, hb1, _⟩; have HI1 := Aside0.mk hi1; have HB2 := Aside0.mk hb1; clear hi1 hb1 HB1))
    have HI2 := Aside0.mk (IsS61.new w w2 a0 0 HB2.out)
    have HI1' := Aside0.mk (HI1.out.alloc (.cells #[.string a0, .int .i64 0] 61))
    have HB3 := Aside0.mk (below_alloc HB2.out (.cells #[.string a0, .int .i64 0] 61))
    have HNE := Aside0.mk (show g1 ≠ w2.heap.size from Nat.ne_of_lt HI1.out.lt)
    clear HI1 HB2
    generalize w2.alloc (.cells #[.string a0, .int .i64 0] 61) = w3 at *
    generalize w2.heap.size = g2 at *
    go_loopg [7] k (fun kq v7 w' => ∃ (s : ByteArray) (e : Option Int) (t : ByteArray) (d i : Int), v7 = .int .i64 i ∧ Aside0 (0 ≤ i) ∧ Aside0 (posthorselaw01_LeReads.l0 kq l1 s e t d i = some r) ∧ Aside0 (kq ≤ k) ∧ Aside0 (IsS80 w w' g1 s e) ∧ Aside0 (IsS61 w w' g2 t d) ∧ Aside0 (Below w.heap.size w w'))
    case atStart => exact ⟨a0, none, a0, 0, 0, rfl, ⟨Int.le_refl _⟩, H', ⟨Nat.le_refl _⟩, HI1', HI2, HB3⟩
    case round =>
      clear H' HI1' HI2 HB3 HB
      obtain ⟨s, e, t, d, i, rfl, hi0, HA, HK1, HI1, HI2, HB⟩ := hrel
      cases gk with
      | zero => exact absurd HA.out (by simp [posthorselaw01_LeReads.l0])
      | succ k1 =>
        have H := HA.out
        clear HA
        rw [posthorselaw01_LeReads.l0] at H
        by_cases c : i < (l1.length : Int) ∧ i < 20
        · rw [if_pos c] at H
          obtain ⟨c3, c4⟩ := c
          have c3b : decide (i < (l1.length : Int)) = true := decide_eq_true c3
          have c4b : decide (i < 20) = true := decide_eq_true c4
          obtain ⟨ad, e105, hx0, hx1, hx2, hx3⟩ := at_T47 HR.out i hi0.out c3
          cases e105
          have p105 := eq_true hi0.out
          have q105 := eq_true c3
          have hi1 : wrap64 (i + 1) = i + 1 := by have := hi0.out; unfold wrap64; omega
          have HI := Aside0.mk hi1
          have HJ := Aside0.mk (show 0 ≤ i + 1 from by have := hi0.out; omega)
          clear hi1 c3 c4
          replace hx0 := (HB.out.cell (World.block_lt_of_cell? w _ hx0)).trans hx0
          replace hx1 := (HB.out.cell (World.block_lt_of_cell? w _ hx1)).trans hx1
          replace hx2 := (HB.out.cell (World.block_lt_of_cell? w _ hx2)).trans hx2
          replace hx3 := (HB.out.cell (World.block_lt_of_cell? w _ hx3)).trans hx3
          generalize rd_T47 l1 i = x at *
          have hq : (wrap64 (x.f1.tmod 3 + 3)).tmod 3 = readSel x.f1 := rfl
          generalize readSel x.f1 = q at *
          by_cases h0 : q = 0
          · rw [if_pos h0] at H
            subst h0
            obtain ⟨⟨b1, s1, e1⟩, A1_, H⟩ := Option.bind_eq_some_iff.mp H
            obtain ⟨⟨b2, t1, d1⟩, A2_, H⟩ := Option.bind_eq_some_iff.mp H
            have A3 := Aside0.mk A1_
            have A4 := Aside0.mk A2_
            clear A1_ A2_
            by_cases hb : b1 = b2
            · rw [if_pos hb] at H
              subst hb
              have H' := Aside0.mk H
              clear H
              go_wp2_with (first
                | (go_at_call 28; (with_reducible refine (le_In_Num.calls k1 g1 s e x.f2 b1 s1 e1 w _ HI1.out HB.out A3.out).mono ?_); rintro e_ w5 ⟨rfl, hi5, hb5, hk5⟩; have HI5 := Aside0.mk hi5; have HB5 := Aside0.mk hb5; have HR5 := Aside0.mk (refS_keep HI2.out hk5 (Ne.symm HNE.out)); clear hi5 hb5 hk5)
                | (go_at_call 30; (with_reducible refine (posthorseref01_Num.calls k1 g2 t d x.f2 b1 t1 d1 w _ HR5.out HB5.out A4.out).mono ?_); rintro e_ w6 ⟨rfl, hi6, hb6, hk6⟩; have HR6 := Aside0.mk hi6; have HB6 := Aside0.mk hb6; have HI6 := Aside0.mk (inS_keep HI5.out hk6 HNE.out); clear hi6 hb6 hk6))
              go_roundg k1
              case measure => have := HK1.out; omega
              case rel => exact ⟨s1, e1, t1, d1, i + 1, (by first | rfl | (rw [HI.out])), HJ, H', ⟨by have := HK1.out; omega⟩, HI6, HR6, HB6⟩
            · rw [if_neg hb] at H
              obtain rfl := Option.some.inj H
              clear H
              have hbb : (b1 == b2) = false := beq_eq_false_iff_ne.2 hb
              have hbn : (b1 != b2) = true := bne_iff_ne.2 hb
              go_wp2_with (first
                | (go_at_call 28; (with_reducible refine (le_In_Num.calls k1 g1 s e x.f2 b1 s1 e1 w _ HI1.out HB.out A3.out).mono ?_); rintro e_ w5 ⟨rfl, hi5, hb5, hk5⟩; have HI5 := Aside0.mk hi5; have HB5 := Aside0.mk hb5; have HR5 := Aside0.mk (refS_keep HI2.out hk5 (Ne.symm HNE.out)); clear hi5 hb5 hk5)
                | (go_at_call 30; (with_reducible refine (posthorseref01_Num.calls k1 g2 t d x.f2 b2 t1 d1 w _ HR5.out HB5.out A4.out).mono ?_); rintro e_ w6 ⟨rfl, hi6, hb6, hk6⟩; have HB6 := Aside0.mk hb6; clear hi6 hb6 hk6))
              go_ret
              exact ⟨rfl, HB6.out⟩
          · rw [if_neg h0] at H
            have h0b : (q == 0) = false := beq_eq_false_iff_ne.2 h0
            by_cases h1 : q = 1
            · rw [if_pos h1] at H
              subst h1
              clear h0 h0b
              obtain ⟨⟨b1, s1, e1⟩, A1_, H⟩ := Option.bind_eq_some_iff.mp H
              obtain ⟨⟨b2, t1, d1⟩, A2_, H⟩ := Option.bind_eq_some_iff.mp H
              have A3 := Aside0.mk A1_
              have A4 := Aside0.mk A2_
              clear A1_ A2_
              by_cases hb : b1.toList = b2.toList
              · rw [if_pos hb] at H
                have H' := Aside0.mk H
                clear H
                have hbn : (b1.toList != b2.toList) = false := by simpa using hb
                go_wp2_with (first
                  | (go_at_call 27; (with_reducible refine (le_In_Text.calls g1 s e x.f2 b1 s1 e1 w _ HI1.out HB.out A3.out).mono ?_); rintro e_ w5 ⟨rfl, hi5, hb5, hk5⟩; have HI5 := Aside0.mk hi5; have HB5 := Aside0.mk hb5; have HR5 := Aside0.mk (refS_keep HI2.out hk5 (Ne.symm HNE.out)); clear hi5 hb5 hk5)
                  | (go_at_call 31; (with_reducible refine (posthorseref01_Take.calls k1 g2 t d x.f2 b2 t1 d1 w _ HR5.out HB5.out A4.out).mono ?_); rintro e_ w6 ⟨rfl, hi6, hb6, hk6⟩; have HR6 := Aside0.mk hi6; have HB6 := Aside0.mk hb6; have HI6 := Aside0.mk (inS_keep HI5.out hk6 HNE.out); clear hi6 hb6 hk6))
                go_roundg k1
                case measure => have := HK1.out; omega
                case rel => exact ⟨s1, e1, t1, d1, i + 1, (by first | rfl | (rw [HI.out])), HJ, H', ⟨by have := HK1.out; omega⟩, HI6, HR6, HB6⟩
              · rw [if_neg hb] at H
                obtain rfl := Option.some.inj H
                clear H
                have hbn : (b1.toList != b2.toList) = true := by simpa using hb
                have hbm : (!(b1.toList == b2.toList)) = true := by simpa using hb
                have hbe : (b1.toList == b2.toList) = false := by simpa using hb
                go_wp2_with (first
                  | (go_at_call 27; (with_reducible refine (le_In_Text.calls g1 s e x.f2 b1 s1 e1 w _ HI1.out HB.out A3.out).mono ?_); rintro e_ w5 ⟨rfl, hi5, hb5, hk5⟩; have HI5 := Aside0.mk hi5; have HB5 := Aside0.mk hb5; have HR5 := Aside0.mk (refS_keep HI2.out hk5 (Ne.symm HNE.out)); clear hi5 hb5 hk5)
                  | (go_at_call 31; (with_reducible refine (posthorseref01_Take.calls k1 g2 t d x.f2 b2 t1 d1 w _ HR5.out HB5.out A4.out).mono ?_); rintro e_ w6 ⟨rfl, hi6, hb6, hk6⟩; have HB6 := Aside0.mk hb6; clear hi6 hb6 hk6))
                go_ret
                exact ⟨rfl, HB6.out⟩
            · rw [if_neg h1] at H
              have h1b : (q == 1) = false := beq_eq_false_iff_ne.2 h1
              obtain ⟨⟨s1, e1⟩, A1_, H⟩ := Option.bind_eq_some_iff.mp H
              obtain ⟨⟨t1, d1⟩, A2_, H⟩ := Option.bind_eq_some_iff.mp H
              have A3 := Aside0.mk A1_
              have A4 := Aside0.mk A2_
              clear A1_ A2_
              have H' := Aside0.mk H
              clear H
              go_wp2_with (first
                | (go_at_call 32; (with_reducible refine (le_In_Noughts.calls g1 s e x.f2 s1 e1 w _ HI1.out HB.out A3.out).mono ?_); rintro e_ w5 ⟨rfl, hi5, hb5, hk5⟩; have HI5 := Aside0.mk hi5; have HB5 := Aside0.mk hb5; have HR5 := Aside0.mk (refS_keep HI2.out hk5 (Ne.symm HNE.out)); clear hi5 hb5 hk5)
                | (go_at_call 33; (with_reducible refine (posthorseref01_Noughts.calls k1 g2 t d x.f2 t1 d1 w _ HR5.out HB5.out A4.out).mono ?_); rintro e_ w6 ⟨rfl, hi6, hb6, hk6⟩; have HR6 := Aside0.mk hi6; have HB6 := Aside0.mk hb6; have HI6 := Aside0.mk (inS_keep HI5.out hk6 HNE.out); clear hi6 hb6 hk6))
              go_roundg k1
              case measure => have := HK1.out; omega
              case rel => exact ⟨s1, e1, t1, d1, i + 1, (by first | rfl | (rw [HI.out])), HJ, H', ⟨by have := HK1.out; omega⟩, HI6, HR6, HB6⟩
        · rw [if_neg c] at H
          obtain ⟨⟨b1, s1, e1⟩, A1_, H⟩ := Option.bind_eq_some_iff.mp H
          obtain ⟨n1, A2_, H⟩ := Option.bind_eq_some_iff.mp H
          obtain ⟨⟨n2, t1, d1⟩, A3_, H⟩ := Option.bind_eq_some_iff.mp H
          have A3 := Aside0.mk A1_
          have A4 := Aside0.mk A2_
          have A5 := Aside0.mk A3_
          clear A1_ A2_ A3_
          obtain rfl := Option.some.inj H
          clear H
          have hin : ∃ q1 q2 : Bool, decide (i < (l1.length : Int)) = q1 ∧ decide (i < 20) = q2 ∧ (q1 && q2) = false := ⟨_, _, rfl, rfl, by
            rw [Bool.and_eq_false_iff]
            by_cases h4 : i < (l1.length : Int)
            · exact .inr (decide_eq_false (fun h => c ⟨h4, h⟩))
            · exact .inl (decide_eq_false h4)⟩
          obtain ⟨q1, q2, d3, d4, hq⟩ := hin
          clear c
          cases q1
          all_goals cases q2
          all_goals first | (exfalso; revert hq; decide) | skip
          all_goals clear hq
          all_goals
            go_wp2_with (first
              | (go_at_call 29; (with_reducible refine (le_In_End.calls g1 s e b1 s1 e1 w _ HI1.out HB.out A3.out).mono ?_); rintro e_ w5 ⟨rfl, hi5, hb5, hk5⟩; have HB5 := Aside0.mk hb5; have HR5 := Aside0.mk (refS_keep HI2.out hk5 (Ne.symm HNE.out)); clear hi5 hb5 hk5)
              | (go_at_call 25; (with_reducible refine (posthorselaw01_code.calls b1 n1 _ (Laid.below HL_.out HB5.out) A4.out).mono ?_); rintro e_ w6 ⟨rfl, hb6⟩; have HB6 := Aside0.mk (below_step HB5.out hb6); have HR6 := Aside0.mk (HR5.out.below hb6); clear hb6)
              | (go_at_call 34; (with_reducible refine (posthorseref01_End.calls g2 t d n2 t1 d1 w _ HR6.out HB6.out A5.out).mono ?_); rintro e_ w7 ⟨rfl, hi7, hb7, hk7⟩; have HB7 := Aside0.mk hb7; clear hi7 hb7 hk7))
            go_ret
            exact ⟨by first | rfl | simp, HB7.out⟩


end Go.Proofs.YtdlmgjpnlgdpkaaDoor.VLeReads
