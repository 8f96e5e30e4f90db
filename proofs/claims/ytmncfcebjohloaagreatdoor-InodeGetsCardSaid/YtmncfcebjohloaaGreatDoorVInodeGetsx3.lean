/- Contracts of functions of this seat: each call comes to what its Lean function computes; no condition beyond what each theorem states. Printed by a program of this session's own laid over the kit's printer. -/
import Derived.Test.YtmncfcebjohloaaGreatDoorVInodeGetsx0
import Derived.Test.YtmncfcebjohloaaGreatDoorVInodeGetsx2
namespace Go.Proofs.YtmncfcebjohloaaGreatDoor.VInodeGets
open Go.RowKit Go.Proofs.YtmncfcebjohloaaGreatDoorW.PrintWords Go.Proofs.YtmncfcebjohloaaGreatDoorW.PrintLast Go.Proofs.YtmncfcebjohloaaGreatDoorW.PrintMore
attribute [local go_sem] max2_int min2_int max_two min_two max_three min_three max_four min_four   -- for this text's walks alone
set_option linter.unusedVariables false
set_option linter.unusedSimpArgs false

-- @GIVEN inode_Inode_meets
/-! ### inode_Inode_meets: by hand -/
abbrev ExtS := S51
/-- Does one of some extents share a sector with one? -/
def anyMeets (a b : Int) : List ExtS → Option Bool
  | [] => some false
  | o :: xs => (inode_Extent_meets.f a b o.f0 o.f1).bind fun t => if t = true then some true else anyMeets a b xs
def inode_Inode_meets.f (a0_0 : Int) (l0_1 : List ExtS) (a1_0 : Int) (a1_1 : Int) : Option Bool := if l0_1.length < 8796093022208 then anyMeets a1_0 a1_1 l0_1 else none
set_option maxHeartbeats 4000000 in
set_option maxRecDepth 100000 in
theorem indexMeets (A : Option Addr) (c : Nat) (l : List ExtS) (a b : Int) (r : Bool) (w : World) (hr : Kd.C k51 w A l.length l) (hl : l.length < 8796093022208) (h : anyMeets a b l = some r) :
    Calls Tryz.prog 46 #[.slice A l.length c, .func (.func 27) #[.agg #[.int .i64 a, .int .i64 b]] #[]] w fun e w' => (∃ i : Int, e = .returned (.int .i64 i) ∧ decide (0 ≤ i) = r) ∧ Below w.heap.size w w' := by
  have HR := Aside0.mk hr
  have HH := Aside0.mk h
  have HB := Aside0.mk (Below.refl w.heap.size w)
  have HLT := Aside0.mk hl
  clear hr h hl
  go_enter Tryz.func46, Tryz.ntmps46
  go_wp2_with fail
  go_loopg [5, 8] (l.length + 1) (fun kq v5 v8 w' => ∃ i : Nat, v8 = .int .i64 (i : Int) ∧ Aside0 (i ≤ l.length ∧ kq = l.length - i + 1) ∧ Aside0 (anyMeets a b (l.drop i) = some r) ∧ Aside0 (Kd.C k51 w' A l.length l) ∧ Aside0 (Below w.heap.size w w'))
  case atStart => exact ⟨0, rfl, ⟨by omega, by omega⟩, by rw [List.drop_zero]; exact HH, HR, HB⟩
  case round =>
    clear HH HR HB
    obtain ⟨i, rfl, HI, HH, HR, HB⟩ := hrel
    by_cases c1 : i < l.length
    · have e1 : decide ((i : Int) < (l.length : Int)) = true := decide_eq_true (by omega)
      have p1 := eq_true (show (0 : Int) ≤ (i : Int) by omega)
      have p2 := eq_true (show (i : Int) < (l.length : Int) by omega)
      have p3 := eq_true c1
      have hi1 : wrap64 ((i : Int) + 1) = ((i + 1 : Nat) : Int) := by have := HLT.out; unfold wrap64; omega
      obtain ⟨ad, rfl, hx0, hx1⟩ := at_T51 HR.out (i : Int) (by omega) (by omega)
      rw [show ((i : Int)).toNat = i from rfl] at hx0 hx1
      have hd : l.drop i = rd_T51 l (i : Int) :: l.drop (i + 1) := by
        unfold rd_T51
        rw [List.drop_eq_getElem_cons c1, Int.toNat_natCast, List.getD_eq_getElem?_getD, List.getElem?_eq_getElem c1]; rfl
      have H := HH.out
      rw [hd] at H
      generalize rd_T51 l (i : Int) = x at *
      rw [anyMeets] at H
      obtain ⟨t, ht, H⟩ := Option.bind_eq_some_iff.mp H
      have HT := Aside0.mk ht
      clear HH ht hd
      cases t with
      | true =>
        rw [if_pos rfl] at H
        obtain rfl := Option.some.inj H
        clear H
        go_wp2_with (go_at_call 27; (with_reducible refine (inode_Extent_meets.calls a b x.f0 x.f1 true _ HT.out).mono ?_); rintro e w5 ⟨rfl, hb5⟩; have HB5 := Aside0.mk (below_step HB.out hb5); clear hb5)
        go_ret
        exact ⟨⟨(i : Int), rfl, by simp⟩, HB5.out⟩
      | false =>
        rw [if_neg (by decide)] at H
        have H' := Aside0.mk H
        clear H
        go_wp2_with (go_at_call 27; (with_reducible refine (inode_Extent_meets.calls a b x.f0 x.f1 false _ HT.out).mono ?_); rintro e w5 ⟨rfl, hb5⟩; have HB5 := Aside0.mk (below_step HB.out hb5); have HR5 := Aside0.mk (Kd.C_below HR.out hb5); clear hb5)
        go_roundg (l.length - i)
        case measure => have := HI.out; omega
        case rel => exact ⟨i + 1, by first | rfl | rw [hi1], ⟨by omega, by omega⟩, H', HR5, HB5⟩
    · have e1 : decide ((i : Int) < (l.length : Int)) = false := decide_eq_false (by omega)
      have H := HH.out
      rw [List.drop_eq_nil_of_le (by omega)] at H
      obtain rfl := Option.some.inj H
      go_wp2_with fail
      go_ret
      exact ⟨⟨-1, rfl, by decide⟩, HB.out⟩
set_option maxHeartbeats 4000000 in
theorem containsMeets (A : Option Addr) (c : Nat) (l : List ExtS) (a b : Int) (r : Bool) (w : World) (hr : Kd.C k51 w A l.length l) (hl : l.length < 8796093022208) (h : anyMeets a b l = some r) :
    Calls Tryz.prog 26 #[.slice A l.length c, .func (.func 27) #[.agg #[.int .i64 a, .int .i64 b]] #[]] w fun e w' => e = .returned (.bool r) ∧ Below w.heap.size w w' := by
  have HR := Aside0.mk hr
  have HH := Aside0.mk h
  have HL := Aside0.mk hl
  clear hr h hl
  go_enter Tryz.func26, Tryz.ntmps26
  go_wp2_with (go_at_call 46; (with_reducible refine (indexMeets A c l a b r _ HR.out HL.out HH.out).mono ?_); rintro e w5 ⟨⟨i, rfl, hi⟩, hb5⟩; have HI := Aside0.mk hi; have HB5 := Aside0.mk hb5; clear hb5)
  go_ret
  exact ⟨by first | rfl | (rw [← HI.out]; rfl), HB5.out⟩
set_option maxHeartbeats 4000000 in
set_option maxRecDepth 100000 in
theorem inode_Inode_meets.calls (a0_0 : Int) (A0_1 : Option Addr) (c0_1 : Nat) (l0_1 : List ExtS) (a1_0 : Int) (a1_1 : Int) (r : Bool) (w : World) (hr0_1 : Kd.C k51 w A0_1 l0_1.length l0_1) (hc0_1 : l0_1.length ≤ c0_1) (h : inode_Inode_meets.f a0_0 l0_1 a1_0 a1_1 = some r) :
    Calls Tryz.prog 36 #[.agg #[.int .i64 a0_0, .slice A0_1 l0_1.length c0_1], .agg #[.int .i64 a1_0, .int .i64 a1_1]] w fun e w' => e = .returned (.bool r) ∧ Below w.heap.size w w' := by
  unfold inode_Inode_meets.f at h
  by_cases hl : l0_1.length < 8796093022208
  case neg => rw [if_neg hl] at h; cases h
  rw [if_pos hl] at h
  have HH := Aside0.mk h
  have HL := Aside0.mk hl
  have HB := Aside0.mk (below_alloc (below_alloc (Below.refl w.heap.size w) (.cells #[.int .i64 a0_0, .slice A0_1 l0_1.length c0_1] 26)) (.cells #[.int .i64 a1_0, .int .i64 a1_1] 51))
  have HR := Aside0.mk (Kd.C_below hr0_1 HB.out)
  have hmf : ∀ (fn : Fn) (first cap : Array Value) (w : World), (Instr.makeFunc fn first cap).run Tryz.prog w = .ok (.func fn first cap) w := fun _ _ _ _ => rfl
  clear h hl hr0_1 hc0_1
  go_enter Tryz.func36, Tryz.ntmps36
  go_wp2_with (go_at_call 26; (with_reducible refine (containsMeets A0_1 c0_1 l0_1 a1_0 a1_1 r _ HR.out HL.out HH.out).mono ?_); rintro e w5 ⟨rfl, hb5⟩; have HB5 := Aside0.mk (below_step HB.out hb5); clear hb5)
  go_ret
  exact ⟨rfl, HB5.out⟩


end Go.Proofs.YtmncfcebjohloaaGreatDoor.VInodeGets
