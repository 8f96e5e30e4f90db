/- Contracts of functions of this seat: each call comes to what its Lean function computes; no condition beyond what each theorem states. Printed by a program of this session's own laid over the kit's printer. -/
import Derived.Test.YtegcaniikdibdaaDoorVFaultNilx0
import Derived.Test.YtegcaniikdibdaaDoorVFaultNilx1
import Derived.Test.YtegcaniikdibdaaDoorVFaultNilx2
import Derived.Test.YtegcaniikdibdaaDoorVFaultNilx3
import Derived.Test.YtegcaniikdibdaaDoorVFaultNilx4
import Derived.Test.YtegcaniikdibdaaDoorVFaultNilx5
import Derived.Test.YtegcaniikdibdaaDoorVFaultNilx11
import Derived.Test.YtegcaniikdibdaaDoorVFaultNilx12
import Derived.Test.YtegcaniikdibdaaDoorVFaultNilx13
import Derived.Test.YtegcaniikdibdaaDoorVFaultNilx14
import Derived.Test.YtegcaniikdibdaaDoorVFaultNilx15
namespace Go.Proofs.YtegcaniikdibdaaDoor.VFaultNil
open Go.RowKit Go.Proofs.YtegcaniikdibdaaDoorW.PrintWords Go.Proofs.YtegcaniikdibdaaDoorW.PrintLast Go.Proofs.YtegcaniikdibdaaDoorW.PrintMore
attribute [local go_sem] max2_int min2_int max_two min_two max_three min_three max_four min_four   -- for this text's walks alone
set_option linter.unusedVariables false
set_option linter.unusedSimpArgs false

-- @GIVEN posthorselaw02_FaultNil
/-! ### posthorselaw02_FaultNil: by hand -/
def posthorselaw02_FaultNil.f (k : Nat) (a0 : ByteArray) (a1 : Int) : Option Bool := if 100 < a0.size then some true else (posthorseref02_Digits.f k a1).bind fun d => if d = ⟨(Lib.itoa a1).toArray⟩ ∧ -9223372036854775808 ≤ a1 ∧ a1 ≤ 9223372036854775807 then some true else none
theorem grow_below (w : World) (k : Nat) (os : Array Obj) : Below w.heap.size w (Go.Sort.grow (w.drewN k) os) :=
  ⟨rfl, rfl, rfl, by simp [Go.Sort.grow], fun i hi => by show (w.heap ++ os)[i]? = _; rw [Array.getElem?_append_left hi]⟩
theorem itoa_calls (p : Int) (h0 : -9223372036854775808 ≤ p) (h1 : p ≤ 9223372036854775807) (W : World) (hL : Laid W) : Calls Tryd.prog 50 #[.int .i64 p] W (fun r w' => r = .returned (.string ⟨(Lib.itoa p).toArray⟩) ∧ Below W.heap.size W w') :=
  (Tryd.strconv_Itoa p h0 h1 W (Laid.pow10 hL)).mono (by rintro r w' ⟨rfl, k, os, rfl⟩; exact ⟨rfl, grow_below _ _ _⟩)
set_option maxHeartbeats 8000000 in
set_option maxRecDepth 100000 in
theorem posthorselaw02_FaultNil.calls (k : Nat) (a0 : ByteArray) (a1 : Int) (r : Bool) (w : World) (hL_ : Laid w) (h : posthorselaw02_FaultNil.f k a0 a1 = some r) :
    Calls Tryd.prog 6 #[.string a0, .int .i64 a1] w fun e w' => e = .returned (.bool r) ∧ Below w.heap.size w w' := by
  have HL_ := Aside0.mk hL_
  clear hL_
  unfold posthorselaw02_FaultNil.f at h
  have HSP := Aside0.mk (show posthorselaw02_speaks.f = some true from rfl)
  by_cases hz : 100 < a0.size
  · rw [if_pos hz] at h
    obtain rfl := Option.some.inj h
    clear h
    have p1 := eq_true hz
    have p2 : decide ((100 : Int) < (a0.size : Int)) = true := decide_eq_true (by omega)
    have p3 : decide (100 < a0.size) = true := decide_eq_true hz
    go_enter Tryd.func6, Tryd.ntmps6
    go_wp2_with (go_at_call 10; (with_reducible refine (posthorselaw02_speaks.calls true _ HL_.out HSP.out).mono ?_); rintro e w1 ⟨rfl, hb1⟩; have HB1 := Aside0.mk hb1; clear hb1)
    go_ret
    exact ⟨rfl, HB1.out⟩
  · rw [if_neg hz] at h
    obtain ⟨d, hd, h⟩ := Option.bind_eq_some_iff.mp h
    by_cases hc : d = ⟨(Lib.itoa a1).toArray⟩ ∧ -9223372036854775808 ≤ a1 ∧ a1 ≤ 9223372036854775807
    case neg => rw [if_neg hc] at h; cases h
    rw [if_pos hc] at h
    obtain rfl := Option.some.inj h
    obtain ⟨rfl, hlo, hhi⟩ := hc
    have p2 : decide ((100 : Int) < (a0.size : Int)) = false := decide_eq_false (by omega)
    have p3 : decide (100 < a0.size) = false := decide_eq_false hz
    have p1 := eq_false hz
    have HD := Aside0.mk hd
    have HZ := Aside0.mk (show a0.size ≤ 100 by omega)
    have HA := Aside0.mk (And.intro hlo hhi)
    clear h hd hz hlo hhi
    go_enter Tryd.func6, Tryd.ntmps6
    go_upto_region 7 with (first
      | (go_at_call 10; (with_reducible refine (posthorselaw02_speaks.calls true _ HL_.out HSP.out).mono ?_); rintro e w1 ⟨rfl, hb1⟩; have HB1 := Aside0.mk hb1; clear hb1)
      | (go_at_call 23; (with_reducible refine (eFind_nil _).mono ?_); rintro e w2 ⟨rfl, hb2⟩; have HB2 := Aside0.mk (below_step HB1.out hb2); clear hb2))
    obtain ⟨it, hit⟩ : ∃ it : ByteArray, it = ⟨(Lib.itoa a1).toArray⟩ := ⟨_, rfl⟩
    have HIT := Aside0.mk hit
    rw [← hit] at HD
    have hits : it.size ≤ 21 := by rw [hit]; exact Lib.itoa_length_le a1 HA.out.1 HA.out.2
    have HE := Aside0.mk (fun (g : Nat) (W : World) (hg : W.heap[g]? = some (.cells #[.string a0, .int .i64 a1, .nilIface] 39 (0, 0))) (hL : Laid W) => fError g a0 it (⟨#[63]⟩ : ByteArray) a1 .nilIface W hg (by have := HZ.out; show a0.size + it.size + 1 ≤ 1000000; omega) (fun W1 h1 => by rw [HIT.out]; exact itoa_calls a1 HA.out.1 HA.out.2 W1 (Laid.below hL h1)) (fun W1 h1 => (eText_nil W1).mono (by rintro r w' ⟨rfl, rfl⟩; exact ⟨rfl, Below.refl _ _⟩)))
    have T5 := Aside0.mk (show ((((a0 ++ (⟨#[32]⟩ : ByteArray)) ++ it) ++ (⟨#[58, 32]⟩ : ByteArray)) ++ (⟨#[63]⟩ : ByteArray)) = ((a0 ++ (⟨#[32]⟩ : ByteArray)) ++ it) ++ (⟨#[58, 32, 63]⟩ : ByteArray) from by rw [ByteArray.append_assoc (b := (⟨#[58, 32]⟩ : ByteArray))]; rfl)
    have T6 := Aside0.mk (show hitF a0 a1 a0 a1 = true from by unfold hitF; simp)
    have hz1 := HZ.out
    clear hit
    go_wp2_with (first
      | ((with_reducible refine gate_dst (N := 21) rfl ?_); refine box_event ?hg (N := 21) ?hd (cs := #[.string a0, .int .i64 a1, .nilIface]) (t := 39) ?hr ?_; (case hd => rfl); (case hg => rfl); (case hr => first | (go_simp; done) | (go_simp; rfl)); intro g8 hg8 w3 hbox hb; have HG3 := Aside0.mk hbox; have HB3 := Aside0.mk (below_step (below_alloc HB2.out (.cells #[.string ⟨#[]⟩, .int .i64 0, .nilIface] 39)) hb); clear hg8 hbox hb)
      | (go_at_call 24; (with_reducible refine (eWrap_nil a0 a1 _).mono ?_); rintro r w5 ⟨rfl, rfl⟩)
      | (go_at_call 17; (with_reducible refine (eTextT_nil _).mono ?_); rintro r w5 ⟨rfl, rfl⟩)
      | (go_at_call 25; (with_reducible refine (eError_nil _).mono ?_); rintro r w5 ⟨rfl, rfl⟩)
      | (go_at_call 26; (with_reducible refine (eUnwrap_nil _).mono ?_); rintro r w5 ⟨rfl, rfl⟩)
      | (go_at_call 27; (with_reducible refine (isF_nil g8 _).mono ?_); rintro r w4 ⟨rfl, hb⟩; have HG4 := Aside0.mk (blk_below HG3.out hb); have HB4 := Aside0.mk (below_step HB3.out hb); clear hb)
      | (go_at_call 15; (with_reducible refine (eOps_nil _).mono ?_); rintro r w5 ⟨rfl, rfl⟩)
      | (go_at_call 19; (with_reducible refine (eNumber_bare g8 a0 a1 _ (Laid.below HL_.out HB4.out) HG4.out).mono ?_); rintro r w5 ⟨rfl, hb⟩; have HG5 := Aside0.mk (blk_below HG4.out hb); have HB5 := Aside0.mk (below_step HB4.out hb); clear hb)
      | ((with_reducible refine gate_dst (N := 67) rfl ?_); (try (refine gate_guard (by rfl) ?_; dsimp only)); refine box_event ?hg (N := 67) ?hd (cs := #[.string a0, .int .i64 a1, .nilIface]) (t := 39) ?hr ?_; (case hd => rfl); (case hg => rfl); (case hr => first | (go_simp; done) | (go_simp; rfl)); intro g9 hg9 w6 hbox hb; have HT6 := Aside0.mk hbox; have HG6 := Aside0.mk (blk_below HG5.out hb); have HB6 := Aside0.mk (below_step HB5.out hb); clear hg9 hbox hb)
      | (go_at_call 27; (with_reducible refine (isF_fault g8 g9 a0 a0 a1 a1 .nilIface _ HG6.out HT6.out).mono ?_); rintro r w7 ⟨rfl, hb⟩; rw [T6.out]; have HG7 := Aside0.mk (blk_below HG6.out hb); have HB7 := Aside0.mk (below_step HB6.out hb); clear hb)
      | (go_at_call 27; (refine (isF_num g8 5 _).mono ?_); rintro r w8 ⟨rfl, hb⟩; have HG8 := Aside0.mk (blk_below HG7.out hb); have HB8 := Aside0.mk (below_step HB7.out hb); clear hb)
      | (go_at_call 25; (with_reducible refine (HE.out g8 _ HG8.out (Laid.below HL_.out HB8.out)).mono ?_); rintro r w9 ⟨rfl, hb⟩; rw [T5.out]; have HB9 := Aside0.mk (below_step HB8.out hb); clear hb)
      | (go_at_call 28; (with_reducible refine (posthorseref02_Digits.calls k a1 it _ HD.out).mono ?_); rintro r w10 ⟨rfl, hb⟩; have HB10 := Aside0.mk (below_step HB9.out hb); clear hb))
    go_ret
    exact ⟨by first | rfl | simp, HB10.out⟩


end Go.Proofs.YtegcaniikdibdaaDoor.VFaultNil
