/- Contracts of functions of this seat: each call comes to what its Lean function computes; no condition beyond what each theorem states. Printed by a program of this session's own laid over the kit's printer. -/
import Derived.Test.YtngokgliagkohaaDoorVBitsGetsx0
import Derived.Test.YtngokgliagkohaaDoorVBitsGetsx1
import Derived.Test.YtngokgliagkohaaDoorVBitsGetsx5
import Derived.Test.YtngokgliagkohaaDoorVBitsGetsx13
namespace Go.Proofs.YtngokgliagkohaaDoor.VBitsGets
open Go.RowKit Go.Proofs.YtngokgliagkohaaDoorW.PrintWords Go.Proofs.YtngokgliagkohaaDoorW.PrintLast Go.Proofs.YtngokgliagkohaaDoorW.PrintMore
attribute [local go_sem] max2_int min2_int max_two min_two max_three min_three max_four min_four   -- for this text's walks alone
set_option linter.unusedVariables false
set_option linter.unusedSimpArgs false

-- @GIVEN bits_Get
/-! ### bits_Get: by hand -/
/-- Is a bit of some bytes set? -/
def bitAt (b : ByteArray) (i : Nat) : Bool := (b.data.toList.getD (i / 8) 0).toNat / 2 ^ (i % 8) % 2 == 1
/-- Get's loop: from bit i on. -/
def getLp (b : ByteArray) : Nat → Nat → List Bool → Option (List Bool)
  | 0, _, l => some l
  | k + 1, i, l => if i < 8 * b.size then (if bitAt b i = true then (if turnE l i 1 true 9 = none then getLp b k (i + 1) (turnL l i 1 true 9) else none) else getLp b k (i + 1) l) else some l
/-- What Get answers: the set, or the error's number. -/
def bits_Get.f (k : Nat) (s : ByteArray) (n : Int) : Option (Option (List Bool) × Int) := if 1 ≤ n ∧ n ≤ 4000 then (mark_Open.f k 5 s).bind fun p => if p.1.size ≤ 600 then (match p.2 with | some e => some (none, e) | none => match getLp p.1 (8 * p.1.size + 1) 0 (List.replicate n.toNat false) with | some l => some (some l, 0) | none => some (none, 4)) else none else some (none, 1)
theorem getLp_end (b : ByteArray) (k i : Nat) (l : List Bool) (h : 8 * b.size ≤ i) : getLp b k i l = some l := by
  cases k with
  | zero => rfl
  | succ k => rw [getLp, if_neg (by omega)]
theorem turnL_len_ (l : List Bool) (i n : Int) (b : Bool) (o : Int) {m : Nat} (h : l.length = m) : (turnL l i n b o).length = m := by
  unfold turnL
  split
  · rename_i he
    unfold turnE at he
    split at he
    · rename_i hc
      rw [setRun_len _ _ _ _ (by omega)]; exact h
    · cases he
  · exact h
/-- What Get hands back. -/
def getRes (B : Nat) (r : Option (List Bool) × Int) (e : Ending) (w' : World) : Prop := match r with
  | (none, c) => e = .returned (.tuple #[.pointer none, errW (some c)])
  | (some l, _) => ∃ g tb cp, e = .returned (.tuple #[.pointer (some ⟨g, 0, none⟩), .nilIface]) ∧ SetIs B g tb cp [] l w'
theorem u8n1_ (a : Nat) (ha : a < 256) : (BitVec.ofInt 8 (a : Int)).toNat = a := by
  rw [BitVec.ofInt_natCast, BitVec.toNat_ofNat]; exact Nat.mod_eq_of_lt (by omega)
theorem and1_u8 (a : Nat) (ha : a < 256) : Go.bits .and .u8 (a : Int) 1 = ((a % 2 : Nat) : Int) := by
  show IntKind.u8.wrap ((BitVec.ofInt 8 (a : Int) &&& BitVec.ofInt 8 ((1 : Nat) : Int)).toNat : Int) = _
  rw [BitVec.toNat_and, u8n1_ a ha, u8n1_ 1 (by decide), show a &&& 1 = a % 2 from Nat.and_two_pow_sub_one_eq_mod a 1]
  simp only [IntKind.wrap, IntKind.bits, IntKind.signed]
  simp; omega
set_option maxHeartbeats 8000000 in
set_option maxRecDepth 100000 in
theorem setGet (k : Nat) (s : ByteArray) (n : Int) (r : Option (List Bool) × Int) (w : World) (hL_ : Laid w) (hf : bits_Get.f k s n = some r) :
    Calls Tryd.prog 32 #[.string s, .int .i64 n] w fun e w' => getRes w.heap.size r e w' ∧ Below w.heap.size w w' := by
  have HL_ := Aside0.mk hL_
  clear hL_
  unfold bits_Get.f at hf
  by_cases hn : 1 ≤ n ∧ n ≤ 4000
  case neg =>
    rw [if_neg hn] at hf
    obtain rfl := Option.some.inj hf
    clear hf
    have HN := Aside0.mk hn
    clear hn
    go_enter Tryd.func32, Tryd.ntmps32
    go_wp2_with (go_at_call 12; (with_reducible refine (setNew_not n _ HN.out).mono ?_); rintro e w2 ⟨rfl, rfl⟩; simp only [errW_some])
    go_ret2
    exact ⟨rfl, Below.refl _ _⟩
  rw [if_pos hn] at hf
  obtain ⟨n, rfl⟩ := Int.eq_ofNat_of_zero_le (show 0 ≤ n by omega)
  obtain ⟨⟨p, pe⟩, ho, hf⟩ := Option.bind_eq_some_iff.mp hf
  by_cases hsz : p.size ≤ 600
  case neg => rw [if_neg hsz] at hf; cases hf
  rw [if_pos hsz] at hf
  have HN := Aside0.mk hn
  have HO := Aside0.mk ho
  have HZ := Aside0.mk hsz
  clear hn ho hsz
  cases pe with
  | some e =>
    obtain rfl := Option.some.inj hf
    clear hf
    go_enter Tryd.func32, Tryd.ntmps32
    go_wp2_with (first
      | (go_at_call 12; (with_reducible refine (setNew (n : Int) _ HN.out.1 HN.out.2).mono ?_); rintro e w2 ⟨g, tb, rfl, _, hb2⟩; have HB2 := Aside0.mk hb2; clear hb2)
      | (go_at_call 47; (with_reducible refine (mark_Open.calls k 5 s p (some e) _ (Laid.below HL_.out HB2.out) HO.out).mono ?_); rintro e_ w3 ⟨rfl, hb3⟩; have HB3 := Aside0.mk (below_step HB2.out hb3); simp only [errW_some]; clear hb3))
    go_ret2
    exact ⟨rfl, HB3.out⟩
  | none =>
    have HF := Aside0.mk hf
    clear hf
    go_enter Tryd.func32, Tryd.ntmps32
    go_wp2_with (first
      | (go_at_call 12; (with_reducible refine (setNew (n : Int) _ HN.out.1 HN.out.2).mono ?_); rintro e w2 ⟨g, tb, rfl, hs2, hb2⟩; have HS2 := Aside0.mk hs2; have HB2 := Aside0.mk hb2; clear hb2 hs2)
      | (go_at_call 47; (with_reducible refine (mark_Open.calls k 5 s p none _ (Laid.below HL_.out HB2.out) HO.out).mono ?_); rintro e_ w3 ⟨rfl, hb3⟩; have HB3 := Aside0.mk (below_step HB2.out hb3); have HS3 := Aside0.mk (HS2.out.below hb3); simp only [errW_none]; clear hb3))
    have e8 : wrap64 (8 * (p.size : Int)) = ((8 * p.size : Nat) : Int) := by have := HZ.out; unfold wrap64; omega
    have HE8 := Aside0.mk e8
    clear e8
    go_loopg [9, 29] (8 * p.size + 1) (fun kq v9 v29 w' => ∃ (i : Nat) (l : List Bool), v29 = .int .i64 (i : Int) ∧ Aside0 (i ≤ 8 * p.size ∧ kq = 8 * p.size + 1 - i) ∧ Aside0 (l.length = n ∧ (match getLp p kq i l with | some l => some (some l, (0 : Int)) | none => some (none, 4)) = some r) ∧ Aside0 (SetIs w.heap.size g tb n [] l w') ∧ Aside0 (Below w.heap.size w w'))
    case atStart => exact ⟨0, _, rfl, ⟨by omega, by omega⟩, ⟨List.length_replicate, HF.out⟩, HS3, HB3⟩
    case round =>
      clear HF HS2 HB2 HS3 HB3
      obtain ⟨i, l, rfl, HI, HG, HS, HB⟩ := hrel
      by_cases c : i < 8 * p.size
      · obtain ⟨k1, rfl⟩ : ∃ k1, gk = k1 + 1 := ⟨gk - 1, by have := HI.out; omega⟩
        have H := HG.out.2
        have HLN := Aside0.mk HG.out.1
        rw [getLp, if_pos c] at H
        have d1 : decide ((i : Int) < wrap64 (8 * (p.size : Int))) = true := decide_eq_true (by rw [HE8.out]; omega)
        have hi1 : wrap64 ((i : Int) + 1) = ((i + 1 : Nat) : Int) := by have := HZ.out; unfold wrap64; omega
        have hj : i / 8 < p.size := by omega
        have w2_ : wrap64 ((i : Int) / 8) = (i : Int) / 8 := by have := HZ.out; unfold wrap64; omega
        have w1_ : IntKind.i64.wrap ((i : Int) / 8) = (i : Int) / 8 := by rw [IntKind.wrap_i64]; have := HZ.out; omega
        have q1 := eq_true (show 0 ≤ (i : Int) / 8 by omega)
        have q3 := eq_true (show (i : Int) / 8 < (p.size : Int) by omega)
        have q4 := eq_true hj
        have q5 : ((i : Int) / 8).toNat = i / 8 := by omega
        have hbt : bitAt p i = ((p[i / 8]'hj).toNat / 2 ^ (i % 8) % 2 == 1) := by
          unfold bitAt
          rw [List.getD_eq_getElem?_getD, List.getElem?_eq_getElem (by rw [Array.length_toList]; exact hj)]
          simp [Array.getElem_toList]; rfl
        have hb0 := (p[i / 8]'hj).toNat_lt
        have hdv : ((p[i / 8]'hj).toNat : Int) / 2 ^ (i % 8) = (((p[i / 8]'hj).toNat / 2 ^ (i % 8) : Nat) : Int) := by
          rw [Int.natCast_ediv, Int.natCast_pow]; rfl
        have hand := and1_u8 ((p[i / 8]'hj).toNat / 2 ^ (i % 8)) (Nat.lt_of_le_of_lt (Nat.div_le_self _ _) (by omega))
        rw [← hdv] at hand
        clear hdv hb0
        cases hv : bitAt p i with
        | false =>
          rw [hv, if_neg (by simp)] at H
          have hz : (p[i / 8]'hj).toNat / 2 ^ (i % 8) % 2 = 0 := by
            rw [hv] at hbt
            have := beq_eq_false_iff_ne.1 hbt.symm
            omega
          rw [hz] at hand
          have H' := Aside0.mk H
          clear H hz hbt hv
          go_wp2_with fail
          go_roundg k1
          case measure => omega
          case rel => exact ⟨i + 1, l, (by first | rfl | rw [hi1]), ⟨by omega, by have := HI.out; omega⟩, ⟨HLN.out, H'.out⟩, HS, HB⟩
        | true =>
          rw [hv, if_pos rfl] at H
          have hz : (p[i / 8]'hj).toNat / 2 ^ (i % 8) % 2 = 1 := by
            rw [hv] at hbt
            have := beq_iff_eq.1 hbt.symm
            omega
          rw [hz] at hand
          clear hz hbt hv
          have HTL := Aside0.mk (turnL_len_ l (i : Int) 1 true 9 HLN.out)
          cases ht : turnE l (i : Int) 1 true 9 with
          | none =>
            rw [ht, if_pos rfl] at H
            have H' := Aside0.mk H
            have HT := Aside0.mk ht
            clear H ht
            go_wp2_with (go_at_call 13; (with_reducible refine (setTake (i : Int) 1 _ HS.out).mono ?_); rintro e w5 ⟨rfl, hs5, hb5, _⟩; have HS5 := Aside0.mk hs5; have HB5 := Aside0.mk (HB.out.trans hb5); simp only [HT.out, errW_none]; clear hs5 hb5)
            go_roundg k1
            case measure => omega
            case rel => exact ⟨i + 1, _, (by first | rfl | rw [hi1]), ⟨by omega, by have := HI.out; omega⟩, ⟨HTL.out, H'.out⟩, HS5, HB5⟩
          | some e1 =>
            rw [ht, if_neg (by simp)] at H
            obtain rfl := Option.some.inj H
            have HT := Aside0.mk ht
            clear H ht
            go_wp2_with (go_at_call 13; (with_reducible refine (setTake (i : Int) 1 _ HS.out).mono ?_); rintro e w5 ⟨rfl, _, hb5, _⟩; have HB5 := Aside0.mk (HB.out.trans hb5); simp only [HT.out, errW_some]; clear hb5)
            go_ret2
            exact ⟨rfl, HB5.out⟩
      · have d1 : decide ((i : Int) < wrap64 (8 * (p.size : Int))) = false := decide_eq_false (by rw [HE8.out]; omega)
        have H := HG.out.2
        rw [getLp_end p gk i l (by omega)] at H
        obtain rfl := Option.some.inj H
        clear H
        go_wp2_with fail
        go_ret2
        exact ⟨⟨g, tb, n, rfl, HS.out⟩, HB.out⟩


end Go.Proofs.YtngokgliagkohaaDoor.VBitsGets
