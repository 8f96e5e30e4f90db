/- Contracts of functions of this seat: each call comes to what its Lean function computes; no condition beyond what each theorem states. Printed by a program of this session's own laid over the kit's printer. -/
import Derived.Test.YtmncfcebjohloaaGreatDoorVInodeGetsx0
import Derived.Test.YtmncfcebjohloaaGreatDoorVInodeGetsx3
import Derived.Test.YtmncfcebjohloaaGreatDoorVInodeGetsx8
import Derived.Test.YtmncfcebjohloaaGreatDoorVInodeGetsx9
import Derived.Test.YtmncfcebjohloaaGreatDoorVInodeGetsx10
import Derived.Test.YtmncfcebjohloaaGreatDoorVInodeGetsx12
import Derived.Test.YtmncfcebjohloaaGreatDoorVInodeGetsx15
import Derived.Test.YtmncfcebjohloaaGreatDoorVInodeGetsx17
namespace Go.Proofs.YtmncfcebjohloaaGreatDoor.VInodeGets
open Go.RowKit Go.Proofs.YtmncfcebjohloaaGreatDoorW.PrintWords Go.Proofs.YtmncfcebjohloaaGreatDoorW.PrintLast Go.Proofs.YtmncfcebjohloaaGreatDoorW.PrintMore
attribute [local go_sem] max2_int min2_int max_two min_two max_three min_three max_four min_four   -- for this text's walks alone
set_option linter.unusedVariables false
set_option linter.unusedSimpArgs false

-- @GIVEN inode_Put
/-! ### inode_Put: by hand -/
def inode_Put.l0 (k : Nat) : List ExtS → ByteArray → Option ByteArray
  | [], acc => some acc
  | e :: l, acc => (le_Put.f k e.f0 2).bind fun s => (le_Put.f k e.f1 2).bind fun t => if s.size = 2 ∧ t.size = 2 ∧ acc.size ≤ 1000 then inode_Put.l0 k l ((acc ++ s) ++ t) else none
def inode_Put.f (k : Nat) (v : Int) (l : List ExtS) : Option (ByteArray × Option Int) := (inode_Right.f v l 2048).bind fun t => if t = true then ((le_Put.f k v 6).bind fun s => (le_Put.f k (l.length : Int) 1).bind fun t => if s.size = 6 ∧ t.size = 1 then ((inode_Put.l0 k l (s ++ t)).bind fun b => if b.size ≤ 1000 then mark_Seal.f k 6 b else none) else none) else some (⟨#[]⟩, some 1)
set_option maxRecDepth 100000 in
theorem inode_Put.mono_l (k : Nat) : ∀ l acc, LeO (inode_Put.l0 k l acc) (inode_Put.l0 (k + 1) l acc)
  | [], _ => LeO.refl _
  | e :: l, acc => by
    rw [inode_Put.l0, inode_Put.l0]
    exact LeO.bind (le_Put.mono _ _ k) fun s => LeO.bind (le_Put.mono _ _ k) fun t => LeO.ite (inode_Put.mono_l k l _) (LeO.refl _)
theorem inode_Put.mono : ∀ a0 a1 k, LeO (inode_Put.f k a0 a1) (inode_Put.f (k + 1) a0 a1) := by
  intro a0 a1 k
  unfold inode_Put.f
  exact LeO.bind (LeO.refl _) fun t => LeO.ite (LeO.bind (le_Put.mono _ _ k) fun s => LeO.bind (le_Put.mono _ _ k) fun t => LeO.ite (LeO.bind (inode_Put.mono_l k _ _) fun b => LeO.ite (mark_Seal.mono _ _ k) (LeO.refl _)) (LeO.refl _)) (LeO.refl _)
theorem nil_app (s : ByteArray) : (⟨#[]⟩ : ByteArray) ++ s = s := by
  apply ByteArray.ext
  rw [ByteArray.data_append]
  exact Array.empty_append
theorem isE_false {s : ByteArray} {n : Nat} (h : s.size = n) (hn : 0 < n) : (false || s.toList.isEmpty) = false := by
  rw [Bool.false_or, Lib.toList_data, List.isEmpty_eq_false_iff]
  intro e
  have : s.size = 0 := by show s.data.size = 0; rw [← Array.length_toList, e]; rfl
  omega
set_option maxHeartbeats 8000000 in
set_option maxRecDepth 100000 in
theorem inode_Put.calls (k : Nat) (a0_0 : Int) (A0_1 : Option Addr) (c0_1 : Nat) (l0_1 : List ExtS) (r1 : ByteArray) (r2 : Option Int) (w : World) (hL_ : Laid w) (hr0_1 : Kd.C k51 w A0_1 l0_1.length l0_1) (hc0_1 : l0_1.length ≤ c0_1) (h : inode_Put.f k a0_0 l0_1 = some (r1, r2)) :
    Calls Tryz.prog 7 #[.agg #[.int .i64 a0_0, .slice A0_1 l0_1.length c0_1]] w fun e w' => e = .returned (.tuple #[.string r1, errW r2]) ∧ Below w.heap.size w w' := by
  have HL_ := Aside0.mk hL_
  clear hL_
  unfold inode_Put.f at h
  obtain ⟨t, hR, h⟩ := Option.bind_eq_some_iff.mp h
  have HRt := Aside0.mk hR
  have HB0 := Aside0.mk (below_alloc (Below.refl w.heap.size w) (.cells #[.int .i64 a0_0, .slice A0_1 l0_1.length c0_1] 26))
  have HX0 := Aside0.mk (heap_alloc_new w (.cells #[.int .i64 a0_0, .slice A0_1 l0_1.length c0_1] 26))
  have HR := Aside0.mk (fun (W : World) (hb : Below w.heap.size w W) => Kd.C_below hr0_1 hb)
  have HC := Aside0.mk hc0_1
  clear hR hr0_1 hc0_1
  cases t with
  | false =>
    rw [if_neg (by decide)] at h
    obtain ⟨rfl, rfl⟩ := Prod.mk.inj (Option.some.inj h)
    clear h
    go_enter Tryz.func7, Tryz.ntmps7
    go_wp2_with (go_at_call 10; (with_reducible refine (inode_Right.calls a0_0 A0_1 c0_1 l0_1 2048 false _ (HR.out _ HB0.out) HC.out HRt.out).mono ?_); rintro e w1 ⟨rfl, hb1⟩; have HB1 := Aside0.mk (below_step HB0.out hb1); clear hb1)
    go_ret2
    exact ⟨rfl, HB1.out⟩
  | true =>
    rw [if_pos rfl] at h
    obtain ⟨s1, hs1, h⟩ := Option.bind_eq_some_iff.mp h
    obtain ⟨s2, hs2, h⟩ := Option.bind_eq_some_iff.mp h
    by_cases hsz : s1.size = 6 ∧ s2.size = 1
    case neg => rw [if_neg hsz] at h; cases h
    rw [if_pos hsz] at h
    obtain ⟨b, hb, h⟩ := Option.bind_eq_some_iff.mp h
    by_cases hbs : b.size ≤ 1000
    case neg => rw [if_neg hbs] at h; cases h
    rw [if_pos hbs] at h
    have HS1 := Aside0.mk hs1
    have HS2 := Aside0.mk hs2
    have HZ := Aside0.mk hsz
    have HP := Aside0.mk hb
    have HM := Aside0.mk h
    clear hs1 hs2 hsz hb h hbs
    have HU := Aside0.mk (show (26 : Nat) ≠ 5 ∧ (51 : Nat) ≠ 5 by decide)
    have hu2 := Tryz.underlying51
    go_enter Tryz.func7, Tryz.ntmps7
    go_wp2_with (first
      | (go_at_call 10; (with_reducible refine (inode_Right.calls a0_0 A0_1 c0_1 l0_1 2048 true _ (HR.out _ HB0.out) HC.out HRt.out).mono ?_); rintro e w1 ⟨rfl, hb1⟩; have HB1 := Aside0.mk (below_step HB0.out hb1); have HX1 := Aside0.mk (blk_below HX0.out hb1); have HG1 := Aside0.mk (blk_lt HX1.out); have HO2 := Aside0.mk (OutIs.new (B := w.heap.size) (heap_alloc_new w1 (.cells #[.pointer none, .slice none 0 0, .bool false] 63)) HB1.out.size); have HX2 := Aside0.mk (blk_alloc HX1.out (.cells #[.pointer none, .slice none 0 0, .bool false] 63)); have HB2 := Aside0.mk (below_alloc HB1.out (.cells #[.pointer none, .slice none 0 0, .bool false] 63)); have hx0 := (blk_cell HX2.out 0).trans rfl; have hx1 := (blk_cell HX2.out 1).trans rfl; clear hb1 HB1 HX1)
      | (go_at_call 20; (with_reducible refine (oNum k w.heap.size w1.heap.size ⟨#[]⟩ false a0_0 6 s1 _ HO2.out HB2.out.size HS1.out (by have := HZ.out; rw [this.1]; decide)).mono ?_); rintro e w3 ⟨rfl, ho3, hb3, hk3⟩; have HO3 := Aside0.mk (OutIs.as ho3 (nil_app s1) (isE_false HZ.out.1 (by decide))); have HB3 := Aside0.mk (HB2.out.trans hb3); have HX3 := Aside0.mk (hk3 _ _ _ (Nat.ne_of_lt HG1.out) HU.out.1 HX2.out); have hx0 := (blk_cell HX3.out 0).trans rfl; have hx1 := (blk_cell HX3.out 1).trans rfl; clear ho3 hb3 hk3 HO2 HB2 HX2)
      | (go_at_call 20; (with_reducible refine (oNum k w.heap.size w1.heap.size s1 false (l0_1.length : Int) 1 s2 _ HO3.out HB3.out.size HS2.out (by have := HZ.out; rw [this.1, this.2]; decide)).mono ?_); rintro e w4 ⟨rfl, ho4, hb4, hk4⟩; have HO4 := Aside0.mk (OutIs.as ho4 rfl (isE_false HZ.out.2 (by decide))); have HB4 := Aside0.mk (HB3.out.trans hb4); have HX4 := Aside0.mk (hk4 _ _ _ (Nat.ne_of_lt HG1.out) HU.out.1 HX3.out); have hx0 := (blk_cell HX4.out 0).trans rfl; have hx1 := (blk_cell HX4.out 1).trans rfl; clear ho4 hb4 hk4 HO3 HB3 HX3))
    go_loopg [6, 23] (l0_1.length + 1) (fun kq v6 v23 w' => ∃ (i : Nat) (acc : ByteArray), v23 = .int .i64 (i : Int) ∧ Aside0 (i ≤ l0_1.length ∧ kq = l0_1.length - i + 1) ∧ Aside0 (inode_Put.l0 k (l0_1.drop i) acc = some b) ∧ Aside0 (OutIs w.heap.size w1.heap.size acc false w') ∧ Aside0 (w'.heap[w.heap.size]? = some (.cells #[.int .i64 a0_0, .slice A0_1 l0_1.length c0_1] 26 (0, 0))) ∧ Aside0 (Below w.heap.size w w'))
    case atStart => exact ⟨0, _, rfl, ⟨by omega, by omega⟩, by rw [List.drop_zero]; exact HP, HO4, HX4, HB4⟩
    case round =>
      clear HP HO4 HX4 HB4 hx0 hx1
      obtain ⟨i, acc, rfl, HI, HP, HO, HX, HB⟩ := hrel
      by_cases c1 : i < l0_1.length
      · have e1 : decide ((i : Int) < (l0_1.length : Int)) = true := decide_eq_true (by omega)
        have p1 := eq_true (show (0 : Int) ≤ (i : Int) by omega)
        have p2 := eq_true (show (i : Int) < (l0_1.length : Int) by omega)
        have p3 := eq_true c1
        obtain ⟨ad, rfl, hx0, hx1⟩ := at_T51 (HR.out wr HB.out) (i : Int) (by omega) (by omega)
        rw [show ((i : Int)).toNat = i from rfl] at hx0 hx1
        have HI1 := Aside0.mk (show wrap64 ((i : Int) + 1) = ((i + 1 : Nat) : Int) by have := (HR.out wr HB.out).2.1; unfold maxLen at this; unfold wrap64; omega)
        have hd : l0_1.drop i = rd_T51 l0_1 (i : Int) :: l0_1.drop (i + 1) := by
          unfold rd_T51
          rw [List.drop_eq_getElem_cons c1, Int.toNat_natCast, List.getD_eq_getElem?_getD, List.getElem?_eq_getElem c1]; rfl
        have H := HP.out
        rw [hd, inode_Put.l0] at H
        clear hd HP
        generalize rd_T51 l0_1 (i : Int) = x at *
        obtain ⟨u, hu, H⟩ := Option.bind_eq_some_iff.mp H
        obtain ⟨t, ht, H⟩ := Option.bind_eq_some_iff.mp H
        by_cases hq : u.size = 2 ∧ t.size = 2 ∧ acc.size ≤ 1000
        case neg => rw [if_neg hq] at H; cases H
        rw [if_pos hq] at H
        have HQ := Aside0.mk hq
        have HU2 := Aside0.mk hu
        have HT2 := Aside0.mk ht
        have H' := Aside0.mk H
        clear H hu ht hq
        have HO5 := Aside0.mk (show OutIs w.heap.size w1.heap.size acc false _ from BOut.alloc HO.out (.cells #[.int .i64 x.f0, .int .i64 x.f1] 51))
        have HX5 := Aside0.mk (blk_alloc HX.out (.cells #[.int .i64 x.f0, .int .i64 x.f1] 51))
        have HB5 := Aside0.mk (below_alloc HB.out (.cells #[.int .i64 x.f0, .int .i64 x.f1] 51))
        have HZ5 := Aside0.mk (heap_alloc_new wr (.cells #[.int .i64 x.f0, .int .i64 x.f1] 51))
        have HG5 := Aside0.mk (BOut.lt HO.out)
        go_wp2_with (first
          | (go_at_call 20; (with_reducible refine (oNum k w.heap.size w1.heap.size acc false x.f0 2 u _ HO5.out HB5.out.size HU2.out (by have := HQ.out; omega)).mono ?_); rintro e w6 ⟨rfl, ho6, hb6, hk6⟩; have HO6 := Aside0.mk (OutIs.as ho6 rfl (isE_false HQ.out.1 (by decide))); have HB6 := Aside0.mk (HB5.out.trans hb6); have HX6 := Aside0.mk (hk6 _ _ _ (Nat.ne_of_lt HG1.out) HU.out.1 HX5.out); have HZ6 := Aside0.mk (hk6 _ _ _ (Nat.ne_of_gt HG5.out) HU.out.2 HZ5.out); have hz0 := (blk_cell HZ6.out 0).trans rfl; have hz1 := (blk_cell HZ6.out 1).trans rfl; clear ho6 hb6 hk6 HO5 HB5 HX5 HZ5)
          | (go_at_call 20; (with_reducible refine (oNum k w.heap.size w1.heap.size (acc ++ u) false x.f1 2 t _ HO6.out HB6.out.size HT2.out (by have := HQ.out; rw [ByteArray.size_append]; omega)).mono ?_); rintro e w7 ⟨rfl, ho7, hb7, hk7⟩; have HO7 := Aside0.mk (OutIs.as ho7 rfl (isE_false HQ.out.2.1 (by decide))); have HB7 := Aside0.mk (HB6.out.trans hb7); have HX7 := Aside0.mk (hk7 _ _ _ (Nat.ne_of_lt HG1.out) HU.out.1 HX6.out); clear ho7 hb7 hk7 HO6 HB6 HX6 HZ6))
        go_roundg (l0_1.length - i)
        case measure => have := HI.out; omega
        case rel => exact ⟨i + 1, _, (by first | rfl | rw [HI1.out]), ⟨by omega, by omega⟩, H', HO7, HX7, HB7⟩
      · have e1 : decide ((i : Int) < (l0_1.length : Int)) = false := decide_eq_false (by omega)
        have H := HP.out
        rw [List.drop_eq_nil_of_le (by omega), inode_Put.l0] at H
        obtain rfl := Option.some.inj H
        clear H HP
        go_wp2_with (first
          | (go_at_call 21; (with_reducible refine (oString w.heap.size w1.heap.size acc false _ HO.out).mono ?_); rintro e w8 ⟨rfl, hb8⟩; have HB8 := Aside0.mk (HB.out.trans hb8); have HO8 := Aside0.mk (show outString acc false = (acc, none) from rfl); simp only [HO8.out, errW_none]; clear hb8)
          | (go_at_call 22; (with_reducible refine (mark_Seal.calls k 6 acc r1 r2 _ (Laid.below HL_.out HB8.out) HM.out).mono ?_); rintro e w9 ⟨rfl, hb9⟩; have HB9 := Aside0.mk (below_step HB8.out hb9); clear hb9))
        go_ret2
        exact ⟨rfl, HB9.out⟩


end Go.Proofs.YtmncfcebjohloaaGreatDoor.VInodeGets
