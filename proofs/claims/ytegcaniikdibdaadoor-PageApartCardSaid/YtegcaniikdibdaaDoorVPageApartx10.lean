/- Contracts of functions of this seat: each call comes to what its Lean function computes; no condition beyond what each theorem states. Printed by a program of this session's own laid over the kit's printer. -/
import Derived.Test.YtegcaniikdibdaaDoorVPageApartx0
import Derived.Test.YtegcaniikdibdaaDoorVPageApartx1
import Derived.Test.YtegcaniikdibdaaDoorVPageApartx2
import Derived.Test.YtegcaniikdibdaaDoorVPageApartx6
import Derived.Test.YtegcaniikdibdaaDoorVPageApartx9
namespace Go.Proofs.YtegcaniikdibdaaDoor.VPageApart
open Go.RowKit Go.Proofs.YtegcaniikdibdaaDoorW.PrintWords Go.Proofs.YtegcaniikdibdaaDoorW.PrintLast Go.Proofs.YtegcaniikdibdaaDoorW.PrintMore
attribute [local go_sem] max2_int min2_int max_two min_two max_three min_three max_four min_four   -- for this text's walks alone
set_option linter.unusedSimpArgs false
set_option linter.unusedVariables false
section
/-! ### posthorselaw11_same: function 32 -/
mutual
def posthorselaw11_same.j0 : Nat → Bool → Int → List ByteArray → List ByteArray → List Int → Int → List ByteArray → List ByteArray → List Int → Option (Bool)
 | 0, _, _, _, _, _, _, _, _, _ => none
 | k + 1, x39, x326000, x326001, x326002, x326003, x327000, x327001, x327002, x327003 => if x39 = true then (some false) else (posthorselaw11_same.l0 k 0 x326000 x326001 x326002 x326003 x327000 x327001 x327002 x327003)
def posthorselaw11_same.l0 : Nat → Int → Int → List ByteArray → List ByteArray → List Int → Int → List ByteArray → List ByteArray → List Int → Option (Bool)
 | 0, _, _, _, _, _, _, _, _, _ => none
 | k + 1, x5, x326000, x326001, x326002, x326003, x327000, x327001, x327002, x327003 => if x5 < (x327001.length : Int) then (if 0 ≤ x5 then (if x5 < (x326001.length : Int) then (if (rdOf ByteArray.empty x326001 x5).toList = (rdOf ByteArray.empty x327001 x5).toList then (posthorselaw11_same.l0 k (wrap64 (x5 + 1)) x326000 x326001 x326002 x326003 x327000 x327001 x327002 x327003) else (some false)) else (none)) else (none)) else (posthorselaw11_same.l1 k 0 x326000 x326001 x326002 x326003 x327000 x327001 x327002 x327003)
def posthorselaw11_same.l1 : Nat → Int → Int → List ByteArray → List ByteArray → List Int → Int → List ByteArray → List ByteArray → List Int → Option (Bool)
 | 0, _, _, _, _, _, _, _, _, _ => none
 | k + 1, x6, x326000, x326001, x326002, x326003, x327000, x327001, x327002, x327003 => if x6 < (x327002.length : Int) then (if 0 ≤ x6 then (if x6 < (x326002.length : Int) then (if (rdOf ByteArray.empty x326002 x6).toList = (rdOf ByteArray.empty x327002 x6).toList then (posthorselaw11_same.l1 k (wrap64 (x6 + 1)) x326000 x326001 x326002 x326003 x327000 x327001 x327002 x327003) else (some false)) else (none)) else (none)) else (posthorselaw11_same.l2 k 0 x326000 x326001 x326002 x326003 x327000 x327001 x327002 x327003)
def posthorselaw11_same.l2 : Nat → Int → Int → List ByteArray → List ByteArray → List Int → Int → List ByteArray → List ByteArray → List Int → Option (Bool)
 | 0, _, _, _, _, _, _, _, _, _ => none
 | k + 1, x7, x326000, x326001, x326002, x326003, x327000, x327001, x327002, x327003 => if x7 < (x327003.length : Int) then (if 0 ≤ x7 then (if x7 < (x326003.length : Int) then (if (rd x326003 x7) = (rd x327003 x7) then (posthorselaw11_same.l2 k (wrap64 (x7 + 1)) x326000 x326001 x326002 x326003 x327000 x327001 x327002 x327003) else (some false)) else (none)) else (none)) else (some true)
end
def posthorselaw11_same.f (k : Nat) (a0_0 : Int) (l0_1 : List ByteArray) (l0_2 : List ByteArray) (l0_3 : List Int) (a1_0 : Int) (l1_1 : List ByteArray) (l1_2 : List ByteArray) (l1_3 : List Int) : Option (Bool) := if a0_0 = a1_0 then (if (l0_1.length : Int) = (l1_1.length : Int) then (if (l0_2.length : Int) = (l1_2.length : Int) then (posthorselaw11_same.j0 k ((l0_3.length : Int) != (l1_3.length : Int)) a0_0 l0_1 l0_2 l0_3 a1_0 l1_1 l1_2 l1_3) else (posthorselaw11_same.j0 k true a0_0 l0_1 l0_2 l0_3 a1_0 l1_1 l1_2 l1_3)) else (posthorselaw11_same.j0 k true a0_0 l0_1 l0_2 l0_3 a1_0 l1_1 l1_2 l1_3)) else (posthorselaw11_same.j0 k true a0_0 l0_1 l0_2 l0_3 a1_0 l1_1 l1_2 l1_3)
open posthorselaw11_same renaming j0 → Wj0, l0 → Wl0, l1 → Wl1, l2 → Wl2
set_option maxHeartbeats 8000000 in
set_option maxRecDepth 100000 in
theorem posthorselaw11_same.calls (k : Nat) (a0_0 : Int) (A0_1 : Option Addr) (c0_1 : Nat) (l0_1 : List ByteArray) (A0_2 : Option Addr) (c0_2 : Nat) (l0_2 : List ByteArray) (A0_3 : Option Addr) (c0_3 : Nat) (l0_3 : List Int) (a1_0 : Int) (A1_1 : Option Addr) (c1_1 : Nat) (l1_1 : List ByteArray) (A1_2 : Option Addr) (c1_2 : Nat) (l1_2 : List ByteArray) (A1_3 : Option Addr) (c1_3 : Nat) (l1_3 : List Int) (r : Bool) (w : World) (hr0_1 : Kd.C Kd.string w A0_1 l0_1.length l0_1) (hc0_1 : l0_1.length ≤ c0_1) (hr0_2 : Kd.C Kd.string w A0_2 l0_2.length l0_2) (hc0_2 : l0_2.length ≤ c0_2) (hr0_3 : Kd.C (Kd.int .i64) w A0_3 l0_3.length l0_3) (hc0_3 : l0_3.length ≤ c0_3) (hr1_1 : Kd.C Kd.string w A1_1 l1_1.length l1_1) (hc1_1 : l1_1.length ≤ c1_1) (hr1_2 : Kd.C Kd.string w A1_2 l1_2.length l1_2) (hc1_2 : l1_2.length ≤ c1_2) (hr1_3 : Kd.C (Kd.int .i64) w A1_3 l1_3.length l1_3) (hc1_3 : l1_3.length ≤ c1_3) (h : posthorselaw11_same.f k a0_0 l0_1 l0_2 l0_3 a1_0 l1_1 l1_2 l1_3 = some r) :
  Calls Tryd.prog 32 #[.agg #[.int .i64 a0_0, .slice A0_1 l0_1.length c0_1, .slice A0_2 l0_2.length c0_2, .slice A0_3 l0_3.length c0_3], .agg #[.int .i64 a1_0, .slice A1_1 l1_1.length c1_1, .slice A1_2 l1_2.length c1_2, .slice A1_3 l1_3.length c1_3]] w fun e w' => e = .returned (.bool r) ∧ Below w.heap.size w w' := by
 have hu69 := Tryd.underlying69; have hu70 := Tryd.underlying70; have HR0_1 := A0k hr0_1; have HC0_1 := A0k hc0_1; clear hr0_1 hc0_1; have HR0_2 := A0k hr0_2; have HC0_2 := A0k hc0_2; clear hr0_2 hc0_2; have HR0_3 := A0k hr0_3; have HC0_3 := A0k hc0_3; clear hr0_3 hc0_3; have HR1_1 := A0k hr1_1; have HC1_1 := A0k hc1_1; clear hr1_1 hc1_1; have HR1_2 := A0k hr1_2; have HC1_2 := A0k hc1_2; clear hr1_2 hc1_2; have HR1_3 := A0k hr1_3; have HC1_3 := A0k hc1_3; clear hr1_3 hc1_3; have HB := A0k (Below.refl w.heap.size w); have H : (if a0_0 = a1_0 then (if (l0_1.length : Int) = (l1_1.length : Int) then (if (l0_2.length : Int) = (l1_2.length : Int) then (Wj0 k ((l0_3.length : Int) != (l1_3.length : Int)) a0_0 l0_1 l0_2 l0_3 a1_0 l1_1 l1_2 l1_3) else (Wj0 k true a0_0 l0_1 l0_2 l0_3 a1_0 l1_1 l1_2 l1_3)) else (Wj0 k true a0_0 l0_1 l0_2 l0_3 a1_0 l1_1 l1_2 l1_3)) else (Wj0 k true a0_0 l0_1 l0_2 l0_3 a1_0 l1_1 l1_2 l1_3)) = some r := h; clear h; have HC3 := A0k H; clear H; go_enter Tryd.func32, Tryd.ntmps32
 go_upto_region 1 with (first | ((with_reducible refine gD (N := 2) rfl ?_); (try (refine gG (by rfl) ?_; dsimp only)); refine bE ?hg (N := 2) ?hd (cs := #[.int .i64 a0_0, .slice A0_1 l0_1.length c0_1, .slice A0_2 l0_2.length c0_2, .slice A0_3 l0_3.length c0_3]) (t := 69) ?hr ?_; (case hd => rfl); (case hg => rfl); (case hr => exact z100); intro gb325 hg w4 hbox hb; have n0_ := A0k (pS z25 hb); have n1_ := A0k (hbox); have n2_ := A0k ((z73 : w.heap.size ≤ gb325)); have n3_ := A0k ((z73 : w.heap.size ≤ gb325)); clear HB; have HB := n0_; have BK325 := n1_; have GW325 := n2_; have GE325 := n3_; clear n0_ n1_ n2_ n3_ hb hbox hg) | ((with_reducible refine gD (N := 3) rfl ?_); (try (refine gG (by rfl) ?_; dsimp only)); refine bE ?hg (N := 3) ?hd (cs := #[.int .i64 a1_0, .slice A1_1 l1_1.length c1_1, .slice A1_2 l1_2.length c1_2, .slice A1_3 l1_3.length c1_3]) (t := 70) ?hr ?_; (case hd => rfl); (case hg => rfl); (case hr => exact z100); intro gb326 hg w5 hbox hb; have n0_ := A0k (bB (z0 BK325.out) hb); have n1_ := A0k (pS z62 hb); have n2_ := A0k (hbox); have n3_ := A0k ((by rw [hg]; exact (pZ z62) : w.heap.size ≤ gb326)); have n4_ := A0k ((by rw [hg]; exact (pZ z62) : w.heap.size ≤ gb326)); have n5_ := A0k ((z78 : gb325 ≠ gb326)); have n6_ := A0k ((z79 : gb326 ≠ gb325)); clear BK325 HB; have BK325 := n0_; have HB := n1_; have BK326 := n2_; have GW326 := n3_; have GE326 := n4_; have NB325_326 := n5_; have NB326_325 := n6_; clear n0_ n1_ n2_ n3_ n4_ n5_ n6_ hb hbox hg))
 repeat (go_quiet (first | ((with_reducible refine gD (N := 2) rfl ?_); (try (refine gG (by rfl) ?_; dsimp only)); refine bE ?hg (N := 2) ?hd (cs := #[.int .i64 a0_0, .slice A0_1 l0_1.length c0_1, .slice A0_2 l0_2.length c0_2, .slice A0_3 l0_3.length c0_3]) (t := 69) ?hr ?_; (case hd => rfl); (case hg => rfl); (case hr => exact z100); intro gb325 hg w4 hbox hb; have n0_ := A0k (pS z25 hb); have n1_ := A0k (hbox); have n2_ := A0k ((z73 : w.heap.size ≤ gb325)); have n3_ := A0k ((z73 : w.heap.size ≤ gb325)); clear HB; have HB := n0_; have BK325 := n1_; have GW325 := n2_; have GE325 := n3_; clear n0_ n1_ n2_ n3_ hb hbox hg) | ((with_reducible refine gD (N := 3) rfl ?_); (try (refine gG (by rfl) ?_; dsimp only)); refine bE ?hg (N := 3) ?hd (cs := #[.int .i64 a1_0, .slice A1_1 l1_1.length c1_1, .slice A1_2 l1_2.length c1_2, .slice A1_3 l1_3.length c1_3]) (t := 70) ?hr ?_; (case hd => rfl); (case hg => rfl); (case hr => exact z100); intro gb326 hg w5 hbox hb; have n0_ := A0k (bB (z0 BK325.out) hb); have n1_ := A0k (pS z62 hb); have n2_ := A0k (hbox); have n3_ := A0k ((by rw [hg]; exact (pZ z62) : w.heap.size ≤ gb326)); have n4_ := A0k ((by rw [hg]; exact (pZ z62) : w.heap.size ≤ gb326)); have n5_ := A0k ((z78 : gb325 ≠ gb326)); have n6_ := A0k ((z79 : gb326 ≠ gb325)); clear BK325 HB; have BK325 := n0_; have HB := n1_; have BK326 := n2_; have GW326 := n3_; have GE326 := n4_; have NB325_326 := n5_; have NB326_325 := n6_; clear n0_ n1_ n2_ n3_ n4_ n5_ n6_ hb hbox hg)); go_upto_region 1 with (first | ((with_reducible refine gD (N := 2) rfl ?_); (try (refine gG (by rfl) ?_; dsimp only)); refine bE ?hg (N := 2) ?hd (cs := #[.int .i64 a0_0, .slice A0_1 l0_1.length c0_1, .slice A0_2 l0_2.length c0_2, .slice A0_3 l0_3.length c0_3]) (t := 69) ?hr ?_; (case hd => rfl); (case hg => rfl); (case hr => exact z100); intro gb325 hg w4 hbox hb; have n0_ := A0k (pS z25 hb); have n1_ := A0k (hbox); have n2_ := A0k ((z73 : w.heap.size ≤ gb325)); have n3_ := A0k ((z73 : w.heap.size ≤ gb325)); clear HB; have HB := n0_; have BK325 := n1_; have GW325 := n2_; have GE325 := n3_; clear n0_ n1_ n2_ n3_ hb hbox hg) | ((with_reducible refine gD (N := 3) rfl ?_); (try (refine gG (by rfl) ?_; dsimp only)); refine bE ?hg (N := 3) ?hd (cs := #[.int .i64 a1_0, .slice A1_1 l1_1.length c1_1, .slice A1_2 l1_2.length c1_2, .slice A1_3 l1_3.length c1_3]) (t := 70) ?hr ?_; (case hd => rfl); (case hg => rfl); (case hr => exact z100); intro gb326 hg w5 hbox hb; have n0_ := A0k (bB (z0 BK325.out) hb); have n1_ := A0k (pS z62 hb); have n2_ := A0k (hbox); have n3_ := A0k ((by rw [hg]; exact (pZ z62) : w.heap.size ≤ gb326)); have n4_ := A0k ((by rw [hg]; exact (pZ z62) : w.heap.size ≤ gb326)); have n5_ := A0k ((z78 : gb325 ≠ gb326)); have n6_ := A0k ((z79 : gb326 ≠ gb325)); clear BK325 HB; have BK325 := n0_; have HB := n1_; have BK326 := n2_; have GW326 := n3_; have GE326 := n4_; have NB325_326 := n5_; have NB326_325 := n6_; clear n0_ n1_ n2_ n3_ n4_ n5_ n6_ hb hbox hg)))
 (try simp only [Act.put, lS, lZ, lC])
 go_cut [39] (fun v39 wc => ∃ (kq : Nat) (x39_2 : Bool), v39 = .bool x39_2 ∧ Aside0 (Wj0 kq x39_2 a0_0 l0_1 l0_2 l0_3 a1_0 l1_1 l1_2 l1_3 = some r) ∧ Aside0 (kq ≤ k) ∧ Aside0 (wc.heap[gb325]? = some (.cells #[.int .i64 a0_0, (.slice A0_1 l0_1.length c0_1), (.slice A0_2 l0_2.length c0_2), (.slice A0_3 l0_3.length c0_3)] 69 (0, 0))) ∧ Aside0 (wc.heap[gb326]? = some (.cells #[.int .i64 a1_0, (.slice A1_1 l1_1.length c1_1), (.slice A1_2 l1_2.length c1_2), (.slice A1_3 l1_3.length c1_3)] 70 (0, 0))) ∧ Aside0 (Below w.heap.size w wc))
 case first =>
  have H := HC3.out; clear HC3
  by_cases c6 : a0_0 = a1_0
  ·rw [if_pos c6] at H; have c6b0 : (a0_0 == a1_0) = true := beq_iff_eq.mpr c6; have c6b1 : (a0_0 != a1_0) = false := bne_eq_false_iff_eq.mpr c6; clear c6
   (first | rw [c6b0] | (simp only [i64_w, i32_w]; rw [c6b0]) | skip)
   by_cases c7 : (l0_1.length : Int) = (l1_1.length : Int)
   ·rw [if_pos c7] at H; have c7b0 : ((l0_1.length : Int) == (l1_1.length : Int)) = true := beq_iff_eq.mpr c7; have c7b1 : ((l0_1.length : Int) != (l1_1.length : Int)) = false := bne_eq_false_iff_eq.mpr c7; have c7b2 : (l0_1.length == l1_1.length) = true := by first | simpa using c7 | (simp at c7 ⊢; omega)
    clear c7
    by_cases c8 : (l0_2.length : Int) = (l1_2.length : Int)
    ·rw [if_pos c8] at H; have c8b0 : ((l0_2.length : Int) == (l1_2.length : Int)) = true := beq_iff_eq.mpr c8; have c8b1 : ((l0_2.length : Int) != (l1_2.length : Int)) = false := bne_eq_false_iff_eq.mpr c8; have c8b2 : (l0_2.length == l1_2.length) = true := by first | simpa using c8 | (simp at c8 ⊢; omega)
     clear c8; have H' := A0k H; clear H; have hnb9 := NB325_326.out; have hnc9 := NB326_325.out; obtain ⟨hcz10_0, hcz10_1, hcz10_2, hcz10_3, hfz10_0, hfz10_1, hfz10_2, hfz10_3⟩ := zf4 BK325.out; obtain ⟨hcz11_0, hcz11_1, hcz11_2, hcz11_3, hfz11_0, hfz11_1, hfz11_2, hfz11_3⟩ := zf4 BK326.out; go_wp2
     repeat (go_quiet (fail); try go_wp2)
     go_meet
     case rel => exact ⟨_, (((l0_3.length : Int) != (l1_3.length : Int))), z41, H', ⟨z68⟩, ⟨(z0 BK325.out)⟩, ⟨(z0 BK326.out)⟩, ⟨z50⟩⟩
    ·rw [if_neg c8] at H; have c8b0 : ((l0_2.length : Int) == (l1_2.length : Int)) = false := beq_eq_false_iff_ne.mpr c8; have c8b1 : ((l0_2.length : Int) != (l1_2.length : Int)) = true := bne_iff_ne.mpr c8; have c8b2 : (l0_2.length == l1_2.length) = false := by first | simpa using c8 | (simp at c8 ⊢; omega)
     have H' := A0k H; clear H; have hnb12 := NB325_326.out; have hnc12 := NB326_325.out; obtain ⟨hcz13_0, hcz13_1, hcz13_2, hcz13_3, hfz13_0, hfz13_1, hfz13_2, hfz13_3⟩ := zf4 BK325.out; obtain ⟨hcz14_0, hcz14_1, hcz14_2, hcz14_3, hfz14_0, hfz14_1, hfz14_2, hfz14_3⟩ := zf4 BK326.out; go_wp2
     repeat (go_quiet (fail); try go_wp2)
     go_meet
     case rel => exact ⟨_, (true), z41, H', ⟨z68⟩, ⟨(z0 BK325.out)⟩, ⟨(z0 BK326.out)⟩, ⟨z50⟩⟩
   ·rw [if_neg c7] at H; have c7b0 : ((l0_1.length : Int) == (l1_1.length : Int)) = false := beq_eq_false_iff_ne.mpr c7; have c7b1 : ((l0_1.length : Int) != (l1_1.length : Int)) = true := bne_iff_ne.mpr c7; have c7b2 : (l0_1.length == l1_1.length) = false := by first | simpa using c7 | (simp at c7 ⊢; omega)
    have H' := A0k H; clear H; have hnb15 := NB325_326.out; have hnc15 := NB326_325.out; obtain ⟨hcz16_0, hcz16_1, hcz16_2, hcz16_3, hfz16_0, hfz16_1, hfz16_2, hfz16_3⟩ := zf4 BK325.out; obtain ⟨hcz17_0, hcz17_1, hcz17_2, hcz17_3, hfz17_0, hfz17_1, hfz17_2, hfz17_3⟩ := zf4 BK326.out; go_wp2
    repeat (go_quiet (fail); try go_wp2)
    go_meet
    case rel => exact ⟨_, (true), z41, H', ⟨z68⟩, ⟨(z0 BK325.out)⟩, ⟨(z0 BK326.out)⟩, ⟨z50⟩⟩
  ·rw [if_neg c6] at H; have c6b0 : (a0_0 == a1_0) = false := beq_eq_false_iff_ne.mpr c6; have c6b1 : (a0_0 != a1_0) = true := bne_iff_ne.mpr c6
   (first | rw [c6b0] | (simp only [i64_w, i32_w]; rw [c6b0]) | skip)
   have H' := A0k H; clear H; have hnb18 := NB325_326.out; have hnc18 := NB326_325.out; obtain ⟨hcz19_0, hcz19_1, hcz19_2, hcz19_3, hfz19_0, hfz19_1, hfz19_2, hfz19_3⟩ := zf4 BK325.out; obtain ⟨hcz20_0, hcz20_1, hcz20_2, hcz20_3, hfz20_0, hfz20_1, hfz20_2, hfz20_3⟩ := zf4 BK326.out; go_wp2
   repeat (go_quiet (fail); try go_wp2)
   go_meet
   case rel => exact ⟨_, (true), z41, H', ⟨z68⟩, ⟨(z0 BK325.out)⟩, ⟨(z0 BK326.out)⟩, ⟨z50⟩⟩
 case rest =>
  clear HC3; obtain ⟨kq, x39_2, rfl, HA, HJ2, BK325, BK326, HB⟩ := hcut; cases kq with
  | zero => exact absurd HA.out (by simp [Wj0])
  | succ kj2 =>
   have H := HA.out; clear HA; simp only [Wj0] at H
   by_cases c21 : x39_2 = true
   ·subst c21; have H1 : (some false) = some r := by rw [if_pos rfl] at H; exact H
    clear H; have H := H1; clear H1; obtain rfl := Option.some.inj H; go_wp2
    repeat (go_quiet (fail); try go_wp2)
    go_ret
    exact ⟨z21, z50⟩
   ·replace c21 := Bool.eq_false_iff.mpr c21; subst c21; have H1 : (Wl0 kj2 0 a0_0 l0_1 l0_2 l0_3 a1_0 l1_1 l1_2 l1_3) = some r := by rw [if_neg (show ¬ (false = true) by decide)] at H; exact H
    clear H; have H := H1; clear H1; have H' := A0k H; clear H; go_wp2
    repeat (go_quiet (fail); try go_wp2)
    go_loopg [5] kj2 (fun kq v5 w' => ∃ (x5_2 : Int), v5 = .int .i64 x5_2 ∧ Aside0 (Wl0 kq x5_2 a0_0 l0_1 l0_2 l0_3 a1_0 l1_1 l1_2 l1_3 = some r) ∧ Aside0 (kq ≤ kj2) ∧ Aside0 (w'.heap[gb325]? = some (.cells #[.int .i64 a0_0, (.slice A0_1 l0_1.length c0_1), (.slice A0_2 l0_2.length c0_2), (.slice A0_3 l0_3.length c0_3)] 69 (0, 0))) ∧ Aside0 (w'.heap[gb326]? = some (.cells #[.int .i64 a1_0, (.slice A1_1 l1_1.length c1_1), (.slice A1_2 l1_2.length c1_2), (.slice A1_3 l1_3.length c1_3)] 70 (0, 0))) ∧ Aside0 (Below w.heap.size w w'))
    case atStart => exact ⟨(0), z41, H', ⟨Nat.le_refl _⟩, ⟨(z0 BK325.out)⟩, ⟨(z0 BK326.out)⟩, ⟨z50⟩⟩
    case round =>
     clear H'
     (try clear c21)
     obtain ⟨x5_2, rfl, HA, HK2, BK325, BK326, HB⟩ := hrel; cases gk with
     | zero => exact absurd HA.out (by simp [Wl0])
     | succ k2 =>
      have H := HA.out; clear HA; simp only [Wl0] at H
      by_cases c22 : x5_2 < (l1_1.length : Int)
      ·rw [if_pos c22] at H; have c22b0 : decide (x5_2 < (l1_1.length : Int)) = true := decide_eq_true c22; clear c22
       by_cases c23 : 0 ≤ x5_2
       ·rw [if_pos c23] at H; have c23b0 : decide (0 ≤ x5_2) = true := decide_eq_true c23; clear c23
        by_cases c24 : x5_2 < (l0_1.length : Int)
        ·rw [if_pos c24] at H; have c24b0 : decide (x5_2 < (l0_1.length : Int)) = true := decide_eq_true c24; clear c24
         by_cases c25 : (rdOf ByteArray.empty l0_1 x5_2).toList = (rdOf ByteArray.empty l1_1 x5_2).toList
         ·rw [if_pos c25] at H; have c25b0 : ((rdOf ByteArray.empty l0_1 x5_2).toList == (rdOf ByteArray.empty l1_1 x5_2).toList) = true := beq_iff_eq.mpr c25; have c25b1 : ((rdOf ByteArray.empty l0_1 x5_2).toList != (rdOf ByteArray.empty l1_1 x5_2).toList) = false := bne_eq_false_iff_eq.mpr c25; clear c25; have H' := A0k H; clear H; have hnb26 := NB326_325.out; have hnc26 := NB325_326.out; obtain ⟨hcz27_0, hcz27_1, hcz27_2, hcz27_3, hfz27_0, hfz27_1, hfz27_2, hfz27_3⟩ := zf4 BK326.out; obtain ⟨hcz28_0, hcz28_1, hcz28_2, hcz28_3, hfz28_0, hfz28_1, hfz28_2, hfz28_3⟩ := zf4 BK325.out; have p327 : 0 ≤ (x5_2 : Int) := of_decide_eq_true z18; have q327 : x5_2 < (l0_1.length : Int) := of_decide_eq_true z18; obtain ⟨ad327, e327, hx327_0⟩ := Kd.at_string HR0_1.out x5_2 p327 q327; cases e327; replace hx327_0 := (HB.out.cell (World.block_lt_of_cell? w _ hx327_0)).trans hx327_0; replace p327 := eq_true p327; replace q327 := eq_true q327; have p328 : 0 ≤ (x5_2 : Int) := of_decide_eq_true z18; have q328 : x5_2 < (l1_1.length : Int) := of_decide_eq_true z18; obtain ⟨ad328, e328, hx328_0⟩ := Kd.at_string HR1_1.out x5_2 p328 q328; cases e328; replace hx328_0 := (HB.out.cell (World.block_lt_of_cell? w _ hx328_0)).trans hx328_0; replace p328 := eq_true p328; replace q328 := eq_true q328; go_wp2
          repeat (go_quiet (fail); try go_wp2)
          go_roundg k2
          case measure => have := HJ2.out; have := HK2.out; omega
          case rel => exact ⟨(wrap64 (x5_2 + 1)), z41, H', ⟨by have := HJ2.out; have := HK2.out; omega⟩, ⟨(z0 BK325.out)⟩, ⟨(z0 BK326.out)⟩, ⟨z50⟩⟩
         ·rw [if_neg c25] at H; have c25b0 : ((rdOf ByteArray.empty l0_1 x5_2).toList == (rdOf ByteArray.empty l1_1 x5_2).toList) = false := beq_eq_false_iff_ne.mpr c25; have c25b1 : ((rdOf ByteArray.empty l0_1 x5_2).toList != (rdOf ByteArray.empty l1_1 x5_2).toList) = true := bne_iff_ne.mpr c25; obtain rfl := Option.some.inj H; have hnb29 := NB326_325.out; have hnc29 := NB325_326.out; obtain ⟨hcz30_0, hcz30_1, hcz30_2, hcz30_3, hfz30_0, hfz30_1, hfz30_2, hfz30_3⟩ := zf4 BK326.out; obtain ⟨hcz31_0, hcz31_1, hcz31_2, hcz31_3, hfz31_0, hfz31_1, hfz31_2, hfz31_3⟩ := zf4 BK325.out; have p327 : 0 ≤ (x5_2 : Int) := of_decide_eq_true z18; have q327 : x5_2 < (l0_1.length : Int) := of_decide_eq_true z18; obtain ⟨ad327, e327, hx327_0⟩ := Kd.at_string HR0_1.out x5_2 p327 q327; cases e327; replace hx327_0 := (HB.out.cell (World.block_lt_of_cell? w _ hx327_0)).trans hx327_0; replace p327 := eq_true p327; replace q327 := eq_true q327; have p328 : 0 ≤ (x5_2 : Int) := of_decide_eq_true z18; have q328 : x5_2 < (l1_1.length : Int) := of_decide_eq_true z18; obtain ⟨ad328, e328, hx328_0⟩ := Kd.at_string HR1_1.out x5_2 p328 q328; cases e328; replace hx328_0 := (HB.out.cell (World.block_lt_of_cell? w _ hx328_0)).trans hx328_0; replace p328 := eq_true p328; replace q328 := eq_true q328; go_wp2
          repeat (go_quiet (fail); try go_wp2)
          go_ret
          exact ⟨z21, z50⟩
        ·rw [if_neg c24] at H; exact absurd H (by simp)
       ·rw [if_neg c23] at H; exact absurd H (by simp)
      ·rw [if_neg c22] at H; have c22b0 : decide (x5_2 < (l1_1.length : Int)) = false := decide_eq_false c22; clear c22; have H' := A0k H; clear H; have hnb32 := NB326_325.out; have hnc32 := NB325_326.out; obtain ⟨hcz33_0, hcz33_1, hcz33_2, hcz33_3, hfz33_0, hfz33_1, hfz33_2, hfz33_3⟩ := zf4 BK326.out; go_wp2
       repeat (go_quiet (fail); try go_wp2)
       go_loopg [6] k2 (fun kq v6 w' => ∃ (x6_3 : Int), v6 = .int .i64 x6_3 ∧ Aside0 (Wl1 kq x6_3 a0_0 l0_1 l0_2 l0_3 a1_0 l1_1 l1_2 l1_3 = some r) ∧ Aside0 (kq ≤ k2) ∧ Aside0 (w'.heap[gb325]? = some (.cells #[.int .i64 a0_0, (.slice A0_1 l0_1.length c0_1), (.slice A0_2 l0_2.length c0_2), (.slice A0_3 l0_3.length c0_3)] 69 (0, 0))) ∧ Aside0 (w'.heap[gb326]? = some (.cells #[.int .i64 a1_0, (.slice A1_1 l1_1.length c1_1), (.slice A1_2 l1_2.length c1_2), (.slice A1_3 l1_3.length c1_3)] 70 (0, 0))) ∧ Aside0 (Below w.heap.size w w'))
       case atStart => exact ⟨(0), z41, H', ⟨Nat.le_refl _⟩, ⟨(z0 BK325.out)⟩, ⟨(z0 BK326.out)⟩, ⟨z50⟩⟩
       case round =>
        clear H'
        (try clear c21); (try clear c22); (try clear c22b0); (try clear hcz33_0); (try clear hcz33_1); (try clear hcz33_2); (try clear hcz33_3); (try clear hfz33_0); (try clear hfz33_1); (try clear hfz33_2); (try clear hfz33_3)
        obtain ⟨x6_3, rfl, HA, HK3, BK325, BK326, HB⟩ := hrel; cases gk with
        | zero => exact absurd HA.out (by simp [Wl1])
        | succ k3 =>
         have H := HA.out; clear HA; simp only [Wl1] at H
         by_cases c34 : x6_3 < (l1_2.length : Int)
         ·rw [if_pos c34] at H; have c34b0 : decide (x6_3 < (l1_2.length : Int)) = true := decide_eq_true c34; clear c34
          by_cases c35 : 0 ≤ x6_3
          ·rw [if_pos c35] at H; have c35b0 : decide (0 ≤ x6_3) = true := decide_eq_true c35; clear c35
           by_cases c36 : x6_3 < (l0_2.length : Int)
           ·rw [if_pos c36] at H; have c36b0 : decide (x6_3 < (l0_2.length : Int)) = true := decide_eq_true c36; clear c36
            by_cases c37 : (rdOf ByteArray.empty l0_2 x6_3).toList = (rdOf ByteArray.empty l1_2 x6_3).toList
            ·rw [if_pos c37] at H; have c37b0 : ((rdOf ByteArray.empty l0_2 x6_3).toList == (rdOf ByteArray.empty l1_2 x6_3).toList) = true := beq_iff_eq.mpr c37; have c37b1 : ((rdOf ByteArray.empty l0_2 x6_3).toList != (rdOf ByteArray.empty l1_2 x6_3).toList) = false := bne_eq_false_iff_eq.mpr c37; clear c37; have H' := A0k H; clear H; have hnb38 := NB326_325.out; have hnc38 := NB325_326.out; obtain ⟨hcz39_0, hcz39_1, hcz39_2, hcz39_3, hfz39_0, hfz39_1, hfz39_2, hfz39_3⟩ := zf4 BK326.out; obtain ⟨hcz40_0, hcz40_1, hcz40_2, hcz40_3, hfz40_0, hfz40_1, hfz40_2, hfz40_3⟩ := zf4 BK325.out; have p329 : 0 ≤ (x6_3 : Int) := of_decide_eq_true z18; have q329 : x6_3 < (l0_2.length : Int) := of_decide_eq_true z18; obtain ⟨ad329, e329, hx329_0⟩ := Kd.at_string HR0_2.out x6_3 p329 q329; cases e329; replace hx329_0 := (HB.out.cell (World.block_lt_of_cell? w _ hx329_0)).trans hx329_0; replace p329 := eq_true p329; replace q329 := eq_true q329; have p330 : 0 ≤ (x6_3 : Int) := of_decide_eq_true z18; have q330 : x6_3 < (l1_2.length : Int) := of_decide_eq_true z18; obtain ⟨ad330, e330, hx330_0⟩ := Kd.at_string HR1_2.out x6_3 p330 q330; cases e330; replace hx330_0 := (HB.out.cell (World.block_lt_of_cell? w _ hx330_0)).trans hx330_0; replace p330 := eq_true p330; replace q330 := eq_true q330; go_wp2
             repeat (go_quiet (fail); try go_wp2)
             go_roundg k3
             case measure => have := HJ2.out; have := HK2.out; have := HK3.out; omega
             case rel => exact ⟨(wrap64 (x6_3 + 1)), z41, H', ⟨by have := HJ2.out; have := HK2.out; have := HK3.out; omega⟩, ⟨(z0 BK325.out)⟩, ⟨(z0 BK326.out)⟩, ⟨z50⟩⟩
            ·rw [if_neg c37] at H; have c37b0 : ((rdOf ByteArray.empty l0_2 x6_3).toList == (rdOf ByteArray.empty l1_2 x6_3).toList) = false := beq_eq_false_iff_ne.mpr c37; have c37b1 : ((rdOf ByteArray.empty l0_2 x6_3).toList != (rdOf ByteArray.empty l1_2 x6_3).toList) = true := bne_iff_ne.mpr c37; obtain rfl := Option.some.inj H; have hnb41 := NB326_325.out; have hnc41 := NB325_326.out; obtain ⟨hcz42_0, hcz42_1, hcz42_2, hcz42_3, hfz42_0, hfz42_1, hfz42_2, hfz42_3⟩ := zf4 BK326.out; obtain ⟨hcz43_0, hcz43_1, hcz43_2, hcz43_3, hfz43_0, hfz43_1, hfz43_2, hfz43_3⟩ := zf4 BK325.out; have p329 : 0 ≤ (x6_3 : Int) := of_decide_eq_true z18; have q329 : x6_3 < (l0_2.length : Int) := of_decide_eq_true z18; obtain ⟨ad329, e329, hx329_0⟩ := Kd.at_string HR0_2.out x6_3 p329 q329; cases e329; replace hx329_0 := (HB.out.cell (World.block_lt_of_cell? w _ hx329_0)).trans hx329_0; replace p329 := eq_true p329; replace q329 := eq_true q329; have p330 : 0 ≤ (x6_3 : Int) := of_decide_eq_true z18; have q330 : x6_3 < (l1_2.length : Int) := of_decide_eq_true z18; obtain ⟨ad330, e330, hx330_0⟩ := Kd.at_string HR1_2.out x6_3 p330 q330; cases e330; replace hx330_0 := (HB.out.cell (World.block_lt_of_cell? w _ hx330_0)).trans hx330_0; replace p330 := eq_true p330; replace q330 := eq_true q330; go_wp2
             repeat (go_quiet (fail); try go_wp2)
             go_ret
             exact ⟨z21, z50⟩
           ·rw [if_neg c36] at H; exact absurd H (by simp)
          ·rw [if_neg c35] at H; exact absurd H (by simp)
         ·rw [if_neg c34] at H; have c34b0 : decide (x6_3 < (l1_2.length : Int)) = false := decide_eq_false c34; clear c34; have H' := A0k H; clear H; have hnb44 := NB326_325.out; have hnc44 := NB325_326.out; obtain ⟨hcz45_0, hcz45_1, hcz45_2, hcz45_3, hfz45_0, hfz45_1, hfz45_2, hfz45_3⟩ := zf4 BK326.out; go_wp2
          repeat (go_quiet (fail); try go_wp2)
          go_loopg [7] k3 (fun kq v7 w' => ∃ (x7_4 : Int), v7 = .int .i64 x7_4 ∧ Aside0 (Wl2 kq x7_4 a0_0 l0_1 l0_2 l0_3 a1_0 l1_1 l1_2 l1_3 = some r) ∧ Aside0 (kq ≤ k3) ∧ Aside0 (w'.heap[gb325]? = some (.cells #[.int .i64 a0_0, (.slice A0_1 l0_1.length c0_1), (.slice A0_2 l0_2.length c0_2), (.slice A0_3 l0_3.length c0_3)] 69 (0, 0))) ∧ Aside0 (w'.heap[gb326]? = some (.cells #[.int .i64 a1_0, (.slice A1_1 l1_1.length c1_1), (.slice A1_2 l1_2.length c1_2), (.slice A1_3 l1_3.length c1_3)] 70 (0, 0))) ∧ Aside0 (Below w.heap.size w w'))
          case atStart => exact ⟨(0), z41, H', ⟨Nat.le_refl _⟩, ⟨(z0 BK325.out)⟩, ⟨(z0 BK326.out)⟩, ⟨z50⟩⟩
          case round =>
           clear H'
           (try clear c21); (try clear c22); (try clear c22b0); (try clear c34); (try clear c34b0); (try clear hcz33_0); (try clear hcz33_1); (try clear hcz33_2); (try clear hcz33_3); (try clear hcz45_0); (try clear hcz45_1); (try clear hcz45_2); (try clear hcz45_3); (try clear hfz33_0); (try clear hfz33_1); (try clear hfz33_2); (try clear hfz33_3); (try clear hfz45_0); (try clear hfz45_1); (try clear hfz45_2); (try clear hfz45_3)
           obtain ⟨x7_4, rfl, HA, HK4, BK325, BK326, HB⟩ := hrel; cases gk with
           | zero => exact absurd HA.out (by simp [Wl2])
           | succ k4 =>
            have H := HA.out; clear HA; simp only [Wl2] at H
            by_cases c46 : x7_4 < (l1_3.length : Int)
            ·rw [if_pos c46] at H; have c46b0 : decide (x7_4 < (l1_3.length : Int)) = true := decide_eq_true c46; clear c46
             by_cases c47 : 0 ≤ x7_4
             ·rw [if_pos c47] at H; have c47b0 : decide (0 ≤ x7_4) = true := decide_eq_true c47; clear c47
              by_cases c48 : x7_4 < (l0_3.length : Int)
              ·rw [if_pos c48] at H; have c48b0 : decide (x7_4 < (l0_3.length : Int)) = true := decide_eq_true c48; clear c48
               by_cases c49 : (rd l0_3 x7_4) = (rd l1_3 x7_4)
               ·rw [if_pos c49] at H; have c49b0 : ((rd l0_3 x7_4) == (rd l1_3 x7_4)) = true := beq_iff_eq.mpr c49; have c49b1 : ((rd l0_3 x7_4) != (rd l1_3 x7_4)) = false := bne_eq_false_iff_eq.mpr c49; clear c49; have H' := A0k H; clear H; have hnb50 := NB326_325.out; have hnc50 := NB325_326.out; obtain ⟨hcz51_0, hcz51_1, hcz51_2, hcz51_3, hfz51_0, hfz51_1, hfz51_2, hfz51_3⟩ := zf4 BK326.out; obtain ⟨hcz52_0, hcz52_1, hcz52_2, hcz52_3, hfz52_0, hfz52_1, hfz52_2, hfz52_3⟩ := zf4 BK325.out; have p331 : 0 ≤ (x7_4 : Int) := of_decide_eq_true z18; have q331 : x7_4 < (l0_3.length : Int) := of_decide_eq_true z18; obtain ⟨ad331, e331, hx331_0⟩ := Kd.at_int HR0_3.out x7_4 p331 q331; cases e331; replace hx331_0 := (HB.out.cell (World.block_lt_of_cell? w _ hx331_0)).trans hx331_0; replace p331 := eq_true p331; replace q331 := eq_true q331; have p332 : 0 ≤ (x7_4 : Int) := of_decide_eq_true z18; have q332 : x7_4 < (l1_3.length : Int) := of_decide_eq_true z18; obtain ⟨ad332, e332, hx332_0⟩ := Kd.at_int HR1_3.out x7_4 p332 q332; cases e332; replace hx332_0 := (HB.out.cell (World.block_lt_of_cell? w _ hx332_0)).trans hx332_0; replace p332 := eq_true p332; replace q332 := eq_true q332; go_wp2
                repeat (go_quiet (fail); try go_wp2)
                go_roundg k4
                case measure => have := HJ2.out; have := HK2.out; have := HK3.out; have := HK4.out; omega
                case rel => exact ⟨(wrap64 (x7_4 + 1)), z41, H', ⟨by have := HJ2.out; have := HK2.out; have := HK3.out; have := HK4.out; omega⟩, ⟨(z0 BK325.out)⟩, ⟨(z0 BK326.out)⟩, ⟨z50⟩⟩
               ·rw [if_neg c49] at H; have c49b0 : ((rd l0_3 x7_4) == (rd l1_3 x7_4)) = false := beq_eq_false_iff_ne.mpr c49; have c49b1 : ((rd l0_3 x7_4) != (rd l1_3 x7_4)) = true := bne_iff_ne.mpr c49; obtain rfl := Option.some.inj H; have hnb53 := NB326_325.out; have hnc53 := NB325_326.out; obtain ⟨hcz54_0, hcz54_1, hcz54_2, hcz54_3, hfz54_0, hfz54_1, hfz54_2, hfz54_3⟩ := zf4 BK326.out; obtain ⟨hcz55_0, hcz55_1, hcz55_2, hcz55_3, hfz55_0, hfz55_1, hfz55_2, hfz55_3⟩ := zf4 BK325.out; have p331 : 0 ≤ (x7_4 : Int) := of_decide_eq_true z18; have q331 : x7_4 < (l0_3.length : Int) := of_decide_eq_true z18; obtain ⟨ad331, e331, hx331_0⟩ := Kd.at_int HR0_3.out x7_4 p331 q331; cases e331; replace hx331_0 := (HB.out.cell (World.block_lt_of_cell? w _ hx331_0)).trans hx331_0; replace p331 := eq_true p331; replace q331 := eq_true q331; have p332 : 0 ≤ (x7_4 : Int) := of_decide_eq_true z18; have q332 : x7_4 < (l1_3.length : Int) := of_decide_eq_true z18; obtain ⟨ad332, e332, hx332_0⟩ := Kd.at_int HR1_3.out x7_4 p332 q332; cases e332; replace hx332_0 := (HB.out.cell (World.block_lt_of_cell? w _ hx332_0)).trans hx332_0; replace p332 := eq_true p332; replace q332 := eq_true q332; go_wp2
                repeat (go_quiet (fail); try go_wp2)
                go_ret
                exact ⟨z21, z50⟩
              ·rw [if_neg c48] at H; exact absurd H (by simp)
             ·rw [if_neg c47] at H; exact absurd H (by simp)
            ·rw [if_neg c46] at H; have c46b0 : decide (x7_4 < (l1_3.length : Int)) = false := decide_eq_false c46; clear c46; obtain rfl := Option.some.inj H; have hnb56 := NB326_325.out; have hnc56 := NB325_326.out; obtain ⟨hcz57_0, hcz57_1, hcz57_2, hcz57_3, hfz57_0, hfz57_1, hfz57_2, hfz57_3⟩ := zf4 BK326.out; go_wp2
             repeat (go_quiet (fail); try go_wp2)
             go_ret
             exact ⟨z21, z50⟩
end
section
open Go.Proofs.YtegcaniikdibdaaDoorW.PrintWords.Kd renaming R_alloc → rA
open Go.Proofs.YtegcaniikdibdaaDoorW.PrintWords.Kd renaming R_drewN → rN
open Go.Proofs.YtegcaniikdibdaaDoorW.PrintWords.Kd renaming R_drew → rD
open List renaming setIfInBounds_toArray → lS, set_cons_zero → lZ, set_cons_succ → lC
open Go.Proofs.YtegcaniikdibdaaDoorW.PrintLast renaming goesL_ → gL_
open Go.Proofs.YtegcaniikdibdaaDoorW.PrintWords renaming blk_drewN → bN, blk_drew → bD, blk_alloc → bA, below_set → bS, pw_below_drewN → pN, below_drew1 → pD, below_alloc → pA, below_step → pS, below_size → pZ, blk_frozen → bF, blk_cell → bC, blk_below → bB, blk_far → bR, blk_put → bP, blk_lt → bL, gate_dst → gD, gate_callee → gC, box_event → bE
open Go.Proofs.YtegcaniikdibdaaDoorW.PrintWords.Aside0 renaming mk → A0k

/-! ### posthorselaw11_PageApart: function 8 -/
def posthorselaw11_PageApart.f (k : Nat) (a0_0 : Int) (l0_1 : List ByteArray) (l0_2 : List ByteArray) (l0_3 : List Int) (a0_4 : Bool) (a1_0 : Int) (l1_1 : List ByteArray) (l1_2 : List ByteArray) (l1_3 : List Int) (a1_4 : Bool) : Option (Bool) := (posthorselaw11_speaks.f k).bind fun t335 => (if t335 = true then ((posthorselaw11_made.f k a0_0 l0_1 l0_2 l0_3 true).bind fun bt336 => ((posthorselaw11_made.f k a1_0 l1_1 l1_2 l1_3 true).bind fun bt358 => ((page_Put.f k bt336.1 bt336.2.1 bt336.2.2.1 bt336.2.2.2.1).bind fun bt380 => ((page_Put.f k bt358.1 bt358.2.1 bt358.2.2.1 bt358.2.2.2.1).bind fun bt382 => (if bt380.2.isNone = true then (if bt382.2.isNone = true then ((posthorselaw11_same.f k bt336.1 bt336.2.1 bt336.2.2.1 bt336.2.2.2.1 bt358.2.2.2.2.1 bt358.2.2.2.2.2.1 bt358.2.2.2.2.2.2.1 bt358.2.2.2.2.2.2.2).bind fun t386 => (some ((bt380.1.toList == bt382.1.toList) == t386))) else (some true)) else (some true)))))) else (none))
end
end Go.Proofs.YtegcaniikdibdaaDoor.VPageApart
