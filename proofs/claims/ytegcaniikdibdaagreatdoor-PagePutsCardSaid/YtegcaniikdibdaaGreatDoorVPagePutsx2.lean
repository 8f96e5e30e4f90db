/- Contracts of functions of this seat: each call comes to what its Lean function computes; no condition beyond what each theorem states. Printed by a program of this session's own laid over the kit's printer. -/
import Derived.Test.YtegcaniikdibdaaGreatDoorVPagePutsx0
import Derived.Shelf.Strings.Trim
namespace Go.Proofs.YtegcaniikdibdaaGreatDoor.VPagePuts
open Go.RowKit Go.Proofs.YtegcaniikdibdaaGreatDoorW.PrintWords Go.Proofs.YtegcaniikdibdaaGreatDoorW.PrintLast Go.Proofs.YtegcaniikdibdaaGreatDoorW.PrintMore
attribute [local go_sem] max2_int min2_int max_two min_two max_three min_three max_four min_four   -- for this text's walks alone
set_option linter.unusedSimpArgs false
set_option linter.unusedVariables false
/-- A state of type 91 at block g of W; what its slices lead to came in by w0. -/
def IsS91 (w0 W : World) (g : Nat) (f0 : ByteArray) (f1 : Option Int) : Prop := W.heap[g]? = some (.cells #[.string f0, errW f1] 91 (0, 0)) ∧ w0.heap.size ≤ g
theorem IsS91.grown {w0 W : World} {g : Nat} {f0 : ByteArray} {f1 : Option Int} {W1 : World} {row : Option Nat} (h : IsS91 w0 W g f0 f1) (hw : W.grownBy W1 row) (hne : some g ≠ row) : IsS91 w0 W1 g f0 f1 := by
 obtain ⟨hb, hg⟩ := h; exact ⟨blk_grown hb hw hne, hg⟩
theorem IsS91.kept {w0 W : World} {g : Nat} {f0 : ByteArray} {f1 : Option Int} {W1 : World} {S : Nat → Prop} (h : IsS91 w0 W g f0 f1) (hk : Kept W W1 S) (hne : ¬ S g) : IsS91 w0 W1 g f0 f1 := by
 obtain ⟨hb, hg⟩ := h; exact ⟨blk_kept hb hk hne, hg⟩
theorem IsS91.below {w0 W : World} {g : Nat} {f0 : ByteArray} {f1 : Option Int} {W1 : World} (h : IsS91 w0 W g f0 f1) (hw : Below W.heap.size W W1) : IsS91 w0 W1 g f0 f1 := h.grown (grown_of_below hw none) (by simp)
theorem IsS91.alloc {w0 W : World} {g : Nat} {f0 : ByteArray} {f1 : Option Int} (h : IsS91 w0 W g f0 f1) (o : Obj) : IsS91 w0 (W.alloc o) g f0 f1 := h.below (below_alloc (Below.refl _ _) o)
theorem IsS91.drewN {w0 W : World} {g : Nat} {f0 : ByteArray} {f1 : Option Int} (h : IsS91 w0 W g f0 f1) (m : Nat) : IsS91 w0 (W.drewN m) g f0 f1 := h
theorem IsS91.drew {w0 W : World} {g : Nat} {f0 : ByteArray} {f1 : Option Int} (h : IsS91 w0 W g f0 f1) : IsS91 w0 W.drew g f0 f1 := h
theorem IsS91.at_ {w0 W : World} {g : Nat} {f0 : ByteArray} {f1 : Option Int} {w' : World} {m : Nat} (hq : W.drewN m = w') (h : IsS91 w0 W g f0 f1) : IsS91 w0 w' g f0 f1 := by subst hq; exact IsS91.drewN h m
theorem IsS91.apart {w0 W : World} {g : Nat} {f0 : ByteArray} {f1 : Option Int} {α : Type} {d : Kd α} {e : Nat} {base : Nat} {ok : Nat → Prop} {v : Value} {xs : List α} (h : IsS91 w0 W g f0 f1) (ho : d.R e W base ok v xs) (ht : ∀ q, q ∈ e :: d.E → q ≠ 91) : d.R e W base (fun k => ok k ∧ k ≠ g) v xs := by
 obtain ⟨hb, hg⟩ := h; exact Kd.R_types ho hb ht
theorem IsS91.own_ne {w0 W : World} {g : Nat} {f0 : ByteArray} {f1 : Option Int} {α : Type} {d : Kd α} {e : Nat} {base : Nat} {ok : Nat → Prop} {v : Value} {xs : List α} (h : IsS91 w0 W g f0 f1) (ho : d.R e W base ok v xs) (ht : e ≠ 91) : some g ≠ v.ownBlock := by
 obtain ⟨hb, hg⟩ := h; exact Kd.R_ne ho hb ht
theorem IsS91.lt {w0 W : World} {g : Nat} {f0 : ByteArray} {f1 : Option Int} (h : IsS91 w0 W g f0 f1) : g < W.heap.size := by
 obtain ⟨hb, hg⟩ := h; exact blk_lt hb
theorem IsS91.ge {w0 W : World} {g : Nat} {f0 : ByteArray} {f1 : Option Int} (h : IsS91 w0 W g f0 f1) : w0.heap.size ≤ g := by
 obtain ⟨hb, hg⟩ := h; exact hg
theorem IsS91.ne_blk {w0 W : World} {g : Nat} {f0 : ByteArray} {f1 : Option Int} {a : Nat} {cs : Array Value} {t : TypeId} {fr : Nat × Nat} (h : IsS91 w0 W g f0 f1) (hb2 : W.heap[a]? = some (.cells cs t fr)) (ht : t ≠ 91) : g ≠ a := by
 obtain ⟨hb, hg⟩ := h; rintro rfl; rw [hb] at hb2; injection hb2 with hb2
 injection hb2 with _ ht2
 exact ht ht2.symm
theorem IsS91.far {w0 W : World} {g : Nat} {f0 : ByteArray} {f1 : Option Int} {p : Addr} (h : IsS91 w0 W g f0 f1) (hne : g ≠ p.block) (u : Value) : IsS91 w0 (W.setCell p u) g f0 f1 := by
 obtain ⟨hb, hg⟩ := h; exact ⟨blk_far hb hne u, hg⟩
theorem cellS91_0 {W : World} {g : Nat} {f0 : ByteArray} {f1 : Option Int} (h : W.heap[g]? = some (.cells #[.string f0, errW f1] 91 (0, 0))) : W.cell? ⟨g, 0, none⟩ = some (.string f0) := (blk_cell h 0).trans rfl
theorem IsS91.set_0 {w0 W : World} {g : Nat} {f0 : ByteArray} {f1 : Option Int} (h : IsS91 w0 W g f0 f1) (x : ByteArray) : IsS91 w0 (W.setCell ⟨g, 0, none⟩ (.string x)) g x f1 := by
 obtain ⟨hb, hg⟩ := h; exact ⟨by simpa using blk_set hb 0 (.string x), hg⟩
theorem cellS91_1 {W : World} {g : Nat} {f0 : ByteArray} {f1 : Option Int} (h : W.heap[g]? = some (.cells #[.string f0, errW f1] 91 (0, 0))) : W.cell? ⟨g, 1, none⟩ = some (errW f1) := (blk_cell h 1).trans rfl
theorem IsS91.set_1 {w0 W : World} {g : Nat} {f0 : ByteArray} {f1 : Option Int} (h : IsS91 w0 W g f0 f1) (x : Option Int) : IsS91 w0 (W.setCell ⟨g, 1, none⟩ (errW x)) g f0 x := by
 obtain ⟨hb, hg⟩ := h; exact ⟨by simpa using blk_set hb 1 (errW x), hg⟩
theorem IsS91.set_1_none {w0 W : World} {g : Nat} {f0 : ByteArray} {f1 : Option Int} (h : IsS91 w0 W g f0 f1) : IsS91 w0 (W.setCell ⟨g, 1, none⟩ .nilIface) g f0 none := IsS91.set_1 h none
theorem IsS91.set_1_some {w0 W : World} {g : Nat} {f0 : ByteArray} {f1 : Option Int} (h : IsS91 w0 W g f0 f1) (x : Int) : IsS91 w0 (W.setCell ⟨g, 1, none⟩ (.iface 48 (.int .i64 x))) g f0 (some x) := IsS91.set_1 h (some x)
theorem IsS91.new (w0 W : World) (f0 : ByteArray) (f1 : Option Int) (hB : Below w0.heap.size w0 W) : IsS91 w0 (W.alloc (.cells #[.string f0, errW f1] 91)) W.heap.size f0 f1 := ⟨by simpa using heap_alloc_new W _, hB.size⟩

/-! ### le_Read: function 30 -/
def le_Read.f (a0 : ByteArray) : Option (ByteArray × Option Int) := some (a0, none)
set_option maxHeartbeats 8000000 in
set_option maxRecDepth 100000 in
theorem le_Read.calls (a0 : ByteArray) (r1 : ByteArray) (r2 : Option Int) (w0 w : World) (hB : Below w0.heap.size w0 w) (h : le_Read.f a0 = some (r1, r2)) :
  Calls Tryz.prog 30 #[.string a0] w fun e w' => ∃ g_ : Nat, e = .returned (.pointer (some ⟨g_, 0, none⟩)) ∧ IsS91 w0 w' g_ r1 r2 ∧ Below w0.heap.size w0 w' ∧ Below w.heap.size w w' := by
 have hu91 := Tryz.underlying91; have HBW := Aside0.mk (Below.refl w.heap.size w); have HW0 := Aside0.mk hB.size; have HB := Aside0.mk hB; clear hB; have H : (some (a0, none)) = some (r1, r2) := h; clear h; simp only [Option.some.injEq, Prod.mk.injEq] at H; obtain ⟨rfl, rfl⟩ := H; go_enter Tryz.func30, Tryz.ntmps30
 go_wp2_with (first | ((with_reducible refine gate_dst (N := 5) rfl ?_); refine box_event ?hg (N := 5) ?hd (cs := #[.string a0, errW none]) (t := 91) ?hr ?_; (case hd => rfl); (case hg => rfl); (case hr => exact z68); intro gb118 hg w2 hbox hb; have n0_ := Aside0.mk (below_step HBW.out hb); have n1_ := Aside0.mk (below_step z8 hb); have n2_ := Aside0.mk (hbox); have n3_ := Aside0.mk ((by rw [hg]; exact (below_size (by repeat (first | (with_reducible first | exact HBW.out | apply below_alloc | apply pw_below_drewN | apply below_drew1) | exact HBW.out))) : w.heap.size ≤ gb118)); have n4_ := Aside0.mk ((Nat.le_trans HW0.out (by rw [hg]; exact (below_size (by repeat (first | (with_reducible first | exact HBW.out | apply below_alloc | apply pw_below_drewN | apply below_drew1) | exact HBW.out))) : w.heap.size ≤ gb118) : w0.heap.size ≤ gb118)); clear HBW; clear HB; have HBW := n0_; have HB := n1_; have BK118 := n2_; have GW118 := n3_; have GE118 := n4_; clear n0_ n1_ n2_ n3_ n4_; clear hb hbox hg))
 go_ret
 exact ⟨_, rfl, (show IsS91 w0 _ gb118 a0 none from ⟨(z3 BK118.out), GE118.out⟩), by repeat (first | (with_reducible first | exact HB.out | apply below_alloc | apply pw_below_drewN | apply below_drew1 | refine below_set ?_ GE118.out) | exact HB.out), by repeat (first | (with_reducible first | exact HBW.out | apply below_alloc | apply pw_below_drewN | apply below_drew1 | refine below_set ?_ GW118.out) | exact HBW.out)⟩

/-! ### le_In_fail: function 49 -/
def le_In_fail.f (s0_0 : ByteArray) (s0_1 : Option Int) (a1 : Int) : Option (ByteArray × Option Int) := if s0_1.isNone = true then (some (s0_0, some a1)) else (some (s0_0, some (s0_1.getD 0)))
set_option maxHeartbeats 8000000 in
set_option maxRecDepth 100000 in
theorem le_In_fail.calls (g : Nat) (s0_0 : ByteArray) (s0_1 : Option Int) (a1 : Int) (r1 : ByteArray) (r2 : Option Int) (w0 w : World) (hI : IsS91 w0 w g s0_0 s0_1) (hB : Below w0.heap.size w0 w) (h : le_In_fail.f s0_0 s0_1 a1 = some (r1, r2)) :
  Calls Tryz.prog 49 #[.pointer (some ⟨g, 0, none⟩), .int .i64 a1] w fun e w' => e = .returned (.tuple #[]) ∧ IsS91 w0 w' g r1 r2 ∧ Below w0.heap.size w0 w' ∧ KeepBut w w' g none := by
 have hu33 := Tryz.underlying33; have hu48 := Tryz.underlying48; have HI0 := Aside0.mk hI; have HK := Aside0.mk (KeepBut.refl w g none); have HL := Aside0.mk hB.size; clear hI; have HW0 := Aside0.mk hB.size; have HB := Aside0.mk hB; clear hB; have H : (if s0_1.isNone = true then (some (s0_0, some a1)) else (some (s0_0, some (s0_1.getD 0)))) = some (r1, r2) := h; clear h; rcases s0_1 with _ | q119
 ·have H1 : (some (s0_0, some a1)) = some (r1, r2) := by rw [if_pos (show (none : Option Int).isNone = true by rfl)] at H; exact H
  clear H; have H := H1; clear H1
  try simp only [errW_none, errW_some]
  simp only [Option.some.injEq, Prod.mk.injEq] at H; obtain ⟨rfl, rfl⟩ := H; obtain ⟨HGz3, hgz3⟩ := HI0.out; have hcz3_0 := cellS91_0 HGz3
  try simp only [errW_none, errW_some] at hcz3_0
  have hcz3_1 := cellS91_1 HGz3
  try simp only [errW_none, errW_some] at hcz3_1
  have hfz3_0 := blk_frozen HGz3 0; have hfz3_1 := blk_frozen HGz3 1; clear HGz3 hgz3; go_enter Tryz.func49, Tryz.ntmps49
  go_wp2
  first | go_end0 | ((try simp only [Exit.inBlock, Exit.then]); refine bodyPost_ret (results_none rfl _ _ _) rfl ?_)
  exact ⟨z12, z15, z19, z14⟩
 ·have H1 : (some (s0_0, some q119)) = some (r1, r2) := by rw [if_neg (show ¬ (some q119).isNone = true by simp)] at H; exact H
  clear H; have H := H1; clear H1
  try simp only [errW_none, errW_some]
  simp only [Option.some.injEq, Prod.mk.injEq] at H; obtain ⟨rfl, rfl⟩ := H; obtain ⟨HGz4, hgz4⟩ := HI0.out; have hcz4_0 := cellS91_0 HGz4
  try simp only [errW_none, errW_some] at hcz4_0
  have hcz4_1 := cellS91_1 HGz4
  try simp only [errW_none, errW_some] at hcz4_1
  have hfz4_0 := blk_frozen HGz4 0; have hfz4_1 := blk_frozen HGz4 1; clear HGz4 hgz4; go_enter Tryz.func49, Tryz.ntmps49
  go_wp2
  first | go_end0 | ((try simp only [Exit.inBlock, Exit.then]); refine bodyPost_ret (results_none rfl _ _ _) rfl ?_)
  exact ⟨z12, z15, z19, z14⟩

/-! ### le_Get: function 50 -/
def le_Get.l0 : Nat → ByteArray → Int → Int → Option (Int)
 | 0, _, _, _ => none
 | k + 1, x0, x3, x4 => if x4 ≥ 0 then (if 0 ≤ x4 then (if x4 < (x0.size : Int) then (le_Get.l0 k x0 (Go.bits .or .i64 (wrap64 (x3 * 256)) (wrap64 (bt x0 x4))) (wrap64 (x4 - 1))) else (none)) else (none)) else (some x3)
def le_Get.f (k : Nat) (a0 : ByteArray) : Option (Int) := if (a0.size : Int) > 7 then (some 0) else (le_Get.l0 k a0 0 (wrap64 ((a0.size : Int) - 1)))
set_option maxHeartbeats 8000000 in
set_option maxRecDepth 100000 in
theorem le_Get.calls (k : Nat) (a0 : ByteArray) (r : Int) (w : World) (h : le_Get.f k a0 = some r) :
  Calls Tryz.prog 50 #[.string a0] w fun e w' => e = .returned (.int .i64 r) ∧ Drawn0 w w' := by
 have H : (if (a0.size : Int) > 7 then (some 0) else (le_Get.l0 k a0 0 (wrap64 ((a0.size : Int) - 1)))) = some r := h; clear h
 by_cases c2 : (a0.size : Int) > 7
 ·rw [if_pos c2] at H; have c2b0 : decide (7 < (a0.size : Int)) = true := decide_eq_true c2; have c2b1 : decide (7 < a0.size) = true := decide_eq_true (by omega); clear c2; obtain rfl := Option.some.inj H; go_enter Tryz.func50, Tryz.ntmps50
  go_wp2
  go_ret
  exact ⟨z13, z28⟩
 ·rw [if_neg c2] at H; have c2b0 : decide (7 < (a0.size : Int)) = false := decide_eq_false c2; have c2b1 : decide (7 < a0.size) = false := decide_eq_false (by omega); clear c2; have H' := Aside0.mk H; clear H; go_enter Tryz.func50, Tryz.ntmps50
  go_wp2
  go_loopg [3, 4] k (fun kq v3 v4 w' => ∃ (x3_1 : Int) (x4_1 : Int), v3 = .int .i64 x3_1 ∧ v4 = .int .i64 x4_1 ∧ Aside0 (le_Get.l0 kq a0 x3_1 x4_1 = some r) ∧ Aside0 (kq ≤ k) ∧ Drawn0 w w')
  case atStart => exact ⟨(0), (wrap64 ((a0.size : Int) - 1)), z13, z13, H', ⟨Nat.le_refl _⟩, z28⟩
  case round =>
   clear H'
   (try clear c2)
   (try clear c2b0)
   (try clear c2b1)
   obtain ⟨x3_1, x4_1, rfl, rfl, HA, HK1, ⟨m1, rfl⟩⟩ := hrel; cases gk with
   | zero => exact absurd HA.out (by simp [le_Get.l0])
   | succ k1 =>
    have H := HA.out; clear HA; simp only [le_Get.l0] at H
    by_cases c3 : x4_1 ≥ 0
    ·rw [if_pos c3] at H; have c3b0 : decide (0 ≤ x4_1) = true := decide_eq_true c3; clear c3
     by_cases c4 : 0 ≤ x4_1
     ·rw [if_pos c4] at H; have c4b0 : decide (0 ≤ x4_1) = true := decide_eq_true c4; clear c4
      by_cases c5 : x4_1 < (a0.size : Int)
      ·rw [if_pos c5] at H; have c5b0 : decide (x4_1 < (a0.size : Int)) = true := decide_eq_true c5; clear c5; have H' := Aside0.mk H; clear H; have p6 : 0 ≤ (x4_1 : Int) := of_decide_eq_true z11; have q6 : x4_1 < (a0.size : Int) := of_decide_eq_true z11; have hx6 := bt_at a0 x4_1; replace p6 := eq_true p6; replace q6 := eq_true q6; go_wp2
       go_roundg k1
       case measure => have := HK1.out; omega
       case rel => exact ⟨(Go.bits .or .i64 (wrap64 (x3_1 * 256)) (wrap64 (bt a0 x4_1))), (wrap64 (x4_1 - 1)), z13, z13, H', ⟨by have := HK1.out; omega⟩, z28⟩
      ·rw [if_neg c5] at H; exact absurd H (by simp)
     ·rw [if_neg c4] at H; exact absurd H (by simp)
    ·rw [if_neg c3] at H; have c3b0 : decide (0 ≤ x4_1) = false := decide_eq_false c3; clear c3; obtain rfl := Option.some.inj H; go_wp2
     go_ret
     exact ⟨z13, z28⟩

/-! ### le_In_Text: function 51 -/
def le_In_Text.f (s0_0 : ByteArray) (s0_1 : Option Int) (a1 : Int) : Option (ByteArray × ByteArray × Option Int) := if a1 < 0 then ((le_In_fail.f s0_0 s0_1 1).bind fun bt120 => (if bt120.2.isNone = true then (if 0 ≤ a1 then (if a1 ≤ (bt120.1.size : Int) then (some (bt120.1.extract 0 (a1 : Int).toNat, bt120.1.extract (a1 : Int).toNat bt120.1.size, none)) else (none)) else (none)) else (some ((⟨#[]⟩ : ByteArray), bt120.1, some (bt120.2.getD 0))))) else (if a1 > (s0_0.size : Int) then ((le_In_fail.f s0_0 s0_1 4).bind fun bt123 => (if bt123.2.isNone = true then (if 0 ≤ a1 then (if a1 ≤ (bt123.1.size : Int) then (some (bt123.1.extract 0 (a1 : Int).toNat, bt123.1.extract (a1 : Int).toNat bt123.1.size, none)) else (none)) else (none)) else (some ((⟨#[]⟩ : ByteArray), bt123.1, some (bt123.2.getD 0))))) else (if s0_1.isNone = true then (if 0 ≤ a1 then (if a1 ≤ (s0_0.size : Int) then (some (s0_0.extract 0 (a1 : Int).toNat, s0_0.extract (a1 : Int).toNat s0_0.size, none)) else (none)) else (none)) else (some ((⟨#[]⟩ : ByteArray), s0_0, some (s0_1.getD 0)))))
set_option maxHeartbeats 8000000 in
set_option maxRecDepth 100000 in
theorem le_In_Text.calls (g : Nat) (s0_0 : ByteArray) (s0_1 : Option Int) (a1 : Int) (r1 : ByteArray) (r2 : ByteArray) (r3 : Option Int) (w0 w : World) (hI : IsS91 w0 w g s0_0 s0_1) (hB : Below w0.heap.size w0 w) (h : le_In_Text.f s0_0 s0_1 a1 = some (r1, r2, r3)) :
  Calls Tryz.prog 51 #[.pointer (some ⟨g, 0, none⟩), .int .i64 a1] w fun e w' => e = .returned (.string r1) ∧ IsS91 w0 w' g r2 r3 ∧ Below w0.heap.size w0 w' ∧ KeepBut w w' g none := by
 have hu33 := Tryz.underlying33; have hu48 := Tryz.underlying48; have HI0 := Aside0.mk hI; have HK := Aside0.mk (KeepBut.refl w g none); have HL := Aside0.mk hB.size; clear hI; have HW0 := Aside0.mk hB.size; have HB := Aside0.mk hB; clear hB; have H : (if a1 < 0 then ((le_In_fail.f s0_0 s0_1 1).bind fun bt120 => (if bt120.2.isNone = true then (if 0 ≤ a1 then (if a1 ≤ (bt120.1.size : Int) then (some (bt120.1.extract 0 (a1 : Int).toNat, bt120.1.extract (a1 : Int).toNat bt120.1.size, none)) else (none)) else (none)) else (some ((⟨#[]⟩ : ByteArray), bt120.1, some (bt120.2.getD 0))))) else (if a1 > (s0_0.size : Int) then ((le_In_fail.f s0_0 s0_1 4).bind fun bt123 => (if bt123.2.isNone = true then (if 0 ≤ a1 then (if a1 ≤ (bt123.1.size : Int) then (some (bt123.1.extract 0 (a1 : Int).toNat, bt123.1.extract (a1 : Int).toNat bt123.1.size, none)) else (none)) else (none)) else (some ((⟨#[]⟩ : ByteArray), bt123.1, some (bt123.2.getD 0))))) else (if s0_1.isNone = true then (if 0 ≤ a1 then (if a1 ≤ (s0_0.size : Int) then (some (s0_0.extract 0 (a1 : Int).toNat, s0_0.extract (a1 : Int).toNat s0_0.size, none)) else (none)) else (none)) else (some ((⟨#[]⟩ : ByteArray), s0_0, some (s0_1.getD 0)))))) = some (r1, r2, r3) := h; clear h
 by_cases c3 : a1 < 0
 ·rw [if_pos c3] at H; have c3b0 : decide (a1 < 0) = true := decide_eq_true c3; clear c3; replace H := Option.bind_eq_some_iff.mp H; obtain ⟨⟨t120, t121⟩, A40, H⟩ := H; replace H : (if t121.isNone = true then (if 0 ≤ a1 then (if a1 ≤ (t120.size : Int) then (some (t120.extract 0 (a1 : Int).toNat, t120.extract (a1 : Int).toNat t120.size, none)) else (none)) else (none)) else (some ((⟨#[]⟩ : ByteArray), t120, some (t121.getD 0)))) = some (r1, r2, r3) := H; have A4 := Aside0.mk A40; clear A40; rcases t121 with _ | q122
  ·have H1 : (if 0 ≤ a1 then (if a1 ≤ (t120.size : Int) then (some (t120.extract 0 (a1 : Int).toNat, t120.extract (a1 : Int).toNat t120.size, none)) else (none)) else (none)) = some (r1, r2, r3) := by rw [if_pos (show (none : Option Int).isNone = true by rfl)] at H; exact H
   clear H; have H := H1; clear H1
   try simp only [errW_none, errW_some]
   by_cases c5 : 0 ≤ a1
   ·rw [if_pos c5] at H; have c5b0 := eq_true c5
    try (have c5sa0 := c5b0; simp only [ByteArray.size_append, Int.natCast_add] at c5sa0)
    have c5b1 : decide (0 ≤ a1) = true := decide_eq_true c5; clear c5
    by_cases c6 : a1 ≤ (t120.size : Int)
    ·rw [if_pos c6] at H; have c6b0 := eq_true c6
     try (have c6sa0 := c6b0; simp only [ByteArray.size_append, Int.natCast_add] at c6sa0)
     have c6b1 : decide (a1 ≤ (t120.size : Int)) = true := decide_eq_true c6; clear c6; have c7b0 := eq_true (of_decide_eq_true z11 : 0 ≤ a1); have c8b0 := eq_true (of_decide_eq_true z11 : a1 ≤ (t120.size : Int)); simp only [Option.some.injEq, Prod.mk.injEq] at H; obtain ⟨rfl, rfl, rfl⟩ := H; go_enter Tryz.func51, Tryz.ntmps51
     go_wp2_with (first | ((with_reducible refine gate_callee (f := 49) rfl ?_); refine goesL_ (some 13) rfl rfl Tryz.func49 (by kernel_rfl) rfl #[.pointer (some ⟨g, 0, none⟩), .int .i64 1] rfl z6 ?_; (with_reducible refine (le_In_fail.calls g s0_0 s0_1 1 t120 none w0 _ ?side1 ?side2 A4.out).mono ?_); (case side1 => exact z15); (case side2 => exact z19); rintro e w9 ⟨rfl, hi, hb, hk⟩; refine ⟨_, rfl, ?_⟩; have n0_ := Aside0.mk (KeepBut.trans z14 hk (.inl rfl)); have n1_ := Aside0.mk (hb); have n2_ := Aside0.mk (hi); clear HK; clear HB; clear HI0; have HK := n0_; have HB := n1_; have HI0 := n2_; clear n0_ n1_ n2_; (try clear hb); (try clear hb2); (try clear hk); (try clear hi); (try simp only [errW_none, errW_some]); obtain ⟨HGz10, hgz10⟩ := HI0.out; have hcz10_0 := cellS91_0 HGz10; (try simp only [errW_none, errW_some] at hcz10_0); have hcz10_1 := cellS91_1 HGz10; (try simp only [errW_none, errW_some] at hcz10_1); have hfz10_0 := blk_frozen HGz10 0; have hfz10_1 := blk_frozen HGz10 1; clear HGz10 hgz10))
     go_ret
     exact ⟨z12, z15, z19, z14⟩
    ·rw [if_neg c6] at H; exact absurd H (by simp)
   ·rw [if_neg c5] at H; exact absurd H (by simp)
  ·have H1 : (some ((⟨#[]⟩ : ByteArray), t120, some q122)) = some (r1, r2, r3) := by rw [if_neg (show ¬ (some q122).isNone = true by simp)] at H; exact H
   clear H; have H := H1; clear H1
   try simp only [errW_none, errW_some]
   simp only [Option.some.injEq, Prod.mk.injEq] at H; obtain ⟨rfl, rfl, rfl⟩ := H; go_enter Tryz.func51, Tryz.ntmps51
   go_wp2_with (first | ((with_reducible refine gate_callee (f := 49) rfl ?_); refine goesL_ (some 13) rfl rfl Tryz.func49 (by kernel_rfl) rfl #[.pointer (some ⟨g, 0, none⟩), .int .i64 1] rfl z6 ?_; (with_reducible refine (le_In_fail.calls g s0_0 s0_1 1 t120 (some q122) w0 _ ?side1 ?side2 A4.out).mono ?_); (case side1 => exact z15); (case side2 => exact z19); rintro e w11 ⟨rfl, hi, hb, hk⟩; refine ⟨_, rfl, ?_⟩; have n0_ := Aside0.mk (KeepBut.trans z14 hk (.inl rfl)); have n1_ := Aside0.mk (hb); have n2_ := Aside0.mk (hi); clear HK; clear HB; clear HI0; have HK := n0_; have HB := n1_; have HI0 := n2_; clear n0_ n1_ n2_; (try clear hb); (try clear hb2); (try clear hk); (try clear hi); (try simp only [errW_none, errW_some]); obtain ⟨HGz12, hgz12⟩ := HI0.out; have hcz12_0 := cellS91_0 HGz12; (try simp only [errW_none, errW_some] at hcz12_0); have hcz12_1 := cellS91_1 HGz12; (try simp only [errW_none, errW_some] at hcz12_1); have hfz12_0 := blk_frozen HGz12 0; have hfz12_1 := blk_frozen HGz12 1; clear HGz12 hgz12))
   go_ret
   exact ⟨z12, z15, z19, z14⟩
 ·rw [if_neg c3] at H; have c3b0 : decide (a1 < 0) = false := decide_eq_false c3; clear c3
  by_cases c13 : a1 > (s0_0.size : Int)
  ·rw [if_pos c13] at H; have c13b0 : decide ((s0_0.size : Int) < a1) = true := decide_eq_true c13; clear c13; replace H := Option.bind_eq_some_iff.mp H; obtain ⟨⟨t123, t124⟩, A140, H⟩ := H; replace H : (if t124.isNone = true then (if 0 ≤ a1 then (if a1 ≤ (t123.size : Int) then (some (t123.extract 0 (a1 : Int).toNat, t123.extract (a1 : Int).toNat t123.size, none)) else (none)) else (none)) else (some ((⟨#[]⟩ : ByteArray), t123, some (t124.getD 0)))) = some (r1, r2, r3) := H; have A14 := Aside0.mk A140; clear A140; rcases t124 with _ | q125
   ·have H1 : (if 0 ≤ a1 then (if a1 ≤ (t123.size : Int) then (some (t123.extract 0 (a1 : Int).toNat, t123.extract (a1 : Int).toNat t123.size, none)) else (none)) else (none)) = some (r1, r2, r3) := by rw [if_pos (show (none : Option Int).isNone = true by rfl)] at H; exact H
    clear H; have H := H1; clear H1
    try simp only [errW_none, errW_some]
    by_cases c15 : 0 ≤ a1
    ·rw [if_pos c15] at H; have c15b0 := eq_true c15
     try (have c15sa0 := c15b0; simp only [ByteArray.size_append, Int.natCast_add] at c15sa0)
     have c15b1 : decide (0 ≤ a1) = true := decide_eq_true c15; clear c15
     by_cases c16 : a1 ≤ (t123.size : Int)
     ·rw [if_pos c16] at H; have c16b0 := eq_true c16
      try (have c16sa0 := c16b0; simp only [ByteArray.size_append, Int.natCast_add] at c16sa0)
      have c16b1 : decide (a1 ≤ (t123.size : Int)) = true := decide_eq_true c16; clear c16; have c17b0 := eq_true (of_decide_eq_true z11 : 0 ≤ a1); have c18b0 := eq_true (of_decide_eq_true z11 : a1 ≤ (t123.size : Int)); simp only [Option.some.injEq, Prod.mk.injEq] at H; obtain ⟨rfl, rfl, rfl⟩ := H; obtain ⟨HGz19, hgz19⟩ := HI0.out; have hcz19_0 := cellS91_0 HGz19
      try simp only [errW_none, errW_some] at hcz19_0
      have hcz19_1 := cellS91_1 HGz19
      try simp only [errW_none, errW_some] at hcz19_1
      have hfz19_0 := blk_frozen HGz19 0; have hfz19_1 := blk_frozen HGz19 1; clear HGz19 hgz19; go_enter Tryz.func51, Tryz.ntmps51
      go_wp2_with (first | ((with_reducible refine gate_callee (f := 49) rfl ?_); refine goesL_ (some 23) rfl rfl Tryz.func49 (by kernel_rfl) rfl #[.pointer (some ⟨g, 0, none⟩), .int .i64 4] rfl z6 ?_; (with_reducible refine (le_In_fail.calls g s0_0 s0_1 4 t123 none w0 _ ?side1 ?side2 A14.out).mono ?_); (case side1 => exact z15); (case side2 => exact z19); rintro e w20 ⟨rfl, hi, hb, hk⟩; refine ⟨_, rfl, ?_⟩; have n0_ := Aside0.mk (KeepBut.trans z14 hk (.inl rfl)); have n1_ := Aside0.mk (hb); have n2_ := Aside0.mk (hi); clear HK; clear HB; clear HI0; have HK := n0_; have HB := n1_; have HI0 := n2_; clear n0_ n1_ n2_; (try clear hb); (try clear hb2); (try clear hk); (try clear hi); (try simp only [errW_none, errW_some]); obtain ⟨HGz21, hgz21⟩ := HI0.out; have hcz21_0 := cellS91_0 HGz21; (try simp only [errW_none, errW_some] at hcz21_0); have hcz21_1 := cellS91_1 HGz21; (try simp only [errW_none, errW_some] at hcz21_1); have hfz21_0 := blk_frozen HGz21 0; have hfz21_1 := blk_frozen HGz21 1; clear HGz21 hgz21))
      go_ret
      exact ⟨z12, z15, z19, z14⟩
     ·rw [if_neg c16] at H; exact absurd H (by simp)
    ·rw [if_neg c15] at H; exact absurd H (by simp)
   ·have H1 : (some ((⟨#[]⟩ : ByteArray), t123, some q125)) = some (r1, r2, r3) := by rw [if_neg (show ¬ (some q125).isNone = true by simp)] at H; exact H
    clear H; have H := H1; clear H1
    try simp only [errW_none, errW_some]
    simp only [Option.some.injEq, Prod.mk.injEq] at H; obtain ⟨rfl, rfl, rfl⟩ := H; obtain ⟨HGz22, hgz22⟩ := HI0.out; have hcz22_0 := cellS91_0 HGz22
    try simp only [errW_none, errW_some] at hcz22_0
    have hcz22_1 := cellS91_1 HGz22
    try simp only [errW_none, errW_some] at hcz22_1
    have hfz22_0 := blk_frozen HGz22 0; have hfz22_1 := blk_frozen HGz22 1; clear HGz22 hgz22; go_enter Tryz.func51, Tryz.ntmps51
    go_wp2_with (first | ((with_reducible refine gate_callee (f := 49) rfl ?_); refine goesL_ (some 23) rfl rfl Tryz.func49 (by kernel_rfl) rfl #[.pointer (some ⟨g, 0, none⟩), .int .i64 4] rfl z6 ?_; (with_reducible refine (le_In_fail.calls g s0_0 s0_1 4 t123 (some q125) w0 _ ?side1 ?side2 A14.out).mono ?_); (case side1 => exact z15); (case side2 => exact z19); rintro e w23 ⟨rfl, hi, hb, hk⟩; refine ⟨_, rfl, ?_⟩; have n0_ := Aside0.mk (KeepBut.trans z14 hk (.inl rfl)); have n1_ := Aside0.mk (hb); have n2_ := Aside0.mk (hi); clear HK; clear HB; clear HI0; have HK := n0_; have HB := n1_; have HI0 := n2_; clear n0_ n1_ n2_; (try clear hb); (try clear hb2); (try clear hk); (try clear hi); (try simp only [errW_none, errW_some]); obtain ⟨HGz24, hgz24⟩ := HI0.out; have hcz24_0 := cellS91_0 HGz24; (try simp only [errW_none, errW_some] at hcz24_0); have hcz24_1 := cellS91_1 HGz24; (try simp only [errW_none, errW_some] at hcz24_1); have hfz24_0 := blk_frozen HGz24 0; have hfz24_1 := blk_frozen HGz24 1; clear HGz24 hgz24))
    go_ret
    exact ⟨z12, z15, z19, z14⟩
  ·rw [if_neg c13] at H; have c13b0 : decide ((s0_0.size : Int) < a1) = false := decide_eq_false c13; clear c13; rcases s0_1 with _ | q126
   ·have H1 : (if 0 ≤ a1 then (if a1 ≤ (s0_0.size : Int) then (some (s0_0.extract 0 (a1 : Int).toNat, s0_0.extract (a1 : Int).toNat s0_0.size, none)) else (none)) else (none)) = some (r1, r2, r3) := by rw [if_pos (show (none : Option Int).isNone = true by rfl)] at H; exact H
    clear H; have H := H1; clear H1
    try simp only [errW_none, errW_some]
    by_cases c25 : 0 ≤ a1
    ·rw [if_pos c25] at H; have c25b0 := eq_true c25
     try (have c25sa0 := c25b0; simp only [ByteArray.size_append, Int.natCast_add] at c25sa0)
     have c25b1 : decide (0 ≤ a1) = true := decide_eq_true c25; clear c25
     by_cases c26 : a1 ≤ (s0_0.size : Int)
     ·rw [if_pos c26] at H; have c26b0 := eq_true c26
      try (have c26sa0 := c26b0; simp only [ByteArray.size_append, Int.natCast_add] at c26sa0)
      have c26b1 : decide (a1 ≤ (s0_0.size : Int)) = true := decide_eq_true c26; clear c26; have c27b0 := eq_true (of_decide_eq_true z11 : 0 ≤ a1); have c28b0 := eq_true (of_decide_eq_true z11 : a1 ≤ (s0_0.size : Int)); simp only [Option.some.injEq, Prod.mk.injEq] at H; obtain ⟨rfl, rfl, rfl⟩ := H; obtain ⟨HGz29, hgz29⟩ := HI0.out; have hcz29_0 := cellS91_0 HGz29
      try simp only [errW_none, errW_some] at hcz29_0
      have hcz29_1 := cellS91_1 HGz29
      try simp only [errW_none, errW_some] at hcz29_1
      have hfz29_0 := blk_frozen HGz29 0; have hfz29_1 := blk_frozen HGz29 1; clear HGz29 hgz29; go_enter Tryz.func51, Tryz.ntmps51
      go_wp2
      go_ret
      exact ⟨z12, z15, z19, z14⟩
     ·rw [if_neg c26] at H; exact absurd H (by simp)
    ·rw [if_neg c25] at H; exact absurd H (by simp)
   ·have H1 : (some ((⟨#[]⟩ : ByteArray), s0_0, some q126)) = some (r1, r2, r3) := by rw [if_neg (show ¬ (some q126).isNone = true by simp)] at H; exact H
    clear H; have H := H1; clear H1
    try simp only [errW_none, errW_some]
    simp only [Option.some.injEq, Prod.mk.injEq] at H; obtain ⟨rfl, rfl, rfl⟩ := H; obtain ⟨HGz30, hgz30⟩ := HI0.out; have hcz30_0 := cellS91_0 HGz30
    try simp only [errW_none, errW_some] at hcz30_0
    have hcz30_1 := cellS91_1 HGz30
    try simp only [errW_none, errW_some] at hcz30_1
    have hfz30_0 := blk_frozen HGz30 0; have hfz30_1 := blk_frozen HGz30 1; clear HGz30 hgz30; go_enter Tryz.func51, Tryz.ntmps51
    go_wp2
    go_ret
    exact ⟨z12, z15, z19, z14⟩

/-! ### le_In_Num: function 31 -/
def le_In_Num.j0 : Nat → Int → Bool → ByteArray → Option Int → Option (Int × ByteArray × Option Int)
 | 0, _, _, _, _ => none
 | k + 1, x1, x14, x1000, x1001 => if x14 = true then ((le_In_fail.f x1000 x1001 1).bind fun bt127 => ((le_In_Text.f bt127.1 bt127.2 x1).bind fun bt129 => ((le_Get.f k bt129.1).bind fun t132 => (some (t132, bt129.2.1, bt129.2.2))))) else ((le_In_Text.f x1000 x1001 x1).bind fun bt133 => ((le_Get.f k bt133.1).bind fun t136 => (some (t136, bt133.2.1, bt133.2.2))))
def le_In_Num.f (k : Nat) (s0_0 : ByteArray) (s0_1 : Option Int) (a1 : Int) : Option (Int × ByteArray × Option Int) := if a1 < 1 then (le_In_Num.j0 k a1 true s0_0 s0_1) else (le_In_Num.j0 k a1 (decide (a1 > 7)) s0_0 s0_1)
set_option maxHeartbeats 8000000 in
set_option maxRecDepth 100000 in
theorem le_In_Num.calls (k : Nat) (g : Nat) (s0_0 : ByteArray) (s0_1 : Option Int) (a1 : Int) (r1 : Int) (r2 : ByteArray) (r3 : Option Int) (w0 w : World) (hI : IsS91 w0 w g s0_0 s0_1) (hB : Below w0.heap.size w0 w) (h : le_In_Num.f k s0_0 s0_1 a1 = some (r1, r2, r3)) :
  Calls Tryz.prog 31 #[.pointer (some ⟨g, 0, none⟩), .int .i64 a1] w fun e w' => e = .returned (.int .i64 r1) ∧ IsS91 w0 w' g r2 r3 ∧ Below w0.heap.size w0 w' ∧ KeepBut w w' g none := by
 have HI0 := Aside0.mk hI; have HK := Aside0.mk (KeepBut.refl w g none); have HL := Aside0.mk hB.size; clear hI; have HW0 := Aside0.mk hB.size; have HB := Aside0.mk hB; clear hB; have H : (if a1 < 1 then (le_In_Num.j0 k a1 true s0_0 s0_1) else (le_In_Num.j0 k a1 (decide (a1 > 7)) s0_0 s0_1)) = some (r1, r2, r3) := h; clear h; have HC3 := Aside0.mk H; clear H; go_enter Tryz.func31, Tryz.ntmps31
 go_upto_region 1 with (fail)
 go_cut [14] (fun v14 wc => ∃ (kq : Nat) (x14_2 : Bool), v14 = .bool x14_2 ∧ Aside0 (le_In_Num.j0 kq a1 x14_2 s0_0 s0_1 = some (r1, r2, r3)) ∧ Aside0 (kq ≤ k) ∧ Aside0 (IsS91 w0 wc g s0_0 s0_1) ∧ Aside0 (KeepBut w wc g none) ∧ Aside0 (Below w0.heap.size w0 wc))
 case first =>
  have H := HC3.out; clear HC3
  by_cases c4 : a1 < 1
  ·rw [if_pos c4] at H; have c4b0 : decide (a1 < 1) = true := decide_eq_true c4; clear c4
   (first | rw [c4b0] | (simp only [i64_w, i32_w]; rw [c4b0]) | skip)
   have H' := Aside0.mk H; clear H; go_wp2
   go_meet
   case rel => exact ⟨_, (true), z13, H', ⟨z31⟩, ⟨z15⟩, ⟨z14⟩, ⟨z19⟩⟩
  ·rw [if_neg c4] at H; have c4b0 : decide (a1 < 1) = false := decide_eq_false c4; clear c4
   (first | rw [c4b0] | (simp only [i64_w, i32_w]; rw [c4b0]) | skip)
   have H' := Aside0.mk H; clear H; go_wp2
   go_meet
   case rel => exact ⟨_, (decide (a1 > 7)), z13, H', ⟨z31⟩, ⟨z15⟩, ⟨z14⟩, ⟨z19⟩⟩
 case rest =>
  clear HC3; obtain ⟨kq, x14_2, rfl, HA, HJ2, HI0, HK, HB⟩ := hcut; cases kq with
  | zero => exact absurd HA.out (by simp [le_In_Num.j0])
  | succ kj2 =>
   have H := HA.out; clear HA; simp only [le_In_Num.j0] at H
   by_cases c5 : x14_2 = true
   ·subst c5; have H1 : ((le_In_fail.f s0_0 s0_1 1).bind fun bt127 => ((le_In_Text.f bt127.1 bt127.2 a1).bind fun bt129 => ((le_Get.f kj2 bt129.1).bind fun t132 => (some (t132, bt129.2.1, bt129.2.2))))) = some (r1, r2, r3) := by rw [if_pos rfl] at H; exact H
    clear H; have H := H1; clear H1; replace H := Option.bind_eq_some_iff.mp H; obtain ⟨⟨t127, t128⟩, A60, H⟩ := H; replace H : ((le_In_Text.f t127 t128 a1).bind fun bt129 => ((le_Get.f kj2 bt129.1).bind fun t132 => (some (t132, bt129.2.1, bt129.2.2)))) = some (r1, r2, r3) := H; have A6 := Aside0.mk A60; clear A60; replace H := Option.bind_eq_some_iff.mp H; obtain ⟨⟨t129, t130, t131⟩, A70, H⟩ := H; replace H : ((le_Get.f kj2 t129).bind fun t132 => (some (t132, t130, t131))) = some (r1, r2, r3) := H; have A7 := Aside0.mk A70; clear A70; replace H := Option.bind_eq_some_iff.mp H; obtain ⟨t132, A80, H⟩ := H; replace H : (some (t132, t130, t131)) = some (r1, r2, r3) := H; have A8 := Aside0.mk A80; clear A80; simp only [Option.some.injEq, Prod.mk.injEq] at H; obtain ⟨rfl, rfl, rfl⟩ := H; go_wp2_with (first | ((with_reducible refine gate_callee (f := 49) rfl ?_); refine goesL_ (some 16) rfl rfl Tryz.func49 (by kernel_rfl) rfl #[.pointer (some ⟨g, 0, none⟩), .int .i64 1] rfl z6 ?_; (with_reducible refine (le_In_fail.calls g s0_0 s0_1 1 t127 t128 w0 _ ?side1 ?side2 A6.out).mono ?_); (case side1 => exact z15); (case side2 => exact z19); rintro e w9 ⟨rfl, hi, hb, hk⟩; refine ⟨_, rfl, ?_⟩; have n0_ := Aside0.mk (KeepBut.trans z14 hk (.inl rfl)); have n1_ := Aside0.mk (hb); have n2_ := Aside0.mk (hi); clear HK; clear HB; clear HI0; have HK := n0_; have HB := n1_; have HI0 := n2_; clear n0_ n1_ n2_; (try clear hb); (try clear hb2); (try clear hk); (try clear hi); (try simp only [errW_none, errW_some])) | ((with_reducible refine gate_callee (f := 51) rfl ?_); refine goesL_ (some 19) rfl rfl Tryz.func51 (by kernel_rfl) rfl #[.pointer (some ⟨g, 0, none⟩), .int .i64 a1] rfl z6 ?_; (with_reducible refine (le_In_Text.calls g t127 t128 a1 t129 t130 t131 w0 _ ?side1 ?side2 A7.out).mono ?_); (case side1 => exact z15); (case side2 => exact z19); rintro e w10 ⟨rfl, hi, hb, hk⟩; refine ⟨_, rfl, ?_⟩; have n0_ := Aside0.mk (KeepBut.trans z14 hk (.inl rfl)); have n1_ := Aside0.mk (hb); have n2_ := Aside0.mk (hi); clear HK; clear HB; clear HI0; have HK := n0_; have HB := n1_; have HI0 := n2_; clear n0_ n1_ n2_; (try clear hb); (try clear hb2); (try clear hk); (try clear hi); (try simp only [errW_none, errW_some])) | ((with_reducible refine gate_callee (f := 50) rfl ?_); refine goesL_ (some 20) rfl rfl Tryz.func50 (by kernel_rfl) rfl #[.string t129] rfl z6 ?_; (with_reducible refine (le_Get.calls kj2 t129 t132 _ A8.out).mono ?_); rintro e w' ⟨rfl, ⟨nd, rfl⟩⟩; refine ⟨_, rfl, ?_⟩))
    go_ret
    exact ⟨z12, z15, z19, z14⟩
   ·replace c5 := Bool.eq_false_iff.mpr c5; subst c5; have H1 : ((le_In_Text.f s0_0 s0_1 a1).bind fun bt133 => ((le_Get.f kj2 bt133.1).bind fun t136 => (some (t136, bt133.2.1, bt133.2.2)))) = some (r1, r2, r3) := by rw [if_neg (show ¬ (false = true) by decide)] at H; exact H
    clear H; have H := H1; clear H1; replace H := Option.bind_eq_some_iff.mp H; obtain ⟨⟨t133, t134, t135⟩, A110, H⟩ := H; replace H : ((le_Get.f kj2 t133).bind fun t136 => (some (t136, t134, t135))) = some (r1, r2, r3) := H; have A11 := Aside0.mk A110; clear A110; replace H := Option.bind_eq_some_iff.mp H; obtain ⟨t136, A120, H⟩ := H; replace H : (some (t136, t134, t135)) = some (r1, r2, r3) := H; have A12 := Aside0.mk A120; clear A120; simp only [Option.some.injEq, Prod.mk.injEq] at H; obtain ⟨rfl, rfl, rfl⟩ := H; go_wp2_with (first | ((with_reducible refine gate_callee (f := 51) rfl ?_); refine goesL_ (some 19) rfl rfl Tryz.func51 (by kernel_rfl) rfl #[.pointer (some ⟨g, 0, none⟩), .int .i64 a1] rfl z6 ?_; (with_reducible refine (le_In_Text.calls g s0_0 s0_1 a1 t133 t134 t135 w0 _ ?side1 ?side2 A11.out).mono ?_); (case side1 => exact z15); (case side2 => exact z19); rintro e w13 ⟨rfl, hi, hb, hk⟩; refine ⟨_, rfl, ?_⟩; have n0_ := Aside0.mk (KeepBut.trans z14 hk (.inl rfl)); have n1_ := Aside0.mk (hb); have n2_ := Aside0.mk (hi); clear HK; clear HB; clear HI0; have HK := n0_; have HB := n1_; have HI0 := n2_; clear n0_ n1_ n2_; (try clear hb); (try clear hb2); (try clear hk); (try clear hi); (try simp only [errW_none, errW_some])) | ((with_reducible refine gate_callee (f := 50) rfl ?_); refine goesL_ (some 20) rfl rfl Tryz.func50 (by kernel_rfl) rfl #[.string t133] rfl z6 ?_; (with_reducible refine (le_Get.calls kj2 t133 t136 _ A12.out).mono ?_); rintro e w' ⟨rfl, ⟨nd, rfl⟩⟩; refine ⟨_, rfl, ?_⟩))
    go_ret
    exact ⟨z12, z15, z19, z14⟩
section
-- @GIVEN lib_trim
section
open Go.Shelf
def Tryz.lays160_ren : Go.Shelf.Ren := ⟨fun | 160 => 52 | 232 => 68 | 231 => 67 | 227 => 69 | 234 => 71 | 233 => 70 | 236 => 73 | 235 => 72 | 228 => 84 | 271 => 87 | 151 => 86 | 197 => 85 | 120 => 92 | 152 => 91 | 260 => 90 | 137 => 93 | 119 => 94 | 224 => 95 | 225 => 96 | 217 => 97 | 266 => 98 | n => n, fun | 9 => 9 | 4 => 4 | 3 => 3 | 5 => 5 | 117 => 118 | 116 => 117 | 0 => 0 | 124 => 121 | 21 => 21 | 105 => 143 | 46 => 97 | 119 => 149 | 139 => 152 | 138 => 151 | n => n, fun | 3 => 3 | 4 => 4 | n => n⟩
theorem Tryz.lays160 : Go.Proofs.Lays.n160 Tryz.prog Tryz.lays160_ren := {
  mixed := by kernel_rfl
  f119 := Tryz.func94.trans (congrArg some (by kernel_rfl))
  f120 := Tryz.func92.trans (congrArg some (by kernel_rfl))
  f137 := Tryz.func93.trans (congrArg some (by kernel_rfl))
  f151 := Tryz.func86.trans (congrArg some (by kernel_rfl))
  f152 := Tryz.func91.trans (congrArg some (by kernel_rfl))
  f160 := Tryz.func52.trans (congrArg some (by kernel_rfl))
  f197 := Tryz.func85.trans (congrArg some (by kernel_rfl))
  f217 := Tryz.func97.trans (congrArg some (by kernel_rfl))
  f224 := Tryz.func95.trans (congrArg some (by kernel_rfl))
  f225 := Tryz.func96.trans (congrArg some (by kernel_rfl))
  f227 := Tryz.func69.trans (congrArg some (by kernel_rfl))
  f228 := Tryz.func84.trans (congrArg some (by kernel_rfl))
  f231 := Tryz.func67.trans (congrArg some (by kernel_rfl))
  f232 := Tryz.func68.trans (congrArg some (by kernel_rfl))
  f233 := Tryz.func70.trans (congrArg some (by kernel_rfl))
  f234 := Tryz.func71.trans (congrArg some (by kernel_rfl))
  f235 := Tryz.func72.trans (congrArg some (by kernel_rfl))
  f236 := Tryz.func73.trans (congrArg some (by kernel_rfl))
  f260 := Tryz.func90.trans (congrArg some (by kernel_rfl))
  f266 := Tryz.func98.trans (congrArg some (by kernel_rfl))
  f271 := Tryz.func87.trans (congrArg some (by kernel_rfl))
  t0 := Tryz.underlying0
  a0 := Tryz.isAgg0
  z0 := Tryz.sizeOf0
  v0 := Tryz.zeroValue0
  t3 := Tryz.underlying3
  a3 := Tryz.isAgg3
  z3 := Tryz.sizeOf3
  v3 := Tryz.zeroValue3
  t4 := Tryz.underlying4
  a4 := Tryz.isAgg4
  z4 := Tryz.sizeOf4
  v4 := Tryz.zeroValue4
  t5 := Tryz.underlying5
  a5 := Tryz.isAgg5
  z5 := Tryz.sizeOf5
  v5 := Tryz.zeroValue5
  t9 := Tryz.underlying9
  a9 := Tryz.isAgg9
  z9 := Tryz.sizeOf9
  v9 := Tryz.zeroValue9
  t21 := Tryz.underlying21
  a21 := Tryz.isAgg21
  z21 := Tryz.sizeOf21
  v21 := Tryz.zeroValue21
  t46 := Tryz.underlying97
  a46 := Tryz.isAgg97
  z46 := Tryz.sizeOf97
  v46 := Tryz.zeroValue97
  t105 := Tryz.underlying143
  a105 := Tryz.isAgg143
  z105 := Tryz.sizeOf143
  v105 := Tryz.zeroValue143
  t116 := Tryz.underlying117
  a116 := Tryz.isAgg117
  z116 := Tryz.sizeOf117
  t117 := Tryz.underlying118
  a117 := Tryz.isAgg118
  z117 := Tryz.sizeOf118
  v117 := Tryz.zeroValue118
  t119 := Tryz.underlying149
  a119 := Tryz.isAgg149
  z119 := Tryz.sizeOf149
  t124 := Tryz.underlying121
  a124 := Tryz.isAgg121
  z124 := Tryz.sizeOf121
  v124 := Tryz.zeroValue121
  t138 := Tryz.underlying151
  a138 := Tryz.isAgg151
  z138 := Tryz.sizeOf151
  v138 := Tryz.zeroValue151
  t139 := Tryz.underlying152
  a139 := Tryz.isAgg152
  z139 := Tryz.sizeOf152
  v139 := Tryz.zeroValue152
  g3 := by kernel_rfl
  g4 := by kernel_rfl }
/-- strings.Trim: "Trim returns a slice of the string s with all leading and trailing Unicode code points contained in cutset removed.": AT A cutset OF ONE ASCII BYTE. THE WORLD BEHIND IT: as it was, or (where s is not empty) with ONE DRAW MORE off the tape: the statement 'return trimLeftByte(trimRightByte(s, c), c)' draws its order of evaluation. (LAID: no walk: one application.) -/
theorem Tryz.strings_Trim_one (s : ByteArray) (c : UInt8) (hc : c.toNat < 128) (w : World) (hs : s.size ≤ 9223372036854775807) :
    Calls Tryz.prog 52 #[.string s, .string ⟨#[c]⟩] w fun e w' => e = .returned (.string ⟨(Lib.trimB s.data.toList c).toArray⟩) ∧ (w' = w ∨ w' = w.drew) := Any.strings_Trim_one Tryz.lays160 s c hc w hs
end
end
-- @GIVEN strings_Trim
/-! ### strings_Trim: by hand -/
def strings_Trim.f (s c : ByteArray) : Option ByteArray := if c = ⟨#[0]⟩ ∧ s.size ≤ 9223372036854775807 then some ⟨(Lib.trimB s.data.toList 0).toArray⟩ else none
theorem strings_Trim.calls (s c : ByteArray) (r : ByteArray) (w : World) (h : strings_Trim.f s c = some r) :
    Calls Tryz.prog 52 #[.string s, .string c] w fun e w' => e = .returned (.string r) ∧ Below w.heap.size w w' := by
  unfold strings_Trim.f at h
  split at h
  · rename_i hc
    obtain ⟨rfl, hs⟩ := hc; obtain rfl := Option.some.inj h; refine (Tryz.strings_Trim_one s 0 (by decide) w hs).mono ?_; rintro e w' ⟨rfl, hw⟩; rcases hw with rfl | rfl
    · exact ⟨rfl, Below.refl _ _⟩
    · exact ⟨rfl, (Below.refl _ _).drew⟩
  · cases h
/-! ### le_In_Noughts: function 32 -/
def le_In_Noughts.f (s0_0 : ByteArray) (s0_1 : Option Int) (a1 : Int) : Option (ByteArray × Option Int) := (le_In_Text.f s0_0 s0_1 a1).bind fun bt137 => ((strings_Trim.f bt137.1 (⟨#[0]⟩ : ByteArray)).bind fun t140 => (if t140.toList = ([] : List UInt8) then (some (bt137.2.1, bt137.2.2)) else ((le_In_fail.f bt137.2.1 bt137.2.2 4).bind fun bt141 => (some (bt141.1, bt141.2)))))
set_option maxHeartbeats 8000000 in
set_option maxRecDepth 100000 in
theorem le_In_Noughts.calls (g : Nat) (s0_0 : ByteArray) (s0_1 : Option Int) (a1 : Int) (r1 : ByteArray) (r2 : Option Int) (w0 w : World) (hI : IsS91 w0 w g s0_0 s0_1) (hB : Below w0.heap.size w0 w) (h : le_In_Noughts.f s0_0 s0_1 a1 = some (r1, r2)) :
  Calls Tryz.prog 32 #[.pointer (some ⟨g, 0, none⟩), .int .i64 a1] w fun e w' => e = .returned (.tuple #[]) ∧ IsS91 w0 w' g r1 r2 ∧ Below w0.heap.size w0 w' ∧ KeepBut w w' g none := by
 have HI0 := Aside0.mk hI; have HK := Aside0.mk (KeepBut.refl w g none); have HL := Aside0.mk hB.size; clear hI; have HW0 := Aside0.mk hB.size; have HB := Aside0.mk hB; clear hB; have H : ((le_In_Text.f s0_0 s0_1 a1).bind fun bt137 => ((strings_Trim.f bt137.1 (⟨#[0]⟩ : ByteArray)).bind fun t140 => (if t140.toList = ([] : List UInt8) then (some (bt137.2.1, bt137.2.2)) else ((le_In_fail.f bt137.2.1 bt137.2.2 4).bind fun bt141 => (some (bt141.1, bt141.2)))))) = some (r1, r2) := h; clear h; replace H := Option.bind_eq_some_iff.mp H; obtain ⟨⟨t137, t138, t139⟩, A30, H⟩ := H; replace H : ((strings_Trim.f t137 (⟨#[0]⟩ : ByteArray)).bind fun t140 => (if t140.toList = ([] : List UInt8) then (some (t138, t139)) else ((le_In_fail.f t138 t139 4).bind fun bt141 => (some (bt141.1, bt141.2))))) = some (r1, r2) := H; have A3 := Aside0.mk A30; clear A30; replace H := Option.bind_eq_some_iff.mp H; obtain ⟨t140, A40, H⟩ := H; replace H : (if t140.toList = ([] : List UInt8) then (some (t138, t139)) else ((le_In_fail.f t138 t139 4).bind fun bt141 => (some (bt141.1, bt141.2)))) = some (r1, r2) := H; have A4 := Aside0.mk A40; clear A40
 by_cases c5 : t140.toList = ([] : List UInt8)
 ·rw [if_pos c5] at H; have c5b0 : (t140.toList == ([] : List UInt8)) = true := beq_iff_eq.mpr c5; have c5b1 : (t140.toList != ([] : List UInt8)) = false := bne_eq_false_iff_eq.mpr c5; clear c5; simp only [Option.some.injEq, Prod.mk.injEq] at H; obtain ⟨rfl, rfl⟩ := H; go_enter Tryz.func32, Tryz.ntmps32
  go_wp2_with (first | ((with_reducible refine gate_callee (f := 51) rfl ?_); refine goesL_ (some 6) rfl rfl Tryz.func51 (by kernel_rfl) rfl #[.pointer (some ⟨g, 0, none⟩), .int .i64 a1] rfl z6 ?_; (with_reducible refine (le_In_Text.calls g s0_0 s0_1 a1 t137 t138 t139 w0 _ ?side1 ?side2 A3.out).mono ?_); (case side1 => exact z15); (case side2 => exact z19); rintro e w6 ⟨rfl, hi, hb, hk⟩; refine ⟨_, rfl, ?_⟩; have n0_ := Aside0.mk (KeepBut.trans z14 hk (.inl rfl)); have n1_ := Aside0.mk (hb); have n2_ := Aside0.mk (hi); clear HK; clear HB; clear HI0; have HK := n0_; have HB := n1_; have HI0 := n2_; clear n0_ n1_ n2_; (try clear hb); (try clear hb2); (try clear hk); (try clear hi); (try simp only [errW_none, errW_some])) | ((with_reducible refine gate_callee (f := 52) rfl ?_); refine goesL_ (some 7) rfl rfl Tryz.func52 (by kernel_rfl) rfl #[.string t137, .string (⟨#[0]⟩ : ByteArray)] rfl z6 ?_; (with_reducible refine (strings_Trim.calls t137 (⟨#[0]⟩ : ByteArray) t140 _ A4.out).mono ?_); rintro e w7 ⟨rfl, hb⟩; refine ⟨_, rfl, ?_⟩; have n0_ := Aside0.mk (IsS91.below z15 hb); have n1_ := Aside0.mk (KeepBut.trans z14 (KeepBut.of_below hb g none) (.inl rfl)); have n2_ := Aside0.mk (below_step z19 hb); clear HI0; clear HK; clear HB; have HI0 := n0_; have HK := n1_; have HB := n2_; clear n0_ n1_ n2_; (try clear hb); (try clear hb2); (try clear hk); (try clear hi)))
  first | go_end0 | ((try simp only [Exit.inBlock, Exit.then]); refine bodyPost_ret (results_none rfl _ _ _) rfl ?_)
  exact ⟨z12, z15, z19, z14⟩
 ·rw [if_neg c5] at H; have c5b0 : (t140.toList == ([] : List UInt8)) = false := beq_eq_false_iff_ne.mpr c5; have c5b1 : (t140.toList != ([] : List UInt8)) = true := bne_iff_ne.mpr c5; replace H := Option.bind_eq_some_iff.mp H; obtain ⟨⟨t141, t142⟩, A80, H⟩ := H; replace H : (some (t141, t142)) = some (r1, r2) := H; have A8 := Aside0.mk A80; clear A80; simp only [Option.some.injEq, Prod.mk.injEq] at H; obtain ⟨rfl, rfl⟩ := H; go_enter Tryz.func32, Tryz.ntmps32
  go_wp2_with (first | ((with_reducible refine gate_callee (f := 51) rfl ?_); refine goesL_ (some 6) rfl rfl Tryz.func51 (by kernel_rfl) rfl #[.pointer (some ⟨g, 0, none⟩), .int .i64 a1] rfl z6 ?_; (with_reducible refine (le_In_Text.calls g s0_0 s0_1 a1 t137 t138 t139 w0 _ ?side1 ?side2 A3.out).mono ?_); (case side1 => exact z15); (case side2 => exact z19); rintro e w9 ⟨rfl, hi, hb, hk⟩; refine ⟨_, rfl, ?_⟩; have n0_ := Aside0.mk (KeepBut.trans z14 hk (.inl rfl)); have n1_ := Aside0.mk (hb); have n2_ := Aside0.mk (hi); clear HK; clear HB; clear HI0; have HK := n0_; have HB := n1_; have HI0 := n2_; clear n0_ n1_ n2_; (try clear hb); (try clear hb2); (try clear hk); (try clear hi); (try simp only [errW_none, errW_some])) | ((with_reducible refine gate_callee (f := 52) rfl ?_); refine goesL_ (some 7) rfl rfl Tryz.func52 (by kernel_rfl) rfl #[.string t137, .string (⟨#[0]⟩ : ByteArray)] rfl z6 ?_; (with_reducible refine (strings_Trim.calls t137 (⟨#[0]⟩ : ByteArray) t140 _ A4.out).mono ?_); rintro e w10 ⟨rfl, hb⟩; refine ⟨_, rfl, ?_⟩; have n0_ := Aside0.mk (IsS91.below z15 hb); have n1_ := Aside0.mk (KeepBut.trans z14 (KeepBut.of_below hb g none) (.inl rfl)); have n2_ := Aside0.mk (below_step z19 hb); clear HI0; clear HK; clear HB; have HI0 := n0_; have HK := n1_; have HB := n2_; clear n0_ n1_ n2_; (try clear hb); (try clear hb2); (try clear hk); (try clear hi)) | ((with_reducible refine gate_callee (f := 49) rfl ?_); refine goesL_ (some 10) rfl rfl Tryz.func49 (by kernel_rfl) rfl #[.pointer (some ⟨g, 0, none⟩), .int .i64 4] rfl z6 ?_; (with_reducible refine (le_In_fail.calls g t138 t139 4 t141 t142 w0 _ ?side1 ?side2 A8.out).mono ?_); (case side1 => exact z15); (case side2 => exact z19); rintro e w11 ⟨rfl, hi, hb, hk⟩; refine ⟨_, rfl, ?_⟩; have n0_ := Aside0.mk (KeepBut.trans z14 hk (.inl rfl)); have n1_ := Aside0.mk (hb); have n2_ := Aside0.mk (hi); clear HK; clear HB; clear HI0; have HK := n0_; have HB := n1_; have HI0 := n2_; clear n0_ n1_ n2_; (try clear hb); (try clear hb2); (try clear hk); (try clear hi); (try simp only [errW_none, errW_some])))
  first | go_end0 | ((try simp only [Exit.inBlock, Exit.then]); refine bodyPost_ret (results_none rfl _ _ _) rfl ?_)
  exact ⟨z12, z15, z19, z14⟩

/-! ### page_padded: function 33 -/
def page_padded.f (s0_0 : ByteArray) (s0_1 : Option Int) (a1 : Int) (a2 : Int) : Option (ByteArray × ByteArray × Option Int) := if a1 > a2 then ((le_In_Noughts.f s0_0 s0_1 505).bind fun bt143 => (some ((⟨#[]⟩ : ByteArray), bt143.1, bt143.2))) else ((le_In_Text.f s0_0 s0_1 a1).bind fun bt145 => ((le_In_Noughts.f bt145.2.1 bt145.2.2 (wrap64 (a2 - a1))).bind fun bt148 => (some (bt145.1, bt148.1, bt148.2))))
set_option maxHeartbeats 8000000 in
set_option maxRecDepth 100000 in
theorem page_padded.calls (g : Nat) (s0_0 : ByteArray) (s0_1 : Option Int) (a1 : Int) (a2 : Int) (r1 : ByteArray) (r2 : ByteArray) (r3 : Option Int) (w0 w : World) (hI : IsS91 w0 w g s0_0 s0_1) (hB : Below w0.heap.size w0 w) (h : page_padded.f s0_0 s0_1 a1 a2 = some (r1, r2, r3)) :
  Calls Tryz.prog 33 #[.pointer (some ⟨g, 0, none⟩), .int .i64 a1, .int .i64 a2] w fun e w' => e = .returned (.string r1) ∧ IsS91 w0 w' g r2 r3 ∧ Below w0.heap.size w0 w' ∧ KeepBut w w' g none := by
 have HI0 := Aside0.mk hI; have HK := Aside0.mk (KeepBut.refl w g none); have HL := Aside0.mk hB.size; clear hI; have HW0 := Aside0.mk hB.size; have HB := Aside0.mk hB; clear hB; have H : (if a1 > a2 then ((le_In_Noughts.f s0_0 s0_1 505).bind fun bt143 => (some ((⟨#[]⟩ : ByteArray), bt143.1, bt143.2))) else ((le_In_Text.f s0_0 s0_1 a1).bind fun bt145 => ((le_In_Noughts.f bt145.2.1 bt145.2.2 (wrap64 (a2 - a1))).bind fun bt148 => (some (bt145.1, bt148.1, bt148.2))))) = some (r1, r2, r3) := h; clear h
 by_cases c4 : a1 > a2
 ·rw [if_pos c4] at H; have c4b0 : decide (a2 < a1) = true := decide_eq_true c4; clear c4; replace H := Option.bind_eq_some_iff.mp H; obtain ⟨⟨t143, t144⟩, A50, H⟩ := H; replace H : (some ((⟨#[]⟩ : ByteArray), t143, t144)) = some (r1, r2, r3) := H; have A5 := Aside0.mk A50; clear A50; simp only [Option.some.injEq, Prod.mk.injEq] at H; obtain ⟨rfl, rfl, rfl⟩ := H; go_enter Tryz.func33, Tryz.ntmps33
  go_wp2_with (first | ((with_reducible refine gate_callee (f := 32) rfl ?_); refine goesL_ (some 12) rfl rfl Tryz.func32 (by kernel_rfl) rfl #[.pointer (some ⟨g, 0, none⟩), .int .i64 505] rfl z6 ?_; (with_reducible refine (le_In_Noughts.calls g s0_0 s0_1 505 t143 t144 w0 _ ?side1 ?side2 A5.out).mono ?_); (case side1 => exact z15); (case side2 => exact z19); rintro e w6 ⟨rfl, hi, hb, hk⟩; refine ⟨_, rfl, ?_⟩; have n0_ := Aside0.mk (KeepBut.trans z14 hk (.inl rfl)); have n1_ := Aside0.mk (hb); have n2_ := Aside0.mk (hi); clear HK; clear HB; clear HI0; have HK := n0_; have HB := n1_; have HI0 := n2_; clear n0_ n1_ n2_; (try clear hb); (try clear hb2); (try clear hk); (try clear hi); (try simp only [errW_none, errW_some])))
  go_ret
  exact ⟨z12, z15, z19, z14⟩
 ·rw [if_neg c4] at H; have c4b0 : decide (a2 < a1) = false := decide_eq_false c4; clear c4; replace H := Option.bind_eq_some_iff.mp H; obtain ⟨⟨t145, t146, t147⟩, A70, H⟩ := H; replace H : ((le_In_Noughts.f t146 t147 (wrap64 (a2 - a1))).bind fun bt148 => (some (t145, bt148.1, bt148.2))) = some (r1, r2, r3) := H; have A7 := Aside0.mk A70; clear A70; replace H := Option.bind_eq_some_iff.mp H; obtain ⟨⟨t148, t149⟩, A80, H⟩ := H; replace H : (some (t145, t148, t149)) = some (r1, r2, r3) := H; have A8 := Aside0.mk A80; clear A80; simp only [Option.some.injEq, Prod.mk.injEq] at H; obtain ⟨rfl, rfl, rfl⟩ := H; go_enter Tryz.func33, Tryz.ntmps33
  go_wp2_with (first | ((with_reducible refine gate_callee (f := 51) rfl ?_); refine goesL_ (some 15) rfl rfl Tryz.func51 (by kernel_rfl) rfl #[.pointer (some ⟨g, 0, none⟩), .int .i64 a1] rfl z6 ?_; (with_reducible refine (le_In_Text.calls g s0_0 s0_1 a1 t145 t146 t147 w0 _ ?side1 ?side2 A7.out).mono ?_); (case side1 => exact z15); (case side2 => exact z19); rintro e w9 ⟨rfl, hi, hb, hk⟩; refine ⟨_, rfl, ?_⟩; have n0_ := Aside0.mk (KeepBut.trans z14 hk (.inl rfl)); have n1_ := Aside0.mk (hb); have n2_ := Aside0.mk (hi); clear HK; clear HB; clear HI0; have HK := n0_; have HB := n1_; have HI0 := n2_; clear n0_ n1_ n2_; (try clear hb); (try clear hb2); (try clear hk); (try clear hi); (try simp only [errW_none, errW_some])) | ((with_reducible refine gate_callee (f := 32) rfl ?_); refine goesL_ (some 20) rfl rfl Tryz.func32 (by kernel_rfl) rfl #[.pointer (some ⟨g, 0, none⟩), .int .i64 (wrap64 (a2 - a1))] rfl z6 ?_; (with_reducible refine (le_In_Noughts.calls g t146 t147 (wrap64 (a2 - a1)) t148 t149 w0 _ ?side1 ?side2 A8.out).mono ?_); (case side1 => exact z15); (case side2 => exact z19); rintro e w10 ⟨rfl, hi, hb, hk⟩; refine ⟨_, rfl, ?_⟩; have n0_ := Aside0.mk (KeepBut.trans z14 hk (.inl rfl)); have n1_ := Aside0.mk (hb); have n2_ := Aside0.mk (hi); clear HK; clear HB; clear HI0; have HK := n0_; have HB := n1_; have HI0 := n2_; clear n0_ n1_ n2_; (try clear hb); (try clear hb2); (try clear hk); (try clear hi); (try simp only [errW_none, errW_some])))
  go_ret
  exact ⟨z12, z15, z19, z14⟩

/-! ### le_In_End: function 34 -/
def le_In_End.f (s0_0 : ByteArray) (s0_1 : Option Int) : Option (Option Int × ByteArray × Option Int) := if s0_1.isNone = true then (if s0_0.toList = ([] : List UInt8) then (some (none, s0_0, none)) else (some (some 10, s0_0, none))) else (some (some (s0_1.getD 0), s0_0, some (s0_1.getD 0)))
set_option maxHeartbeats 8000000 in
set_option maxRecDepth 100000 in
theorem le_In_End.calls (g : Nat) (s0_0 : ByteArray) (s0_1 : Option Int) (r1 : Option Int) (r2 : ByteArray) (r3 : Option Int) (w0 w : World) (hI : IsS91 w0 w g s0_0 s0_1) (hB : Below w0.heap.size w0 w) (h : le_In_End.f s0_0 s0_1 = some (r1, r2, r3)) :
  Calls Tryz.prog 34 #[.pointer (some ⟨g, 0, none⟩)] w fun e w' => e = .returned (errW r1) ∧ IsS91 w0 w' g r2 r3 ∧ Below w0.heap.size w0 w' ∧ KeepBut w w' g none := by
 have hu33 := Tryz.underlying33; have hu48 := Tryz.underlying48; have HI0 := Aside0.mk hI; have HK := Aside0.mk (KeepBut.refl w g none); have HL := Aside0.mk hB.size; clear hI; have HW0 := Aside0.mk hB.size; have HB := Aside0.mk hB; clear hB; have H : (if s0_1.isNone = true then (if s0_0.toList = ([] : List UInt8) then (some (none, s0_0, none)) else (some (some 10, s0_0, none))) else (some (some (s0_1.getD 0), s0_0, some (s0_1.getD 0)))) = some (r1, r2, r3) := h; clear h; rcases s0_1 with _ | q150
 ·have H1 : (if s0_0.toList = ([] : List UInt8) then (some (none, s0_0, none)) else (some (some 10, s0_0, none))) = some (r1, r2, r3) := by rw [if_pos (show (none : Option Int).isNone = true by rfl)] at H; exact H
  clear H; have H := H1; clear H1
  try simp only [errW_none, errW_some]
  by_cases c2 : s0_0.toList = ([] : List UInt8)
  ·rw [if_pos c2] at H; have c2b0 : (s0_0.toList == ([] : List UInt8)) = true := beq_iff_eq.mpr c2; have c2b1 : (s0_0.toList != ([] : List UInt8)) = false := bne_eq_false_iff_eq.mpr c2; clear c2; simp only [Option.some.injEq, Prod.mk.injEq] at H; obtain ⟨rfl, rfl, rfl⟩ := H; obtain ⟨HGz3, hgz3⟩ := HI0.out; have hcz3_0 := cellS91_0 HGz3
   try simp only [errW_none, errW_some] at hcz3_0
   have hcz3_1 := cellS91_1 HGz3
   try simp only [errW_none, errW_some] at hcz3_1
   have hfz3_0 := blk_frozen HGz3 0; have hfz3_1 := blk_frozen HGz3 1; clear HGz3 hgz3; go_enter Tryz.func34, Tryz.ntmps34
   go_wp2
   go_ret
   exact ⟨z12, z15, z19, z14⟩
  ·rw [if_neg c2] at H; have c2b0 : (s0_0.toList == ([] : List UInt8)) = false := beq_eq_false_iff_ne.mpr c2; have c2b1 : (s0_0.toList != ([] : List UInt8)) = true := bne_iff_ne.mpr c2; simp only [Option.some.injEq, Prod.mk.injEq] at H; obtain ⟨rfl, rfl, rfl⟩ := H; obtain ⟨HGz4, hgz4⟩ := HI0.out; have hcz4_0 := cellS91_0 HGz4
   try simp only [errW_none, errW_some] at hcz4_0
   have hcz4_1 := cellS91_1 HGz4
   try simp only [errW_none, errW_some] at hcz4_1
   have hfz4_0 := blk_frozen HGz4 0; have hfz4_1 := blk_frozen HGz4 1; clear HGz4 hgz4; go_enter Tryz.func34, Tryz.ntmps34
   go_wp2
   go_ret
   exact ⟨z12, z15, z19, z14⟩
 ·have H1 : (some (some q150, s0_0, some q150)) = some (r1, r2, r3) := by rw [if_neg (show ¬ (some q150).isNone = true by simp)] at H; exact H
  clear H; have H := H1; clear H1
  try simp only [errW_none, errW_some]
  simp only [Option.some.injEq, Prod.mk.injEq] at H; obtain ⟨rfl, rfl, rfl⟩ := H; obtain ⟨HGz5, hgz5⟩ := HI0.out; have hcz5_0 := cellS91_0 HGz5
  try simp only [errW_none, errW_some] at hcz5_0
  have hcz5_1 := cellS91_1 HGz5
  try simp only [errW_none, errW_some] at hcz5_1
  have hfz5_0 := blk_frozen HGz5 0; have hfz5_1 := blk_frozen HGz5 1; clear HGz5 hgz5; go_enter Tryz.func34, Tryz.ntmps34
  go_wp2
  go_ret
  exact ⟨z12, z15, z19, z14⟩
end Go.Proofs.YtegcaniikdibdaaGreatDoor.VPagePuts
