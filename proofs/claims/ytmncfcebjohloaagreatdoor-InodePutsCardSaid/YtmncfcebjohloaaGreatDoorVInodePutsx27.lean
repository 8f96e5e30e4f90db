/- Contracts of functions of this seat: each call comes to what its Lean function computes; no condition beyond what each theorem states. Printed by a program of this session's own laid over the kit's printer. -/
import Derived.Test.YtmncfcebjohloaaGreatDoorVInodePutsx0
namespace Go.Proofs.YtmncfcebjohloaaGreatDoor.VInodePuts
open Go.RowKit Go.Proofs.YtmncfcebjohloaaGreatDoorW.PrintWords Go.Proofs.YtmncfcebjohloaaGreatDoorW.PrintLast Go.Proofs.YtmncfcebjohloaaGreatDoorW.PrintMore
attribute [local go_sem] max2_int min2_int max_two min_two max_three min_three max_four min_four   -- for this text's walks alone
set_option linter.unusedVariables false
set_option linter.unusedSimpArgs false

/-- A state of type 94 at block g of W; what its slices lead to came in by w0. -/
def IsS94 (w0 W : World) (g : Nat) (f0 : ByteArray) (f1 : Option Int) : Prop := W.heap[g]? = some (.cells #[.string f0, errW f1] 94 (0, 0)) ∧ w0.heap.size ≤ g
theorem IsS94.grown {w0 W : World} {g : Nat} {f0 : ByteArray} {f1 : Option Int} {W1 : World} {row : Option Nat} (h : IsS94 w0 W g f0 f1) (hw : W.grownBy W1 row) (hne : some g ≠ row) : IsS94 w0 W1 g f0 f1 := by
 obtain ⟨hb, hg⟩ := h
 exact ⟨blk_grown hb hw hne, hg⟩
theorem IsS94.own_neN {w0 W : World} {g : Nat} {f0 : ByteArray} {f1 : Option Int} {α : Type} {d : Kd α} {e : Nat} {base : Nat} {ok : Nat → Prop} {v : Value} {xs : List α} (h : IsS94 w0 W g f0 f1) (ho : Kd.N d e W base ok v xs) (ht : e ≠ 94) : some g ≠ v.ownBlock := by
 obtain ⟨hb, hg⟩ := h
 exact Kd.N_ne ho hb ht
theorem IsS94.fresh {w0 W : World} {g : Nat} {f0 : ByteArray} {f1 : Option Int} (h : IsS94 w0 W g f0 f1) : ∀ k, W.heap.size ≤ k → k ≠ g := by
 obtain ⟨hb, hg⟩ := h
 exact Kd.freshB hb
theorem IsS94.kept {w0 W : World} {g : Nat} {f0 : ByteArray} {f1 : Option Int} {W1 : World} {S : Nat → Prop} (h : IsS94 w0 W g f0 f1) (hk : Kept W W1 S) (hne : ¬ S g) : IsS94 w0 W1 g f0 f1 := by
 obtain ⟨hb, hg⟩ := h
 exact ⟨blk_kept hb hk hne, hg⟩
theorem IsS94.below {w0 W : World} {g : Nat} {f0 : ByteArray} {f1 : Option Int} {W1 : World} (h : IsS94 w0 W g f0 f1) (hw : Below W.heap.size W W1) : IsS94 w0 W1 g f0 f1 := h.grown (grown_of_below hw none) (by simp)
theorem IsS94.alloc {w0 W : World} {g : Nat} {f0 : ByteArray} {f1 : Option Int} (h : IsS94 w0 W g f0 f1) (o : Obj) : IsS94 w0 (W.alloc o) g f0 f1 := h.below (below_alloc (Below.refl _ _) o)
theorem IsS94.drewN {w0 W : World} {g : Nat} {f0 : ByteArray} {f1 : Option Int} (h : IsS94 w0 W g f0 f1) (m : Nat) : IsS94 w0 (W.drewN m) g f0 f1 := h
theorem IsS94.drew {w0 W : World} {g : Nat} {f0 : ByteArray} {f1 : Option Int} (h : IsS94 w0 W g f0 f1) : IsS94 w0 W.drew g f0 f1 := h
theorem IsS94.at_ {w0 W : World} {g : Nat} {f0 : ByteArray} {f1 : Option Int} {w' : World} {m : Nat} (hq : W.drewN m = w') (h : IsS94 w0 W g f0 f1) : IsS94 w0 w' g f0 f1 := by subst hq; exact IsS94.drewN h m
theorem IsS94.apart {w0 W : World} {g : Nat} {f0 : ByteArray} {f1 : Option Int} {α : Type} {d : Kd α} {e : Nat} {base : Nat} {ok : Nat → Prop} {v : Value} {xs : List α} (h : IsS94 w0 W g f0 f1) (ho : d.R e W base ok v xs) (ht : ∀ q, q ∈ e :: d.E → q ≠ 94) : d.R e W base (fun k => ok k ∧ k ≠ g) v xs := by
 obtain ⟨hb, hg⟩ := h
 exact Kd.R_types ho hb ht
theorem IsS94.own_ne {w0 W : World} {g : Nat} {f0 : ByteArray} {f1 : Option Int} {α : Type} {d : Kd α} {e : Nat} {base : Nat} {ok : Nat → Prop} {v : Value} {xs : List α} (h : IsS94 w0 W g f0 f1) (ho : d.R e W base ok v xs) (ht : e ≠ 94) : some g ≠ v.ownBlock := by
 obtain ⟨hb, hg⟩ := h
 exact Kd.R_ne ho hb ht
theorem IsS94.apartQ {w0 W : World} {g : Nat} {f0 : ByteArray} {f1 : Option Int} {α : Type} {d : Kd α} {e : Nat} {base : Nat} {ok : Nat → Prop} {v : Value} {xs : List α} (h : IsS94 w0 W g f0 f1) (ho : d.Q e W base ok v xs) (ht : ∀ q, q ∈ e :: d.E → q ≠ 94) : d.Q e W base (fun k => ok k ∧ k ≠ g) v xs := by
 obtain ⟨hb, hg⟩ := h
 exact Kd.Q_types ho hb ht
theorem IsS94.own_neQ {w0 W : World} {g : Nat} {f0 : ByteArray} {f1 : Option Int} {α : Type} {d : Kd α} {e : Nat} {base : Nat} {ok : Nat → Prop} {v : Value} {xs : List α} (h : IsS94 w0 W g f0 f1) (ho : d.Q e W base ok v xs) (ht : e ≠ 94) : some g ≠ v.ownBlock := by
 obtain ⟨hb, hg⟩ := h
 exact Kd.Q_ne ho hb ht
theorem IsS94.apartS {w0 W : World} {g : Nat} {f0 : ByteArray} {f1 : Option Int} {α : Type} {d : Kd α} {e : Nat} {base : Nat} {ok : Nat → Prop} {v : Value} {xs : List α} (h : IsS94 w0 W g f0 f1) (ho : d.S e W base ok v xs) (ht : ∀ q, q ∈ e :: d.E → q ≠ 94) : d.S e W base (fun k => ok k ∧ k ≠ g) v xs := by
 obtain ⟨hb, hg⟩ := h
 exact Kd.S_types ho hb ht
theorem IsS94.own_neS {w0 W : World} {g : Nat} {f0 : ByteArray} {f1 : Option Int} {α : Type} {d : Kd α} {e : Nat} {base : Nat} {ok : Nat → Prop} {v : Value} {xs : List α} (h : IsS94 w0 W g f0 f1) (ho : d.S e W base ok v xs) (ht : e ≠ 94) : some g ≠ v.ownBlock := by
 obtain ⟨hb, hg⟩ := h
 exact Kd.S_ne ho hb ht
theorem IsS94.lt {w0 W : World} {g : Nat} {f0 : ByteArray} {f1 : Option Int} (h : IsS94 w0 W g f0 f1) : g < W.heap.size := by
 obtain ⟨hb, hg⟩ := h
 exact blk_lt hb
theorem IsS94.ge {w0 W : World} {g : Nat} {f0 : ByteArray} {f1 : Option Int} (h : IsS94 w0 W g f0 f1) : w0.heap.size ≤ g := by
 obtain ⟨hb, hg⟩ := h
 exact hg
theorem IsS94.ne_blk {w0 W : World} {g : Nat} {f0 : ByteArray} {f1 : Option Int} {a : Nat} {cs : Array Value} {t : TypeId} {fr : Nat × Nat} (h : IsS94 w0 W g f0 f1) (hb2 : W.heap[a]? = some (.cells cs t fr)) (ht : t ≠ 94) : g ≠ a := by
 obtain ⟨hb, hg⟩ := h
 rintro rfl
 rw [hb] at hb2
 injection hb2 with hb2
 injection hb2 with _ ht2
 exact ht ht2.symm
theorem IsS94.far {w0 W : World} {g : Nat} {f0 : ByteArray} {f1 : Option Int} {p : Addr} (h : IsS94 w0 W g f0 f1) (hne : g ≠ p.block) (u : Value) : IsS94 w0 (W.setCell p u) g f0 f1 := by
 obtain ⟨hb, hg⟩ := h
 exact ⟨blk_far hb hne u, hg⟩
theorem cellS94_0 {W : World} {g : Nat} {f0 : ByteArray} {f1 : Option Int} (h : W.heap[g]? = some (.cells #[.string f0, errW f1] 94 (0, 0))) : W.cell? ⟨g, 0, none⟩ = some (.string f0) := (blk_cell h 0).trans rfl
theorem IsS94.set_0 {w0 W : World} {g : Nat} {f0 : ByteArray} {f1 : Option Int} (h : IsS94 w0 W g f0 f1) (x : ByteArray) : IsS94 w0 (W.setCell ⟨g, 0, none⟩ (.string x)) g x f1 := by
 obtain ⟨hb, hg⟩ := h
 exact ⟨by simpa using blk_set hb 0 (.string x), hg⟩
theorem cellS94_1 {W : World} {g : Nat} {f0 : ByteArray} {f1 : Option Int} (h : W.heap[g]? = some (.cells #[.string f0, errW f1] 94 (0, 0))) : W.cell? ⟨g, 1, none⟩ = some (errW f1) := (blk_cell h 1).trans rfl
theorem IsS94.set_1 {w0 W : World} {g : Nat} {f0 : ByteArray} {f1 : Option Int} (h : IsS94 w0 W g f0 f1) (x : Option Int) : IsS94 w0 (W.setCell ⟨g, 1, none⟩ (errW x)) g f0 x := by
 obtain ⟨hb, hg⟩ := h
 exact ⟨by simpa using blk_set hb 1 (errW x), hg⟩
theorem IsS94.set_1_none {w0 W : World} {g : Nat} {f0 : ByteArray} {f1 : Option Int} (h : IsS94 w0 W g f0 f1) : IsS94 w0 (W.setCell ⟨g, 1, none⟩ .nilIface) g f0 none := IsS94.set_1 h none
theorem IsS94.set_1_some {w0 W : World} {g : Nat} {f0 : ByteArray} {f1 : Option Int} (h : IsS94 w0 W g f0 f1) (x : Int) : IsS94 w0 (W.setCell ⟨g, 1, none⟩ (.iface 57 (.int .i64 x))) g f0 (some x) := IsS94.set_1 h (some x)
theorem IsS94.new (w0 W : World) (f0 : ByteArray) (f1 : Option Int) (hB : Below w0.heap.size w0 W) : IsS94 w0 (W.alloc (.cells #[.string f0, errW f1] 94)) W.heap.size f0 f1 := ⟨by simpa using heap_alloc_new W _, hB.size⟩

/-! ### le_Read: function 29 -/
def le_Read.f (a0 : ByteArray) : Option (ByteArray × Option Int) := some (a0, none)
set_option maxHeartbeats 8000000 in
set_option maxRecDepth 100000 in
theorem le_Read.calls (a0 : ByteArray) (r1 : ByteArray) (r2 : Option Int) (w0 w : World) (hB : Below w0.heap.size w0 w) (h : le_Read.f a0 = some (r1, r2)) :
  Calls Tryz.prog 29 #[.string a0] w fun e w' => ∃ g_ : Nat, e = .returned (.pointer (some ⟨g_, 0, none⟩)) ∧ IsS94 w0 w' g_ r1 r2 ∧ Below w0.heap.size w0 w' ∧ Below w.heap.size w w' := by
 have hu94 := Tryz.underlying94
 have HBW := Aside0.mk (Below.refl w.heap.size w)
 have HW0 := Aside0.mk hB.size
 have HB := Aside0.mk hB
 clear hB
 have H : (some (a0, none)) = some (r1, r2) := h
 clear h
 simp only [Option.some.injEq, Prod.mk.injEq] at H
 obtain ⟨rfl, rfl⟩ := H
 go_enter Tryz.func29, Tryz.ntmps29
 go_wp2_with (first | ((with_reducible refine gate_dst (N := 5) rfl ?_); refine box_event ?hg (N := 5) ?hd (cs := #[.string a0, errW none]) (t := 94) ?hr ?_; (case hd => rfl); (case hg => rfl); (case hr => first | (go_simp; done) | (go_simp; rfl)); intro gb214 hg w2 hbox hb; have n0_ := Aside0.mk (below_step HBW.out hb); have n1_ := Aside0.mk (below_step (by repeat (first | (with_reducible first | exact HB.out | apply below_alloc | apply pw_below_drewN | apply below_drew1) | exact HB.out)) hb); have n2_ := Aside0.mk (hbox); have n3_ := Aside0.mk ((by rw [hg]; exact (below_size (by repeat (first | (with_reducible first | exact HBW.out | apply below_alloc | apply pw_below_drewN | apply below_drew1) | exact HBW.out))) : w.heap.size ≤ gb214)); have n4_ := Aside0.mk ((Nat.le_trans HW0.out (by rw [hg]; exact (below_size (by repeat (first | (with_reducible first | exact HBW.out | apply below_alloc | apply pw_below_drewN | apply below_drew1) | exact HBW.out))) : w.heap.size ≤ gb214) : w0.heap.size ≤ gb214)); clear HBW; clear HB; have HBW := n0_; have HB := n1_; have BK214 := n2_; have GW214 := n3_; have GE214 := n4_; clear n0_ n1_ n2_ n3_ n4_; clear hb hbox hg))
 go_ret
 exact ⟨_, rfl, (show IsS94 w0 _ gb214 a0 none from ⟨by (with_reducible repeat (first | refine blk_drewN ?_ _ | refine blk_drew ?_ | refine blk_alloc ?_ _)); exact BK214.out, GE214.out⟩), by repeat (first | (with_reducible first | exact HB.out | apply below_alloc | apply pw_below_drewN | apply below_drew1 | refine below_set ?_ GE214.out) | exact HB.out), by repeat (first | (with_reducible first | exact HBW.out | apply below_alloc | apply pw_below_drewN | apply below_drew1 | refine below_set ?_ GW214.out) | exact HBW.out)⟩

/-! ### le_In_fail: function 47 -/
def le_In_fail.f (s0_0 : ByteArray) (s0_1 : Option Int) (a1 : Int) : Option (ByteArray × Option Int) := if s0_1.isNone = true then (some (s0_0, some a1)) else (some (s0_0, some (s0_1.getD 0)))
set_option maxHeartbeats 8000000 in
set_option maxRecDepth 100000 in
theorem le_In_fail.calls (g : Nat) (s0_0 : ByteArray) (s0_1 : Option Int) (a1 : Int) (r1 : ByteArray) (r2 : Option Int) (w0 w : World) (hI : IsS94 w0 w g s0_0 s0_1) (hB : Below w0.heap.size w0 w) (h : le_In_fail.f s0_0 s0_1 a1 = some (r1, r2)) :
  Calls Tryz.prog 47 #[.pointer (some ⟨g, 0, none⟩), .int .i64 a1] w fun e w' => e = .returned (.tuple #[]) ∧ IsS94 w0 w' g r1 r2 ∧ Below w0.heap.size w0 w' ∧ KeepBut w w' g none := by
 have hu33 := Tryz.underlying33
 have hu57 := Tryz.underlying57
 have HI0 := Aside0.mk hI
 have HK := Aside0.mk (KeepBut.refl w g none)
 have HL := Aside0.mk hB.size
 clear hI
 have HW0 := Aside0.mk hB.size
 have HB := Aside0.mk hB
 clear hB
 have H : (if s0_1.isNone = true then (some (s0_0, some a1)) else (some (s0_0, some (s0_1.getD 0)))) = some (r1, r2) := h
 clear h
 rcases s0_1 with _ | q215
 ·have H1 : (some (s0_0, some a1)) = some (r1, r2) := by rw [if_pos (show (none : Option Int).isNone = true by rfl)] at H; exact H
  clear H
  have H := H1
  clear H1
  try simp only [errW_none, errW_some]
  simp only [Option.some.injEq, Prod.mk.injEq] at H
  obtain ⟨rfl, rfl⟩ := H
  obtain ⟨HGz3, hgz3⟩ := HI0.out
  have hcz3_0 := cellS94_0 HGz3
  try simp only [errW_none, errW_some] at hcz3_0
  have hcz3_1 := cellS94_1 HGz3
  try simp only [errW_none, errW_some] at hcz3_1
  have hfz3_0 := blk_frozen HGz3 0
  have hfz3_1 := blk_frozen HGz3 1
  clear HGz3 hgz3
  go_enter Tryz.func47, Tryz.ntmps47
  go_wp2
  first | go_end0 | ((try simp only [Exit.inBlock, Exit.then]); refine bodyPost_ret (results_none rfl _ _ _) rfl ?_)
  exact ⟨by first | rfl | (simp [errW_none, errW_some] <;> rfl) | (simp [*, errW_none, errW_some] <;> rfl), by repeat (first | (with_reducible first | exact HI0.out | apply IsS94.alloc | apply IsS94.drewN | apply IsS94.drew | apply IsS94.set_0 | apply IsS94.set_1_none | apply IsS94.set_1_some | apply IsS94.set_1) | exact HI0.out), by repeat (first | (with_reducible first | exact HB.out | apply below_alloc | apply pw_below_drewN | apply below_drew1 | refine below_set ?_ (IsS94.ge HI0.out)) | exact HB.out), by repeat (first | (with_reducible first | exact HK.out | apply KeepBut.set_ | apply keep_drewN | apply keep_drew | apply keep_alloc) | exact HK.out)⟩
 ·have H1 : (some (s0_0, some q215)) = some (r1, r2) := by rw [if_neg (show ¬ (some q215).isNone = true by simp)] at H; exact H
  clear H
  have H := H1
  clear H1
  try simp only [errW_none, errW_some]
  simp only [Option.some.injEq, Prod.mk.injEq] at H
  obtain ⟨rfl, rfl⟩ := H
  obtain ⟨HGz4, hgz4⟩ := HI0.out
  have hcz4_0 := cellS94_0 HGz4
  try simp only [errW_none, errW_some] at hcz4_0
  have hcz4_1 := cellS94_1 HGz4
  try simp only [errW_none, errW_some] at hcz4_1
  have hfz4_0 := blk_frozen HGz4 0
  have hfz4_1 := blk_frozen HGz4 1
  clear HGz4 hgz4
  go_enter Tryz.func47, Tryz.ntmps47
  go_wp2
  first | go_end0 | ((try simp only [Exit.inBlock, Exit.then]); refine bodyPost_ret (results_none rfl _ _ _) rfl ?_)
  exact ⟨by first | rfl | (simp [errW_none, errW_some] <;> rfl) | (simp [*, errW_none, errW_some] <;> rfl), by repeat (first | (with_reducible first | exact HI0.out | apply IsS94.alloc | apply IsS94.drewN | apply IsS94.drew | apply IsS94.set_0 | apply IsS94.set_1_none | apply IsS94.set_1_some | apply IsS94.set_1) | exact HI0.out), by repeat (first | (with_reducible first | exact HB.out | apply below_alloc | apply pw_below_drewN | apply below_drew1 | refine below_set ?_ (IsS94.ge HI0.out)) | exact HB.out), by repeat (first | (with_reducible first | exact HK.out | apply KeepBut.set_ | apply keep_drewN | apply keep_drew | apply keep_alloc) | exact HK.out)⟩

/-! ### le_Get: function 48 -/
def le_Get.l0 : Nat → ByteArray → Int → Int → Option (Int)
 | 0, _, _, _ => none
 | k + 1, x0, x3, x4 => if x4 ≥ 0 then (if 0 ≤ x4 then (if x4 < (x0.size : Int) then (le_Get.l0 k x0 (Go.bits .or .i64 (wrap64 (x3 * 256)) (wrap64 (bt x0 x4))) (wrap64 (x4 - 1))) else (none)) else (none)) else (some x3)
def le_Get.f (k : Nat) (a0 : ByteArray) : Option (Int) := if (a0.size : Int) > 7 then (some 0) else (le_Get.l0 k a0 0 (wrap64 ((a0.size : Int) - 1)))
set_option maxRecDepth 100000 in
theorem le_Get.mono_l : ∀ k, (∀ y0 y1 y2, LeO (le_Get.l0 k y0 y1 y2) (le_Get.l0 (k + 1) y0 y1 y2))
 | 0 => fun _ _ _ r h => by first | (rw [le_Get.l0] at h; cases h) | simp [le_Get.l0] at h
 | k + 1 => by
  have ih0 := le_Get.mono_l k
  ·intro y0 y1 y2
   unfold le_Get.l0
   repeat' first
   | (with_reducible exact ih0 _ _ _)
   | (with_reducible exact LeO.refl _)
   | (with_reducible exact LeO.none _)
   | (with_reducible refine LeO.ite ?_ ?_)
   | (with_reducible refine LeO.bind ?_ (fun _ => ?_))
   | exact ih0 _ _ _
   | exact LeO.none _
   | refine LeO.ite ?_ ?_
   | refine LeO.bind ?_ (fun _ => ?_)
theorem le_Get.mono : ∀ a0 k, LeO (le_Get.f k a0) (le_Get.f (k + 1) a0) := by
 intro a0 k
 have ih0 := le_Get.mono_l k
 unfold le_Get.f
 repeat' first
   | (with_reducible exact ih0 _ _ _)
   | (with_reducible exact LeO.refl _)
   | (with_reducible exact LeO.none _)
   | (with_reducible refine LeO.ite ?_ ?_)
   | (with_reducible refine LeO.bind ?_ (fun _ => ?_))
   | exact ih0 _ _ _
   | exact LeO.none _
   | refine LeO.ite ?_ ?_
   | refine LeO.bind ?_ (fun _ => ?_)
set_option maxHeartbeats 8000000 in
set_option maxRecDepth 100000 in
theorem le_Get.calls (k : Nat) (a0 : ByteArray) (r : Int) (w : World) (h : le_Get.f k a0 = some r) :
  Calls Tryz.prog 48 #[.string a0] w fun e w' => e = .returned (.int .i64 r) ∧ Drawn0 w w' := by
 have H : (if (a0.size : Int) > 7 then (some 0) else (le_Get.l0 k a0 0 (wrap64 ((a0.size : Int) - 1)))) = some r := h
 clear h
 by_cases c2 : (a0.size : Int) > 7
 ·rw [if_pos c2] at H
  have c2b0 : decide (7 < (a0.size : Int)) = true := decide_eq_true c2
  have c2b1 : decide (7 < a0.size) = true := decide_eq_true (by omega)
  clear c2
  obtain rfl := Option.some.inj H
  go_enter Tryz.func48, Tryz.ntmps48
  go_wp2
  go_ret
  exact ⟨by first | rfl | (simp; done) | (simp [*]; done), by repeat (first | exact Drawn0.refl _ | apply Drawn0.step)⟩
 ·rw [if_neg c2] at H
  have c2b0 : decide (7 < (a0.size : Int)) = false := decide_eq_false c2
  have c2b1 : decide (7 < a0.size) = false := decide_eq_false (by omega)
  clear c2
  have H' := Aside0.mk H
  clear H
  go_enter Tryz.func48, Tryz.ntmps48
  go_wp2
  go_loopg [3, 4] k (fun kq v3 v4 w' => ∃ (x3_1 : Int) (x4_1 : Int), v3 = .int .i64 x3_1 ∧ v4 = .int .i64 x4_1 ∧ Aside0 (le_Get.l0 kq a0 x3_1 x4_1 = some r) ∧ Aside0 (kq ≤ k) ∧ Drawn0 w w')
  case atStart => exact ⟨(0), (wrap64 ((a0.size : Int) - 1)), (by first | rfl | (simp; done) | (simp [*]; done)), (by first | rfl | (simp; done) | (simp [*]; done)), H', ⟨Nat.le_refl _⟩, by repeat (first | exact Drawn0.refl _ | apply Drawn0.step)⟩
  case round =>
   clear H'
   try clear c2
   try clear c2b0
   try clear c2b1
   try clear p2
   obtain ⟨x3_1, x4_1, rfl, rfl, HA, HK1, ⟨m1, rfl⟩⟩ := hrel
   cases gk with
   | zero => exact absurd HA.out (by simp [le_Get.l0])
   | succ k1 =>
    have H := HA.out
    clear HA
    simp only [le_Get.l0] at H
    by_cases c3 : x4_1 ≥ 0
    ·rw [if_pos c3] at H
     have c3b0 : decide (0 ≤ x4_1) = true := decide_eq_true c3
     clear c3
     by_cases c4 : 0 ≤ x4_1
     ·rw [if_pos c4] at H
      have c4b0 : decide (0 ≤ x4_1) = true := decide_eq_true c4
      clear c4
      by_cases c5 : x4_1 < (a0.size : Int)
      ·rw [if_pos c5] at H
       have c5b0 : decide (x4_1 < (a0.size : Int)) = true := decide_eq_true c5
       clear c5
       have H' := Aside0.mk H
       clear H
       have p6 : 0 ≤ (x4_1 : Int) := of_decide_eq_true (by first | (with_reducible assumption) | assumption)
       have q6 : x4_1 < (a0.size : Int) := of_decide_eq_true (by first | (with_reducible assumption) | assumption)
       have hx6 := bt_at a0 x4_1
       replace p6 := eq_true p6
       replace q6 := eq_true q6
       go_wp2
       go_roundg k1
       case measure => have := HK1.out; omega
       case rel => exact ⟨(Go.bits .or .i64 (wrap64 (x3_1 * 256)) (wrap64 (bt a0 x4_1))), (wrap64 (x4_1 - 1)), (by first | rfl | (simp; done) | (simp [*]; done)), (by first | rfl | (simp; done) | (simp [*]; done)), H', ⟨by have := HK1.out; omega⟩, by repeat (first | exact Drawn0.refl _ | apply Drawn0.step)⟩
      ·rw [if_neg c5] at H
       exact absurd H (by simp)
     ·rw [if_neg c4] at H
      exact absurd H (by simp)
    ·rw [if_neg c3] at H
     have c3b0 : decide (0 ≤ x4_1) = false := decide_eq_false c3
     clear c3
     obtain rfl := Option.some.inj H
     go_wp2
     go_ret
     exact ⟨by first | rfl | (simp; done) | (simp [*]; done), by repeat (first | exact Drawn0.refl _ | apply Drawn0.step)⟩

/-! ### le_In_Text: function 49 -/
def le_In_Text.f (s0_0 : ByteArray) (s0_1 : Option Int) (a1 : Int) : Option (ByteArray × ByteArray × Option Int) := if a1 < 0 then ((le_In_fail.f s0_0 s0_1 1).bind fun bt216 => (if bt216.2.isNone = true then (if 0 ≤ a1 then (if a1 ≤ (bt216.1.size : Int) then (some (bt216.1.extract 0 (a1 : Int).toNat, bt216.1.extract (a1 : Int).toNat bt216.1.size, none)) else (none)) else (none)) else (some ((⟨#[]⟩ : ByteArray), bt216.1, some (bt216.2.getD 0))))) else (if a1 > (s0_0.size : Int) then ((le_In_fail.f s0_0 s0_1 4).bind fun bt219 => (if bt219.2.isNone = true then (if 0 ≤ a1 then (if a1 ≤ (bt219.1.size : Int) then (some (bt219.1.extract 0 (a1 : Int).toNat, bt219.1.extract (a1 : Int).toNat bt219.1.size, none)) else (none)) else (none)) else (some ((⟨#[]⟩ : ByteArray), bt219.1, some (bt219.2.getD 0))))) else (if s0_1.isNone = true then (if 0 ≤ a1 then (if a1 ≤ (s0_0.size : Int) then (some (s0_0.extract 0 (a1 : Int).toNat, s0_0.extract (a1 : Int).toNat s0_0.size, none)) else (none)) else (none)) else (some ((⟨#[]⟩ : ByteArray), s0_0, some (s0_1.getD 0)))))
set_option maxHeartbeats 8000000 in
set_option maxRecDepth 100000 in
theorem le_In_Text.calls (g : Nat) (s0_0 : ByteArray) (s0_1 : Option Int) (a1 : Int) (r1 : ByteArray) (r2 : ByteArray) (r3 : Option Int) (w0 w : World) (hI : IsS94 w0 w g s0_0 s0_1) (hB : Below w0.heap.size w0 w) (h : le_In_Text.f s0_0 s0_1 a1 = some (r1, r2, r3)) :
  Calls Tryz.prog 49 #[.pointer (some ⟨g, 0, none⟩), .int .i64 a1] w fun e w' => e = .returned (.string r1) ∧ IsS94 w0 w' g r2 r3 ∧ Below w0.heap.size w0 w' ∧ KeepBut w w' g none := by
 have hu33 := Tryz.underlying33
 have hu57 := Tryz.underlying57
 have HI0 := Aside0.mk hI
 have HK := Aside0.mk (KeepBut.refl w g none)
 have HL := Aside0.mk hB.size
 clear hI
 have HW0 := Aside0.mk hB.size
 have HB := Aside0.mk hB
 clear hB
 have H : (if a1 < 0 then ((le_In_fail.f s0_0 s0_1 1).bind fun bt216 => (if bt216.2.isNone = true then (if 0 ≤ a1 then (if a1 ≤ (bt216.1.size : Int) then (some (bt216.1.extract 0 (a1 : Int).toNat, bt216.1.extract (a1 : Int).toNat bt216.1.size, none)) else (none)) else (none)) else (some ((⟨#[]⟩ : ByteArray), bt216.1, some (bt216.2.getD 0))))) else (if a1 > (s0_0.size : Int) then ((le_In_fail.f s0_0 s0_1 4).bind fun bt219 => (if bt219.2.isNone = true then (if 0 ≤ a1 then (if a1 ≤ (bt219.1.size : Int) then (some (bt219.1.extract 0 (a1 : Int).toNat, bt219.1.extract (a1 : Int).toNat bt219.1.size, none)) else (none)) else (none)) else (some ((⟨#[]⟩ : ByteArray), bt219.1, some (bt219.2.getD 0))))) else (if s0_1.isNone = true then (if 0 ≤ a1 then (if a1 ≤ (s0_0.size : Int) then (some (s0_0.extract 0 (a1 : Int).toNat, s0_0.extract (a1 : Int).toNat s0_0.size, none)) else (none)) else (none)) else (some ((⟨#[]⟩ : ByteArray), s0_0, some (s0_1.getD 0)))))) = some (r1, r2, r3) := h
 clear h
 by_cases c3 : a1 < 0
 ·rw [if_pos c3] at H
  have c3b0 : decide (a1 < 0) = true := decide_eq_true c3
  clear c3
  replace H := Option.bind_eq_some_iff.mp H
  obtain ⟨⟨t216, t217⟩, A40, H⟩ := H
  replace H : (if t217.isNone = true then (if 0 ≤ a1 then (if a1 ≤ (t216.size : Int) then (some (t216.extract 0 (a1 : Int).toNat, t216.extract (a1 : Int).toNat t216.size, none)) else (none)) else (none)) else (some ((⟨#[]⟩ : ByteArray), t216, some (t217.getD 0)))) = some (r1, r2, r3) := H
  have A4 := Aside0.mk A40
  clear A40
  rcases t217 with _ | q218
  ·have H1 : (if 0 ≤ a1 then (if a1 ≤ (t216.size : Int) then (some (t216.extract 0 (a1 : Int).toNat, t216.extract (a1 : Int).toNat t216.size, none)) else (none)) else (none)) = some (r1, r2, r3) := by rw [if_pos (show (none : Option Int).isNone = true by rfl)] at H; exact H
   clear H
   have H := H1
   clear H1
   try simp only [errW_none, errW_some]
   by_cases c5 : 0 ≤ a1
   ·rw [if_pos c5] at H
    have c5b0 := eq_true c5
    try (have c5sa0 := c5b0; simp only [ByteArray.size_append, Int.natCast_add] at c5sa0)
    have c5b1 : decide (0 ≤ a1) = true := decide_eq_true c5
    clear c5
    by_cases c6 : a1 ≤ (t216.size : Int)
    ·rw [if_pos c6] at H
     have c6b0 := eq_true c6
     try (have c6sa0 := c6b0; simp only [ByteArray.size_append, Int.natCast_add] at c6sa0)
     have c6b1 : decide (a1 ≤ (t216.size : Int)) = true := decide_eq_true c6
     clear c6
     have c7b0 := eq_true (of_decide_eq_true (by first | (with_reducible assumption) | assumption) : 0 ≤ a1)
     have c8b0 := eq_true (of_decide_eq_true (by first | (with_reducible assumption) | assumption) : a1 ≤ (t216.size : Int))
     simp only [Option.some.injEq, Prod.mk.injEq] at H
     obtain ⟨rfl, rfl, rfl⟩ := H
     go_enter Tryz.func49, Tryz.ntmps49
     go_wp2_with (first | ((with_reducible refine gate_callee (f := 47) rfl ?_); refine goesL_ (some 13) rfl rfl Tryz.func47 (by kernel_rfl) rfl #[.pointer (some ⟨g, 0, none⟩), .int .i64 1] rfl (by (try simp only [List.map_toArray, List.map_cons, List.map_nil]); first | done | rfl | (simp only [List.length_drop, List.length_take]; rfl) | (simp only [decide_eq_true_eq, decide_eq_false_iff_not, eq_iff_iff, iff_true, iff_false] at *; have w_id : ∀ {n : Int}, -9223372036854775808 ≤ n → n ≤ 9223372036854775807 → wrap64 n = n := fun h0 h1 => (by unfold wrap64; omega); rw [w_id (by omega) (by omega)]; rfl)) ?_; (with_reducible refine (le_In_fail.calls g s0_0 s0_1 1 t216 none w0 _ ?side1 ?side2 A4.out).mono ?_); (case side1 => repeat (first | (with_reducible first | exact HI0.out | apply IsS94.alloc | apply IsS94.drewN | apply IsS94.drew | apply IsS94.set_0 | apply IsS94.set_1_none | apply IsS94.set_1_some | apply IsS94.set_1) | exact HI0.out)); (case side2 => repeat (first | (with_reducible first | exact HB.out | apply below_alloc | apply pw_below_drewN | apply below_drew1 | refine below_set ?_ (IsS94.ge HI0.out)) | exact HB.out)); rintro e w9 ⟨rfl, hi, hb, hk⟩; refine ⟨_, rfl, ?_⟩; have n0_ := Aside0.mk (KeepBut.trans (by repeat (first | (with_reducible first | exact HK.out | apply KeepBut.set_ | apply keep_drewN | apply keep_drew | apply keep_alloc) | exact HK.out)) hk (.inl rfl)); have n1_ := Aside0.mk (hb); have n2_ := Aside0.mk (hi); clear HK; clear HB; clear HI0; have HK := n0_; have HB := n1_; have HI0 := n2_; clear n0_ n1_ n2_; (try clear hb); (try clear hb2); (try clear hk); (try clear hi); (try simp only [errW_none, errW_some]); obtain ⟨HGz10, hgz10⟩ := HI0.out; have hcz10_0 := cellS94_0 HGz10; (try simp only [errW_none, errW_some] at hcz10_0); have hcz10_1 := cellS94_1 HGz10; (try simp only [errW_none, errW_some] at hcz10_1); have hfz10_0 := blk_frozen HGz10 0; have hfz10_1 := blk_frozen HGz10 1; clear HGz10 hgz10))
     go_ret
     exact ⟨by first | rfl | (simp [errW_none, errW_some] <;> rfl) | (simp [*, errW_none, errW_some] <;> rfl), by repeat (first | (with_reducible first | exact HI0.out | apply IsS94.alloc | apply IsS94.drewN | apply IsS94.drew | apply IsS94.set_0 | apply IsS94.set_1_none | apply IsS94.set_1_some | apply IsS94.set_1) | exact HI0.out), by repeat (first | (with_reducible first | exact HB.out | apply below_alloc | apply pw_below_drewN | apply below_drew1 | refine below_set ?_ (IsS94.ge HI0.out)) | exact HB.out), by repeat (first | (with_reducible first | exact HK.out | apply KeepBut.set_ | apply keep_drewN | apply keep_drew | apply keep_alloc) | exact HK.out)⟩
    ·rw [if_neg c6] at H
     exact absurd H (by simp)
   ·rw [if_neg c5] at H
    exact absurd H (by simp)
  ·have H1 : (some ((⟨#[]⟩ : ByteArray), t216, some q218)) = some (r1, r2, r3) := by rw [if_neg (show ¬ (some q218).isNone = true by simp)] at H; exact H
   clear H
   have H := H1
   clear H1
   try simp only [errW_none, errW_some]
   simp only [Option.some.injEq, Prod.mk.injEq] at H
   obtain ⟨rfl, rfl, rfl⟩ := H
   go_enter Tryz.func49, Tryz.ntmps49
   go_wp2_with (first | ((with_reducible refine gate_callee (f := 47) rfl ?_); refine goesL_ (some 13) rfl rfl Tryz.func47 (by kernel_rfl) rfl #[.pointer (some ⟨g, 0, none⟩), .int .i64 1] rfl (by (try simp only [List.map_toArray, List.map_cons, List.map_nil]); first | done | rfl | (simp only [List.length_drop, List.length_take]; rfl) | (simp only [decide_eq_true_eq, decide_eq_false_iff_not, eq_iff_iff, iff_true, iff_false] at *; have w_id : ∀ {n : Int}, -9223372036854775808 ≤ n → n ≤ 9223372036854775807 → wrap64 n = n := fun h0 h1 => (by unfold wrap64; omega); rw [w_id (by omega) (by omega)]; rfl)) ?_; (with_reducible refine (le_In_fail.calls g s0_0 s0_1 1 t216 (some q218) w0 _ ?side1 ?side2 A4.out).mono ?_); (case side1 => repeat (first | (with_reducible first | exact HI0.out | apply IsS94.alloc | apply IsS94.drewN | apply IsS94.drew | apply IsS94.set_0 | apply IsS94.set_1_none | apply IsS94.set_1_some | apply IsS94.set_1) | exact HI0.out)); (case side2 => repeat (first | (with_reducible first | exact HB.out | apply below_alloc | apply pw_below_drewN | apply below_drew1 | refine below_set ?_ (IsS94.ge HI0.out)) | exact HB.out)); rintro e w11 ⟨rfl, hi, hb, hk⟩; refine ⟨_, rfl, ?_⟩; have n0_ := Aside0.mk (KeepBut.trans (by repeat (first | (with_reducible first | exact HK.out | apply KeepBut.set_ | apply keep_drewN | apply keep_drew | apply keep_alloc) | exact HK.out)) hk (.inl rfl)); have n1_ := Aside0.mk (hb); have n2_ := Aside0.mk (hi); clear HK; clear HB; clear HI0; have HK := n0_; have HB := n1_; have HI0 := n2_; clear n0_ n1_ n2_; (try clear hb); (try clear hb2); (try clear hk); (try clear hi); (try simp only [errW_none, errW_some]); obtain ⟨HGz12, hgz12⟩ := HI0.out; have hcz12_0 := cellS94_0 HGz12; (try simp only [errW_none, errW_some] at hcz12_0); have hcz12_1 := cellS94_1 HGz12; (try simp only [errW_none, errW_some] at hcz12_1); have hfz12_0 := blk_frozen HGz12 0; have hfz12_1 := blk_frozen HGz12 1; clear HGz12 hgz12))
   go_ret
   exact ⟨by first | rfl | (simp [errW_none, errW_some] <;> rfl) | (simp [*, errW_none, errW_some] <;> rfl), by repeat (first | (with_reducible first | exact HI0.out | apply IsS94.alloc | apply IsS94.drewN | apply IsS94.drew | apply IsS94.set_0 | apply IsS94.set_1_none | apply IsS94.set_1_some | apply IsS94.set_1) | exact HI0.out), by repeat (first | (with_reducible first | exact HB.out | apply below_alloc | apply pw_below_drewN | apply below_drew1 | refine below_set ?_ (IsS94.ge HI0.out)) | exact HB.out), by repeat (first | (with_reducible first | exact HK.out | apply KeepBut.set_ | apply keep_drewN | apply keep_drew | apply keep_alloc) | exact HK.out)⟩
 ·rw [if_neg c3] at H
  have c3b0 : decide (a1 < 0) = false := decide_eq_false c3
  clear c3
  by_cases c13 : a1 > (s0_0.size : Int)
  ·rw [if_pos c13] at H
   have c13b0 : decide ((s0_0.size : Int) < a1) = true := decide_eq_true c13
   clear c13
   replace H := Option.bind_eq_some_iff.mp H
   obtain ⟨⟨t219, t220⟩, A140, H⟩ := H
   replace H : (if t220.isNone = true then (if 0 ≤ a1 then (if a1 ≤ (t219.size : Int) then (some (t219.extract 0 (a1 : Int).toNat, t219.extract (a1 : Int).toNat t219.size, none)) else (none)) else (none)) else (some ((⟨#[]⟩ : ByteArray), t219, some (t220.getD 0)))) = some (r1, r2, r3) := H
   have A14 := Aside0.mk A140
   clear A140
   rcases t220 with _ | q221
   ·have H1 : (if 0 ≤ a1 then (if a1 ≤ (t219.size : Int) then (some (t219.extract 0 (a1 : Int).toNat, t219.extract (a1 : Int).toNat t219.size, none)) else (none)) else (none)) = some (r1, r2, r3) := by rw [if_pos (show (none : Option Int).isNone = true by rfl)] at H; exact H
    clear H
    have H := H1
    clear H1
    try simp only [errW_none, errW_some]
    by_cases c15 : 0 ≤ a1
    ·rw [if_pos c15] at H
     have c15b0 := eq_true c15
     try (have c15sa0 := c15b0; simp only [ByteArray.size_append, Int.natCast_add] at c15sa0)
     have c15b1 : decide (0 ≤ a1) = true := decide_eq_true c15
     clear c15
     by_cases c16 : a1 ≤ (t219.size : Int)
     ·rw [if_pos c16] at H
      have c16b0 := eq_true c16
      try (have c16sa0 := c16b0; simp only [ByteArray.size_append, Int.natCast_add] at c16sa0)
      have c16b1 : decide (a1 ≤ (t219.size : Int)) = true := decide_eq_true c16
      clear c16
      have c17b0 := eq_true (of_decide_eq_true (by first | (with_reducible assumption) | assumption) : 0 ≤ a1)
      have c18b0 := eq_true (of_decide_eq_true (by first | (with_reducible assumption) | assumption) : a1 ≤ (t219.size : Int))
      simp only [Option.some.injEq, Prod.mk.injEq] at H
      obtain ⟨rfl, rfl, rfl⟩ := H
      obtain ⟨HGz19, hgz19⟩ := HI0.out
      have hcz19_0 := cellS94_0 HGz19
      try simp only [errW_none, errW_some] at hcz19_0
      have hcz19_1 := cellS94_1 HGz19
      try simp only [errW_none, errW_some] at hcz19_1
      have hfz19_0 := blk_frozen HGz19 0
      have hfz19_1 := blk_frozen HGz19 1
      clear HGz19 hgz19
      go_enter Tryz.func49, Tryz.ntmps49
      go_wp2_with (first | ((with_reducible refine gate_callee (f := 47) rfl ?_); refine goesL_ (some 23) rfl rfl Tryz.func47 (by kernel_rfl) rfl #[.pointer (some ⟨g, 0, none⟩), .int .i64 4] rfl (by (try simp only [List.map_toArray, List.map_cons, List.map_nil]); first | done | rfl | (simp only [List.length_drop, List.length_take]; rfl) | (simp only [decide_eq_true_eq, decide_eq_false_iff_not, eq_iff_iff, iff_true, iff_false] at *; have w_id : ∀ {n : Int}, -9223372036854775808 ≤ n → n ≤ 9223372036854775807 → wrap64 n = n := fun h0 h1 => (by unfold wrap64; omega); rw [w_id (by omega) (by omega)]; rfl)) ?_; (with_reducible refine (le_In_fail.calls g s0_0 s0_1 4 t219 none w0 _ ?side1 ?side2 A14.out).mono ?_); (case side1 => repeat (first | (with_reducible first | exact HI0.out | apply IsS94.alloc | apply IsS94.drewN | apply IsS94.drew | apply IsS94.set_0 | apply IsS94.set_1_none | apply IsS94.set_1_some | apply IsS94.set_1) | exact HI0.out)); (case side2 => repeat (first | (with_reducible first | exact HB.out | apply below_alloc | apply pw_below_drewN | apply below_drew1 | refine below_set ?_ (IsS94.ge HI0.out)) | exact HB.out)); rintro e w20 ⟨rfl, hi, hb, hk⟩; refine ⟨_, rfl, ?_⟩; have n0_ := Aside0.mk (KeepBut.trans (by repeat (first | (with_reducible first | exact HK.out | apply KeepBut.set_ | apply keep_drewN | apply keep_drew | apply keep_alloc) | exact HK.out)) hk (.inl rfl)); have n1_ := Aside0.mk (hb); have n2_ := Aside0.mk (hi); clear HK; clear HB; clear HI0; have HK := n0_; have HB := n1_; have HI0 := n2_; clear n0_ n1_ n2_; (try clear hb); (try clear hb2); (try clear hk); (try clear hi); (try simp only [errW_none, errW_some]); obtain ⟨HGz21, hgz21⟩ := HI0.out; have hcz21_0 := cellS94_0 HGz21; (try simp only [errW_none, errW_some] at hcz21_0); have hcz21_1 := cellS94_1 HGz21; (try simp only [errW_none, errW_some] at hcz21_1); have hfz21_0 := blk_frozen HGz21 0; have hfz21_1 := blk_frozen HGz21 1; clear HGz21 hgz21))
      go_ret
      exact ⟨by first | rfl | (simp [errW_none, errW_some] <;> rfl) | (simp [*, errW_none, errW_some] <;> rfl), by repeat (first | (with_reducible first | exact HI0.out | apply IsS94.alloc | apply IsS94.drewN | apply IsS94.drew | apply IsS94.set_0 | apply IsS94.set_1_none | apply IsS94.set_1_some | apply IsS94.set_1) | exact HI0.out), by repeat (first | (with_reducible first | exact HB.out | apply below_alloc | apply pw_below_drewN | apply below_drew1 | refine below_set ?_ (IsS94.ge HI0.out)) | exact HB.out), by repeat (first | (with_reducible first | exact HK.out | apply KeepBut.set_ | apply keep_drewN | apply keep_drew | apply keep_alloc) | exact HK.out)⟩
     ·rw [if_neg c16] at H
      exact absurd H (by simp)
    ·rw [if_neg c15] at H
     exact absurd H (by simp)
   ·have H1 : (some ((⟨#[]⟩ : ByteArray), t219, some q221)) = some (r1, r2, r3) := by rw [if_neg (show ¬ (some q221).isNone = true by simp)] at H; exact H
    clear H
    have H := H1
    clear H1
    try simp only [errW_none, errW_some]
    simp only [Option.some.injEq, Prod.mk.injEq] at H
    obtain ⟨rfl, rfl, rfl⟩ := H
    obtain ⟨HGz22, hgz22⟩ := HI0.out
    have hcz22_0 := cellS94_0 HGz22
    try simp only [errW_none, errW_some] at hcz22_0
    have hcz22_1 := cellS94_1 HGz22
    try simp only [errW_none, errW_some] at hcz22_1
    have hfz22_0 := blk_frozen HGz22 0
    have hfz22_1 := blk_frozen HGz22 1
    clear HGz22 hgz22
    go_enter Tryz.func49, Tryz.ntmps49
    go_wp2_with (first | ((with_reducible refine gate_callee (f := 47) rfl ?_); refine goesL_ (some 23) rfl rfl Tryz.func47 (by kernel_rfl) rfl #[.pointer (some ⟨g, 0, none⟩), .int .i64 4] rfl (by (try simp only [List.map_toArray, List.map_cons, List.map_nil]); first | done | rfl | (simp only [List.length_drop, List.length_take]; rfl) | (simp only [decide_eq_true_eq, decide_eq_false_iff_not, eq_iff_iff, iff_true, iff_false] at *; have w_id : ∀ {n : Int}, -9223372036854775808 ≤ n → n ≤ 9223372036854775807 → wrap64 n = n := fun h0 h1 => (by unfold wrap64; omega); rw [w_id (by omega) (by omega)]; rfl)) ?_; (with_reducible refine (le_In_fail.calls g s0_0 s0_1 4 t219 (some q221) w0 _ ?side1 ?side2 A14.out).mono ?_); (case side1 => repeat (first | (with_reducible first | exact HI0.out | apply IsS94.alloc | apply IsS94.drewN | apply IsS94.drew | apply IsS94.set_0 | apply IsS94.set_1_none | apply IsS94.set_1_some | apply IsS94.set_1) | exact HI0.out)); (case side2 => repeat (first | (with_reducible first | exact HB.out | apply below_alloc | apply pw_below_drewN | apply below_drew1 | refine below_set ?_ (IsS94.ge HI0.out)) | exact HB.out)); rintro e w23 ⟨rfl, hi, hb, hk⟩; refine ⟨_, rfl, ?_⟩; have n0_ := Aside0.mk (KeepBut.trans (by repeat (first | (with_reducible first | exact HK.out | apply KeepBut.set_ | apply keep_drewN | apply keep_drew | apply keep_alloc) | exact HK.out)) hk (.inl rfl)); have n1_ := Aside0.mk (hb); have n2_ := Aside0.mk (hi); clear HK; clear HB; clear HI0; have HK := n0_; have HB := n1_; have HI0 := n2_; clear n0_ n1_ n2_; (try clear hb); (try clear hb2); (try clear hk); (try clear hi); (try simp only [errW_none, errW_some]); obtain ⟨HGz24, hgz24⟩ := HI0.out; have hcz24_0 := cellS94_0 HGz24; (try simp only [errW_none, errW_some] at hcz24_0); have hcz24_1 := cellS94_1 HGz24; (try simp only [errW_none, errW_some] at hcz24_1); have hfz24_0 := blk_frozen HGz24 0; have hfz24_1 := blk_frozen HGz24 1; clear HGz24 hgz24))
    go_ret
    exact ⟨by first | rfl | (simp [errW_none, errW_some] <;> rfl) | (simp [*, errW_none, errW_some] <;> rfl), by repeat (first | (with_reducible first | exact HI0.out | apply IsS94.alloc | apply IsS94.drewN | apply IsS94.drew | apply IsS94.set_0 | apply IsS94.set_1_none | apply IsS94.set_1_some | apply IsS94.set_1) | exact HI0.out), by repeat (first | (with_reducible first | exact HB.out | apply below_alloc | apply pw_below_drewN | apply below_drew1 | refine below_set ?_ (IsS94.ge HI0.out)) | exact HB.out), by repeat (first | (with_reducible first | exact HK.out | apply KeepBut.set_ | apply keep_drewN | apply keep_drew | apply keep_alloc) | exact HK.out)⟩
  ·rw [if_neg c13] at H
   have c13b0 : decide ((s0_0.size : Int) < a1) = false := decide_eq_false c13
   clear c13
   rcases s0_1 with _ | q222
   ·have H1 : (if 0 ≤ a1 then (if a1 ≤ (s0_0.size : Int) then (some (s0_0.extract 0 (a1 : Int).toNat, s0_0.extract (a1 : Int).toNat s0_0.size, none)) else (none)) else (none)) = some (r1, r2, r3) := by rw [if_pos (show (none : Option Int).isNone = true by rfl)] at H; exact H
    clear H
    have H := H1
    clear H1
    try simp only [errW_none, errW_some]
    by_cases c25 : 0 ≤ a1
    ·rw [if_pos c25] at H
     have c25b0 := eq_true c25
     try (have c25sa0 := c25b0; simp only [ByteArray.size_append, Int.natCast_add] at c25sa0)
     have c25b1 : decide (0 ≤ a1) = true := decide_eq_true c25
     clear c25
     by_cases c26 : a1 ≤ (s0_0.size : Int)
     ·rw [if_pos c26] at H
      have c26b0 := eq_true c26
      try (have c26sa0 := c26b0; simp only [ByteArray.size_append, Int.natCast_add] at c26sa0)
      have c26b1 : decide (a1 ≤ (s0_0.size : Int)) = true := decide_eq_true c26
      clear c26
      have c27b0 := eq_true (of_decide_eq_true (by first | (with_reducible assumption) | assumption) : 0 ≤ a1)
      have c28b0 := eq_true (of_decide_eq_true (by first | (with_reducible assumption) | assumption) : a1 ≤ (s0_0.size : Int))
      simp only [Option.some.injEq, Prod.mk.injEq] at H
      obtain ⟨rfl, rfl, rfl⟩ := H
      obtain ⟨HGz29, hgz29⟩ := HI0.out
      have hcz29_0 := cellS94_0 HGz29
      try simp only [errW_none, errW_some] at hcz29_0
      have hcz29_1 := cellS94_1 HGz29
      try simp only [errW_none, errW_some] at hcz29_1
      have hfz29_0 := blk_frozen HGz29 0
      have hfz29_1 := blk_frozen HGz29 1
      clear HGz29 hgz29
      go_enter Tryz.func49, Tryz.ntmps49
      go_wp2
      go_ret
      exact ⟨by first | rfl | (simp [errW_none, errW_some] <;> rfl) | (simp [*, errW_none, errW_some] <;> rfl), by repeat (first | (with_reducible first | exact HI0.out | apply IsS94.alloc | apply IsS94.drewN | apply IsS94.drew | apply IsS94.set_0 | apply IsS94.set_1_none | apply IsS94.set_1_some | apply IsS94.set_1) | exact HI0.out), by repeat (first | (with_reducible first | exact HB.out | apply below_alloc | apply pw_below_drewN | apply below_drew1 | refine below_set ?_ (IsS94.ge HI0.out)) | exact HB.out), by repeat (first | (with_reducible first | exact HK.out | apply KeepBut.set_ | apply keep_drewN | apply keep_drew | apply keep_alloc) | exact HK.out)⟩
     ·rw [if_neg c26] at H
      exact absurd H (by simp)
    ·rw [if_neg c25] at H
     exact absurd H (by simp)
   ·have H1 : (some ((⟨#[]⟩ : ByteArray), s0_0, some q222)) = some (r1, r2, r3) := by rw [if_neg (show ¬ (some q222).isNone = true by simp)] at H; exact H
    clear H
    have H := H1
    clear H1
    try simp only [errW_none, errW_some]
    simp only [Option.some.injEq, Prod.mk.injEq] at H
    obtain ⟨rfl, rfl, rfl⟩ := H
    obtain ⟨HGz30, hgz30⟩ := HI0.out
    have hcz30_0 := cellS94_0 HGz30
    try simp only [errW_none, errW_some] at hcz30_0
    have hcz30_1 := cellS94_1 HGz30
    try simp only [errW_none, errW_some] at hcz30_1
    have hfz30_0 := blk_frozen HGz30 0
    have hfz30_1 := blk_frozen HGz30 1
    clear HGz30 hgz30
    go_enter Tryz.func49, Tryz.ntmps49
    go_wp2
    go_ret
    exact ⟨by first | rfl | (simp [errW_none, errW_some] <;> rfl) | (simp [*, errW_none, errW_some] <;> rfl), by repeat (first | (with_reducible first | exact HI0.out | apply IsS94.alloc | apply IsS94.drewN | apply IsS94.drew | apply IsS94.set_0 | apply IsS94.set_1_none | apply IsS94.set_1_some | apply IsS94.set_1) | exact HI0.out), by repeat (first | (with_reducible first | exact HB.out | apply below_alloc | apply pw_below_drewN | apply below_drew1 | refine below_set ?_ (IsS94.ge HI0.out)) | exact HB.out), by repeat (first | (with_reducible first | exact HK.out | apply KeepBut.set_ | apply keep_drewN | apply keep_drew | apply keep_alloc) | exact HK.out)⟩

/-! ### le_In_Num: function 30 -/
def le_In_Num.j0 : Nat → Int → Bool → ByteArray → Option Int → Option (Int × ByteArray × Option Int)
 | 0, _, _, _, _ => none
 | k + 1, x1, x14, x1000, x1001 => if x14 = true then ((le_In_fail.f x1000 x1001 1).bind fun bt223 => ((le_In_Text.f bt223.1 bt223.2 x1).bind fun bt225 => ((le_Get.f k bt225.1).bind fun t228 => (some (t228, bt225.2.1, bt225.2.2))))) else ((le_In_Text.f x1000 x1001 x1).bind fun bt229 => ((le_Get.f k bt229.1).bind fun t232 => (some (t232, bt229.2.1, bt229.2.2))))
def le_In_Num.f (k : Nat) (s0_0 : ByteArray) (s0_1 : Option Int) (a1 : Int) : Option (Int × ByteArray × Option Int) := if a1 < 1 then (le_In_Num.j0 k a1 true s0_0 s0_1) else (le_In_Num.j0 k a1 (decide (a1 > 7)) s0_0 s0_1)
set_option maxRecDepth 100000 in
theorem le_In_Num.mono_l : ∀ k, (∀ y0 y1 y2 y3, LeO (le_In_Num.j0 k y0 y1 y2 y3) (le_In_Num.j0 (k + 1) y0 y1 y2 y3))
 | 0 => fun _ _ _ _ r h => by first | (rw [le_In_Num.j0] at h; cases h) | simp [le_In_Num.j0] at h
 | k + 1 => by
  have ih0 := le_In_Num.mono_l k
  ·intro y0 y1 y2 y3
   unfold le_In_Num.j0
   repeat' first
   | (with_reducible exact ih0 _ _ _ _)
   | (with_reducible exact le_Get.mono _ _)
   | (with_reducible exact LeO.refl _)
   | (with_reducible exact LeO.none _)
   | (with_reducible refine LeO.ite ?_ ?_)
   | (with_reducible refine LeO.bind ?_ (fun _ => ?_))
   | exact ih0 _ _ _ _
   | exact le_Get.mono _ _
   | exact LeO.none _
   | refine LeO.ite ?_ ?_
   | refine LeO.bind ?_ (fun _ => ?_)
theorem le_In_Num.mono : ∀ a0 a1 a2 k, LeO (le_In_Num.f k a0 a1 a2) (le_In_Num.f (k + 1) a0 a1 a2) := by
 intro a0 a1 a2 k
 have ih0 := le_In_Num.mono_l k
 unfold le_In_Num.f
 repeat' first
   | (with_reducible exact ih0 _ _ _ _)
   | (with_reducible exact le_Get.mono _ _)
   | (with_reducible exact LeO.refl _)
   | (with_reducible exact LeO.none _)
   | (with_reducible refine LeO.ite ?_ ?_)
   | (with_reducible refine LeO.bind ?_ (fun _ => ?_))
   | exact ih0 _ _ _ _
   | exact le_Get.mono _ _
   | exact LeO.none _
   | refine LeO.ite ?_ ?_
   | refine LeO.bind ?_ (fun _ => ?_)
set_option maxHeartbeats 8000000 in
set_option maxRecDepth 100000 in
theorem le_In_Num.calls (k : Nat) (g : Nat) (s0_0 : ByteArray) (s0_1 : Option Int) (a1 : Int) (r1 : Int) (r2 : ByteArray) (r3 : Option Int) (w0 w : World) (hI : IsS94 w0 w g s0_0 s0_1) (hB : Below w0.heap.size w0 w) (h : le_In_Num.f k s0_0 s0_1 a1 = some (r1, r2, r3)) :
  Calls Tryz.prog 30 #[.pointer (some ⟨g, 0, none⟩), .int .i64 a1] w fun e w' => e = .returned (.int .i64 r1) ∧ IsS94 w0 w' g r2 r3 ∧ Below w0.heap.size w0 w' ∧ KeepBut w w' g none := by
 have HI0 := Aside0.mk hI
 have HK := Aside0.mk (KeepBut.refl w g none)
 have HL := Aside0.mk hB.size
 clear hI
 have HW0 := Aside0.mk hB.size
 have HB := Aside0.mk hB
 clear hB
 have H : (if a1 < 1 then (le_In_Num.j0 k a1 true s0_0 s0_1) else (le_In_Num.j0 k a1 (decide (a1 > 7)) s0_0 s0_1)) = some (r1, r2, r3) := h
 clear h
 have HC3 := Aside0.mk H
 clear H
 go_enter Tryz.func30, Tryz.ntmps30
 go_upto_region 1 with (fail)
 go_cut [14] (fun v14 wc => ∃ (kq : Nat) (x14_2 : Bool), v14 = .bool x14_2 ∧ Aside0 (le_In_Num.j0 kq a1 x14_2 s0_0 s0_1 = some (r1, r2, r3)) ∧ Aside0 (kq ≤ k) ∧ Aside0 (IsS94 w0 wc g s0_0 s0_1) ∧ Aside0 (KeepBut w wc g none) ∧ Aside0 (Below w0.heap.size w0 wc))
 case first =>
  have H := HC3.out
  clear HC3
  by_cases c4 : a1 < 1
  ·rw [if_pos c4] at H
   have c4b0 : decide (a1 < 1) = true := decide_eq_true c4
   clear c4
   (first | rw [c4b0] | (simp only [i64_w, i32_w]; rw [c4b0]) | skip)
   have H' := Aside0.mk H
   clear H
   go_wp2
   go_meet
   case rel => exact ⟨_, (true), (by first | rfl | (simp; done) | (simp [*]; done)), H', ⟨by first | omega | exact Nat.le_refl _⟩, ⟨by repeat (first | (with_reducible first | exact HI0.out | apply IsS94.alloc | apply IsS94.drewN | apply IsS94.drew | apply IsS94.set_0 | apply IsS94.set_1_none | apply IsS94.set_1_some | apply IsS94.set_1) | exact HI0.out)⟩, ⟨by repeat (first | (with_reducible first | exact HK.out | apply KeepBut.set_ | apply keep_drewN | apply keep_drew | apply keep_alloc) | exact HK.out)⟩, ⟨by repeat (first | (with_reducible first | exact HB.out | apply below_alloc | apply pw_below_drewN | apply below_drew1 | refine below_set ?_ (IsS94.ge HI0.out)) | exact HB.out)⟩⟩
  ·rw [if_neg c4] at H
   have c4b0 : decide (a1 < 1) = false := decide_eq_false c4
   clear c4
   (first | rw [c4b0] | (simp only [i64_w, i32_w]; rw [c4b0]) | skip)
   have H' := Aside0.mk H
   clear H
   go_wp2
   go_meet
   case rel => exact ⟨_, (decide (a1 > 7)), (by first | rfl | (simp; done) | (simp [*]; done)), H', ⟨by first | omega | exact Nat.le_refl _⟩, ⟨by repeat (first | (with_reducible first | exact HI0.out | apply IsS94.alloc | apply IsS94.drewN | apply IsS94.drew | apply IsS94.set_0 | apply IsS94.set_1_none | apply IsS94.set_1_some | apply IsS94.set_1) | exact HI0.out)⟩, ⟨by repeat (first | (with_reducible first | exact HK.out | apply KeepBut.set_ | apply keep_drewN | apply keep_drew | apply keep_alloc) | exact HK.out)⟩, ⟨by repeat (first | (with_reducible first | exact HB.out | apply below_alloc | apply pw_below_drewN | apply below_drew1 | refine below_set ?_ (IsS94.ge HI0.out)) | exact HB.out)⟩⟩
 case rest =>
  clear HC3
  try clear p2
  try clear c3
  try clear c4
  try clear c4b0
  obtain ⟨kq, x14_2, rfl, HA, HJ2, HI0, HK, HB⟩ := hcut
  cases kq with
  | zero => exact absurd HA.out (by simp [le_In_Num.j0])
  | succ kj2 =>
   have H := HA.out
   clear HA
   simp only [le_In_Num.j0] at H
   by_cases c5 : x14_2 = true
   ·subst c5
    have H1 : ((le_In_fail.f s0_0 s0_1 1).bind fun bt223 => ((le_In_Text.f bt223.1 bt223.2 a1).bind fun bt225 => ((le_Get.f kj2 bt225.1).bind fun t228 => (some (t228, bt225.2.1, bt225.2.2))))) = some (r1, r2, r3) := by rw [if_pos rfl] at H; exact H
    clear H
    have H := H1
    clear H1
    replace H := Option.bind_eq_some_iff.mp H
    obtain ⟨⟨t223, t224⟩, A60, H⟩ := H
    replace H : ((le_In_Text.f t223 t224 a1).bind fun bt225 => ((le_Get.f kj2 bt225.1).bind fun t228 => (some (t228, bt225.2.1, bt225.2.2)))) = some (r1, r2, r3) := H
    have A6 := Aside0.mk A60
    clear A60
    replace H := Option.bind_eq_some_iff.mp H
    obtain ⟨⟨t225, t226, t227⟩, A70, H⟩ := H
    replace H : ((le_Get.f kj2 t225).bind fun t228 => (some (t228, t226, t227))) = some (r1, r2, r3) := H
    have A7 := Aside0.mk A70
    clear A70
    replace H := Option.bind_eq_some_iff.mp H
    obtain ⟨t228, A80, H⟩ := H
    replace H : (some (t228, t226, t227)) = some (r1, r2, r3) := H
    have A8 := Aside0.mk A80
    clear A80
    simp only [Option.some.injEq, Prod.mk.injEq] at H
    obtain ⟨rfl, rfl, rfl⟩ := H
    go_wp2_with (first | ((with_reducible refine gate_callee (f := 47) rfl ?_); refine goesL_ (some 16) rfl rfl Tryz.func47 (by kernel_rfl) rfl #[.pointer (some ⟨g, 0, none⟩), .int .i64 1] rfl (by (try simp only [List.map_toArray, List.map_cons, List.map_nil]); first | done | rfl | (simp only [List.length_drop, List.length_take]; rfl) | (simp only [decide_eq_true_eq, decide_eq_false_iff_not, eq_iff_iff, iff_true, iff_false] at *; have w_id : ∀ {n : Int}, -9223372036854775808 ≤ n → n ≤ 9223372036854775807 → wrap64 n = n := fun h0 h1 => (by unfold wrap64; omega); rw [w_id (by omega) (by omega)]; rfl)) ?_; (with_reducible refine (le_In_fail.calls g s0_0 s0_1 1 t223 t224 w0 _ ?side1 ?side2 A6.out).mono ?_); (case side1 => repeat (first | (with_reducible first | exact HI0.out | apply IsS94.alloc | apply IsS94.drewN | apply IsS94.drew | apply IsS94.set_0 | apply IsS94.set_1_none | apply IsS94.set_1_some | apply IsS94.set_1) | exact HI0.out)); (case side2 => repeat (first | (with_reducible first | exact HB.out | apply below_alloc | apply pw_below_drewN | apply below_drew1 | refine below_set ?_ (IsS94.ge HI0.out)) | exact HB.out)); rintro e w9 ⟨rfl, hi, hb, hk⟩; refine ⟨_, rfl, ?_⟩; have n0_ := Aside0.mk (KeepBut.trans (by repeat (first | (with_reducible first | exact HK.out | apply KeepBut.set_ | apply keep_drewN | apply keep_drew | apply keep_alloc) | exact HK.out)) hk (.inl rfl)); have n1_ := Aside0.mk (hb); have n2_ := Aside0.mk (hi); clear HK; clear HB; clear HI0; have HK := n0_; have HB := n1_; have HI0 := n2_; clear n0_ n1_ n2_; (try clear hb); (try clear hb2); (try clear hk); (try clear hi); (try simp only [errW_none, errW_some])) | ((with_reducible refine gate_callee (f := 49) rfl ?_); refine goesL_ (some 19) rfl rfl Tryz.func49 (by kernel_rfl) rfl #[.pointer (some ⟨g, 0, none⟩), .int .i64 a1] rfl (by (try simp only [List.map_toArray, List.map_cons, List.map_nil]); first | done | rfl | (simp only [List.length_drop, List.length_take]; rfl) | (simp only [decide_eq_true_eq, decide_eq_false_iff_not, eq_iff_iff, iff_true, iff_false] at *; have w_id : ∀ {n : Int}, -9223372036854775808 ≤ n → n ≤ 9223372036854775807 → wrap64 n = n := fun h0 h1 => (by unfold wrap64; omega); rw [w_id (by omega) (by omega)]; rfl)) ?_; (with_reducible refine (le_In_Text.calls g t223 t224 a1 t225 t226 t227 w0 _ ?side1 ?side2 A7.out).mono ?_); (case side1 => repeat (first | (with_reducible first | exact HI0.out | apply IsS94.alloc | apply IsS94.drewN | apply IsS94.drew | apply IsS94.set_0 | apply IsS94.set_1_none | apply IsS94.set_1_some | apply IsS94.set_1) | exact HI0.out)); (case side2 => repeat (first | (with_reducible first | exact HB.out | apply below_alloc | apply pw_below_drewN | apply below_drew1 | refine below_set ?_ (IsS94.ge HI0.out)) | exact HB.out)); rintro e w10 ⟨rfl, hi, hb, hk⟩; refine ⟨_, rfl, ?_⟩; have n0_ := Aside0.mk (KeepBut.trans (by repeat (first | (with_reducible first | exact HK.out | apply KeepBut.set_ | apply keep_drewN | apply keep_drew | apply keep_alloc) | exact HK.out)) hk (.inl rfl)); have n1_ := Aside0.mk (hb); have n2_ := Aside0.mk (hi); clear HK; clear HB; clear HI0; have HK := n0_; have HB := n1_; have HI0 := n2_; clear n0_ n1_ n2_; (try clear hb); (try clear hb2); (try clear hk); (try clear hi); (try simp only [errW_none, errW_some])) | ((with_reducible refine gate_callee (f := 48) rfl ?_); refine goesL_ (some 20) rfl rfl Tryz.func48 (by kernel_rfl) rfl #[.string t225] rfl (by (try simp only [List.map_toArray, List.map_cons, List.map_nil]); first | done | rfl | (simp only [List.length_drop, List.length_take]; rfl) | (simp only [decide_eq_true_eq, decide_eq_false_iff_not, eq_iff_iff, iff_true, iff_false] at *; have w_id : ∀ {n : Int}, -9223372036854775808 ≤ n → n ≤ 9223372036854775807 → wrap64 n = n := fun h0 h1 => (by unfold wrap64; omega); rw [w_id (by omega) (by omega)]; rfl)) ?_; (with_reducible refine (le_Get.calls kj2 t225 t228 _ A8.out).mono ?_); rintro e w' ⟨rfl, ⟨nd, rfl⟩⟩; refine ⟨_, rfl, ?_⟩))
    go_ret
    exact ⟨by first | rfl | (simp [errW_none, errW_some] <;> rfl) | (simp [*, errW_none, errW_some] <;> rfl), by repeat (first | (with_reducible first | exact HI0.out | apply IsS94.alloc | apply IsS94.drewN | apply IsS94.drew | apply IsS94.set_0 | apply IsS94.set_1_none | apply IsS94.set_1_some | apply IsS94.set_1) | exact HI0.out), by repeat (first | (with_reducible first | exact HB.out | apply below_alloc | apply pw_below_drewN | apply below_drew1 | refine below_set ?_ (IsS94.ge HI0.out)) | exact HB.out), by repeat (first | (with_reducible first | exact HK.out | apply KeepBut.set_ | apply keep_drewN | apply keep_drew | apply keep_alloc) | exact HK.out)⟩
   ·replace c5 := Bool.eq_false_iff.mpr c5
    subst c5
    have H1 : ((le_In_Text.f s0_0 s0_1 a1).bind fun bt229 => ((le_Get.f kj2 bt229.1).bind fun t232 => (some (t232, bt229.2.1, bt229.2.2)))) = some (r1, r2, r3) := by rw [if_neg (show ¬ (false = true) by decide)] at H; exact H
    clear H
    have H := H1
    clear H1
    replace H := Option.bind_eq_some_iff.mp H
    obtain ⟨⟨t229, t230, t231⟩, A110, H⟩ := H
    replace H : ((le_Get.f kj2 t229).bind fun t232 => (some (t232, t230, t231))) = some (r1, r2, r3) := H
    have A11 := Aside0.mk A110
    clear A110
    replace H := Option.bind_eq_some_iff.mp H
    obtain ⟨t232, A120, H⟩ := H
    replace H : (some (t232, t230, t231)) = some (r1, r2, r3) := H
    have A12 := Aside0.mk A120
    clear A120
    simp only [Option.some.injEq, Prod.mk.injEq] at H
    obtain ⟨rfl, rfl, rfl⟩ := H
    go_wp2_with (first | ((with_reducible refine gate_callee (f := 49) rfl ?_); refine goesL_ (some 19) rfl rfl Tryz.func49 (by kernel_rfl) rfl #[.pointer (some ⟨g, 0, none⟩), .int .i64 a1] rfl (by (try simp only [List.map_toArray, List.map_cons, List.map_nil]); first | done | rfl | (simp only [List.length_drop, List.length_take]; rfl) | (simp only [decide_eq_true_eq, decide_eq_false_iff_not, eq_iff_iff, iff_true, iff_false] at *; have w_id : ∀ {n : Int}, -9223372036854775808 ≤ n → n ≤ 9223372036854775807 → wrap64 n = n := fun h0 h1 => (by unfold wrap64; omega); rw [w_id (by omega) (by omega)]; rfl)) ?_; (with_reducible refine (le_In_Text.calls g s0_0 s0_1 a1 t229 t230 t231 w0 _ ?side1 ?side2 A11.out).mono ?_); (case side1 => repeat (first | (with_reducible first | exact HI0.out | apply IsS94.alloc | apply IsS94.drewN | apply IsS94.drew | apply IsS94.set_0 | apply IsS94.set_1_none | apply IsS94.set_1_some | apply IsS94.set_1) | exact HI0.out)); (case side2 => repeat (first | (with_reducible first | exact HB.out | apply below_alloc | apply pw_below_drewN | apply below_drew1 | refine below_set ?_ (IsS94.ge HI0.out)) | exact HB.out)); rintro e w13 ⟨rfl, hi, hb, hk⟩; refine ⟨_, rfl, ?_⟩; have n0_ := Aside0.mk (KeepBut.trans (by repeat (first | (with_reducible first | exact HK.out | apply KeepBut.set_ | apply keep_drewN | apply keep_drew | apply keep_alloc) | exact HK.out)) hk (.inl rfl)); have n1_ := Aside0.mk (hb); have n2_ := Aside0.mk (hi); clear HK; clear HB; clear HI0; have HK := n0_; have HB := n1_; have HI0 := n2_; clear n0_ n1_ n2_; (try clear hb); (try clear hb2); (try clear hk); (try clear hi); (try simp only [errW_none, errW_some])) | ((with_reducible refine gate_callee (f := 48) rfl ?_); refine goesL_ (some 20) rfl rfl Tryz.func48 (by kernel_rfl) rfl #[.string t229] rfl (by (try simp only [List.map_toArray, List.map_cons, List.map_nil]); first | done | rfl | (simp only [List.length_drop, List.length_take]; rfl) | (simp only [decide_eq_true_eq, decide_eq_false_iff_not, eq_iff_iff, iff_true, iff_false] at *; have w_id : ∀ {n : Int}, -9223372036854775808 ≤ n → n ≤ 9223372036854775807 → wrap64 n = n := fun h0 h1 => (by unfold wrap64; omega); rw [w_id (by omega) (by omega)]; rfl)) ?_; (with_reducible refine (le_Get.calls kj2 t229 t232 _ A12.out).mono ?_); rintro e w' ⟨rfl, ⟨nd, rfl⟩⟩; refine ⟨_, rfl, ?_⟩))
    go_ret
    exact ⟨by first | rfl | (simp [errW_none, errW_some] <;> rfl) | (simp [*, errW_none, errW_some] <;> rfl), by repeat (first | (with_reducible first | exact HI0.out | apply IsS94.alloc | apply IsS94.drewN | apply IsS94.drew | apply IsS94.set_0 | apply IsS94.set_1_none | apply IsS94.set_1_some | apply IsS94.set_1) | exact HI0.out), by repeat (first | (with_reducible first | exact HB.out | apply below_alloc | apply pw_below_drewN | apply below_drew1 | refine below_set ?_ (IsS94.ge HI0.out)) | exact HB.out), by repeat (first | (with_reducible first | exact HK.out | apply KeepBut.set_ | apply keep_drewN | apply keep_drew | apply keep_alloc) | exact HK.out)⟩

end Go.Proofs.YtmncfcebjohloaaGreatDoor.VInodePuts
