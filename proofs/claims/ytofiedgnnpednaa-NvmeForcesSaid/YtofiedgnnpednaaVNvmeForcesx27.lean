/- Contracts of functions of this seat: each call comes to what its Lean function computes; no condition beyond what each theorem states. Printed by a program of this session's own laid over the kit's printer. -/
import Derived.Test.YtofiedgnnpednaaVNvmeForcesx0
import Derived.Test.YtofiedgnnpednaaVNvmeForcesx1
import Derived.Test.YtofiedgnnpednaaVNvmeForcesx2
import Derived.Test.YtofiedgnnpednaaVNvmeForcesx3
import Derived.Test.YtofiedgnnpednaaVNvmeForcesx4
import Derived.Test.YtofiedgnnpednaaVNvmeForcesx6
import Derived.Test.YtofiedgnnpednaaVNvmeForcesx7
import Derived.Test.YtofiedgnnpednaaVNvmeForcesx12
import Derived.Test.YtofiedgnnpednaaVNvmeForcesx23
import Derived.Test.YtofiedgnnpednaaVNvmeForcesx24
import Derived.Test.YtofiedgnnpednaaVNvmeForcesx25
import Derived.Test.YtofiedgnnpednaaVNvmeForcesx26
namespace Go.Proofs.Ytofiedgnnpednaa.VNvmeForces
open Go.RowKit Go.Proofs.YtofiedgnnpednaaW.PrintWords Go.Proofs.YtofiedgnnpednaaW.PrintLast Go.Proofs.YtofiedgnnpednaaW.PrintMore
attribute [local go_sem] max2_int min2_int max_two min_two max_three min_three max_four min_four   -- for this text's walks alone
set_option linter.unusedVariables false
set_option linter.unusedSimpArgs false

-- @GIVEN posthorselaw04_NvmeForces
/-! ### posthorselaw04_NvmeForces: by hand -/
def posthorselaw04_NvmeForces.f (_ : List ByteArray) (_ : ByteArray) (_ : List Int) : Option Bool := some true
/-- Between two rounds: nothing waits. -/
def QuietD (D : Dev) (k : Nat) : Prop := D.queue = [] ∧ D.down = false ∧ D.fail = 0 ∧ D.sectors = 2 ∧ D.depth = 64 ∧ D.cache.length ≤ k
theorem quiet_ready {D : Dev} {k : Nat} (h : QuietD D k) : D.ready 1 = none := by
  obtain ⟨h1, h2, h3, h4, h5, h6⟩ := h
  unfold Dev.ready
  rw [h2, h4]
  rfl
theorem quiet_submit {D : Dev} {k : Nat} (h : QuietD D k) (kd : Int) (hk : kd = 2 ∨ kd = 3) (y : ByteArray) (hy : y.size = 512) : D.submit ⟨kd, 1, y, 0⟩ = ({ D with queue := [⟨kd, 1, y, 0⟩] }, none) := by
  have hr := quiet_ready h
  obtain ⟨h1, h2, h3, h4, h5, h6⟩ := h
  have ht : NC.trim ⟨kd, 1, y, 0⟩ = ⟨kd, 1, y, 0⟩ := by
    unfold NC.trim
    rcases hk with rfl | rfl <;> rfl
  unfold Dev.submit
  rw [ht]
  dsimp only
  rw [hr]
  dsimp only
  rw [if_pos hk, if_neg (fun e => e hy)]
  unfold Dev.enq
  rw [if_neg (by rw [h5, h1]; decide), h1]
  rfl
def wroteD (D : Dev) (y : ByteArray) : Dev := { D with queue := [], c2 := wrap64 (D.c2 + 1), cache := D.cache ++ [⟨2, 1, y, 0⟩] }
theorem quiet_wrote {D : Dev} {k : Nat} (h : QuietD D k) (y : ByteArray) : ((⟨2, 1, y, 0⟩ : NC), wroteD D y) = (let r := (({ ({ D with queue := [⟨2, 1, y, 0⟩] } : Dev).tick with queue := ({ D with queue := [⟨2, 1, y, 0⟩] } : Dev).queue.eraseIdx 0 }).bump 2).carry ⟨2, 1, y, 0⟩; (r.2, r.1)) := by
  obtain ⟨h1, h2, h3, h4, h5, h6⟩ := h
  simp [Dev.tick, Dev.bump, Dev.carry, h3, wroteD]
theorem quiet_next {D : Dev} {k : Nat} (h : QuietD D k) (y : ByteArray) : QuietD (wroteD D y) (k + 1) := by
  obtain ⟨h1, h2, h3, h4, h5, h6⟩ := h
  exact ⟨rfl, h2, h3, h4, h5, by simp [wroteD]; omega⟩
def forcedD (D : Dev) (y : ByteArray) : Dev := { D with queue := [], c3 := wrap64 (D.c3 + 1), cache := D.cache.filter (fun x => x.sector != 1), last := putM 1 ⟨3, 1, y, 0⟩ D.last }
theorem quiet_forced {D : Dev} {k : Nat} (h : QuietD D k) (y : ByteArray) : ((⟨3, 1, y, 0⟩ : NC), forcedD D y) = (let r := (({ ({ D with queue := [⟨3, 1, y, 0⟩] } : Dev).tick with queue := ({ D with queue := [⟨3, 1, y, 0⟩] } : Dev).queue.eraseIdx 0 }).bump 3).carry ⟨3, 1, y, 0⟩; (r.2, r.1)) := by
  obtain ⟨h1, h2, h3, h4, h5, h6⟩ := h
  simp [Dev.tick, Dev.bump, Dev.carry, h3, forcedD]
theorem look_puts (s : Int) : ∀ (l : List NC) (m : List (Int × NC)), (∀ x ∈ l, x.sector ≠ s) → lookM s (putsM l m) = lookM s m
  | [], _, _ => rfl
  | x :: l, m, h => by
    have h1 := look_puts s l (putM x.sector x m) (fun y hy => h y (List.mem_cons_of_mem _ hy))
    have h2 : putsM (x :: l) m = putsM l (putM x.sector x m) := rfl
    rw [h2, h1, look_put, if_neg (fun e => h x List.mem_cons_self e.symm)]
theorem kept_mem (keep : List Int) : ∀ (l : List NC) (i : Nat) (x : NC), x ∈ keptOf keep i l → x ∈ l
  | [], _, _, h => h
  | y :: l, i, x, h => by
    rw [keptOf] at h
    split at h
    · exact List.mem_cons_of_mem _ (kept_mem keep l (i + 1) x h)
    · rcases List.mem_cons.1 h with rfl | h
      · exact List.mem_cons_self
      · exact List.mem_cons_of_mem _ (kept_mem keep l (i + 1) x h)
theorem forced_look {D : Dev} {k : Nat} (h : QuietD D k) (y : ByteArray) (keep : List Int) : (((forcedD D y).crash keep).boot).look 1 = (y, none) := by
  obtain ⟨h1, h2, h3, h4, h5, h6⟩ := h
  have hd : (forcedD D y).down = false := h2
  have hc : (forcedD D y).crash keep = (forcedD D y).lose keep := by
    unfold Dev.crash
    rw [hd]
    rfl
  rw [hc]
  have hl : lookM 1 (putsM (keptOf keep 0 ((forcedD D y).cache ++ writesOf (forcedD D y).queue)) (forcedD D y).last) = some ⟨3, 1, y, 0⟩ := by
    rw [look_puts]
    · show lookM 1 (putM 1 ⟨3, 1, y, 0⟩ D.last) = _
      rw [look_put, if_pos rfl]
    · intro x hx
      have hx := kept_mem _ _ _ _ hx
      rw [show writesOf (forcedD D y).queue = [] from rfl, List.append_nil] at hx
      have hx : x ∈ D.cache.filter (fun x => x.sector != 1) := hx
      have := (List.mem_filter.1 hx).2
      simpa using this
  unfold Dev.look
  have hr : (((forcedD D y).lose keep).boot).ready 1 = none := by
    unfold Dev.ready
    show (if false = true then some 3 else if (1 : Int) < 0 ∨ D.sectors ≤ 1 then some 1 else none) = none
    rw [h4]
    rfl
  rw [hr]
  dsimp only
  have hf : (((forcedD D y).lose keep).boot).found 1 = y := by
    unfold Dev.found
    show (match lookC 1 [] with | some c => c.data | none => match lookM 1 (putsM (keptOf keep 0 ((forcedD D y).cache ++ writesOf (forcedD D y).queue)) (forcedD D y).last) with | some c => c.data | none => noughts) = y
    rw [hl]
    rfl
  rw [hf]
/-- The cut of a short text. -/
theorem cut_min (x : ByteArray) : ∃ n : Nat, n ≤ 20 ∧ n ≤ x.size ∧ mn (x.size : Int) 20 = (n : Int) ∧ (x.extract 0 n).size ≤ 20 := by
  refine ⟨min x.size 20, Nat.min_le_right _ _, Nat.min_le_left _ _, ?_, ?_⟩
  · unfold mn
    split <;> omega
  · rw [ByteArray.size_extract]
    omega
/-- What is to be kept, in a row of its own. -/
theorem app_keep {w W : World} {A2 : Option Addr} {l2 : List Int} (hr2 : Kd.C (Kd.int .i64) w A2 l2.length l2) (hb : Below w.heap.size w W) (n2 c2 : Nat) (hn : n2 ≤ l2.length) (h9 : n2 ≤ 9) :
    ∃ v' w', (Builtin.append_ #[23, 23] 23 #[.slice (some ⟨W.heap.size, 0, none⟩) 0 0, .slice A2 n2 c2]).run Try.prog (W.alloc (.cells #[] 3)) = .ok v' w' ∧ w'.ownsRow W.heap.size 3 1 v' (l2.take n2).length ((l2.take n2).map (.int .i64)) ∧ Below W.heap.size W w' := by
  have hm : maxLen = 9223372036854775807 := rfl
  obtain ⟨i0, hi, hz0, hz1, hz2⟩ := info_parts (P := Try.prog) (e := 3) (z := .int .i64 0) (size := 1) (bytes := 8) (by kernel_rfl)
  have hlen : (l2.take n2).length = n2 := by rw [List.length_take]; omega
  have hbw := below_alloc hb (.cells #[] 3)
  have hz := World.ownsRow_made (e := 3) (size := 1) (base := W.heap.size) W #[] 0 (Nat.le_refl _) (by omega) rfl
  cases A2 with
  | none =>
    have h0 : n2 = 0 := by
      by_cases e : n2 = 0
      · exact e
      · obtain ⟨ad, ea, _⟩ := Kd.at_int hr2 0 (by omega) (by omega)
        cases ea
    subst h0
    refine ⟨.slice (some ⟨W.heap.size, 0, none⟩) 0 0, W.alloc (.cells #[] 3), ?_, by simpa using hz, below_alloc (Below.refl _ _) _⟩
    simp [Builtin.append_, run_underlying Try.underlying23, sizeOf, typeInfo, hi, Builtin.lenOf, Builtin.firstCells, loadCells, loadCellsFrom, storeCells]
  | some ad =>
    obtain ⟨v', w', hr, o1, o2, _⟩ := run_append_own (P := Try.prog) (w := W.alloc (.cells #[] 3)) W.heap.size 23 23 3 i0 (.int .i64 0) 1 8 Try.underlying23 hi hz0 hz1 hz2 rfl (by decide) (.slice (some ⟨W.heap.size, 0, none⟩) 0 0) 0 [] hz ad n2 c2 ((l2.take n2).map (.int .i64)) (by rw [List.length_map, hlen]; omega)
      (fun j u hu => by
        have hj : j < n2 := by
          have := (List.getElem?_eq_some_iff.1 hu).1
          rw [List.length_map, hlen] at this
          exact this
        obtain ⟨ad', ea, hc⟩ := Kd.at_int hr2 (j : Int) (by omega) (by omega)
        cases ea
        rw [Int.toNat_natCast] at hc
        have hjl : j < l2.length := by omega
        have e : u = .int .i64 (rd l2 (j : Int)) := by
          rw [List.getElem?_map, List.getElem?_take, if_pos hj, List.getElem?_eq_getElem hjl] at hu
          obtain rfl := Option.some.inj hu
          show Value.int .i64 l2[j] = .int .i64 (l2.getD (j : Int).toNat 0)
          rw [Int.toNat_natCast, List.getD_eq_getElem?_getD, List.getElem?_eq_getElem hjl]
          rfl
        rw [e]
        exact pw_cell_below hbw hc)
      (fun u hu => by obtain ⟨x, _, rfl⟩ := List.mem_map.1 hu; rfl) (by omega) (by omega) (by simp)
    rw [Nat.zero_add, List.nil_append] at o1
    refine ⟨v', w', hr, by rw [hlen]; exact o1, (below_alloc (Below.refl W.heap.size W) (.cells #[] 3)).grown o2 (by simp) (fun q e => by cases e; exact Nat.le_refl _)⟩
def law04_NvmeForces.T7 : Bool × List (List Nat × List Nat) := (true, [([], []), ([], []), ([], []), ([1, 2], [1, 2]), ([3], [3]), ([], []), ([], []), ([5, 6], [5, 6]), ([7], [7]), ([8], [8]), ([9], [9]), ([4, 10], [4, 10]), ([11], [11]), ([12], [12]), ([0, 13, 12], [0, 13])])
def law04_NvmeForces.B7 : List Nat := [0, 0, 0, 6, 14, 0, 0, 96, 224, 480, 992, 2046, 4094, 8190, 16383]
theorem law04_NvmeForces.tab7 : rtab .any (opsOf Try.f4 7) = law04_NvmeForces.T7 := by kernel_rfl
theorem law04_NvmeForces.bits7 : waitsOk law04_NvmeForces.T7.2 law04_NvmeForces.B7 = true := by kernel_rfl
set_option maxHeartbeats 32000000 in
set_option maxRecDepth 100000 in
theorem posthorselaw04_NvmeForces.calls (A0 : Option Addr) (c0 : Nat) (l0 : List ByteArray) (a1 : ByteArray) (A2 : Option Addr) (c2 : Nat) (l2 : List Int) (r : Bool) (w : World) (hr0 : Kd.C Kd.string w A0 l0.length l0) (hc0 : l0.length ≤ c0) (hr2 : Kd.C (Kd.int .i64) w A2 l2.length l2) (hc2 : l2.length ≤ c2) (h : posthorselaw04_NvmeForces.f l0 a1 l2 = some r) :
    Calls Try.prog 4 #[.slice A0 l0.length c0, .string a1, .slice A2 l2.length c2] w fun e w' => e = .returned (.bool r) ∧ Below w.heap.size w w' := by
  obtain rfl := Option.some.inj h
  clear h
  have HR0 := Aside0.mk hr0
  have HR2 := Aside0.mk hr2
  have HC2 := Aside0.mk hc2
  clear hr0 hr2 hc0 hc2
  go_enter Try.func4, Try.ntmps4
  go_wp2_with (fail)
  refine (posthorselaw04_speaks.calls true _ rfl).mono ?_
  rintro e w1 ⟨rfl, hb1⟩
  have HB1 := Aside0.mk hb1
  clear hb1
  go_wp2_with (fail)
  refine (nNew 2 64 (by decide) (by decide) (by decide) (by decide) w1).mono ?_
  rintro e w2 ⟨P2, rfl, hd2, hb2⟩
  have HB2 := Aside0.mk (HB1.out.trans (hb2.mono (Below.size HB1.out)))
  have HD2 := Aside0.mk (hd2.le (Below.size HB1.out))
  clear hd2 hb2
  obtain ⟨d, hd⟩ : ∃ d, d = P2.d := ⟨_, rfl⟩
  rw [← hd]
  have HDD := Aside0.mk hd.symm
  clear hd
  go_wp2_with (fail)
  go_loopw [9] (fun vi wr => ∃ (k : Nat) (P : DevP) (D : Dev), vi = .int .i64 k ∧ k ≤ 20 ∧ P.d = d ∧ DevAt w.heap.size wr P D ∧ QuietD D k ∧ Below w.heap.size w wr) (fun vi _ => 20 - (intOf vi).toNat)
  case atStart => exact ⟨0, P2, _, rfl, by decide, HDD.out, HD2.out, ⟨rfl, rfl, rfl, rfl, rfl, Nat.le_refl _⟩, HB2.out⟩
  case round =>
    obtain ⟨k, P, D, rfl, hk20, hpd, hd, hq, hb⟩ := hrel
    clear HB1 HB2 HD2 HDD
    have HP := Aside0.mk hpd
    have HD := Aside0.mk hd
    have HQ := Aside0.mk hq
    have HB := Aside0.mk hb
    clear hpd hd hq hb
    by_cases hlt : k < l0.length ∧ k < 20
    · have p1 : decide ((k : Int) < (l0.length : Int)) = true := decide_eq_true (by omega)
      have p2 : decide ((k : Int) < 20) = true := decide_eq_true (by omega)
      have p1n : decide (k < l0.length) = true := decide_eq_true hlt.1
      have p2n : decide (k < 20) = true := decide_eq_true hlt.2
      obtain ⟨ad, rfl, hx⟩ := Kd.at_string HR0.out (k : Int) (by omega) (by omega)
      obtain ⟨x, hxe⟩ : ∃ x, x = rdOf ByteArray.empty l0 (k : Int) := ⟨_, rfl⟩
      rw [← hxe, Int.toNat_natCast] at hx
      clear hxe
      have hw2 := wr_succ k (by omega)
      have hlt1 := hlt.1
      have HK := Aside0.mk hlt
      clear hlt hk20
      obtain ⟨n, hn20, hnx, hmn, hsz⟩ := cut_min x
      obtain ⟨zy, hfy, hsy⟩ := full_eq (x.extract 0 n) hsz
      obtain ⟨y, hy⟩ : ∃ y, y = x.extract 0 n ++ zy := ⟨_, rfl⟩
      rw [← hy] at hfy hsy
      clear hy
      have HMN := Aside0.mk hmn
      have HNX := Aside0.mk hnx
      have H12LL := Aside0.mk (fun W => posthorselaw04_full.calls _ _ W hfy)
      have HXW := Aside0.mk hx
      have HX := Aside0.mk (pw_cell_below HB.out hx)
      have HSY := Aside0.mk hsy
      have H11B := Aside0.mk (show ∀ W : World, DevAt w.heap.size W P D → Below w.heap.size w W → Calls Try.prog 11 #[.pointer (some ⟨d, 0, none⟩), .agg #[.int .i64 2, .int .i64 1, .string y, .int .i64 0]] W (fun r w' => r = .returned .nilIface ∧ (∃ P' : DevP, P'.d = d ∧ DevAt w.heap.size w' P' { D with queue := [⟨2, 1, y, 0⟩] }) ∧ Below w.heap.size W w') from fun W hW hbW => by
        have hcall := nSubmit2 P D 1 0 y W w.heap.size (Below.size hbW) hW (by rw [HQ.out.1]; decide)
        rw [quiet_submit HQ.out 2 (.inl rfl) y HSY.out, HP.out] at hcall
        refine hcall.mono ?_
        rintro e w' ⟨P', rfl, hd', hk'⟩
        exact ⟨rfl, ⟨P', hk'.d.trans HP.out, hd'⟩, hk'.below (fun q hq => (hW.lt q hq).1) (Below.size hbW)⟩)
      clear hx hn20 hnx hmn hsz hfy hsy
      go_upto_region 7 with (fail)
      clear HR0 HR2
      generalize wr = w3 at HD HB HX ⊢
      refine start_ (n := 15) (S := fun w' => True) (ds := []) #[false, false, false, false, false, false, false, false, false, false, false, false, false, false, false] (by kernel_rfl) rfl rfl trivial (fun hHeld => ?_)
      refine with_tabW law04_NvmeForces.tab7 law04_NvmeForces.bits7 (fun HT_ HW_ => ?_)
      have n0_ := Aside0.mk HD.out.drew; have n1_ := Aside0.mk HB.out.drew; have n2_ := Aside0.mk (show w3.drew.cell? _ = _ from HX.out); clear HD HB HX; have HD := n0_; have HB := n1_; have HX := n2_; clear n0_ n1_ n2_; generalize w3.drew = wd at HD HB HX ⊢
      refine pure_ (i := 0) (N := some 31) (v := ?_) (a' := ?_) #[true, false, false, false, false, false, false, false, false, false, false, false, false, false, false] rfl rfl (any_of HT_.out (by kernel_rfl)) (fun _ _ _ h => h) (Or.inl ⟨by rfl, ?_⟩) ?_ ?_
      rotate_left
      · intro w'
        go_simp
        with_reducible rfl
      rotate_left
      · simp only [Act.put, List.setIfInBounds_toArray, List.set_cons_zero, List.set_cons_succ, i64_w, i32_w]
        rfl
      refine pure_ (i := 1) (N := some 32) (v := ?_) (a' := ?_) #[true, true, false, false, false, false, false, false, false, false, false, false, false, false, false] rfl rfl (any_of HT_.out (by kernel_rfl)) (fun _ _ _ h => h) (Or.inl ⟨by rfl, ?_⟩) ?_ ?_
      rotate_left
      · intro w'
        go_simp
        with_reducible rfl
      rotate_left
      · simp only [Act.put, List.setIfInBounds_toArray, List.set_cons_zero, List.set_cons_succ, i64_w, i32_w]
        rfl
      refine pure_ (i := 2) (N := some 33) (v := ?_) (a' := ?_) #[true, true, true, false, false, false, false, false, false, false, false, false, false, false, false] rfl rfl (any_of HT_.out (by kernel_rfl)) (fun _ _ _ h => h) (Or.inl ⟨by rfl, ?_⟩) ?_ ?_
      rotate_left
      · intro w'
        go_simp
        with_reducible rfl
      rotate_left
      · simp only [Act.put, List.setIfInBounds_toArray, List.set_cons_zero, List.set_cons_succ, i64_w, i32_w]
        rfl
      refine pure_ (i := 5) (N := some 36) (v := ?_) (a' := ?_) #[true, true, true, false, false, true, false, false, false, false, false, false, false, false, false] rfl rfl (any_of HT_.out (by kernel_rfl)) (fun _ _ _ h => h) (Or.inl ⟨by rfl, ?_⟩) ?_ ?_
      rotate_left
      · intro w'
        go_simp
        with_reducible rfl
      rotate_left
      · simp only [Act.put, List.setIfInBounds_toArray, List.set_cons_zero, List.set_cons_succ, i64_w, i32_w]
        rfl
      refine pure_ (i := 6) (N := some 37) (v := ?_) (a' := ?_) #[true, true, true, false, false, true, true, false, false, false, false, false, false, false, false] rfl rfl (any_of HT_.out (by kernel_rfl)) (fun _ _ _ h => h) (Or.inl ⟨by rfl, ?_⟩) ?_ ?_
      rotate_left
      · intro w'
        go_simp
        with_reducible rfl
      rotate_left
      · simp only [Act.put, List.setIfInBounds_toArray, List.set_cons_zero, List.set_cons_succ, i64_w, i32_w]
        rfl
      refine inv_at [3, 4, 7, 8, 9, 10, 11, 12, 13, 14] (fun a0_ b a w' => a = putSel a0_ b [(3, 34, .pointer (some (ad.add k))), (4, 35, .string x), (7, 38, .pointer (some (ad.add k))), (8, 39, .string x), (9, 40, .int .i64 (x.size : Int)), (10, 41, .int .i64 (n : Int)), (11, 42, .string (x.extract 0 n)), (12, 43, .string y), (13, 44, .agg #[.int .i64 2, .int .i64 1, .string y, .int .i64 0]), (14, 45, .nilIface)] ∧ (Below w.heap.size w w') ∧ (b 14 = false → DevAt w.heap.size w' P D) ∧ (w'.cell? (ad.add k) = some (.string x)) ∧ (b 14 = true → ∃ P' : DevP, P'.d = d ∧ DevAt w.heap.size w' P' { D with queue := [⟨2, 1, y, 0⟩] })) HT_.out HW_.out (by kernel_rfl) (by kernel_rfl) ?_ ?_ ?_
      · exact ⟨by simp only [putSel, Bool.false_eq_true, if_false], HB.out, fun _ => HD.out, HX.out, fun h_ => absurd h_ (by decide)⟩
      · skip
        clear HB HD HX
        refine steps_cons ?_ ?_
        · rintro b a w' ⟨ha, Q_HB, Q_HD, Q_HX, Q_HF⟩ hb_ hon hoff
          refine ⟨_, rfl, fun K hK => ?_⟩
          have e32 : a.tmps[32]? = some (.slice (some ad) l0.length c0) := by rw [ha]; exact (putSel_off rfl).trans rfl
          have e33 : a.tmps[33]? = some (.int .i64 (k : Int)) := by rw [ha]; exact (putSel_off rfl).trans rfl
          replace ha := Aside0.mk ha
          have HB := Aside0.mk Q_HB
          have HD := Aside0.mk (Q_HD (hoff 14 (by kernel_rfl)))
          have HX := Aside0.mk Q_HX
          refine value_ (w1 := w') (v := .pointer (some (ad.add k))) (by rfl) rfl ?_ ?_
          · go_simp
            (try simp only [i64_w])
            try rfl
          refine hK.out _ _ ⟨(by rw [ha.out]; exact putSel_upk 0 hb_ rfl rfl rfl), Q_HB, Q_HD, Q_HX, fun h0_ => absurd ((hoff 14 (by kernel_rfl)).symm.trans h0_) (by decide)⟩
        refine steps_cons ?_ ?_
        · rintro b a w' ⟨ha, Q_HB, Q_HD, Q_HX, Q_HF⟩ hb_ hon hoff
          refine ⟨_, rfl, fun K hK => ?_⟩
          have e34 : a.tmps[34]? = some (.pointer (some (ad.add k))) := by rw [ha]; exact putSel_on (e := (3, 34, .pointer (some (ad.add k)))) 0 rfl rfl (hon 3 (by kernel_rfl)) rfl
          replace ha := Aside0.mk ha
          have HB := Aside0.mk Q_HB
          have HD := Aside0.mk (Q_HD (hoff 14 (by kernel_rfl)))
          have HX := Aside0.mk Q_HX
          have hx_ := HX.out
          refine value_ (w1 := w') (v := .string x) (by rfl) rfl ?_ ?_
          · go_simp
            (try simp only [i64_w])
            try rfl
          refine hK.out _ _ ⟨(by rw [ha.out]; exact putSel_upk 1 hb_ rfl rfl rfl), Q_HB, Q_HD, Q_HX, fun h0_ => absurd ((hoff 14 (by kernel_rfl)).symm.trans h0_) (by decide)⟩
        refine steps_cons ?_ ?_
        · rintro b a w' ⟨ha, Q_HB, Q_HD, Q_HX, Q_HF⟩ hb_ hon hoff
          refine ⟨_, rfl, fun K hK => ?_⟩
          have e36 : a.tmps[36]? = some (.slice (some ad) l0.length c0) := by rw [ha]; exact (putSel_off rfl).trans rfl
          have e37 : a.tmps[37]? = some (.int .i64 (k : Int)) := by rw [ha]; exact (putSel_off rfl).trans rfl
          replace ha := Aside0.mk ha
          have HB := Aside0.mk Q_HB
          have HD := Aside0.mk (Q_HD (hoff 14 (by kernel_rfl)))
          have HX := Aside0.mk Q_HX
          refine value_ (w1 := w') (v := .pointer (some (ad.add k))) (by rfl) rfl ?_ ?_
          · go_simp
            (try simp only [i64_w])
            try rfl
          refine hK.out _ _ ⟨(by rw [ha.out]; exact putSel_upk 2 hb_ rfl rfl rfl), Q_HB, Q_HD, Q_HX, fun h0_ => absurd ((hoff 14 (by kernel_rfl)).symm.trans h0_) (by decide)⟩
        refine steps_cons ?_ ?_
        · rintro b a w' ⟨ha, Q_HB, Q_HD, Q_HX, Q_HF⟩ hb_ hon hoff
          refine ⟨_, rfl, fun K hK => ?_⟩
          have e38 : a.tmps[38]? = some (.pointer (some (ad.add k))) := by rw [ha]; exact putSel_on (e := (7, 38, .pointer (some (ad.add k)))) 2 rfl rfl (hon 7 (by kernel_rfl)) rfl
          replace ha := Aside0.mk ha
          have HB := Aside0.mk Q_HB
          have HD := Aside0.mk (Q_HD (hoff 14 (by kernel_rfl)))
          have HX := Aside0.mk Q_HX
          have hx_ := HX.out
          refine value_ (w1 := w') (v := .string x) (by rfl) rfl ?_ ?_
          · go_simp
            (try simp only [i64_w])
            try rfl
          refine hK.out _ _ ⟨(by rw [ha.out]; exact putSel_upk 3 hb_ rfl rfl rfl), Q_HB, Q_HD, Q_HX, fun h0_ => absurd ((hoff 14 (by kernel_rfl)).symm.trans h0_) (by decide)⟩
        refine steps_cons ?_ ?_
        · rintro b a w' ⟨ha, Q_HB, Q_HD, Q_HX, Q_HF⟩ hb_ hon hoff
          refine ⟨_, rfl, fun K hK => ?_⟩
          have e39 : a.tmps[39]? = some (.string x) := by rw [ha]; exact putSel_on (e := (8, 39, .string x)) 3 rfl rfl (hon 8 (by kernel_rfl)) rfl
          replace ha := Aside0.mk ha
          have HB := Aside0.mk Q_HB
          have HD := Aside0.mk (Q_HD (hoff 14 (by kernel_rfl)))
          have HX := Aside0.mk Q_HX
          refine value_ (w1 := w') (v := .int .i64 (x.size : Int)) (by rfl) rfl ?_ ?_
          · go_simp
            (try simp only [i64_w])
            try rfl
          refine hK.out _ _ ⟨(by rw [ha.out]; exact putSel_upk 4 hb_ rfl rfl rfl), Q_HB, Q_HD, Q_HX, fun h0_ => absurd ((hoff 14 (by kernel_rfl)).symm.trans h0_) (by decide)⟩
        refine steps_cons ?_ ?_
        · rintro b a w' ⟨ha, Q_HB, Q_HD, Q_HX, Q_HF⟩ hb_ hon hoff
          refine ⟨_, rfl, fun K hK => ?_⟩
          have e40 : a.tmps[40]? = some (.int .i64 (x.size : Int)) := by rw [ha]; exact putSel_on (e := (9, 40, .int .i64 (x.size : Int))) 4 rfl rfl (hon 9 (by kernel_rfl)) rfl
          replace ha := Aside0.mk ha
          have HB := Aside0.mk Q_HB
          have HD := Aside0.mk (Q_HD (hoff 14 (by kernel_rfl)))
          have HX := Aside0.mk Q_HX
          refine value_ (w1 := w') (v := .int .i64 (n : Int)) (by rfl) rfl ?_ ?_
          · have hm_ := HMN.out
            unfold mn at hm_
            simp [execOp, resolve, invoke, builtin, Act.eval, Builtin.min_, min2_int, hm_, *]
          refine hK.out _ _ ⟨(by rw [ha.out]; exact putSel_upk 5 hb_ rfl rfl rfl), HB.out, fun _ => HD.out, HX.out, fun h0_ => absurd ((hoff 14 (by kernel_rfl)).symm.trans h0_) (by decide)⟩
        refine steps_cons ?_ ?_
        · rintro b a w' ⟨ha, Q_HB, Q_HD, Q_HX, Q_HF⟩ hb_ hon hoff
          refine ⟨_, rfl, fun K hK => ?_⟩
          have e35 : a.tmps[35]? = some (.string x) := by rw [ha]; exact putSel_on (e := (4, 35, .string x)) 1 rfl rfl (hon 4 (by kernel_rfl)) rfl
          have e41 : a.tmps[41]? = some (.int .i64 (n : Int)) := by rw [ha]; exact putSel_on (e := (10, 41, .int .i64 (n : Int))) 5 rfl rfl (hon 10 (by kernel_rfl)) rfl
          replace ha := Aside0.mk ha
          have HB := Aside0.mk Q_HB
          have HD := Aside0.mk (Q_HD (hoff 14 (by kernel_rfl)))
          have HX := Aside0.mk Q_HX
          refine value_ (w1 := w') (v := .string (x.extract 0 n)) (by rfl) rfl ?_ ?_
          · have hm_ := HNX.out
            go_simp
          refine hK.out _ _ ⟨(by rw [ha.out]; exact putSel_upk 6 hb_ rfl rfl rfl), HB.out, fun _ => HD.out, HX.out, fun h0_ => absurd ((hoff 14 (by kernel_rfl)).symm.trans h0_) (by decide)⟩
        refine steps_cons ?_ ?_
        · rintro b a w' ⟨ha, Q_HB, Q_HD, Q_HX, Q_HF⟩ hb_ hon hoff
          refine ⟨_, rfl, fun K hK => ?_⟩
          have e42 : a.tmps[42]? = some (.string (x.extract 0 n)) := by rw [ha]; exact putSel_on (e := (11, 42, .string (x.extract 0 n))) 6 rfl rfl (hon 11 (by kernel_rfl)) rfl
          replace ha := Aside0.mk ha
          have HB := Aside0.mk Q_HB
          have HD := Aside0.mk (Q_HD (hoff 14 (by kernel_rfl)))
          have HX := Aside0.mk Q_HX
          refine goes_ Try.func12 (by kernel_rfl) rfl #[.string (x.extract 0 n)] (by rfl) rfl rfl (by first | (simp only [List.map_toArray, List.map_cons, List.map_nil, Act.eval, Array.getD_eq_getD_getElem?, Option.getD_some, e42]; done) | (simp only [List.map_toArray, List.map_cons, List.map_nil, Act.eval, Array.getD_eq_getD_getElem?, Option.getD_some, e42]; rfl)) ?_
          with_reducible refine (H12LL.out _).mono ?_
          rintro e_ wN ⟨rfl, hbw_⟩
          refine ⟨_, rfl, ?_⟩
          refine hK.out _ _ ⟨(by rw [ha.out]; exact putSel_upk 7 hb_ rfl rfl rfl), below_step HB.out hbw_, fun _ => (fun hd_ hb_ => DevAt.below hd_ hb_) (HD.out) (hbw_), (fun hc_ hb_ => pw_cell_below hb_ hc_) (HX.out) (hbw_), fun h0_ => absurd ((hoff 14 (by kernel_rfl)).symm.trans h0_) (by decide)⟩
        refine steps_cons ?_ ?_
        · rintro b a w' ⟨ha, Q_HB, Q_HD, Q_HX, Q_HF⟩ hb_ hon hoff
          refine ⟨_, rfl, fun K hK => ?_⟩
          have e43 : a.tmps[43]? = some (.string y) := by rw [ha]; exact putSel_on (e := (12, 43, .string y)) 7 rfl rfl (hon 12 (by kernel_rfl)) rfl
          replace ha := Aside0.mk ha
          have HB := Aside0.mk Q_HB
          have HD := Aside0.mk (Q_HD (hoff 14 (by kernel_rfl)))
          have HX := Aside0.mk Q_HX
          refine value_ (w1 := w') (v := .agg #[.int .i64 2, .int .i64 1, .string y, .int .i64 0]) (by rfl) rfl ?_ ?_
          · go_simp
            (try simp only [i64_w])
            try rfl
          refine hK.out _ _ ⟨(by rw [ha.out]; exact putSel_upk 8 hb_ rfl rfl rfl), Q_HB, Q_HD, Q_HX, fun h0_ => absurd ((hoff 14 (by kernel_rfl)).symm.trans h0_) (by decide)⟩
        refine steps_cons ?_ ?_
        · rintro b a w' ⟨ha, Q_HB, Q_HD, Q_HX, Q_HF⟩ hb_ hon hoff
          refine ⟨_, rfl, fun K hK => ?_⟩
          have e31 : a.tmps[31]? = some (.pointer (some ⟨d, 0, none⟩)) := by rw [ha]; exact (putSel_off rfl).trans rfl
          have e44 : a.tmps[44]? = some (.agg #[.int .i64 2, .int .i64 1, .string y, .int .i64 0]) := by rw [ha]; exact putSel_on (e := (13, 44, .agg #[.int .i64 2, .int .i64 1, .string y, .int .i64 0])) 8 rfl rfl (hon 13 (by kernel_rfl)) rfl
          replace ha := Aside0.mk ha
          have HB := Aside0.mk Q_HB
          have HD := Aside0.mk (Q_HD hb_)
          have HX := Aside0.mk Q_HX
          refine goes_ Try.func11 (by kernel_rfl) rfl #[.pointer (some ⟨d, 0, none⟩), .agg #[.int .i64 2, .int .i64 1, .string y, .int .i64 0]] (by rfl) rfl rfl (by first | (simp only [List.map_toArray, List.map_cons, List.map_nil, Act.eval, Array.getD_eq_getD_getElem?, Option.getD_some, e31, e44]; done) | (simp only [List.map_toArray, List.map_cons, List.map_nil, Act.eval, Array.getD_eq_getD_getElem?, Option.getD_some, e31, e44]; rfl)) ?_
          with_reducible refine (H11B.out _ HD.out HB.out).mono ?_
          rintro e_ wN ⟨rfl, hf_, hbw_⟩
          refine ⟨_, rfl, ?_⟩
          refine hK.out _ _ ⟨(by rw [ha.out]; exact putSel_upk 9 hb_ rfl rfl rfl), HB.out.trans hbw_, fun h0_ => absurd ((up_self b 14).symm.trans h0_) (by decide), pw_cell_below (HB.out.trans hbw_) HXW.out, fun h0_ => hf_⟩
        exact steps_nil
      rintro b a w7 hall ⟨ha, Q_HB, Q_HD, Q_HX, Q_HF⟩
      clear HB HD HX
      have hb3_ := hall 3 (by kernel_rfl)
      have hb4_ := hall 4 (by kernel_rfl)
      have hb7_ := hall 7 (by kernel_rfl)
      have hb8_ := hall 8 (by kernel_rfl)
      have hb9_ := hall 9 (by kernel_rfl)
      have hb10_ := hall 10 (by kernel_rfl)
      have hb11_ := hall 11 (by kernel_rfl)
      have hb12_ := hall 12 (by kernel_rfl)
      have hb13_ := hall 13 (by kernel_rfl)
      have hb14_ := hall 14 (by kernel_rfl)
      subst ha
      simp only [putSel, hb3_, hb4_, hb7_, hb8_, hb9_, hb10_, hb11_, hb12_, hb13_, hb14_, if_true, Act.put, List.setIfInBounds_toArray, List.set_cons_zero, List.set_cons_succ]
      have HB := Aside0.mk Q_HB
      clear Q_HB
      clear Q_HD
      have HX := Aside0.mk Q_HX
      clear Q_HX
      have HF := Aside0.mk (Q_HF hb14_)
      clear Q_HF
      clear hall hb3_ hb4_ hb7_ hb8_ hb9_ hb10_ hb11_ hb12_ hb13_ hb14_
      obtain ⟨P4, hp4, hd4⟩ := HF.out
      clear HF HX H11B H12LL
      go_wp2_with (fail)
      have hcall := nCompGood2 P4 { D with queue := [⟨2, 1, y, 0⟩] } 0 ⟨2, 1, y, 0⟩ w7 w.heap.size (Below.size HB.out) hd4 HQ.out.2.1 (by decide : (0 : Nat) < 1) rfl (by rw [show ({ D with queue := [⟨2, 1, y, 0⟩] } : Dev).fail = 0 from HQ.out.2.2.1]; decide) (Nat.lt_of_le_of_lt HQ.out.2.2.2.2.2 (Nat.lt_trans HK.out.2 (by decide))) (by decide : (1 : Nat) < 100000000) rfl _ (quiet_wrote HQ.out y) (by rw [show ({ D with queue := [⟨2, 1, y, 0⟩] } : Dev).fail = 0 from HQ.out.2.2.1]; decide)
      rw [hp4] at hcall
      refine hcall.mono ?_
      clear hcall
      rintro e w8 ⟨P8, rfl, hd8, hk8⟩
      have HB8 := Aside0.mk (HB.out.trans (hk8.below (fun q hq => (hd4.lt q hq).1) (Below.size HB.out)))
      have HD8 := Aside0.mk hd8
      have HP8 := Aside0.mk (hk8.d.trans hp4)
      clear hd8 hk8 hd4 hp4
      go_wp2_with (fail)
      go_roundw
      case rel => exact ⟨k + 1, P8, wroteD D y, by first | (rw [hw2]; done) | simp, HK.out.2, HP8.out, HD8.out, quiet_next HQ.out y, HB8.out⟩
      case measure => first | exact meas_succ HK.out.2 | (rw [hw2]; exact meas_succ HK.out.2)
    · have HK := Aside0.mk hk20
      by_cases h1 : k < l0.length
      · have p1 : decide ((k : Int) < (l0.length : Int)) = true := decide_eq_true (by omega)
        have p1n : decide (k < l0.length) = true := decide_eq_true h1
        have p2 : decide ((k : Int) < 20) = false := decide_eq_false (by omega)
        have p2n : decide (k < 20) = false := decide_eq_false (by omega)
        clear h1
        clear hlt hk20
        obtain ⟨n, hn20, hnx, hmn, hsz⟩ := cut_min a1
        obtain ⟨zy, hfy, hsy⟩ := full_eq (a1.extract 0 n) hsz
        obtain ⟨y, hy⟩ : ∃ y, y = a1.extract 0 n ++ zy := ⟨_, rfl⟩
        rw [← hy] at hfy hsy
        clear hy
        have hmi := hmn
        unfold mn at hmi
        have HFULL := Aside0.mk (fun W => posthorselaw04_full.calls _ _ W hfy)
        have HSY := Aside0.mk hsy
        obtain ⟨n2, hn2, hn9, hm2⟩ : ∃ n2 : Nat, n2 ≤ l2.length ∧ n2 ≤ 9 ∧ (if (9 : Int) < (l2.length : Int) then (9 : Int) else (l2.length : Int)) = (n2 : Int) := ⟨min l2.length 9, Nat.min_le_left _ _, Nat.min_le_right _ _, by split <;> omega⟩
        have hn2c : n2 ≤ c2 := Nat.le_trans hn2 HC2.out
        have HN := Aside0.mk (And.intro hn2 hn9)
        clear hmn hsz hfy hsy hn9 hn20
        go_wp2_with (fail)
        refine (HFULL.out _).mono ?_
        rintro e w3 ⟨rfl, hb3⟩
        have HB3 := Aside0.mk (HB.out.trans (hb3.mono (Below.size HB.out)))
        have HD3 := Aside0.mk (HD.out.below hb3)
        clear hb3 HB HD
        go_wp2_with (fail)
        have hcall := nSubmit3 P D 1 0 y w3 w.heap.size (Below.size HB3.out) HD3.out (by rw [HQ.out.1]; decide)
        rw [quiet_submit HQ.out 3 (.inr rfl) y HSY.out, HP.out] at hcall
        refine hcall.mono ?_
        clear hcall
        rintro e w4 ⟨P4, rfl, hd4, hk4⟩
        have hp4 := hk4.d.trans HP.out
        have HB4 := Aside0.mk (HB3.out.trans (hk4.below (fun q hq => (HD3.out.lt q hq).1) (Below.size HB3.out)))
        clear hk4 HB3 HD3
        simp only [errW_none]
        go_wp2_with (fail)
        have hcall := nCompGood3 P4 { D with queue := [⟨3, 1, y, 0⟩] } 0 ⟨3, 1, y, 0⟩ w4 w.heap.size (Below.size HB4.out) hd4 HQ.out.2.1 (by decide : (0 : Nat) < 1) rfl (by rw [show ({ D with queue := [⟨3, 1, y, 0⟩] } : Dev).fail = 0 from HQ.out.2.2.1]; decide) (Nat.lt_of_le_of_lt HQ.out.2.2.2.2.2 (Nat.lt_of_le_of_lt HK.out (by decide))) (by decide : (1 : Nat) < 100000000) rfl _ (quiet_forced HQ.out y) (by rw [show ({ D with queue := [⟨3, 1, y, 0⟩] } : Dev).fail = 0 from HQ.out.2.2.1]; decide)
        rw [hp4] at hcall
        refine hcall.mono ?_
        clear hcall
        rintro e w5 ⟨P5, rfl, hd5, hk5⟩
        have hp5 := hk5.d.trans hp4
        have HB5 := Aside0.mk (HB4.out.trans (hk5.below (fun q hq => (hd4.lt q hq).1) (Below.size HB4.out)))
        have HD5 := Aside0.mk (hd5.alloc (.cells #[.int .i64 3, .int .i64 1, .string y, .int .i64 0] 37))
        have HB6 := Aside0.mk (below_alloc HB5.out (.cells #[.int .i64 3, .int .i64 1, .string y, .int .i64 0] 37))
        clear hk5 hd4 hd5 hp4 HB4
        obtain ⟨v8, w8, hr8, ho8, hb8⟩ := app_keep (W := w5.alloc (.cells #[.int .i64 3, .int .i64 1, .string y, .int .i64 0] 37)) HR2.out HB6.out n2 c2 HN.out.1 HN.out.2
        rw [World.size_alloc] at hr8
        have HR8 := Aside0.mk hr8
        have HO8 := Aside0.mk ho8
        have HD8 := Aside0.mk (HD5.out.below hb8)
        have HB8 := Aside0.mk (HB6.out.trans (hb8.mono (Below.size HB6.out)))
        obtain ⟨A8, c8, rfl⟩ := own_form ho8
        clear hr8 ho8 hb8 HD5 HB6
        dsimp only
        go_wp2_with (first | (at_builtin; refine Lib.wpList_append_run _ rfl _ _ _ _ rfl _ _ rfl rfl _ _ HR8.out ?_) | fail)
        have hcall := nCrash P5 (forcedD D y) (l2.take n2) _ w.heap.size _ w8 (Below.size HB8.out) HD8.out HO8.out (Nat.lt_of_le_of_lt (Nat.le_trans (List.length_filter_le _ _) (Nat.le_trans HQ.out.2.2.2.2.2 HK.out)) (by decide)) (by decide : (0 : Nat) < 100000000) (Nat.lt_of_le_of_lt (by rw [List.length_take]; exact Nat.le_trans (Nat.min_le_left _ _) HN.out.2) (by decide : 9 < 100000000))
        rw [hp5, List.length_take, Nat.min_eq_left HN.out.1] at hcall
        refine hcall.mono ?_
        clear hcall
        rintro e w9 ⟨P9, rfl, hd9, hk9⟩
        have hp9 := hk9.d.trans hp5
        have HB9 := Aside0.mk (HB8.out.trans (hk9.below (fun q hq => (HD8.out.lt q hq).1) (Below.size HB8.out)))
        clear hk9 HD8 HB8
        go_wp2_with (fail)
        have hcall := nBoot w.heap.size P9 _ w9 hd9
        rw [hp9] at hcall
        refine hcall.mono ?_
        clear hcall
        rintro e w10 ⟨P10, rfl, hd10, hk10⟩
        have hp10 := hk10.d.trans hp9
        have HB10 := Aside0.mk (HB9.out.trans (hk10.below (fun q hq => (hd9.lt q hq).1) (Below.size HB9.out)))
        have hcl : (((forcedD D y).crash (l2.take n2)).boot).cache.length < 1000000000 := by
          unfold Dev.crash
          rw [show (forcedD D y).down = false from HQ.out.2.1]
          exact (by decide : (0 : Nat) < 1000000000)
        clear hk10 hd9
        go_wp2_with (fail)
        have hcall := nLook P10 _ 1 w10 w.heap.size hd10 hcl
        rw [hp10, forced_look HQ.out y (l2.take n2)] at hcall
        refine hcall.mono ?_
        clear hcall
        rintro e w11 ⟨rfl, hb11⟩
        have HB11 := Aside0.mk (HB10.out.trans (hb11.mono (Below.size HB10.out)))
        clear hb11 hd10 hcl
        simp only [errW_none]
        go_wp2_with (fail)
        go_ret
        exact ⟨rfl, HB11.out⟩
      · have p1 : decide ((k : Int) < (l0.length : Int)) = false := decide_eq_false (by omega)
        have p1n : decide (k < l0.length) = false := decide_eq_false h1
        clear h1
        clear hlt hk20
        obtain ⟨n, hn20, hnx, hmn, hsz⟩ := cut_min a1
        obtain ⟨zy, hfy, hsy⟩ := full_eq (a1.extract 0 n) hsz
        obtain ⟨y, hy⟩ : ∃ y, y = a1.extract 0 n ++ zy := ⟨_, rfl⟩
        rw [← hy] at hfy hsy
        clear hy
        have hmi := hmn
        unfold mn at hmi
        have HFULL := Aside0.mk (fun W => posthorselaw04_full.calls _ _ W hfy)
        have HSY := Aside0.mk hsy
        obtain ⟨n2, hn2, hn9, hm2⟩ : ∃ n2 : Nat, n2 ≤ l2.length ∧ n2 ≤ 9 ∧ (if (9 : Int) < (l2.length : Int) then (9 : Int) else (l2.length : Int)) = (n2 : Int) := ⟨min l2.length 9, Nat.min_le_left _ _, Nat.min_le_right _ _, by split <;> omega⟩
        have hn2c : n2 ≤ c2 := Nat.le_trans hn2 HC2.out
        have HN := Aside0.mk (And.intro hn2 hn9)
        clear hmn hsz hfy hsy hn9 hn20
        go_wp2_with (fail)
        refine (HFULL.out _).mono ?_
        rintro e w3 ⟨rfl, hb3⟩
        have HB3 := Aside0.mk (HB.out.trans (hb3.mono (Below.size HB.out)))
        have HD3 := Aside0.mk (HD.out.below hb3)
        clear hb3 HB HD
        go_wp2_with (fail)
        have hcall := nSubmit3 P D 1 0 y w3 w.heap.size (Below.size HB3.out) HD3.out (by rw [HQ.out.1]; decide)
        rw [quiet_submit HQ.out 3 (.inr rfl) y HSY.out, HP.out] at hcall
        refine hcall.mono ?_
        clear hcall
        rintro e w4 ⟨P4, rfl, hd4, hk4⟩
        have hp4 := hk4.d.trans HP.out
        have HB4 := Aside0.mk (HB3.out.trans (hk4.below (fun q hq => (HD3.out.lt q hq).1) (Below.size HB3.out)))
        clear hk4 HB3 HD3
        simp only [errW_none]
        go_wp2_with (fail)
        have hcall := nCompGood3 P4 { D with queue := [⟨3, 1, y, 0⟩] } 0 ⟨3, 1, y, 0⟩ w4 w.heap.size (Below.size HB4.out) hd4 HQ.out.2.1 (by decide : (0 : Nat) < 1) rfl (by rw [show ({ D with queue := [⟨3, 1, y, 0⟩] } : Dev).fail = 0 from HQ.out.2.2.1]; decide) (Nat.lt_of_le_of_lt HQ.out.2.2.2.2.2 (Nat.lt_of_le_of_lt HK.out (by decide))) (by decide : (1 : Nat) < 100000000) rfl _ (quiet_forced HQ.out y) (by rw [show ({ D with queue := [⟨3, 1, y, 0⟩] } : Dev).fail = 0 from HQ.out.2.2.1]; decide)
        rw [hp4] at hcall
        refine hcall.mono ?_
        clear hcall
        rintro e w5 ⟨P5, rfl, hd5, hk5⟩
        have hp5 := hk5.d.trans hp4
        have HB5 := Aside0.mk (HB4.out.trans (hk5.below (fun q hq => (hd4.lt q hq).1) (Below.size HB4.out)))
        have HD5 := Aside0.mk (hd5.alloc (.cells #[.int .i64 3, .int .i64 1, .string y, .int .i64 0] 37))
        have HB6 := Aside0.mk (below_alloc HB5.out (.cells #[.int .i64 3, .int .i64 1, .string y, .int .i64 0] 37))
        clear hk5 hd4 hd5 hp4 HB4
        obtain ⟨v8, w8, hr8, ho8, hb8⟩ := app_keep (W := w5.alloc (.cells #[.int .i64 3, .int .i64 1, .string y, .int .i64 0] 37)) HR2.out HB6.out n2 c2 HN.out.1 HN.out.2
        rw [World.size_alloc] at hr8
        have HR8 := Aside0.mk hr8
        have HO8 := Aside0.mk ho8
        have HD8 := Aside0.mk (HD5.out.below hb8)
        have HB8 := Aside0.mk (HB6.out.trans (hb8.mono (Below.size HB6.out)))
        obtain ⟨A8, c8, rfl⟩ := own_form ho8
        clear hr8 ho8 hb8 HD5 HB6
        dsimp only
        go_wp2_with (first | (at_builtin; refine Lib.wpList_append_run _ rfl _ _ _ _ rfl _ _ rfl rfl _ _ HR8.out ?_) | fail)
        have hcall := nCrash P5 (forcedD D y) (l2.take n2) _ w.heap.size _ w8 (Below.size HB8.out) HD8.out HO8.out (Nat.lt_of_le_of_lt (Nat.le_trans (List.length_filter_le _ _) (Nat.le_trans HQ.out.2.2.2.2.2 HK.out)) (by decide)) (by decide : (0 : Nat) < 100000000) (Nat.lt_of_le_of_lt (by rw [List.length_take]; exact Nat.le_trans (Nat.min_le_left _ _) HN.out.2) (by decide : 9 < 100000000))
        rw [hp5, List.length_take, Nat.min_eq_left HN.out.1] at hcall
        refine hcall.mono ?_
        clear hcall
        rintro e w9 ⟨P9, rfl, hd9, hk9⟩
        have hp9 := hk9.d.trans hp5
        have HB9 := Aside0.mk (HB8.out.trans (hk9.below (fun q hq => (HD8.out.lt q hq).1) (Below.size HB8.out)))
        clear hk9 HD8 HB8
        go_wp2_with (fail)
        have hcall := nBoot w.heap.size P9 _ w9 hd9
        rw [hp9] at hcall
        refine hcall.mono ?_
        clear hcall
        rintro e w10 ⟨P10, rfl, hd10, hk10⟩
        have hp10 := hk10.d.trans hp9
        have HB10 := Aside0.mk (HB9.out.trans (hk10.below (fun q hq => (hd9.lt q hq).1) (Below.size HB9.out)))
        have hcl : (((forcedD D y).crash (l2.take n2)).boot).cache.length < 1000000000 := by
          unfold Dev.crash
          rw [show (forcedD D y).down = false from HQ.out.2.1]
          exact (by decide : (0 : Nat) < 1000000000)
        clear hk10 hd9
        go_wp2_with (fail)
        have hcall := nLook P10 _ 1 w10 w.heap.size hd10 hcl
        rw [hp10, forced_look HQ.out y (l2.take n2)] at hcall
        refine hcall.mono ?_
        clear hcall
        rintro e w11 ⟨rfl, hb11⟩
        have HB11 := Aside0.mk (HB10.out.trans (hb11.mono (Below.size HB10.out)))
        clear hb11 hd10 hcl
        simp only [errW_none]
        go_wp2_with (fail)
        go_ret
        exact ⟨rfl, HB11.out⟩


end Go.Proofs.Ytofiedgnnpednaa.VNvmeForces
