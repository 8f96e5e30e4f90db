/- Contracts of functions of this seat: each call comes to what its Lean function computes; no condition beyond what each theorem states. Printed by a program of this session's own laid over the kit's printer. -/
import Derived.RegionTactic
import Derived.Test.YtngokgliagkohaaDoorVXlatOthersx0
import Derived.Test.YtngokgliagkohaaDoorVXlatOthersx1
import Derived.Test.YtngokgliagkohaaDoorVXlatOthersx3
namespace Go.Proofs.YtngokgliagkohaaDoor.VXlatOthers
open Go.RowKit Go.Proofs.YtngokgliagkohaaDoorW.PrintWords Go.Proofs.YtngokgliagkohaaDoorW.PrintLast Go.Proofs.YtngokgliagkohaaDoorW.PrintMore
attribute [local go_sem] max2_int min2_int max_two min_two max_three min_three max_four min_four   -- for this text's walks alone
set_option linter.unusedVariables false
set_option linter.unusedSimpArgs false

-- @GIVEN xlat_Cache
/-! ### xlat_Cache: by hand -/
theorem CacheIs.set_files {B g : Nat} {w : World} {a b c : Int} {mb cl : Nat} {es : Array MapEntry} {m : List (Int × XEnt)} (hg : w.heap[g]? = some (.cells #[.map (some mb), .int .i64 a, .int .i64 b, .int .i64 c] 43 (0, 0))) (hB : B ≤ g) (hm : B ≤ mb) {es0 : Array MapEntry} {cl0 : Nat} (hb : w.heap[mb]? = some (.map es0 cl0)) (he : Ents (ChangeMaps.setBlock w mb (.map es cl)) B es.toList m) : CacheIs B g m a b c (ChangeMaps.setBlock w mb (.map es cl)) := by
  have hne : g ≠ mb := by
    rintro rfl
    rw [hg] at hb; cases hb
  exact ⟨hB, _, (ChangeMaps.heap_setBlock_other hb _ hne).trans hg, .inr ⟨mb, es, cl, rfl, hm, ChangeMaps.heap_setBlock_same hb _, he⟩⟩
set_option maxHeartbeats 4000000 in
set_option maxRecDepth 100000 in
theorem cDrop (B g : Nat) (m : List (Int × XEnt)) (a b c f : Int) (w : World) (h : CacheIs B g m a b c w) :
    Calls Tryd.prog 27 #[.pointer (some ⟨g, 0, none⟩), .int .i64 f] w fun e w' => e = .returned (.tuple #[]) ∧ CacheIs B g (dropE f m) a b c w' ∧ Below B w w' ∧ CKeep w w' := by
  obtain ⟨hB, mv, hg, hm⟩ := h
  have hc0 := (blk_cell hg 0).trans rfl
  have HG := Aside0.mk hg
  rcases hm with ⟨rfl, rfl⟩ | ⟨mb, es, cl, rfl, hmb, hb, he⟩
  · clear hg
    go_enter Tryd.func27, Tryd.ntmps27
    go_wp2_with (at_delete; refine wpl_delete rfl (.tmp 9) (.tmp 10) 41 3 rfl _ (x_del_nil f _) ?_)
    go_end0
    exact ⟨rfl, ⟨hB, _, HG.out, .inl ⟨rfl, rfl⟩⟩, Below.refl _ _, CKeep.refl _⟩
  · have HE := Aside0.mk he
    have HBK := Aside0.mk hb
    clear hg he
    cases hl : lookE f m with
    | none =>
      have HF := Aside0.mk (find_none 0 HE.out hl)
      have HD := Aside0.mk (dropE_none f m hl)
      clear hl hb
      go_enter Tryd.func27, Tryd.ntmps27
      go_wp2_with (at_delete; refine wpl_delete rfl (.tmp 9) (.tmp 10) 41 3 rfl _ (x_del_none HBK.out f _ HF.out) ?_)
      go_end0
      exact ⟨rfl, HD.out.symm ▸ CacheIs.set_files HG.out hB hmb HBK.out (HE.out.keep (x_set_keep HBK.out _)), x_set_below (Below.refl _ _) HBK.out hmb _, x_set_keep HBK.out _⟩
    | some e =>
      obtain ⟨j, v, h1, h2, h3, h4, h5⟩ := find_some 0 HE.out hl
      rw [Nat.zero_add] at h1
      have HF := Aside0.mk h1
      have HD := Aside0.mk h4
      have HJ := Aside0.mk (show (es.eraseIdxIfInBounds j).toList = es.toList.eraseIdx j by simp)
      clear hl hb h1 h2 h3 h4 h5
      go_enter Tryd.func27, Tryd.ntmps27
      go_wp2_with (at_delete; refine wpl_delete rfl (.tmp 9) (.tmp 10) 41 3 rfl _ (x_del_some HBK.out f _ HF.out) ?_)
      go_end0
      exact ⟨rfl, CacheIs.set_files HG.out hB hmb HBK.out (by rw [HJ.out]; exact HD.out.keep (x_set_keep HBK.out _)), x_set_below (Below.refl _ _) HBK.out hmb _, x_set_keep HBK.out _⟩
theorem cDrop_nil (f : Int) (w : World) : Calls Tryd.prog 27 #[.pointer none, .int .i64 f] w fun e w' => e = .returned (.tuple #[]) ∧ w' = w := by
  go_enter Tryd.func27, Tryd.ntmps27
  go_wp2
  go_end0
  exact ⟨rfl, rfl⟩
/-- A file's version. -/
def verE (f : Int) (m : List (Int × XEnt)) : Int × Bool := match lookE f m with | none => (0, false) | some e => (e.1, true)
set_option maxHeartbeats 4000000 in
set_option maxRecDepth 100000 in
theorem cVersion (B g : Nat) (m : List (Int × XEnt)) (a b c f : Int) (w : World) (h : CacheIs B g m a b c w) :
    Calls Tryd.prog 25 #[.pointer (some ⟨g, 0, none⟩), .int .i64 f] w fun e w' => e = .returned (.tuple #[.int .i64 (verE f m).1, .bool (verE f m).2]) ∧ Below w.heap.size w w' := by
  obtain ⟨hB, mv, hg, hm⟩ := h
  have hc0 := (blk_cell hg 0).trans rfl
  have hu := Tryd.underlying46
  rcases hm with ⟨rfl, rfl⟩ | ⟨mb, es, cl, rfl, hmb, hb, he⟩
  · clear hg
    go_enter Tryd.func25, Tryd.ntmps25
    go_wp2_with (at_lookup; refine wpl_lookup rfl (.tmp 14) (.tmp 15) 41 rfl _ (x_look_nil f) ?_)
    go_ret2
    exact ⟨rfl, below_alloc (Below.refl _ _) _⟩
  · have HE := Aside0.mk he
    have HBK := Aside0.mk hb
    clear hg he
    cases hl : lookE f m with
    | none =>
      have HF := Aside0.mk (find_none 0 HE.out hl)
      have HV := Aside0.mk (show verE f m = (0, false) by unfold verE; rw [hl])
      clear hl hb
      rw [HV.out]
      go_enter Tryd.func25, Tryd.ntmps25
      go_wp2_with (at_lookup; refine wpl_lookup rfl (.tmp 14) (.tmp 15) 41 rfl _ (x_look_none HBK.out f HF.out) ?_)
      go_ret2
      exact ⟨rfl, below_alloc (Below.refl _ _) _⟩
    | some e =>
      obtain ⟨j, v, h1, h2, h3, h4, h5⟩ := find_some 0 HE.out hl
      rw [Nat.zero_add] at h1
      obtain ⟨sv, rfl, hr⟩ := h2
      obtain ⟨A, cc, rfl⟩ := Kd.R_slice hr
      have HF := Aside0.mk h1
      have HV := Aside0.mk (show verE f m = (e.1, true) by unfold verE; rw [hl])
      clear hl hb h1 h3 h4 h5 hr
      rw [HV.out]
      go_enter Tryd.func25, Tryd.ntmps25
      go_wp2_with (at_lookup; refine wpl_lookup rfl (.tmp 14) (.tmp 15) 41 rfl _ (x_look_some HBK.out f HF.out) ?_)
      go_ret2
      exact ⟨rfl, below_alloc (Below.refl _ _) _⟩
theorem cVersion_nil (f : Int) (w : World) : Calls Tryd.prog 25 #[.pointer none, .int .i64 f] w fun e w' => e = .returned (.tuple #[.int .i64 0, .bool false]) ∧ w' = w := by
  go_enter Tryd.func25, Tryd.ntmps25
  go_wp2
  go_ret2
  exact ⟨rfl, rfl⟩
theorem cLoad_nil (f v : Int) (A : Option Addr) (n cc : Nat) (w : World) : Calls Tryd.prog 22 #[.pointer none, .int .i64 f, .agg #[.int .i64 v, .slice A n cc]] w fun e w' => e = .returned (.tuple #[]) ∧ Below w.heap.size w w' := by
  go_enter Tryd.func22, Tryd.ntmps22
  go_wp2
  first | go_end0 | ((try simp only [Exit.inBlock, Exit.then]); refine bodyPost_ret (results_none rfl _ _ _) rfl ?_)
  exact ⟨rfl, below_alloc (Below.refl _ _) _⟩
theorem x_lt {w : World} {b cl : Nat} {es : Array MapEntry} (h : w.heap[b]? = some (.map es cl)) : b < w.heap.size := by
  rcases Nat.lt_or_ge b w.heap.size with h' | h'
  · exact h'
  · rw [Array.getElem?_eq_none h'] at h; cases h
set_option maxHeartbeats 8000000 in
set_option maxRecDepth 100000 in
theorem cLoad (B g B' : Nat) (m : List (Int × XEnt)) (a b c f v : Int) (A : Option Addr) (cc : Nat) (xs : List XExt) (w : World) (hBw : B ≤ w.heap.size) (h : CacheIs B g m a b c w) (hr : Kd.R k63 63 w B' (fun _ => True) (.slice A xs.length cc) xs) (hx : xs.length < 8796093022208) :
    Calls Tryd.prog 22 #[.pointer (some ⟨g, 0, none⟩), .int .i64 f, .agg #[.int .i64 v, .slice A xs.length cc]] w fun e w' => e = .returned (.tuple #[]) ∧ CacheIs B g (putE f (v, xs) m) a b c w' ∧ Below B w w' ∧ CKeep w w' := by
  obtain ⟨hB, mv, hg, hm⟩ := h
  have HGE := Aside0.mk hB
  have HBW := Aside0.mk hBw
  have HCC := Aside0.mk (Kd.R_reads' hr).2.1
  have HX := Aside0.mk (show inode_Extent.f xs = some xs by unfold inode_Extent.f; rw [if_pos hx])
  have hu := Tryd.underlying46
  have HXa := Aside0.mk (heap_alloc_new w (.cells #[.int .i64 v, .slice A xs.length cc] 46))
  have HBa := Aside0.mk (below_alloc (Below.refl w.heap.size w) (.cells #[.int .i64 v, .slice A xs.length cc] 46))
  have HGa := Aside0.mk (blk_alloc hg (.cells #[.int .i64 v, .slice A xs.length cc] 46))
  have HRa := Aside0.mk (Kd.R_below hr HBa.out)
  clear hBw hr hx hB
  rcases hm with ⟨rfl, rfl⟩ | ⟨mb, es, cl, rfl, hmb, hb, he⟩
  · clear hg
    have hc0 := (blk_cell HGa.out 0).trans rfl
    have hne : ∀ W : World, (binOp BinOp.eql 41 (.map none) (.map none)).run Tryd.prog W = .ok (.bool true) W := fun W => by first | rfl | (simp [binOp]; rfl) | (simp [binOp]; done) | go_simp
    have hmm := @run_makeMap Tryd.prog
    have hsz : (w.alloc (.cells #[.int .i64 v, .slice A xs.length cc] 46)).heap.size = w.heap.size + 1 := by simp
    have hG2 := blk_below HGa.out (below_alloc (Below.refl _ _) (.map #[] 0))
    have hf0 := blk_frozen hG2 0
    have hz0 := (blk_cell hG2 0).trans rfl
    have hgl := blk_lt HGa.out
    rw [hsz] at hgl
    have HGd := Aside0.mk (show (((w.alloc (.cells #[.int .i64 v, .slice A xs.length cc] 46)).alloc (.map #[] 0)).setCell ⟨g, 0, none⟩ (.map (some (w.heap.size + 1)))).drew.heap[g]? = some (.cells #[.map (some (w.heap.size + 1)), .int .i64 a, .int .i64 b, .int .i64 c] 43 (0, 0)) from blk_drew (by simpa using blk_set hG2 0 (.map (some (w.heap.size + 1)))))
    have hks := CKeep.set hG2 0 (.map (some (w.heap.size + 1)))
    have hk2 := (CKeep.of_below (below_alloc (Below.refl _ _) (.map #[] 0))).trans hks
    have HXd := Aside0.mk (show (((w.alloc (.cells #[.int .i64 v, .slice A xs.length cc] 46)).alloc (.map #[] 0)).setCell ⟨g, 0, none⟩ (.map (some (w.heap.size + 1)))).drew.heap[w.heap.size]? = some (.cells #[.int .i64 v, .slice A xs.length cc] 46 (0, 0)) from hk2 _ _ _ (by decide) HXa.out)
    have HMd := Aside0.mk (show (((w.alloc (.cells #[.int .i64 v, .slice A xs.length cc] 46)).alloc (.map #[] 0)).setCell ⟨g, 0, none⟩ (.map (some (w.heap.size + 1)))).drew.heap[w.heap.size + 1]? = some (.map #[] 0) from by
      have h1 := heap_alloc_new (w.alloc (.cells #[.int .i64 v, .slice A xs.length cc] 46)) (.map #[] 0)
      rw [hsz] at h1
      exact (Below.heap_setCell _ ⟨g, 0, none⟩ _ (w.heap.size + 1) (show w.heap.size + 1 ≠ g by omega)).trans h1)
    have HRd := Aside0.mk (show Kd.C k63 (((w.alloc (.cells #[.int .i64 v, .slice A xs.length cc] 46)).alloc (.map #[] 0)).setCell ⟨g, 0, none⟩ (.map (some (w.heap.size + 1)))).drew A xs.length xs from (Kd.R_reads' (Kd.R_drew (R_ckeep HRa.out hk2))).2.2)
    have HBd := Aside0.mk (show Below B w (((w.alloc (.cells #[.int .i64 v, .slice A xs.length cc] 46)).alloc (.map #[] 0)).setCell ⟨g, 0, none⟩ (.map (some (w.heap.size + 1)))).drew from (((below_alloc HBa.out (.map #[] 0)).mono HBW.out).setCell (p := ⟨g, 0, none⟩) HGE.out _).drew)
    have HKd := Aside0.mk (show CKeep w (((w.alloc (.cells #[.int .i64 v, .slice A xs.length cc] 46)).alloc (.map #[] 0)).setCell ⟨g, 0, none⟩ (.map (some (w.heap.size + 1)))).drew from ((CKeep.of_below HBa.out).trans hk2).drew)
    have HEd := Aside0.mk (show Ents (((w.alloc (.cells #[.int .i64 v, .slice A xs.length cc] 46)).alloc (.map #[] 0)).setCell ⟨g, 0, none⟩ (.map (some (w.heap.size + 1)))).drew B (#[] : Array MapEntry).toList [] from trivial)
    have HF := Aside0.mk (show Instr.findNow (.int .i64) (.int .i64 f) (#[] : Array MapEntry).toList 0 = some none from rfl)
    have HMB := Aside0.mk (show B ≤ w.heap.size + 1 from Nat.le_succ_of_le HBW.out)
    clear hG2 hks hk2 hgl
    go_enter Tryd.func22, Tryd.ntmps22
    go_wp2_with fail
    refine start_ (n := 12) (S := fun w' => w'.cell? ⟨g, 0, none⟩ = some (.map (some (w.heap.size + 1))) ∧ w'.cell? ⟨w.heap.size, 0, none⟩ = some (.int .i64 v) ∧ w'.cell? ⟨w.heap.size, 1, none⟩ = some (.slice A xs.length cc)) (ds := [11]) #[false, false, false, false, false, false, false, false, false, false, false, false] (by kernel_rfl) rfl rfl ⟨(blk_cell HGd.out 0).trans rfl, (blk_cell HXd.out 0).trans rfl, (blk_cell HXd.out 1).trans rfl⟩ (fun hHeld => ?_)
    refine pure_ (i := 0) (N := some 17) (v := ?_) (a' := ?_) #[true, false, false, false, false, false, false, false, false, false, false, false] rfl rfl (by kernel_rfl) (fun _ _ _ h => h) (Or.inl ⟨by rfl, ?_⟩) ?_ ?_
    rotate_left
    · intro w'
      go_simp
      with_reducible rfl
    rotate_left
    · simp only [Act.put, List.setIfInBounds_toArray, List.set_cons_zero, List.set_cons_succ, i64_w, i32_w]
      rfl
    refine pure_ (i := 1) (N := some 18) (v := ?_) (a' := ?_) #[true, true, false, false, false, false, false, false, false, false, false, false] rfl rfl (by kernel_rfl) (fun _ _ _ h => h) (Or.inl ⟨by rfl, ?_⟩) ?_ ?_
    rotate_left
    · intro w'
      go_simp
      with_reducible rfl
    rotate_left
    · simp only [Act.put, List.setIfInBounds_toArray, List.set_cons_zero, List.set_cons_succ, i64_w, i32_w]
      rfl
    refine pure_ (i := 2) (N := some 19) (v := ?_) (a' := ?_) #[true, true, true, false, false, false, false, false, false, false, false, false] rfl rfl (by kernel_rfl) (fun _ _ _ h => h) (Or.inl ⟨by rfl, ?_⟩) ?_ ?_
    rotate_left
    · intro w'
      go_simp
      with_reducible rfl
    rotate_left
    · simp only [Act.put, List.setIfInBounds_toArray, List.set_cons_zero, List.set_cons_succ, i64_w, i32_w]
      rfl
    refine pure_ (i := 4) (N := some 21) (v := ?_) (a' := ?_) #[true, true, true, false, true, false, false, false, false, false, false, false] rfl rfl (by kernel_rfl) (fun _ _ _ h => h) (Or.inl ⟨by rfl, ?_⟩) ?_ ?_
    rotate_left
    · intro w'
      go_simp
      with_reducible rfl
    rotate_left
    · simp only [Act.put, List.setIfInBounds_toArray, List.set_cons_zero, List.set_cons_succ, i64_w, i32_w]
      rfl
    refine pure_ (i := 5) (N := some 22) (v := ?_) (a' := ?_) #[true, true, true, false, true, true, false, false, false, false, false, false] rfl rfl (by kernel_rfl) (fun _ _ _ h => h) (Or.inl ⟨by rfl, ?_⟩) ?_ ?_
    rotate_left
    · intro w'
      go_simp
      with_reducible rfl
    rotate_left
    · simp only [Act.put, List.setIfInBounds_toArray, List.set_cons_zero, List.set_cons_succ, i64_w, i32_w]
      rfl
    refine pure_ (i := 7) (N := some 24) (v := ?_) (a' := ?_) #[true, true, true, false, true, true, false, true, false, false, false, false] rfl rfl (by kernel_rfl) (fun _ _ _ h => h) (Or.inl ⟨by rfl, ?_⟩) ?_ ?_
    rotate_left
    · intro w'
      go_simp
      with_reducible rfl
    rotate_left
    · simp only [Act.put, List.setIfInBounds_toArray, List.set_cons_zero, List.set_cons_succ, i64_w, i32_w]
      rfl
    refine take_ (i := 3) (N := some 20) (v := ?_) (a' := ?_) #[true, true, true, true, true, true, false, true, false, false, false, false] rfl rfl (by kernel_rfl) (fun _ _ _ h => h) (Or.inl ⟨by rfl, ?_⟩) hHeld ?_ ?_
    rotate_left
    · rintro w' ⟨s0, s1, s2⟩
      go_simp
      with_reducible rfl
    rotate_left
    · simp only [Act.put, List.setIfInBounds_toArray, List.set_cons_zero, List.set_cons_succ, i64_w, i32_w]
      rfl
    refine take_ (i := 6) (N := some 23) (v := ?_) (a' := ?_) #[true, true, true, true, true, true, true, true, false, false, false, false] rfl rfl (by kernel_rfl) (fun _ _ _ h => h) (Or.inl ⟨by rfl, ?_⟩) hHeld ?_ ?_
    rotate_left
    · rintro w' ⟨s0, s1, s2⟩
      go_simp
      with_reducible rfl
    rotate_left
    · simp only [Act.put, List.setIfInBounds_toArray, List.set_cons_zero, List.set_cons_succ, i64_w, i32_w]
      rfl
    refine take_ (i := 8) (N := some 25) (v := ?_) (a' := ?_) #[true, true, true, true, true, true, true, true, true, false, false, false] rfl rfl (by kernel_rfl) (fun _ _ _ h => h) (Or.inl ⟨by rfl, ?_⟩) hHeld ?_ ?_
    rotate_left
    · rintro w' ⟨s0, s1, s2⟩
      go_simp
      with_reducible rfl
    rotate_left
    · simp only [Act.put, List.setIfInBounds_toArray, List.set_cons_zero, List.set_cons_succ, i64_w, i32_w]
      rfl
    refine one_ (i := 9) (N := some 26) #[true, true, true, true, true, true, true, true, true, true, false, false] rfl rfl (by kernel_rfl) (by decide) (fun K hK => ?_)
    refine goes_ Tryd.func40 (by kernel_rfl) rfl #[.slice A xs.length cc] (by rfl) rfl rfl (by simp only [List.map_toArray, List.map_cons, List.map_nil]; rfl) ?_
    with_reducible refine (inode_Extent.calls A cc xs xs _ HRd.out HCC.out HX.out).mono ?_
    rintro e_ w5 ⟨v0, rfl, hr5, hb5⟩
    refine ⟨_, rfl, ?_⟩
    obtain ⟨A5, c5, rfl⟩ := Kd.R_slice hr5
    have HR5 := Aside0.mk (Kd.R_lower hr5 (Nat.le_trans HBW.out HBd.out.size))
    have HB5 := Aside0.mk (HBd.out.trans (hb5.mono (Nat.le_trans HBW.out HBd.out.size)))
    have HG5 := Aside0.mk (blk_below HGd.out hb5)
    have HX5 := Aside0.mk (blk_below HXd.out hb5)
    have HM5 := Aside0.mk ((hb5.block _ (x_lt HMd.out)).trans HMd.out)
    have HE5 := Aside0.mk (Ents.keep (CKeep.of_below hb5) HEd.out)
    have HK5 := Aside0.mk (HKd.out.below hb5)
    clear hr5 hb5
    refine hK.out _ _ ⟨(blk_cell HG5.out 0).trans rfl, (blk_cell HX5.out 0).trans rfl, (blk_cell HX5.out 1).trans rfl⟩ (fun hHeld => ?_)
    clear hK K
    refine norm_ (a' := ?_) ?_ ?_
    rotate_left
    · show Act.put _ (some 26) _ = _
      simp only [Act.put, List.setIfInBounds_toArray, List.set_cons_zero, List.set_cons_succ, i64_w, i32_w]
      rfl
    refine pure_ (i := 10) (N := some 27) (v := ?_) (a' := ?_) #[true, true, true, true, true, true, true, true, true, true, true, false] rfl rfl (by kernel_rfl) (fun _ _ _ h => h) (Or.inl ⟨by rfl, ?_⟩) ?_ ?_
    rotate_left
    · intro w'
      go_simp
      with_reducible rfl
    rotate_left
    · simp only [Act.put, List.setIfInBounds_toArray, List.set_cons_zero, List.set_cons_succ, i64_w, i32_w]
      rfl
    refine last_ (i := 11) (N := none) #[true, true, true, true, true, true, true, true, true, true, true, true] rfl rfl (by kernel_rfl) (by decide) (fun K hK => ?_)
    refine skip_ (w1 := ChangeMaps.setBlock w5 (w.heap.size + 1) (.map ((#[] : Array MapEntry).push { key := .int .i64 f, val := .agg #[.int .i64 v, .slice A5 xs.length c5], born := 0 }) (0 + 1))) (by rfl) rfl ?_ ?_
    · have hrun_ := x_put_none (w := w5) HM5.out f (.agg #[.int .i64 v, .slice A5 xs.length c5]) HF.out
      simp [execOp, Act.eval, hrun_, Result.andThen]
    refine hK.out _ _ ?_
    clear hK K
    refine done_ (by kernel_rfl) ?_
    go_wp2_with fail
    first | go_end0 | ((try simp only [Exit.inBlock, Exit.then]); refine bodyPost_ret (results_none rfl _ _ _) rfl ?_)
    have hk := x_set_keep HM5.out (.map ((#[] : Array MapEntry).push { key := .int .i64 f, val := .agg #[.int .i64 v, .slice A5 xs.length c5], born := 0 }) (0 + 1))
    exact ⟨rfl, CacheIs.set_files HG5.out HGE.out HMB.out HM5.out (by rw [Array.toList_push]; exact Ents.snoc (e := (v, xs)) ⟨.slice A5 xs.length c5, rfl, R_ckeep HR5.out hk⟩ (HE5.out.keep hk) rfl), x_set_below HB5.out HM5.out HMB.out _, HK5.out.trans hk⟩
  · have HE := Aside0.mk he
    have HMB := Aside0.mk hmb
    have hc0 := (blk_cell HGa.out 0).trans rfl
    have hne : ∀ W : World, (binOp BinOp.eql 41 (.map (some mb)) (.map none)).run Tryd.prog W = .ok (.bool false) W := fun W => by first | rfl | (simp [binOp]; rfl) | (simp [binOp]; done) | go_simp
    have HGd := Aside0.mk (show (w.alloc (.cells #[.int .i64 v, .slice A xs.length cc] 46)).drew.heap[g]? = _ from HGa.out)
    have HXd := Aside0.mk (show (w.alloc (.cells #[.int .i64 v, .slice A xs.length cc] 46)).drew.heap[w.heap.size]? = _ from HXa.out)
    have HMd := Aside0.mk (show (w.alloc (.cells #[.int .i64 v, .slice A xs.length cc] 46)).drew.heap[mb]? = some (.map es cl) from (HBa.out.block mb (x_lt hb)).trans hb)
    have HRd := Aside0.mk (Kd.R_reads' (Kd.R_drew HRa.out)).2.2
    have HBd := Aside0.mk (show Below B w (w.alloc (.cells #[.int .i64 v, .slice A xs.length cc] 46)).drew from (HBa.out.mono HBW.out).drew)
    have HKd := Aside0.mk (show CKeep w (w.alloc (.cells #[.int .i64 v, .slice A xs.length cc] 46)).drew from (CKeep.of_below HBa.out).drew)
    have HEd := Aside0.mk (Ents.keep HKd.out HE.out)
    clear hg he hmb hb
    cases hl : lookE f m with
    | none =>
      have HF := Aside0.mk (find_none 0 HE.out hl)
      have HL := Aside0.mk hl
      clear hl
      go_enter Tryd.func22, Tryd.ntmps22
      go_wp2_with fail
      refine start_ (n := 12) (S := fun w' => w'.cell? ⟨g, 0, none⟩ = some (.map (some mb)) ∧ w'.cell? ⟨w.heap.size, 0, none⟩ = some (.int .i64 v) ∧ w'.cell? ⟨w.heap.size, 1, none⟩ = some (.slice A xs.length cc)) (ds := [11]) #[false, false, false, false, false, false, false, false, false, false, false, false] (by kernel_rfl) rfl rfl ⟨(blk_cell HGd.out 0).trans rfl, (blk_cell HXd.out 0).trans rfl, (blk_cell HXd.out 1).trans rfl⟩ (fun hHeld => ?_)
      refine pure_ (i := 0) (N := some 17) (v := ?_) (a' := ?_) #[true, false, false, false, false, false, false, false, false, false, false, false] rfl rfl (by kernel_rfl) (fun _ _ _ h => h) (Or.inl ⟨by rfl, ?_⟩) ?_ ?_
      rotate_left
      · intro w'
        go_simp
        with_reducible rfl
      rotate_left
      · simp only [Act.put, List.setIfInBounds_toArray, List.set_cons_zero, List.set_cons_succ, i64_w, i32_w]
        rfl
      refine pure_ (i := 1) (N := some 18) (v := ?_) (a' := ?_) #[true, true, false, false, false, false, false, false, false, false, false, false] rfl rfl (by kernel_rfl) (fun _ _ _ h => h) (Or.inl ⟨by rfl, ?_⟩) ?_ ?_
      rotate_left
      · intro w'
        go_simp
        with_reducible rfl
      rotate_left
      · simp only [Act.put, List.setIfInBounds_toArray, List.set_cons_zero, List.set_cons_succ, i64_w, i32_w]
        rfl
      refine pure_ (i := 2) (N := some 19) (v := ?_) (a' := ?_) #[true, true, true, false, false, false, false, false, false, false, false, false] rfl rfl (by kernel_rfl) (fun _ _ _ h => h) (Or.inl ⟨by rfl, ?_⟩) ?_ ?_
      rotate_left
      · intro w'
        go_simp
        with_reducible rfl
      rotate_left
      · simp only [Act.put, List.setIfInBounds_toArray, List.set_cons_zero, List.set_cons_succ, i64_w, i32_w]
        rfl
      refine pure_ (i := 4) (N := some 21) (v := ?_) (a' := ?_) #[true, true, true, false, true, false, false, false, false, false, false, false] rfl rfl (by kernel_rfl) (fun _ _ _ h => h) (Or.inl ⟨by rfl, ?_⟩) ?_ ?_
      rotate_left
      · intro w'
        go_simp
        with_reducible rfl
      rotate_left
      · simp only [Act.put, List.setIfInBounds_toArray, List.set_cons_zero, List.set_cons_succ, i64_w, i32_w]
        rfl
      refine pure_ (i := 5) (N := some 22) (v := ?_) (a' := ?_) #[true, true, true, false, true, true, false, false, false, false, false, false] rfl rfl (by kernel_rfl) (fun _ _ _ h => h) (Or.inl ⟨by rfl, ?_⟩) ?_ ?_
      rotate_left
      · intro w'
        go_simp
        with_reducible rfl
      rotate_left
      · simp only [Act.put, List.setIfInBounds_toArray, List.set_cons_zero, List.set_cons_succ, i64_w, i32_w]
        rfl
      refine pure_ (i := 7) (N := some 24) (v := ?_) (a' := ?_) #[true, true, true, false, true, true, false, true, false, false, false, false] rfl rfl (by kernel_rfl) (fun _ _ _ h => h) (Or.inl ⟨by rfl, ?_⟩) ?_ ?_
      rotate_left
      · intro w'
        go_simp
        with_reducible rfl
      rotate_left
      · simp only [Act.put, List.setIfInBounds_toArray, List.set_cons_zero, List.set_cons_succ, i64_w, i32_w]
        rfl
      refine take_ (i := 3) (N := some 20) (v := ?_) (a' := ?_) #[true, true, true, true, true, true, false, true, false, false, false, false] rfl rfl (by kernel_rfl) (fun _ _ _ h => h) (Or.inl ⟨by rfl, ?_⟩) hHeld ?_ ?_
      rotate_left
      · rintro w' ⟨s0, s1, s2⟩
        go_simp
        with_reducible rfl
      rotate_left
      · simp only [Act.put, List.setIfInBounds_toArray, List.set_cons_zero, List.set_cons_succ, i64_w, i32_w]
        rfl
      refine take_ (i := 6) (N := some 23) (v := ?_) (a' := ?_) #[true, true, true, true, true, true, true, true, false, false, false, false] rfl rfl (by kernel_rfl) (fun _ _ _ h => h) (Or.inl ⟨by rfl, ?_⟩) hHeld ?_ ?_
      rotate_left
      · rintro w' ⟨s0, s1, s2⟩
        go_simp
        with_reducible rfl
      rotate_left
      · simp only [Act.put, List.setIfInBounds_toArray, List.set_cons_zero, List.set_cons_succ, i64_w, i32_w]
        rfl
      refine take_ (i := 8) (N := some 25) (v := ?_) (a' := ?_) #[true, true, true, true, true, true, true, true, true, false, false, false] rfl rfl (by kernel_rfl) (fun _ _ _ h => h) (Or.inl ⟨by rfl, ?_⟩) hHeld ?_ ?_
      rotate_left
      · rintro w' ⟨s0, s1, s2⟩
        go_simp
        with_reducible rfl
      rotate_left
      · simp only [Act.put, List.setIfInBounds_toArray, List.set_cons_zero, List.set_cons_succ, i64_w, i32_w]
        rfl
      refine one_ (i := 9) (N := some 26) #[true, true, true, true, true, true, true, true, true, true, false, false] rfl rfl (by kernel_rfl) (by decide) (fun K hK => ?_)
      refine goes_ Tryd.func40 (by kernel_rfl) rfl #[.slice A xs.length cc] (by rfl) rfl rfl (by simp only [List.map_toArray, List.map_cons, List.map_nil]; rfl) ?_
      with_reducible refine (inode_Extent.calls A cc xs xs _ HRd.out HCC.out HX.out).mono ?_
      rintro e_ w5 ⟨v0, rfl, hr5, hb5⟩
      refine ⟨_, rfl, ?_⟩
      obtain ⟨A5, c5, rfl⟩ := Kd.R_slice hr5
      have HR5 := Aside0.mk (Kd.R_lower hr5 (Nat.le_trans HBW.out HBd.out.size))
      have HB5 := Aside0.mk (HBd.out.trans (hb5.mono (Nat.le_trans HBW.out HBd.out.size)))
      have HG5 := Aside0.mk (blk_below HGd.out hb5)
      have HX5 := Aside0.mk (blk_below HXd.out hb5)
      have HM5 := Aside0.mk ((hb5.block _ (x_lt HMd.out)).trans HMd.out)
      have HE5 := Aside0.mk (Ents.keep (CKeep.of_below hb5) HEd.out)
      have HK5 := Aside0.mk (HKd.out.below hb5)
      clear hr5 hb5
      refine hK.out _ _ ⟨(blk_cell HG5.out 0).trans rfl, (blk_cell HX5.out 0).trans rfl, (blk_cell HX5.out 1).trans rfl⟩ (fun hHeld => ?_)
      clear hK K
      refine norm_ (a' := ?_) ?_ ?_
      rotate_left
      · show Act.put _ (some 26) _ = _
        simp only [Act.put, List.setIfInBounds_toArray, List.set_cons_zero, List.set_cons_succ, i64_w, i32_w]
        rfl
      refine pure_ (i := 10) (N := some 27) (v := ?_) (a' := ?_) #[true, true, true, true, true, true, true, true, true, true, true, false] rfl rfl (by kernel_rfl) (fun _ _ _ h => h) (Or.inl ⟨by rfl, ?_⟩) ?_ ?_
      rotate_left
      · intro w'
        go_simp
        with_reducible rfl
      rotate_left
      · simp only [Act.put, List.setIfInBounds_toArray, List.set_cons_zero, List.set_cons_succ, i64_w, i32_w]
        rfl
      refine last_ (i := 11) (N := none) #[true, true, true, true, true, true, true, true, true, true, true, true] rfl rfl (by kernel_rfl) (by decide) (fun K hK => ?_)
      refine skip_ (w1 := ChangeMaps.setBlock w5 mb (.map (es.push { key := .int .i64 f, val := .agg #[.int .i64 v, .slice A5 xs.length c5], born := cl }) (cl + 1))) (by rfl) rfl ?_ ?_
      · have hrun_ := x_put_none (w := w5) HM5.out f (.agg #[.int .i64 v, .slice A5 xs.length c5]) HF.out
        simp [execOp, Act.eval, hrun_, Result.andThen]
      refine hK.out _ _ ?_
      clear hK K
      refine done_ (by kernel_rfl) ?_
      go_wp2_with fail
      first | go_end0 | ((try simp only [Exit.inBlock, Exit.then]); refine bodyPost_ret (results_none rfl _ _ _) rfl ?_)
      have hk := x_set_keep HM5.out (.map (es.push { key := .int .i64 f, val := .agg #[.int .i64 v, .slice A5 xs.length c5], born := cl }) (cl + 1))
      exact ⟨rfl, CacheIs.set_files HG5.out HGE.out HMB.out HM5.out (by rw [Array.toList_push]; exact Ents.snoc (e := (v, xs)) ⟨.slice A5 xs.length c5, rfl, R_ckeep HR5.out hk⟩ (HE5.out.keep hk) HL.out), x_set_below HB5.out HM5.out HMB.out _, HK5.out.trans hk⟩
    | some e =>
      obtain ⟨j, vv, h1, _, ⟨ae, h3, h3'⟩, _, h5⟩ := find_some 0 HE.out hl
      rw [Nat.zero_add] at h1
      have HF := Aside0.mk h1
      have HJ := Aside0.mk (show es[j]? = some ae by simpa using h3)
      have HJ2 := Aside0.mk h3'
      have H5 := Aside0.mk h5
      clear hl h1 h3 h3' h5
      go_enter Tryd.func22, Tryd.ntmps22
      go_wp2_with fail
      refine start_ (n := 12) (S := fun w' => w'.cell? ⟨g, 0, none⟩ = some (.map (some mb)) ∧ w'.cell? ⟨w.heap.size, 0, none⟩ = some (.int .i64 v) ∧ w'.cell? ⟨w.heap.size, 1, none⟩ = some (.slice A xs.length cc)) (ds := [11]) #[false, false, false, false, false, false, false, false, false, false, false, false] (by kernel_rfl) rfl rfl ⟨(blk_cell HGd.out 0).trans rfl, (blk_cell HXd.out 0).trans rfl, (blk_cell HXd.out 1).trans rfl⟩ (fun hHeld => ?_)
      refine pure_ (i := 0) (N := some 17) (v := ?_) (a' := ?_) #[true, false, false, false, false, false, false, false, false, false, false, false] rfl rfl (by kernel_rfl) (fun _ _ _ h => h) (Or.inl ⟨by rfl, ?_⟩) ?_ ?_
      rotate_left
      · intro w'
        go_simp
        with_reducible rfl
      rotate_left
      · simp only [Act.put, List.setIfInBounds_toArray, List.set_cons_zero, List.set_cons_succ, i64_w, i32_w]
        rfl
      refine pure_ (i := 1) (N := some 18) (v := ?_) (a' := ?_) #[true, true, false, false, false, false, false, false, false, false, false, false] rfl rfl (by kernel_rfl) (fun _ _ _ h => h) (Or.inl ⟨by rfl, ?_⟩) ?_ ?_
      rotate_left
      · intro w'
        go_simp
        with_reducible rfl
      rotate_left
      · simp only [Act.put, List.setIfInBounds_toArray, List.set_cons_zero, List.set_cons_succ, i64_w, i32_w]
        rfl
      refine pure_ (i := 2) (N := some 19) (v := ?_) (a' := ?_) #[true, true, true, false, false, false, false, false, false, false, false, false] rfl rfl (by kernel_rfl) (fun _ _ _ h => h) (Or.inl ⟨by rfl, ?_⟩) ?_ ?_
      rotate_left
      · intro w'
        go_simp
        with_reducible rfl
      rotate_left
      · simp only [Act.put, List.setIfInBounds_toArray, List.set_cons_zero, List.set_cons_succ, i64_w, i32_w]
        rfl
      refine pure_ (i := 4) (N := some 21) (v := ?_) (a' := ?_) #[true, true, true, false, true, false, false, false, false, false, false, false] rfl rfl (by kernel_rfl) (fun _ _ _ h => h) (Or.inl ⟨by rfl, ?_⟩) ?_ ?_
      rotate_left
      · intro w'
        go_simp
        with_reducible rfl
      rotate_left
      · simp only [Act.put, List.setIfInBounds_toArray, List.set_cons_zero, List.set_cons_succ, i64_w, i32_w]
        rfl
      refine pure_ (i := 5) (N := some 22) (v := ?_) (a' := ?_) #[true, true, true, false, true, true, false, false, false, false, false, false] rfl rfl (by kernel_rfl) (fun _ _ _ h => h) (Or.inl ⟨by rfl, ?_⟩) ?_ ?_
      rotate_left
      · intro w'
        go_simp
        with_reducible rfl
      rotate_left
      · simp only [Act.put, List.setIfInBounds_toArray, List.set_cons_zero, List.set_cons_succ, i64_w, i32_w]
        rfl
      refine pure_ (i := 7) (N := some 24) (v := ?_) (a' := ?_) #[true, true, true, false, true, true, false, true, false, false, false, false] rfl rfl (by kernel_rfl) (fun _ _ _ h => h) (Or.inl ⟨by rfl, ?_⟩) ?_ ?_
      rotate_left
      · intro w'
        go_simp
        with_reducible rfl
      rotate_left
      · simp only [Act.put, List.setIfInBounds_toArray, List.set_cons_zero, List.set_cons_succ, i64_w, i32_w]
        rfl
      refine take_ (i := 3) (N := some 20) (v := ?_) (a' := ?_) #[true, true, true, true, true, true, false, true, false, false, false, false] rfl rfl (by kernel_rfl) (fun _ _ _ h => h) (Or.inl ⟨by rfl, ?_⟩) hHeld ?_ ?_
      rotate_left
      · rintro w' ⟨s0, s1, s2⟩
        go_simp
        with_reducible rfl
      rotate_left
      · simp only [Act.put, List.setIfInBounds_toArray, List.set_cons_zero, List.set_cons_succ, i64_w, i32_w]
        rfl
      refine take_ (i := 6) (N := some 23) (v := ?_) (a' := ?_) #[true, true, true, true, true, true, true, true, false, false, false, false] rfl rfl (by kernel_rfl) (fun _ _ _ h => h) (Or.inl ⟨by rfl, ?_⟩) hHeld ?_ ?_
      rotate_left
      · rintro w' ⟨s0, s1, s2⟩
        go_simp
        with_reducible rfl
      rotate_left
      · simp only [Act.put, List.setIfInBounds_toArray, List.set_cons_zero, List.set_cons_succ, i64_w, i32_w]
        rfl
      refine take_ (i := 8) (N := some 25) (v := ?_) (a' := ?_) #[true, true, true, true, true, true, true, true, true, false, false, false] rfl rfl (by kernel_rfl) (fun _ _ _ h => h) (Or.inl ⟨by rfl, ?_⟩) hHeld ?_ ?_
      rotate_left
      · rintro w' ⟨s0, s1, s2⟩
        go_simp
        with_reducible rfl
      rotate_left
      · simp only [Act.put, List.setIfInBounds_toArray, List.set_cons_zero, List.set_cons_succ, i64_w, i32_w]
        rfl
      refine one_ (i := 9) (N := some 26) #[true, true, true, true, true, true, true, true, true, true, false, false] rfl rfl (by kernel_rfl) (by decide) (fun K hK => ?_)
      refine goes_ Tryd.func40 (by kernel_rfl) rfl #[.slice A xs.length cc] (by rfl) rfl rfl (by simp only [List.map_toArray, List.map_cons, List.map_nil]; rfl) ?_
      with_reducible refine (inode_Extent.calls A cc xs xs _ HRd.out HCC.out HX.out).mono ?_
      rintro e_ w5 ⟨v0, rfl, hr5, hb5⟩
      refine ⟨_, rfl, ?_⟩
      obtain ⟨A5, c5, rfl⟩ := Kd.R_slice hr5
      have HR5 := Aside0.mk (Kd.R_lower hr5 (Nat.le_trans HBW.out HBd.out.size))
      have HB5 := Aside0.mk (HBd.out.trans (hb5.mono (Nat.le_trans HBW.out HBd.out.size)))
      have HG5 := Aside0.mk (blk_below HGd.out hb5)
      have HX5 := Aside0.mk (blk_below HXd.out hb5)
      have HM5 := Aside0.mk ((hb5.block _ (x_lt HMd.out)).trans HMd.out)
      have HE5 := Aside0.mk (Ents.keep (CKeep.of_below hb5) HEd.out)
      have HK5 := Aside0.mk (HKd.out.below hb5)
      clear hr5 hb5
      refine hK.out _ _ ⟨(blk_cell HG5.out 0).trans rfl, (blk_cell HX5.out 0).trans rfl, (blk_cell HX5.out 1).trans rfl⟩ (fun hHeld => ?_)
      clear hK K
      refine norm_ (a' := ?_) ?_ ?_
      rotate_left
      · show Act.put _ (some 26) _ = _
        simp only [Act.put, List.setIfInBounds_toArray, List.set_cons_zero, List.set_cons_succ, i64_w, i32_w]
        rfl
      refine pure_ (i := 10) (N := some 27) (v := ?_) (a' := ?_) #[true, true, true, true, true, true, true, true, true, true, true, false] rfl rfl (by kernel_rfl) (fun _ _ _ h => h) (Or.inl ⟨by rfl, ?_⟩) ?_ ?_
      rotate_left
      · intro w'
        go_simp
        with_reducible rfl
      rotate_left
      · simp only [Act.put, List.setIfInBounds_toArray, List.set_cons_zero, List.set_cons_succ, i64_w, i32_w]
        rfl
      refine last_ (i := 11) (N := none) #[true, true, true, true, true, true, true, true, true, true, true, true] rfl rfl (by kernel_rfl) (by decide) (fun K hK => ?_)
      refine skip_ (w1 := ChangeMaps.setBlock w5 mb (.map (es.modify j fun e => { e with key := .int .i64 f, val := .agg #[.int .i64 v, .slice A5 xs.length c5] }) cl)) (by rfl) rfl ?_ ?_
      · have hrun_ := x_put_some (w := w5) HM5.out f (.agg #[.int .i64 v, .slice A5 xs.length c5]) HF.out HJ.out HJ2.out
        simp [execOp, Act.eval, hrun_, Result.andThen]
      refine hK.out _ _ ?_
      clear hK K
      refine done_ (by kernel_rfl) ?_
      go_wp2_with fail
      first | go_end0 | ((try simp only [Exit.inBlock, Exit.then]); refine bodyPost_ret (results_none rfl _ _ _) rfl ?_)
      have hk := x_set_keep HM5.out (.map (es.modify j fun e => { e with key := .int .i64 f, val := .agg #[.int .i64 v, .slice A5 xs.length c5] }) cl)
      exact ⟨rfl, CacheIs.set_files HG5.out HGE.out HMB.out HM5.out (by rw [Array.toList_modify]; exact H5.out _ B _ _ (HK5.out.trans hk) ⟨_, rfl, R_ckeep HR5.out hk⟩ rfl), x_set_below HB5.out HM5.out HMB.out _, HK5.out.trans hk⟩
theorem cLoadN (B g B' : Nat) (m : List (Int × XEnt)) (a b c f v : Int) (A : Option Addr) (cc n : Nat) (xs : List XExt) (w : World) (hn : xs.length = n) (hBw : B ≤ w.heap.size) (h : CacheIs B g m a b c w) (hr : Kd.R k63 63 w B' (fun _ => True) (.slice A n cc) xs) (hx : xs.length < 8796093022208) :
    Calls Tryd.prog 22 #[.pointer (some ⟨g, 0, none⟩), .int .i64 f, .agg #[.int .i64 v, .slice A n cc]] w fun e w' => e = .returned (.tuple #[]) ∧ CacheIs B g (putE f (v, xs) m) a b c w' ∧ Below B w w' ∧ CKeep w w' := by
  subst hn
  exact cLoad B g B' m a b c f v A cc xs w hBw h hr hx


end Go.Proofs.YtngokgliagkohaaDoor.VXlatOthers
