/- Contracts of functions of this seat: each call comes to what its Lean function computes; no condition beyond what each theorem states. Printed by a program of this session's own laid over the kit's printer. -/
import Derived.Test.YtngokgliagkohaaDoorVXlatOthersx0
import Derived.Test.YtngokgliagkohaaDoorVXlatOthersx3
import Derived.Test.YtngokgliagkohaaDoorVXlatOthersx4
import Derived.Test.YtngokgliagkohaaDoorVXlatOthersx5
import Derived.Test.YtngokgliagkohaaDoorVXlatOthersx6
namespace Go.Proofs.YtngokgliagkohaaDoor.VXlatOthers
open Go.RowKit Go.Proofs.YtngokgliagkohaaDoorW.PrintWords Go.Proofs.YtngokgliagkohaaDoorW.PrintLast Go.Proofs.YtngokgliagkohaaDoorW.PrintMore
attribute [local go_sem] max2_int min2_int max_two min_two max_three min_three max_four min_four   -- for this text's walks alone
set_option linter.unusedVariables false
set_option linter.unusedSimpArgs false

-- @GIVEN xlat_Cache_Find
/-! ### xlat_Cache_Find: by hand -/
/-- What find answers: a sector, an error's number (0: none), the files then. -/
def findX (k : Nat) (m : List (Int × XEnt)) (f b v : Int) : Option (Int × Option Int × List (Int × XEnt)) :=
  match lookE f m with
  | none => some (0, some 8, m)
  | some e => if e.1 = v then (inode_Map.f k e.1 e.2 b).bind fun r => if r.2 = true then some (r.1, none, m) else some (0, some 8, m) else some (0, some 14, dropE f m)
set_option maxHeartbeats 8000000 in
set_option maxRecDepth 100000 in
theorem cfind (k B g : Nat) (m m' : List (Int × XEnt)) (a b c f bl v s : Int) (er : Option Int) (w : World) (hBw : B ≤ w.heap.size) (h : CacheIs B g m a b c w) (hf : findX k m f bl v = some (s, er, m')) :
    Calls Tryd.prog 41 #[.pointer (some ⟨g, 0, none⟩), .int .i64 f, .int .i64 bl, .int .i64 v] w fun e w' => e = .returned (.tuple #[.int .i64 s, errW er]) ∧ CacheIs B g m' a b c w' ∧ Below B w w' ∧ CKeep w w' := by
  have HC := Aside0.mk h
  obtain ⟨hB, mv, hg, hm⟩ := h
  have hc0 := (blk_cell hg 0).trans rfl
  have hu := Tryd.underlying46
  unfold findX at hf
  rcases hm with ⟨rfl, rfl⟩ | ⟨mb, es, cl, rfl, hmb, hb, he⟩
  · rw [show lookE f [] = none from rfl] at hf
    simp only [Option.some.injEq, Prod.mk.injEq] at hf
    obtain ⟨rfl, rfl, rfl⟩ := hf
    simp only [errW_some]
    clear hg
    go_enter Tryd.func41, Tryd.ntmps41
    go_wp2_with (at_lookup; refine wpl_lookup rfl (.tmp 17) (.tmp 18) 41 rfl _ (x_look_nil f) ?_)
    go_ret2
    exact ⟨rfl, HC.out.below (below_alloc (Below.refl _ _) _), Below.mono (below_alloc (Below.refl _ _) _) hBw, CKeep.of_below (below_alloc (Below.refl _ _) _)⟩
  · have HE := Aside0.mk he
    have HBK := Aside0.mk hb
    clear hg he
    cases hl : lookE f m with
    | none =>
      rw [hl] at hf
      simp only [Option.some.injEq, Prod.mk.injEq] at hf
      obtain ⟨rfl, rfl, rfl⟩ := hf
      simp only [errW_some]
      have HF := Aside0.mk (find_none 0 HE.out hl)
      clear hl hb
      go_enter Tryd.func41, Tryd.ntmps41
      go_wp2_with (at_lookup; refine wpl_lookup rfl (.tmp 17) (.tmp 18) 41 rfl _ (x_look_none HBK.out f HF.out) ?_)
      go_ret2
      exact ⟨rfl, HC.out.below (below_alloc (Below.refl _ _) _), Below.mono (below_alloc (Below.refl _ _) _) hBw, CKeep.of_below (below_alloc (Below.refl _ _) _)⟩
    | some e =>
      rw [hl] at hf
      simp only at hf
      obtain ⟨j, vv, h1, h2, h3, h4, h5⟩ := find_some 0 HE.out hl
      rw [Nat.zero_add] at h1
      obtain ⟨sv, rfl, hr⟩ := h2
      obtain ⟨A, cc, rfl⟩ := Kd.R_slice hr
      have HR := Aside0.mk (Kd.R_reads' hr)
      have HF := Aside0.mk h1
      clear hl hb h1 h3 h4 h5 hr
      by_cases hv : e.1 = v
      · rw [if_pos hv] at hf
        obtain ⟨⟨q, t⟩, hq, hf⟩ := Option.bind_eq_some_iff.mp hf
        have n1 : (e.1 != v) = false := by simpa using hv
        have HQ := Aside0.mk hq
        have HBa := Aside0.mk (below_alloc (Below.refl w.heap.size w) (.cells #[.int .i64 e.1, .slice A e.2.length cc] 46))
        have HRa := Aside0.mk (Kd.C_below HR.out.2.2 HBa.out)
        have HCC := Aside0.mk HR.out.2.1
        clear hq hv
        cases t with
        | true =>
          rw [if_pos rfl] at hf
          simp only [Option.some.injEq, Prod.mk.injEq] at hf
          obtain ⟨rfl, rfl, rfl⟩ := hf
          simp only [errW_none]
          go_enter Tryd.func41, Tryd.ntmps41
          go_wp2_with (first
            | (at_lookup; refine wpl_lookup rfl (.tmp 17) (.tmp 18) 41 rfl _ (x_look_some HBK.out f HF.out) ?_)
            | (go_at_call 26; (with_reducible refine (inode_Map.calls k e.1 A cc e.2 bl q true _ HRa.out HCC.out HQ.out).mono ?_); rintro e_ w5 ⟨rfl, hb5⟩; have HB5 := Aside0.mk (below_step HBa.out hb5); clear hb5))
          go_ret2
          exact ⟨rfl, HC.out.below HB5.out, Below.mono HB5.out hBw, CKeep.of_below HB5.out⟩
        | false =>
          rw [if_neg (show ¬ (false = true) by decide)] at hf
          simp only [Option.some.injEq, Prod.mk.injEq] at hf
          obtain ⟨rfl, rfl, rfl⟩ := hf
          simp only [errW_some]
          go_enter Tryd.func41, Tryd.ntmps41
          go_wp2_with (first
            | (at_lookup; refine wpl_lookup rfl (.tmp 17) (.tmp 18) 41 rfl _ (x_look_some HBK.out f HF.out) ?_)
            | (go_at_call 26; (with_reducible refine (inode_Map.calls k e.1 A cc e.2 bl q false _ HRa.out HCC.out HQ.out).mono ?_); rintro e_ w5 ⟨rfl, hb5⟩; have HB5 := Aside0.mk (below_step HBa.out hb5); clear hb5))
          go_ret2
          exact ⟨rfl, HC.out.below HB5.out, Below.mono HB5.out hBw, CKeep.of_below HB5.out⟩
      · rw [if_neg hv] at hf
        simp only [Option.some.injEq, Prod.mk.injEq] at hf
        obtain ⟨rfl, rfl, rfl⟩ := hf
        simp only [errW_some]
        have n1 : (e.1 != v) = true := by simpa using hv
        have HBa := Aside0.mk (below_alloc (Below.refl w.heap.size w) (.cells #[.int .i64 e.1, .slice A e.2.length cc] 46))
        have HCa := Aside0.mk (HC.out.below HBa.out)
        clear hv
        go_enter Tryd.func41, Tryd.ntmps41
        go_wp2_with (first
          | (at_lookup; refine wpl_lookup rfl (.tmp 17) (.tmp 18) 41 rfl _ (x_look_some HBK.out f HF.out) ?_)
          | (go_at_call 27; (with_reducible refine (cDrop B g m a b c f _ HCa.out).mono ?_); rintro e_ w5 ⟨rfl, hc5, hb5, hk5⟩; have HC5 := Aside0.mk hc5; have HB5 := Aside0.mk ((Below.mono HBa.out hBw).trans hb5); have HK5 := Aside0.mk ((CKeep.of_below HBa.out).trans hk5); clear hb5 hc5 hk5))
        go_ret2
        exact ⟨rfl, HC5.out, HB5.out, HK5.out⟩

theorem CacheIs.cnt1 {B g : Nat} {m : List (Int × XEnt)} {a b c : Int} {w : World} (h : CacheIs B g m a b c w) (x : Int) : CacheIs B g m x b c (w.setCell ⟨g, 1, none⟩ (.int .i64 x)) := by
  obtain ⟨h1, mv, h2, h3⟩ := h
  have hk := CKeep.set h2 1 (.int .i64 x)
  refine ⟨h1, mv, by simpa using blk_set h2 1 (.int .i64 x), ?_⟩
  rcases h3 with h3 | ⟨mb, es, cl, e1, e2, e3, e4⟩
  · exact .inl h3
  · have hne : mb ≠ g := by
      rintro rfl
      rw [h2] at e3; cases e3
    exact .inr ⟨mb, es, cl, e1, e2, (Below.heap_setCell w ⟨g, 1, none⟩ _ mb hne).trans e3, e4.keep hk⟩
theorem CacheIs.cnt2 {B g : Nat} {m : List (Int × XEnt)} {a b c : Int} {w : World} (h : CacheIs B g m a b c w) (x : Int) : CacheIs B g m a x c (w.setCell ⟨g, 2, none⟩ (.int .i64 x)) := by
  obtain ⟨h1, mv, h2, h3⟩ := h
  have hk := CKeep.set h2 2 (.int .i64 x)
  refine ⟨h1, mv, by simpa using blk_set h2 2 (.int .i64 x), ?_⟩
  rcases h3 with h3 | ⟨mb, es, cl, e1, e2, e3, e4⟩
  · exact .inl h3
  · have hne : mb ≠ g := by
      rintro rfl
      rw [h2] at e3; cases e3
    exact .inr ⟨mb, es, cl, e1, e2, (Below.heap_setCell w ⟨g, 2, none⟩ _ mb hne).trans e3, e4.keep hk⟩
theorem CacheIs.cnt3 {B g : Nat} {m : List (Int × XEnt)} {a b c : Int} {w : World} (h : CacheIs B g m a b c w) (x : Int) : CacheIs B g m a b x (w.setCell ⟨g, 3, none⟩ (.int .i64 x)) := by
  obtain ⟨h1, mv, h2, h3⟩ := h
  have hk := CKeep.set h2 3 (.int .i64 x)
  refine ⟨h1, mv, by simpa using blk_set h2 3 (.int .i64 x), ?_⟩
  rcases h3 with h3 | ⟨mb, es, cl, e1, e2, e3, e4⟩
  · exact .inl h3
  · have hne : mb ≠ g := by
      rintro rfl
      rw [h2] at e3; cases e3
    exact .inr ⟨mb, es, cl, e1, e2, (Below.heap_setCell w ⟨g, 3, none⟩ _ mb hne).trans e3, e4.keep hk⟩
theorem CacheIs.blk {B g : Nat} {m : List (Int × XEnt)} {a b c : Int} {w : World} (h : CacheIs B g m a b c w) : B ≤ g ∧ ∃ mv, w.heap[g]? = some (.cells #[mv, .int .i64 a, .int .i64 b, .int .i64 c] 43 (0, 0)) := ⟨h.1, h.2.choose, h.2.choose_spec.1⟩
/-- What Find leaves: the files, some counts. -/
def CacheSome (B g : Nat) (m : List (Int × XEnt)) (w : World) : Prop := ∃ a b c, CacheIs B g m a b c w
set_option maxHeartbeats 8000000 in
set_option maxRecDepth 100000 in
theorem cFind (k B g : Nat) (m m' : List (Int × XEnt)) (f bl v s : Int) (er : Option Int) (w : World) (hBw : B ≤ w.heap.size) (h : CacheSome B g m w) (hf : findX k m f bl v = some (s, er, m')) :
    Calls Tryd.prog 23 #[.pointer (some ⟨g, 0, none⟩), .int .i64 f, .int .i64 bl, .int .i64 v] w fun e w' => e = .returned (.tuple #[.int .i64 s, errW er]) ∧ CacheSome B g m' w' ∧ Below B w w' ∧ CKeep w w' := by
  obtain ⟨a, b, c, h⟩ := h
  have HC := Aside0.mk h
  have HF := Aside0.mk hf
  have HBW := Aside0.mk hBw
  clear h hf hBw
  cases er with
  | none =>
    go_enter Tryd.func23, Tryd.ntmps23
    go_wp2_with (go_at_call 41; (with_reducible refine (cfind k B g m m' a b c f bl v s none _ HBW.out HC.out HF.out).mono ?_); rintro e w5 ⟨rfl, hc5, hb5, hk5⟩; have HC5 := Aside0.mk hc5; have HB5 := Aside0.mk hb5; have HK5 := Aside0.mk hk5; obtain ⟨hg5, mv5, hh5⟩ := hc5.blk; have HH5 := Aside0.mk hh5; have HG5 := Aside0.mk hg5; have hz1 := (blk_cell hh5 1).trans rfl; have hf1 : w5.frozen? ⟨g, 1, none⟩ = false := blk_frozen hh5 1; simp only [errW_none]; clear hc5 hb5 hk5 hg5 hh5)
    go_ret2
    exact ⟨rfl, ⟨_, _, _, HC5.out.cnt1 _⟩, HB5.out.setCell (p := ⟨g, 1, none⟩) HG5.out _, HK5.out.trans (CKeep.set HH5.out 1 _)⟩
  | some n =>
    have HI := Aside0.mk (fun w => eIs n 14 w)
    by_cases hn : n = 14
    · subst hn
      go_enter Tryd.func23, Tryd.ntmps23
      go_wp2_with (first
        | (go_at_call 41; (with_reducible refine (cfind k B g m m' a b c f bl v s (some 14) _ HBW.out HC.out HF.out).mono ?_); rintro e w5 ⟨rfl, hc5, hb5, hk5⟩; have HC5 := Aside0.mk hc5; have HB5 := Aside0.mk hb5; have HK5 := Aside0.mk hk5; obtain ⟨hg5, mv5, hh5⟩ := hc5.blk; have HH5 := Aside0.mk hh5; have HG5 := Aside0.mk hg5; have hz1 := (blk_cell hh5 3).trans rfl; have hf1 : w5.frozen? ⟨g, 3, none⟩ = false := blk_frozen hh5 3; simp only [errW_some]; clear hc5 hb5 hk5 hg5 hh5)
        | (go_at_call 42; (with_reducible refine (eIs 14 14 _).mono ?_); rintro e w6 ⟨rfl, rfl⟩))
      go_ret2
      exact ⟨rfl, ⟨_, _, _, HC5.out.cnt3 _⟩, HB5.out.setCell (p := ⟨g, 3, none⟩) HG5.out _, HK5.out.trans (CKeep.set HH5.out 3 _)⟩
    · have HN := Aside0.mk (show (n == 14) = false from beq_eq_false_iff_ne.2 hn)
      clear hn
      go_enter Tryd.func23, Tryd.ntmps23
      go_wp2_with (first
        | (go_at_call 41; (with_reducible refine (cfind k B g m m' a b c f bl v s (some n) _ HBW.out HC.out HF.out).mono ?_); rintro e w5 ⟨rfl, hc5, hb5, hk5⟩; have HC5 := Aside0.mk hc5; have HB5 := Aside0.mk hb5; have HK5 := Aside0.mk hk5; obtain ⟨hg5, mv5, hh5⟩ := hc5.blk; have HH5 := Aside0.mk hh5; have HG5 := Aside0.mk hg5; have hz1 := (blk_cell hh5 2).trans rfl; have hf1 : w5.frozen? ⟨g, 2, none⟩ = false := blk_frozen hh5 2; simp only [errW_some]; clear hc5 hb5 hk5 hg5 hh5)
        | (go_at_call 42; (with_reducible refine (eIs n 14 _).mono ?_); rintro e w6 ⟨rfl, rfl⟩; simp only [HN.out]))
      go_ret2
      exact ⟨rfl, ⟨_, _, _, HC5.out.cnt2 _⟩, HB5.out.setCell (p := ⟨g, 2, none⟩) HG5.out _, HK5.out.trans (CKeep.set HH5.out 2 _)⟩
theorem cFind_nil (f bl v : Int) (w : World) : Calls Tryd.prog 23 #[.pointer none, .int .i64 f, .int .i64 bl, .int .i64 v] w fun e w' => e = .returned (.tuple #[.int .i64 0, errW (some 1)]) ∧ w' = w := by
  simp only [errW_some]
  go_enter Tryd.func23, Tryd.ntmps23
  go_wp2
  go_ret2
  exact ⟨rfl, rfl⟩
/-- All rows of extents stay. -/
def XKeep (w w' : World) : Prop := ∀ (k : Nat) (cs : Array Value), w.heap[k]? = some (.cells cs 63 (0, 0)) → w'.heap[k]? = some (.cells cs 63 (0, 0))
theorem R_xkeep {w w' : World} {B : Nat} {ok : Nat → Prop} {v : Value} {xs : List XExt} (h : Kd.R k63 63 w B ok v xs) (hk : XKeep w w') : Kd.R k63 63 w' B ok v xs :=
  Kd.R_mono (Kd.R_step (Kd.R_bound h) (fun k hb _ => by
    obtain ⟨_, _, _, q, hq, cells, hc⟩ := hb
    rcases List.mem_cons.1 hq with rfl | hq
    · rw [hc, hk k cells hc]
    · exact absurd hq (by show ¬ q ∈ []; simp))) (fun _ hk => hk.1)
theorem Ents.xkeep {w w' : World} {B : Nat} (hk : XKeep w w') : ∀ {es : List MapEntry} {m : List (Int × XEnt)}, Ents w B es m → Ents w' B es m
  | [], [], _ => trivial
  | _ :: _, _ :: _, h => ⟨h.1, by obtain ⟨sv, e, hr⟩ := h.2.1; exact ⟨sv, e, R_xkeep hr hk⟩, Ents.xkeep hk h.2.2⟩
  | [], _ :: _, h => h.elim
  | _ :: _, [], h => h.elim
theorem xkeep_set {w : World} {g : Nat} {t : TypeId} {cs : Array Value} (h : w.heap[g]? = some (.cells cs t (0, 0))) (ht : t ≠ 63) (j : Nat) (u : Value) : XKeep w (w.setCell ⟨g, j, none⟩ u) := fun k _ hk => blk_far hk (p := ⟨g, j, none⟩) (fun e => blk_ne hk h (Ne.symm ht) e) u
/-- A store into a block of another type leaves a Cache as it was. -/
theorem CacheSome.other {B g gl : Nat} {m : List (Int × XEnt)} {w : World} {t : TypeId} {cs : Array Value} (h : CacheSome B g m w) (hl : w.heap[gl]? = some (.cells cs t (0, 0))) (ht : t ≠ 63) (ht2 : t ≠ 43) (j : Nat) (u : Value) : CacheSome B g m (w.setCell ⟨gl, j, none⟩ u) := by
  obtain ⟨a, b, c, hB, mv, h2, h3⟩ := h
  refine ⟨a, b, c, hB, mv, blk_far h2 (p := ⟨gl, j, none⟩) (fun e => blk_ne h2 hl (Ne.symm ht2) e) u, ?_⟩
  rcases h3 with h3 | ⟨mb, es, cl, e1, e2, e3, e4⟩
  · exact .inl h3
  · refine .inr ⟨mb, es, cl, e1, e2, ?_, e4.xkeep (xkeep_set hl ht j u)⟩
    have hne : mb ≠ gl := by
      rintro rfl
      rw [hl] at e3; cases e3
    exact (Below.heap_setCell w ⟨gl, j, none⟩ u mb hne).trans e3
theorem CacheSome.below {B g : Nat} {m : List (Int × XEnt)} {w w' : World} (h : CacheSome B g m w) (hb : Below w.heap.size w w') : CacheSome B g m w' := by
  obtain ⟨a, b, c, h⟩ := h
  exact ⟨a, b, c, h.below hb⟩
theorem cLoadS (B g B' : Nat) (m : List (Int × XEnt)) (f v : Int) (A : Option Addr) (cc n : Nat) (xs : List XExt) (w : World) (hn : xs.length = n) (hBw : B ≤ w.heap.size) (h : CacheSome B g m w) (hr : Kd.R k63 63 w B' (fun _ => True) (.slice A n cc) xs) (hx : xs.length < 8796093022208) :
    Calls Tryd.prog 22 #[.pointer (some ⟨g, 0, none⟩), .int .i64 f, .agg #[.int .i64 v, .slice A n cc]] w fun e w' => e = .returned (.tuple #[]) ∧ CacheSome B g (putE f (v, xs) m) w' ∧ Below B w w' ∧ CKeep w w' := by
  obtain ⟨a, b, c, h⟩ := h
  exact (cLoadN B g B' m a b c f v A cc n xs w hn hBw h hr hx).mono (by rintro e w' ⟨h1, h2, h3⟩; exact ⟨h1, ⟨_, _, _, h2⟩, h3⟩)


end Go.Proofs.YtngokgliagkohaaDoor.VXlatOthers
