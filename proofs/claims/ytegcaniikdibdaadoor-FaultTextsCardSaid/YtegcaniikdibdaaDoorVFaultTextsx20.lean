/- Contracts of functions of this seat: each call comes to what its Lean function computes; no condition beyond what each theorem states. Printed by a program of this session's own laid over the kit's printer. -/
import Derived.Test.YtegcaniikdibdaaDoorVFaultTextsx0
import Derived.Test.YtegcaniikdibdaaDoorVFaultTextsx1
import Derived.Test.YtegcaniikdibdaaDoorVFaultTextsx3
import Derived.Test.YtegcaniikdibdaaDoorVFaultTextsx18
namespace Go.Proofs.YtegcaniikdibdaaDoor.VFaultTexts
open Go.RowKit Go.Proofs.YtegcaniikdibdaaDoorW.PrintWords Go.Proofs.YtegcaniikdibdaaDoorW.PrintLast Go.Proofs.YtegcaniikdibdaaDoorW.PrintMore
attribute [local go_sem] max2_int min2_int max_two min_two max_three min_three max_four min_four   -- for this text's walks alone
set_option linter.unusedVariables false
set_option linter.unusedSimpArgs false

-- @GIVEN lib_find
/-- The innermost fault on the way by the first error of many. -/
def Er.innerA (q : Option (ByteArray × Int)) : Er → Option (ByteArray × Int)
  | .num _ => q
  | .wrap op pl e => e.innerA (some (op, pl))
  | .many e _ => e.innerA q
section
set_option maxHeartbeats 4000000 in
set_option maxRecDepth 100000 in
theorem below_num (n : Int) (w : World) : Calls Tryd.prog 43 #[.iface 36 (.int .i64 n)] w fun r w' => r = .returned (.slice none 0 0) ∧ w' = w := by
  have a1 : ∀ (v : Value) (w : World), (Instr.typeAssert (.iface 36 v) 27 37 true).run Tryd.prog w = .ok (.tuple #[.pointer none, .bool false]) w := fun v w => by kernel_rfl
  have a2 : ∀ (v : Value) (w : World), (Instr.typeAssert (.iface 36 v) 27 52 true).run Tryd.prog w = .ok (.tuple #[.slice none 0 0, .bool false]) w := fun v w => by kernel_rfl
  go_enter Tryd.func43, Tryd.ntmps43
  go_wp2
  go_ret
  exact ⟨rfl, rfl⟩
set_option maxHeartbeats 4000000 in
set_option maxRecDepth 100000 in
theorem below_wrap (g : Nat) (o : ByteArray) (p : Int) (t : TypeId) (x : Value) (w : World) (hg : w.heap[g]? = some (.cells #[.string o, .int .i64 p, .iface t x] 39 (0, 0))) :
    Calls Tryd.prog 43 #[.iface 37 (.pointer (some ⟨g, 0, none⟩))] w fun r w' => ∃ gb, r = .returned (.slice (some ⟨gb, 0, none⟩) 1 1) ∧ w'.cell? ⟨gb, 0, none⟩ = some (.iface t x) ∧ Below w.heap.size w w' := by
  have a1 := ta_faultY
  have HG := Aside0.mk hg
  clear hg
  go_enter Tryd.func43, Tryd.ntmps43
  go_wp2_with (go_at_call 26; (with_reducible refine (eUnwrap g o p (.iface t x) _ HG.out).mono ?_); rintro r w6 ⟨rfl, rfl⟩)
  go_ret
  exact ⟨_, rfl, (blk_cell (blk_new _ _) 0).trans rfl, below_alloc (Below.refl _ _) _⟩
set_option maxHeartbeats 4000000 in
set_option maxRecDepth 100000 in
theorem below_many (t : TypeId) (x sv : Value) (m : Int) (w : World) (hr : w.ownsRow 0 27 1 sv 2 [.iface t x, eNum m]) :
    Calls Tryd.prog 43 #[.iface 52 sv] w fun r w' => ∃ gb cb, r = .returned (.slice (some ⟨gb, 0, none⟩) 2 cb) ∧ w'.cell? ⟨gb, 0, none⟩ = some (.iface t x) ∧ w'.cell? ⟨gb, 1, none⟩ = some (eNum m) ∧ Below w.heap.size w w' := by
  have a1 := ta_faultM
  have a2 : ∀ (v : Value) (w : World), (Instr.typeAssert (.iface 52 v) 27 52 true).run Tryd.prog w = .ok (.tuple #[v, .bool true]) w := fun v w => by kernel_rfl
  have HR := Aside0.mk hr
  clear hr
  go_enter Tryd.func43, Tryd.ntmps43
  go_wp2_with (go_at_call 22; (with_reducible refine (eUnwraps (.iface t x) sv [m] _ HR.out (by simp) rfl).mono ?_); rintro r w5 ⟨sv5, rfl, hr5, hb5⟩; obtain ⟨g5, c5, rfl, hg5a, hg5b, hc5, hcell5⟩ := row_open hr5 (by simp); have HB5 := Aside0.mk hb5; have HC := Aside0.mk hcell5; clear hr5 hb5 hcell5 hg5a hg5b hc5)
  go_ret
  exact ⟨_, _, rfl, HC.out 0 _ rfl, HC.out 1 _ rfl, HB5.out⟩
end
def FindPost (w : World) (q : Option (ByteArray × Int)) (r : Ending) (w' : World) : Prop := ∃ (op : ByteArray) (pl : Int) (ev : Value), r = .returned (.tuple #[.agg #[.string op, .int .i64 pl, ev], .bool q.isSome]) ∧ (∀ z, q = some z → op = z.1 ∧ pl = z.2) ∧ (ev = .nilIface ∨ ∃ t x, ev = .iface t x) ∧ Below w.heap.size w w'
def put3 (W : World) (g : Nat) (a b c : Value) : World := ((W.setCell ⟨g, 0, none⟩ a).setCell ⟨g, 1, none⟩ b).setCell ⟨g, 2, none⟩ c
theorem put3_blk {W : World} {g : Nat} {a b c a' b' c' : Value} {T : TypeId} (h : W.heap[g]? = some (.cells #[a, b, c] T (0, 0))) : (put3 W g a' b' c').heap[g]? = some (.cells #[a', b', c'] T (0, 0)) := by
  unfold put3
  simp [World.setCell, Array.getElem?_modify, h]
theorem put3_below {w0 W : World} {B g : Nat} (h : Below B w0 W) (hg : B ≤ g) (a b c : Value) : Below B w0 (put3 W g a b c) := ((h.setCell (p := ⟨g, 0, none⟩) hg a).setCell (p := ⟨g, 1, none⟩) hg b).setCell (p := ⟨g, 2, none⟩) hg c
theorem blk_gr3 {W : World} {g k : Nat} {o : Obj} (h : W.heap[k]? = some o) (hne : k ≠ g) (a b c : Value) : (put3 W g a b c).heap[k]? = some o := by
  unfold put3
  rw [Below.heap_setCell _ _ _ _ hne, Below.heap_setCell _ _ _ _ hne, Below.heap_setCell _ _ _ _ hne]
  exact h
set_option maxHeartbeats 8000000 in
set_option maxRecDepth 100000 in
/-- The innermost fault of such an error. -/
theorem find_tree (e : Er) (v : Value) (w : World) (h2 : Er.two e) (h : ErV w v e) : Calls Tryd.prog 23 #[v] w fun r w' => FindPost w (e.innerA none) r w' := by
  have HV0 := Aside0.mk h
  have H20 := Aside0.mk h2
  obtain ⟨t0, x0, rfl⟩ := h.iface
  clear h h2
  go_enter Tryd.func23, Tryd.ntmps23
  go_wp2_with (first
    | ((with_reducible refine gate_dst (N := 2) rfl ?_); refine box_event ?hg (N := 2) ?hd (cs := #[.string ⟨#[]⟩, .int .i64 0, .nilIface]) (t := 39) ?hr ?_; (case hd => rfl); (case hg => rfl); (case hr => first | (go_simp; done) | (go_simp; rfl)); intro g2 hg2 w2 hbox hb; have HG2 := Aside0.mk hg2; have HZ2 := Aside0.mk hbox; have HB2 := Aside0.mk hb; clear hg2 hbox hb)
    | ((with_reducible refine gate_dst (N := 4) rfl ?_); refine box_event ?hg (N := 4) ?hd (cs := #[.string ⟨#[]⟩, .int .i64 0, .nilIface]) (t := 39) ?hr ?_; (case hd => rfl); (case hg => rfl); (case hr => first | (go_simp; done) | (go_simp; rfl)); intro g4 hg4 w4 hbox hb; have HG4 := Aside0.mk (show w.heap.size ≤ g2 ∧ g2 < g4 from ⟨by rw [HG2.out]; exact Nat.le_refl _, by rw [hg4]; exact blk_lt HZ2.out⟩); have HZ4 := Aside0.mk hbox; have HB4 := Aside0.mk (below_step HB2.out hb); have HZ24 := Aside0.mk (blk_below HZ2.out hb); clear hg4 hbox hb HZ2))
  clear HB2 HG2
  go_loopg [0, 5] e.sz (fun kq v0 v5 w' => ∃ (e1 : Er) (v1 : Value) (q : Option (ByteArray × Int)) (op : ByteArray) (pl : Int) (ev : Value), v0 = v1 ∧ v5 = .bool q.isSome ∧ Aside0 (kq = e1.sz) ∧ Aside0 (e1.two ∧ ErV w v1 e1) ∧ Aside0 (e1.innerA q = e.innerA none) ∧ Aside0 ((∀ z, q = some z → op = z.1 ∧ pl = z.2) ∧ (ev = .nilIface ∨ ∃ t x, ev = .iface t x)) ∧ Aside0 (w'.heap[g4]? = some (.cells #[.string op, .int .i64 pl, ev] 39 (0, 0))) ∧ Aside0 (w'.heap[g2]? = some (.cells #[.string ⟨#[]⟩, .int .i64 0, .nilIface] 39 (0, 0))) ∧ Aside0 (Below w.heap.size w w'))
  case atStart => exact ⟨e, _, none, _, _, _, rfl, rfl, ⟨rfl⟩, ⟨H20.out, HV0.out⟩, ⟨rfl⟩, ⟨(⟨fun z hz => (by cases hz), Or.inl rfl⟩ : (∀ z : ByteArray × Int, (none : Option (ByteArray × Int)) = some z → (⟨#[]⟩ : ByteArray) = z.1 ∧ (0 : Int) = z.2) ∧ (Value.nilIface = .nilIface ∨ ∃ t x, Value.nilIface = .iface t x))⟩, HZ4, HZ24, HB4⟩
  case round =>
    clear HV0 H20 HZ4 HZ24 HB4
    obtain ⟨e1, v1, q, op, pl, ev, hs0, hs5, HK, HV, HQ, HE, HX, HY, HB⟩ := hrel
    subst hs0 hs5
    have hev := HE.out.2
    have hq0 := (blk_cell HX.out 0).trans rfl
    have hq1 := (blk_cell HX.out 1).trans rfl
    have hq2 := (blk_cell HX.out 2).trans rfl
    have hf0 := blk_frozen HX.out 0
    have hf1 := blk_frozen HX.out 1
    have hf2 := blk_frozen HX.out 2
    cases e1 with
    | num n =>
      have hv : _ = Value.iface 36 (.int .i64 n) := HV.out.2
      subst hv
      have HQQ := Aside0.mk (show q = e.innerA none from HQ.out)
      have hy0 := (blk_cell HY.out 0).trans rfl
      have hy1 := (blk_cell HY.out 1).trans rfl
      have hy2 := (blk_cell HY.out 2).trans rfl
      have hz0 := blk_frozen HY.out 0
      have hz1 := blk_frozen HY.out 1
      have hz2 := blk_frozen HY.out 2
      have HEV := Aside0.mk HE.out.2
      have HEQ := Aside0.mk (fun z (hz : e.innerA none = some z) => HE.out.1 z (HQQ.out.trans hz))
      have HS3 := Aside0.mk (put3_blk (a' := .string op) (b' := .int .i64 pl) (c' := ev) HY.out)
      have HB3 := Aside0.mk (put3_below HB.out HG4.out.1 (.string op) (.int .i64 pl) ev)
      clear HE HX HY HB hev
      rcases HEV.out with rfl | ⟨te, xe, rfl⟩
      all_goals
        go_wp2_with (first
          | (go_at_call 42; (refine (itself_num n _).mono ?_); rintro r w5 ⟨rfl, rfl⟩)
          | (go_at_call 43; (with_reducible refine (below_num n _).mono ?_); rintro r w5 ⟨rfl, rfl⟩))
        refine bodyPost_ret (results_ct rfl _ _ g2 39 #[.string op, .int .i64 pl, _] (0, 0) _ rfl HS3.out Tryd.underlying39 rfl (by kernel_rfl)) rfl ?_
        exact ⟨op, pl, _, (by rw [← HQQ.out]; rfl), HEQ.out, by first | exact .inl rfl | exact .inr ⟨_, _, rfl⟩, HB3.out⟩
    | wrap o p e2 =>
      obtain ⟨h2, g, v2, hv, hg, hv2⟩ := HV.out
      subst hv
      have HG := Aside0.mk hg
      have HGW := Aside0.mk (blk_below hg (HB.out))
      have hg0 := (blk_cell HGW.out 0).trans rfl
      have hg1 := (blk_cell HGW.out 1).trans rfl
      have hg2 := (blk_cell HGW.out 2).trans rfl
      have HV2 := Aside0.mk (And.intro (show e2.two from h2) hv2)
      obtain ⟨t2, x2, rfl⟩ := hv2.iface
      have HQQ := Aside0.mk (show e2.innerA (some (o, p)) = e.innerA none from HQ.out)
      have HGN := Aside0.mk (blk_lt hg)
      clear hg hv2 HV h2 HQ
      go_wp2_with (first
        | (go_at_call 42; (refine (itself_fault g _).mono ?_); rintro r w5 ⟨rfl, rfl⟩)
        | (go_at_call 43; refine (below_wrap g o p t2 x2 _ ?hbw).mono ?_; (case hbw => exact blk_below HG.out (put3_below HB.out (by have := HG4.out; omega) _ _ _)); rintro r w5 ⟨gb, rfl, hc5, hb5⟩; have HB5 := Aside0.mk (below_step (put3_below HB.out (show w.heap.size ≤ g4 by have := HG4.out; omega) (.string o) (.int .i64 p) (.iface t2 x2)) hb5); have HX5 := Aside0.mk (blk_below (put3_blk (a' := .string o) (b' := .int .i64 p) (c' := .iface t2 x2) HX.out) hb5); have HY5 := Aside0.mk (blk_below (blk_gr3 HY.out (by have := HG4.out; omega) (.string o) (.int .i64 p) (.iface t2 x2)) hb5); clear hb5))
      go_roundg e2.sz
      case measure => have := HK.out; simp only [Er.sz] at this; omega
      case rel => exact ⟨e2, _, some (o, p), o, p, _, rfl, rfl, ⟨rfl⟩, HV2, HQQ, ⟨⟨fun z hz => (by cases hz; exact ⟨rfl, rfl⟩), .inr ⟨_, _, rfl⟩⟩⟩, HX5, HY5, HB5⟩
    | many e2 l =>
      obtain ⟨⟨h21, h22⟩, sv, v2, hv, hr, hl, hv2⟩ := HV.out
      subst hv
      obtain ⟨m, rfl⟩ := List.length_eq_one_iff.1 h21
      have HR := Aside0.mk (pw_own_below hr HB.out)
      have HV2 := Aside0.mk (And.intro (show e2.two from h22) hv2)
      obtain ⟨t2, x2, rfl⟩ := hv2.iface
      have HQQ := Aside0.mk (show e2.innerA q = e.innerA none from HQ.out)
      clear hr hl hv2 HV h21 h22 HQ
      go_wp2_with (first
        | (go_at_call 42; (refine (itself_many _ _).mono ?_); rintro r w5 ⟨rfl, rfl⟩)
        | (go_at_call 43; refine (below_many t2 x2 _ m _ HR.out).mono ?_; rintro r w5 ⟨gb, cb, rfl, hc5, _, hb5⟩; have HB5 := Aside0.mk (below_step HB.out hb5); have HX5 := Aside0.mk (blk_below HX.out hb5); have HY5 := Aside0.mk (blk_below HY.out hb5); clear hb5))
      go_roundg e2.sz
      case measure => have := HK.out; simp only [Er.sz] at this; omega
      case rel => exact ⟨e2, _, q, op, pl, ev, rfl, rfl, ⟨rfl⟩, HV2, HQQ, HE, HX5, HY5, HB5⟩


end Go.Proofs.YtegcaniikdibdaaDoor.VFaultTexts
