/- Contracts of functions of this seat: each call comes to what its Lean function computes; no condition beyond what each theorem states. Printed by a program of this session's own laid over the kit's printer. -/
import Derived.Test.YtngokgliagkohaaDoorVXlatOthersx0
namespace Go.Proofs.YtngokgliagkohaaDoor.VXlatOthers
open Go.RowKit Go.Proofs.YtngokgliagkohaaDoorW.PrintWords Go.Proofs.YtngokgliagkohaaDoorW.PrintLast Go.Proofs.YtngokgliagkohaaDoorW.PrintMore
attribute [local go_sem] max2_int min2_int max_two min_two max_three min_three max_four min_four   -- for this text's walks alone
set_option linter.unusedVariables false
set_option linter.unusedSimpArgs false

-- @GIVEN inode_Extent
/-! ### inode_Extent: by hand -/
def inode_Extent.f (l0 : List S63) : Option (List S63) := if l0.length < 8796093022208 then some l0 else none
theorem infoEx_ : (Tryd.prog.info? 63).map (fun i => (i.zero, i.size, i.bytes)) = some (some (.agg #[.int .i64 0, .int .i64 0]), 2, 16) := by kernel_rfl
set_option maxHeartbeats 4000000 in
set_option maxRecDepth 100000 in
theorem inode_Extent.calls (A0 : Option Addr) (c0 : Nat) (l0 : List S63) (r : List S63) (w : World) (hr0 : Kd.C k63 w A0 l0.length l0) (hc0 : l0.length ≤ c0) (h : inode_Extent.f l0 = some r) :
    Calls Tryd.prog 40 #[.slice A0 l0.length c0] w fun e w' => ∃ v0_ : Value, e = .returned (v0_) ∧ Kd.R k63 63 w' w.heap.size (fun _ => True) v0_ r ∧ Below w.heap.size w w' := by
  unfold inode_Extent.f at h
  by_cases hl : l0.length < 8796093022208
  case neg => rw [if_neg hl] at h; cases h
  rw [if_pos hl] at h
  obtain rfl := Option.some.inj h
  have HR0 := Aside0.mk hr0
  have HL := Aside0.mk hl
  clear h hl
  cases A0 with
  | none =>
    have hn : l0 = [] := by
      rcases l0 with _ | ⟨x, l⟩
      · rfl
      · obtain ⟨ad, e, _⟩ := at_T63 hr0 0 (by omega) (by simp)
        cases e
    subst hn
    clear hr0
    have hne : ∀ (n : Nat) (W : World), (binOp BinOp.eql 44 (.slice none n c0) (.slice none 0 0)).run Tryd.prog W = .ok (.bool true) W := fun n W => by
      first | rfl | (simp [binOp]; rfl) | (simp [binOp]; done) | go_simp
    go_enter Tryd.func40, Tryd.ntmps40
    go_wp2
    go_ret
    exact ⟨_, rfl, Kd.R_nil _ _ _ _ _, Below.refl _ _⟩
  | some ad =>
    clear hr0
    have hne : ∀ (n : Nat) (W : World), (binOp BinOp.eql 44 (.slice (some ad) n c0) (.slice none 0 0)).run Tryd.prog W = .ok (.bool false) W := fun n W => by
      first | rfl | (simp [binOp]; rfl) | (simp [binOp]; done) | go_simp
    go_enter Tryd.func40, Tryd.ntmps40
    go_wp2_with (first
      | ((with_reducible refine gate_dst (N := 5) rfl ?_); refine Kd.R_lit k63 w.heap.size 63 ?hg (N := 5) ?hd (xs := ([] : List S63)) (inner := []) (ok := fun _ => True) (okp := fun _ => True) ?hr ?hp (fun _ hk => hk) trivial (Below.refl _ _) (Nat.le_refl _) (by simp) ?_; (case hd => rfl); (case hg => rfl); (case hr => first | (go_simp; done) | (go_simp; rfl)); (case hp => exact (Reps.none _ _)); intro v5 w5 ho5 hb5 _ _; have HO5 := Aside0.mk ho5; have HB5 := Aside0.mk hb5; clear ho5 hb5)
      | ((with_reducible refine gate_builtin (b := .append) (xs := #[.tmp 5, .tmp 6]) rfl ?_); at_builtin; refine Kd.R_append_rows k63 (w0 := w) w.heap.size rfl (.tmp 5) (.tmp 6) 44 63 (.agg #[.int .i64 0, .int .i64 0]) 16 rfl Tryd.underlying44 infoEx_ rfl (by decide) (by omega) v5 [] l0 (some ad) _ _ (fun _ => True) (fun _ => False) rfl rfl HO5.out (Kd.C_below HR0.out HB5.out) (fun _ _ h => h) (fun _ h => h.elim) (fun _ _ => trivial) HB5.out HB5.out.size (by have := HL.out; simp only [List.length_nil]; omega) ?_; intro v7 w7 ho7 hb7 _ _; have HO7 := Aside0.mk ho7; have HB7 := Aside0.mk hb7; clear ho7 hb7))
    go_ret
    exact ⟨_, rfl, HO7.out, HB7.out⟩


end Go.Proofs.YtngokgliagkohaaDoor.VXlatOthers
