/- Contracts of functions of this seat: each call comes to what its Lean function computes; no condition beyond what each theorem states. Printed by a program of this session's own laid over the kit's printer. -/
import Derived.Test.YtegcaniikdibdaaDoorVFaultTextsx0
import Derived.Test.YtegcaniikdibdaaDoorVFaultTextsx1
import Derived.Test.YtegcaniikdibdaaDoorVFaultTextsx3
import Derived.Test.YtegcaniikdibdaaDoorVFaultTextsx6
namespace Go.Proofs.YtegcaniikdibdaaDoor.VFaultTexts
open Go.RowKit Go.Proofs.YtegcaniikdibdaaDoorW.PrintWords Go.Proofs.YtegcaniikdibdaaDoorW.PrintLast Go.Proofs.YtegcaniikdibdaaDoorW.PrintMore
attribute [local go_sem] max2_int min2_int max_two min_two max_three min_three max_four min_four   -- for this text's walks alone
set_option linter.unusedVariables false
set_option linter.unusedSimpArgs false

-- @GIVEN errors_IsT
/-! ### errors_IsT: by hand -/
section
open Go.Extern.Stop Go.Stop Go.Extern
/-- What is asked for: a number, or a fault without a cause at block g. -/
inductive Tg where
  | num (m : Int)
  | flt (g : Nat) (op : ByteArray) (pl : Int)
def Tg.val : Tg → Value
  | .num m => eNum m
  | .flt g _ _ => .iface 37 (.pointer (some ⟨g, 0, none⟩))
def Tg.at_ (w : World) : Tg → Prop
  | .num _ => True
  | .flt g op pl => w.heap[g]? = some (.cells #[.string op, .int .i64 pl, .nilIface] 39 (0, 0))
theorem Tg.below {w w' : World} (hb : Below w.heap.size w w') : ∀ {T : Tg}, T.at_ w → T.at_ w'
  | .num _, h => h
  | .flt _ _ _, h => blk_below h hb
def Er.is (T : Tg) (e : Er) : Bool := match T with
  | .num m => e.hasNum m
  | .flt _ op pl => e.hasF op pl
theorem isY1 (v : Value) (w : World) : (Instr.typeAssert (.iface 37 v) 27 127 true).run Tryd.prog w = .ok (.tuple #[.iface 37 v, .bool true]) w := run_typeAssert_hasB Tryd.underlying127 (by kernel_rfl) v 27 w
theorem isM1 (a : Value) (w : World) : (Instr.typeAssert (.iface 52 a) 27 127 true).run Tryd.prog w = .ok (.tuple #[.nilIface, .bool false]) w := run_typeAssert_lacksB Tryd.underlying127 (by kernel_rfl) (by kernel_rfl) a 27 w
theorem mIs (v : Value) (w : World) : (Go.method 343 37 v "Is").run Tryd.prog w = .ok (27, v) w := by kernel_rfl
def Tg.hit : Tg → ByteArray → Int → Bool
  | .num _, _, _ => false
  | .flt _ op pl, o, p => hitF op pl o p
theorem is_wrap (T : Tg) (o : ByteArray) (p : Int) (e : Er) : Er.is T (.wrap o p e) = (T.hit o p || e.is T) := by cases T <;> rfl
theorem is_many (T : Tg) (e : Er) (l : List Int) : Er.is T (.many e l) = (e.is T || l.any fun n => Er.is T (.num n)) := by
  cases T with
  | num m => rfl
  | flt g op pl =>
    show e.hasF op pl = (e.hasF op pl || l.any fun _ => false)
    have : (l.any fun _ => false) = false := by simp
    rw [this, Bool.or_false]
theorem isF_T (T : Tg) (g : Nat) (o : ByteArray) (p : Int) (v1 : Value) (w : World) (hg : w.heap[g]? = some (.cells #[.string o, .int .i64 p, v1] 39 (0, 0))) (hT : T.at_ w) :
    Calls Tryd.prog 27 #[.pointer (some ⟨g, 0, none⟩), T.val] w fun r w' => r = .returned (.bool (T.hit o p)) ∧ Below w.heap.size w w' := by
  cases T with
  | num m => exact isF_num g m w
  | flt gt op pl => exact isF_fault g gt o op p pl v1 w hg hT
theorem eqT_num (T : Tg) (n : Int) (w : World) : (binOp .eql 27 (.iface 36 (.int .i64 n)) T.val).run Tryd.prog w = .ok (.bool (Er.is T (.num n))) w := by
  cases T with
  | num m => exact is_eq w n m
  | flt g op pl => exact er_ne _ _ _ _ (by decide) w
theorem eqT_many (T : Tg) (v : Value) (w : World) : (binOp .eql 27 (.iface 52 v) T.val).run Tryd.prog w = .ok (.bool false) w := by
  cases T with
  | num m => exact er_ne _ _ _ _ (by decide) w
  | flt g op pl => exact er_ne _ _ _ _ (by decide) w
theorem infoF : (Tryd.prog.info? 37).map (·.comparable) = some true := by kernel_rfl
theorem er_ptr (a b : Addr) (ca cb : Array Value) (w : World) (hne : a ≠ b) (ha : w.heap[a.block]? = some (.cells ca 39 (0, 0))) (hb : w.heap[b.block]? = some (.cells cb 39 (0, 0))) : (binOp .eql 27 (.iface 37 (.pointer (some a))) (.iface 37 (.pointer (some b)))).run Tryd.prog w = .ok (.bool false) w := by
  obtain ⟨i, hi, hc⟩ := Option.map_eq_some_iff.1 infoF
  have hp : (Op.equalIn 9999 37 (.pointer (some a)) (.pointer (some b))).run Tryd.prog w = .ok false w := by
    rw [show (9999 : Nat) = 9998 + 1 from rfl, Op.equalIn]
    simp [run_underlying Tryd.underlying37, Tryd.sizeOf39]
    exact run_sameAddr_other _ hne ha hb
  have h1 : (Op.equalIn 10000 27 (.iface 37 (.pointer (some a))) (.iface 37 (.pointer (some b)))).run Tryd.prog w = .ok false w := by
    rw [show (10000 : Nat) = 9999 + 1 from rfl, Op.equalIn]
    simp [run_underlying Tryd.underlying27, typeInfo, hi, hc, hp]
  simp only [binOp]
  simp [Op.equal, Op.maxDepth, h1]
theorem eqT_wrap (T : Tg) (g : Nat) (o : ByteArray) (p : Int) (v1 : Value) (w : World) (hg : w.heap[g]? = some (.cells #[.string o, .int .i64 p, v1] 39 (0, 0))) (hv : ∃ t x, v1 = .iface t x) (hT : T.at_ w) : (binOp .eql 27 (.iface 37 (.pointer (some ⟨g, 0, none⟩))) T.val).run Tryd.prog w = .ok (.bool false) w := by
  cases T with
  | num m => exact er_ne _ _ _ _ (by decide) w
  | flt gt op pl =>
    refine er_ptr _ _ _ _ w (fun h => ?_) hg hT
    obtain ⟨t, x, rfl⟩ := hv
    injection h with h1
    subst h1
    have := hg.symm.trans hT
    simp at this

theorem is_all (T : Tg) (e : Er) (l : List Int) : Er.is T (.many e l) = (e :: l.map Er.num).any (Er.is T) := by
  rw [is_many, List.any_cons, List.any_map]; rfl
theorem elem_at {w : World} {t1 : TypeId} {x1 : Value} {e : Er} {l : List Int} {N : Nat} (h : ErV w (.iface t1 x1) e) (hN : e.sz ≤ N) (h1 : 1 ≤ N) (j : Nat) (hj : j < l.length + 1) : ∃ t x ej, (Value.iface t1 x1 :: l.map eNum)[j]? = some (.iface t x) ∧ (e :: l.map Er.num)[j]? = some ej ∧ ej.sz ≤ N ∧ ErV w (.iface t x) ej := by
  cases j with
  | zero => exact ⟨t1, x1, e, rfl, rfl, hN, h⟩
  | succ j => exact ⟨_, _, .num (l[j]'(by omega)), by rw [List.getElem?_cons_succ, List.getElem?_map, List.getElem?_eq_getElem (by omega)]; rfl, by rw [List.getElem?_cons_succ, List.getElem?_map, List.getElem?_eq_getElem (by omega)]; rfl, h1, rfl⟩
theorem Er.is_val (T : Tg) : ∃ tt tx, T.val = .iface tt tx := by cases T <;> exact ⟨_, _, rfl⟩
set_option maxHeartbeats 8000000 in
set_option maxRecDepth 100000 in
/-- errors.is over such errors. -/
theorem eis_tree (T : Tg) : ∀ (N : Nat) (e : Er) (v : Value) (w : World), e.sz ≤ N → ErV w v e → T.at_ w →
    Calls Tryd.prog 41 #[v, T.val, .bool true] w fun r w' => r = .returned (.bool (e.is T)) ∧ Below w.heap.size w w' := by
  intro N
  induction N with
  | zero => intro e v w hN; have := e.sz_pos; omega
  | succ N ih =>
    intro e v w hN h hT
    have HV0 := Aside0.mk h
    have HT0 := Aside0.mk hT
    have HN := Aside0.mk hN
    obtain ⟨tv, htv⟩ : ∃ tv, tv = T.val := ⟨_, rfl⟩
    have HTV := Aside0.mk htv
    simp only [← htv] at ih
    have IH := Aside0.mk ih
    rw [← htv]
    clear h hT hN ih htv
    have n1 := is_no1
    have n2 := is_no2
    have n3 := is_no3
    have y1 := isY1
    have y2 := isY2
    have m1 := isM1
    have m2 := isM2
    have m3 := isM3
    have k1 := mIs
    have k2 := mUn
    have k3 := mUns
    go_enter Tryd.func41, Tryd.ntmps41
    go_wp2_with fail
    go_loopg [0] e.sz (fun kq v0 w' => ∃ (e1 : Er) (v1 : Value), v0 = v1 ∧ Aside0 (kq = e1.sz ∧ e1.sz ≤ N + 1 ∧ e1.is T = e.is T) ∧ Aside0 (ErV w' v1 e1) ∧ Aside0 (T.at_ w') ∧ Aside0 (Below w.heap.size w w'))
    case atStart => exact ⟨e, _, rfl, ⟨rfl, HN.out, rfl⟩, HV0, HT0, ⟨Below.refl _ _⟩⟩
    case round =>
      clear HV0 HT0 HN
      obtain ⟨e1, v0, rfl, HK, HV, HT, HB⟩ := hrel
      cases e1 with
      | num n =>
        have hv : _ = Value.iface 36 (.int .i64 n) := HV.out
        subst hv
        have HF := Aside0.mk (HK.out.2.2)
        have q : ∀ w : World, (binOp .eql 27 (.iface 36 (.int .i64 n)) tv).run Tryd.prog w = .ok (.bool (Er.is T (.num n))) w := fun w => by rw [HTV.out]; exact eqT_num T n w
        cases hb : Er.is T (.num n)
        all_goals
          rw [hb] at q HF
          clear hb
          go_wp2_with fail
          go_ret
          exact ⟨by rw [← HF.out]; rfl, HB.out⟩
      | wrap o p e2 =>
        obtain ⟨g, v1, hv, hg, hv1⟩ := HV.out
        subst hv
        have HF := Aside0.mk ((is_wrap T o p e2).symm.trans HK.out.2.2)
        have HG := Aside0.mk hg
        have HV1 := Aside0.mk hv1
        obtain ⟨t1, x1, rfl⟩ := hv1.iface
        have q := eqT_wrap T g o p (.iface t1 x1) _ hg ⟨_, _, rfl⟩ HT.out
        rw [← HTV.out] at q
        have HK2 := Aside0.mk (show e2.sz ≤ N + 1 from by have := HK.out; simp only [Er.sz] at this; omega)
        clear hg hv1 HV
        have HFI := Aside0.mk (fun (W : World) (hg : W.heap[g]? = some (.cells #[.string o, .int .i64 p, .iface t1 x1] 39 (0, 0))) (hT : T.at_ W) => show Calls Tryd.prog 27 #[.pointer (some ⟨g, 0, none⟩), tv] W (fun r w' => r = .returned (.bool (T.hit o p)) ∧ Below W.heap.size W w') from by rw [HTV.out]; exact isF_T T g o p (.iface t1 x1) W hg hT)
        cases hb : T.hit o p
        all_goals
          rw [hb] at HF
          have HBT := Aside0.mk hb
          clear hb
          go_wp2_with (first
            | (go_at_call 27; (with_reducible refine (HFI.out _ HG.out HT.out).mono ?_); rintro r w5 ⟨rfl, hb5⟩; rw [HBT.out]; have HB5 := Aside0.mk (below_step HB.out hb5); have HG5 := Aside0.mk (blk_below HG.out hb5); have HT5 := Aside0.mk (Tg.below hb5 HT.out); have HV5 := Aside0.mk (HV1.out.below hb5); clear hb5)
            | (go_at_call 26; (with_reducible refine (eUnwrap g o p (.iface t1 x1) _ HG5.out).mono ?_); rintro r w6 ⟨rfl, rfl⟩))
        · go_roundg e2.sz
          case measure => have := HK.out; simp only [Er.sz] at this; omega
          case rel => exact ⟨e2, _, rfl, ⟨rfl, HK2.out, by have := HF.out; simpa using this⟩, HV5, HT5, HB5⟩
        · go_ret
          exact ⟨by rw [← HF.out]; rfl, HB5.out⟩
      | many e2 l =>
        obtain ⟨sv, v1, hv, hr, hl, hv1⟩ := HV.out
        subst hv
        have HF := Aside0.mk ((is_all T e2 l).symm.trans HK.out.2.2)
        have HR := Aside0.mk hr
        have HL := Aside0.mk hl
        have HV1 := Aside0.mk hv1
        obtain ⟨t1, x1, rfl⟩ := hv1.iface
        have q : ∀ w : World, (binOp .eql 27 (.iface 52 sv) tv).run Tryd.prog w = .ok (.bool false) w := fun w => by rw [HTV.out]; exact eqT_many T sv w
        have HS := Aside0.mk (show e2.sz ≤ N ∧ 1 ≤ N from by have h2 := HK.out.2.1; have := e2.sz_pos; simp only [Er.sz] at h2; omega)
        clear hr hl hv1 HV HK
        go_wp2_with (go_at_call 22; (with_reducible refine (eUnwraps (.iface t1 x1) sv l _ HR.out HL.out rfl).mono ?_); rintro r w5 ⟨sv5, rfl, hr5, hb5⟩; obtain ⟨g5, c5, rfl, hg5a, hg5b, hc5, hcell5⟩ := row_open hr5 (by omega); have HB5 := Aside0.mk (below_step HB.out hb5); have HT5 := Aside0.mk (Tg.below hb5 HT.out); have HV5 := Aside0.mk (HV1.out.below hb5); have HC5 := Aside0.mk hcell5; clear hr5 hb5 hcell5 hg5a hg5b hc5)
        go_loopg [45] (l.length + 1) (fun kq v45 w' => ∃ j : Nat, v45 = .int .i64 (j : Int) ∧ Aside0 (kq = l.length + 1 - j ∧ j ≤ l.length + 1) ∧ Aside0 (((e2 :: l.map Er.num).take j).any (Er.is T) = false) ∧ Aside0 (Below w5.heap.size w5 w'))
        case atStart => exact ⟨0, rfl, ⟨by omega, by omega⟩, ⟨rfl⟩, ⟨Below.refl _ _⟩⟩
        case round =>
          obtain ⟨j, hj, HJ, HP, HBW⟩ := hrel
          subst hj
          by_cases hlt : j < l.length + 1
          · obtain ⟨t2, x2, ej, hu, hej, hsz, hev⟩ := elem_at HV5.out HS.out.1 HS.out.2 (l := l) j hlt
            have hc := (HBW.out.cell (World.block_lt_of_cell? w5 _ (HC5.out j _ hu))).trans (HC5.out j _ hu)
            have d1 : decide ((j : Int) < (l.length : Int) + 1) = true := decide_eq_true (by omega)
            have p0 := eq_true (show (0 : Int) ≤ (j : Int) by omega)
            have p1 := eq_true (show (j : Int) < (l.length : Int) + 1 by omega)
            have p2 := eq_true hlt
            have pj : (j : Int) ≤ 1000 := by have := HL.out; omega
            have pj0 : (0 : Int) ≤ (j : Int) := by omega
            have HEJ := Aside0.mk hej
            have HSZ := Aside0.mk hsz
            have HEV := Aside0.mk (hev.below HBW.out)
            have HTW := Aside0.mk (Tg.below HBW.out HT5.out)
            clear hu hej hsz hev
            cases hb : Er.is T ej
            all_goals
              have HBE := Aside0.mk hb
              clear hb
              go_wp2_with (go_at_call 41; (with_reducible refine (IH.out ej (.iface t2 x2) _ HSZ.out HEV.out HTW.out).mono ?_); rintro r w7 ⟨rfl, hb7⟩; rw [HBE.out]; have HB7 := Aside0.mk (below_step HBW.out hb7); clear hb7)
            · go_roundg (l.length + 1 - (j + 1))
              case measure => have := HJ.out; omega
              case rel => exact ⟨j + 1, by go_num, ⟨rfl, by omega⟩, ⟨by rw [List.take_add_one, HEJ.out, List.any_append, HP.out]; simp [HBE.out]⟩, HB7⟩
            · go_ret
              refine ⟨?_, below_then HB5.out HB5.out.size HB7.out⟩
              rw [← HF.out, List.any_eq_true.2 ⟨ej, List.mem_of_getElem? HEJ.out, HBE.out⟩]
              rfl
          · have hj2 : j = l.length + 1 := by have := HJ.out; omega
            have d1 : decide ((j : Int) < (l.length : Int) + 1) = false := decide_eq_false (by omega)
            have d2 : decide (j < l.length + 1) = false := decide_eq_false hlt
            have p2 := eq_false hlt
            go_wp2_with fail
            go_ret
            refine ⟨?_, below_then HB5.out HB5.out.size HBW.out⟩
            have hp := HP.out
            rw [List.take_of_length_le (by simp; omega), HF.out] at hp
            rw [hp]; rfl
theorem is_typeOfF (v : Value) (w : World) : (ReflectliteType.typeOf #[.iface 37 v]).run Tryd.prog w = .ok (.iface 125 (.agg #[.pointer (some ⟨9, 37, none⟩)])) w := by kernel_rfl
set_option maxHeartbeats 4000000 in
set_option maxRecDepth 100000 in
/-- errors.Is over such errors. -/
theorem eIsT (T : Tg) (e : Er) (v : Value) (w : World) (h : ErV w v e) (hT : T.at_ w) : Calls Tryd.prog 13 #[v, T.val] w fun r w' => r = .returned (.bool (e.is T)) ∧ Below w.heap.size w w' := by
  have h10 := @run_callFunc_extern Tryd.prog 40 _ ReflectliteType.typeOf Tryd.func40 (by kernel_rfl) (by kernel_rfl) (by kernel_rfl) (by kernel_rfl)
  have h11 := @run_callFunc_extern Tryd.prog 170 _ (ReflectliteType.method fun t => do Rtype.noPackHeld "Comparable" t; pure (.bool (← typeInfo t).comparable)) Tryd.func170 (by kernel_rfl) (by kernel_rfl) (by kernel_rfl) (by kernel_rfl)
  have mC := is_method
  have HC := Aside0.mk (eis_tree T e.sz e v w (Nat.le_refl _) h hT)
  obtain ⟨t1, x1, rfl⟩ := h.iface
  clear h hT
  cases T with
  | num m =>
    have tO := is_typeOf
    have cmp : ∀ w : World, ((ReflectliteType.method fun t => do Rtype.noPackHeld "Comparable" t; (fun a => Value.bool a.comparable) <$> typeInfo t) #[.agg #[.pointer (some ⟨9, 36, none⟩)]]).run Tryd.prog w = .ok (.bool true) w := fun w => by kernel_rfl
    unfold Tg.val eNum at HC ⊢
    go_enter Tryd.func13, Tryd.ntmps13
    go_wp2_with (go_at_call 41; (with_reducible refine HC.out.mono ?_); rintro r w5 ⟨rfl, hb5⟩; have HB5 := Aside0.mk hb5; clear hb5)
    go_ret
    exact ⟨rfl, HB5.out⟩
  | flt g op pl =>
    have tO := is_typeOfF
    have cmp : ∀ w : World, ((ReflectliteType.method fun t => do Rtype.noPackHeld "Comparable" t; (fun a => Value.bool a.comparable) <$> typeInfo t) #[.agg #[.pointer (some ⟨9, 37, none⟩)]]).run Tryd.prog w = .ok (.bool true) w := fun w => by kernel_rfl
    unfold Tg.val at HC ⊢
    go_enter Tryd.func13, Tryd.ntmps13
    go_wp2_with (go_at_call 41; (with_reducible refine HC.out.mono ?_); rintro r w5 ⟨rfl, hb5⟩; have HB5 := Aside0.mk hb5; clear hb5)
    go_ret
    exact ⟨rfl, HB5.out⟩
theorem eIsN (m : Int) (e : Er) (v : Value) (w : World) (h : ErV w v e) : Calls Tryd.prog 13 #[v, .iface 36 (.int .i64 m)] w fun r w' => r = .returned (.bool (e.hasNum m)) ∧ Below w.heap.size w w' := eIsT (.num m) e v w h trivial
theorem eIsF (g : Nat) (op : ByteArray) (pl : Int) (e : Er) (v : Value) (w : World) (h : ErV w v e) (hg : w.heap[g]? = some (.cells #[.string op, .int .i64 pl, .nilIface] 39 (0, 0))) : Calls Tryd.prog 13 #[v, .iface 37 (.pointer (some ⟨g, 0, none⟩))] w fun r w' => r = .returned (.bool (e.hasF op pl)) ∧ Below w.heap.size w w' := eIsT (.flt g op pl) e v w h hg
end


end Go.Proofs.YtegcaniikdibdaaDoor.VFaultTexts
