/- Contracts of functions of this seat: each call comes to what its Lean function computes; no condition beyond what each theorem states. Printed by a program of this session's own laid over the kit's printer. -/
import Derived.Shelf.Strings.OnBuilder
import Derived.Test.YtegcaniikdibdaaDoorVFaultTextsx0
import Derived.Test.YtegcaniikdibdaaDoorVFaultTextsx1
import Derived.Test.YtegcaniikdibdaaDoorVFaultTextsx2
import Derived.Test.YtegcaniikdibdaaDoorVFaultTextsx3
import Derived.Test.YtegcaniikdibdaaDoorVFaultTextsx4
import Derived.Test.YtegcaniikdibdaaDoorVFaultTextsx5
import Derived.Test.YtegcaniikdibdaaDoorVFaultTextsx11
import Derived.Test.YtegcaniikdibdaaDoorVFaultTextsx21
namespace Go.Proofs.YtegcaniikdibdaaDoor.VFaultTexts
open Go.RowKit Go.Proofs.YtegcaniikdibdaaDoorW.PrintWords Go.Proofs.YtegcaniikdibdaaDoorW.PrintLast Go.Proofs.YtegcaniikdibdaaDoorW.PrintMore
attribute [local go_sem] max2_int min2_int max_two min_two max_three min_three max_four min_four   -- for this text's walks alone
set_option linter.unusedVariables false
set_option linter.unusedSimpArgs false

-- @GIVEN lib_texts
section
open Go.Shelf
def Tryd.lays156_ren : Go.Shelf.Ren := ⟨fun | 156 => 91 | 165 => 104 | 166 => 81 | 169 => 83 | 240 => 101 | 241 => 124 | 276 => 120 | 277 => 135 | n => n, fun | 31 => 42 | 9 => 9 | 3 => 3 | 4 => 4 | 0 => 0 | 20 => 20 | 72 => 111 | 76 => 149 | 70 => 109 | 37 => 102 | 75 => 27 | 127 => 174 | 164 => 92 | 5 => 5 | 80 => 60 | n => n, fun | n => n⟩
theorem Tryd.lays156 : Go.Proofs.Lays.n156 Tryd.prog Tryd.lays156_ren := {
  mixed := by kernel_rfl
  f156 := Tryd.func91.trans (congrArg some (by kernel_rfl))
  f165 := Tryd.func104.trans (congrArg some (by kernel_rfl))
  f166 := Tryd.func81.trans (congrArg some (by kernel_rfl))
  f169 := Tryd.func83.trans (congrArg some (by kernel_rfl))
  f240 := Tryd.func101.trans (congrArg some (by kernel_rfl))
  f241 := Tryd.func124.trans (congrArg some (by kernel_rfl))
  f276 := Tryd.func120.trans (congrArg some (by kernel_rfl))
  f277 := Tryd.func135.trans (congrArg some (by kernel_rfl))
  t0 := Tryd.underlying0
  a0 := Tryd.isAgg0
  z0 := Tryd.sizeOf0
  v0 := Tryd.zeroValue0
  t3 := Tryd.underlying3
  a3 := Tryd.isAgg3
  z3 := Tryd.sizeOf3
  v3 := Tryd.zeroValue3
  t4 := Tryd.underlying4
  a4 := Tryd.isAgg4
  z4 := Tryd.sizeOf4
  v4 := Tryd.zeroValue4
  t9 := Tryd.underlying9
  a9 := Tryd.isAgg9
  z9 := Tryd.sizeOf9
  v9 := Tryd.zeroValue9
  t20 := Tryd.underlying20
  a20 := Tryd.isAgg20
  z20 := Tryd.sizeOf20
  v20 := Tryd.zeroValue20
  t31 := Tryd.underlying42
  a31 := Tryd.isAgg42
  z31 := Tryd.sizeOf42
  v31 := Tryd.zeroValue42
  t37 := Tryd.underlying102
  a37 := Tryd.isAgg102
  z37 := Tryd.sizeOf102
  v37 := Tryd.zeroValue102
  t70 := Tryd.underlying109
  a70 := Tryd.isAgg109
  z70 := Tryd.sizeOf109
  v70 := Tryd.zeroValue109
  t72 := Tryd.underlying111
  a72 := Tryd.isAgg111
  z72 := Tryd.sizeOf111
  v72 := Tryd.zeroValue111
  t75 := Tryd.underlying27
  a75 := Tryd.isAgg27
  z75 := Tryd.sizeOf27
  v75 := Tryd.zeroValue27
  t76 := Tryd.underlying149
  a76 := Tryd.isAgg149
  z76 := Tryd.sizeOf149
  v76 := Tryd.zeroValue149
  t127 := Tryd.underlying174
  a127 := Tryd.isAgg174
  z127 := Tryd.sizeOf174
  v127 := Tryd.zeroValue174
  t164 := Tryd.underlying92
  a164 := Tryd.isAgg92
  z164 := Tryd.sizeOf92
  v164 := Tryd.zeroValue92 }
theorem Tryd.Builder_Extra_156 : Builder.Extra Tryd.prog Tryd.lays156_ren := {
  sizeBuilder := by kernel_rfl
  liesBuilder := by kernel_rfl
  t5 := Tryd.underlying5
  a5 := Tryd.isAgg5
  z5 := Tryd.sizeOf5
  v5 := Tryd.zeroValue5
  infoByte := by kernel_rfl
  cellsByte := by kernel_rfl
  sizeByte := by kernel_rfl
  neB5 := by decide }
open Go.RowKit in
/-- strings.Join: "Join concatenates the elements of its first argument to create a single string. The separator string sep is placed between elements in the resulting string.": HOWEVER MANY ELEMENTS. Below the heap's end the world is as it was. (LAID: no walk: one application.) -/
theorem Tryd.strings_Join (bk o c : Nat) (xs : List ByteArray) (sep : ByteArray) (w : World) (hcells : ∀ (j : Nat) x, xs[j]? = some x → w.cell? ⟨bk, o + j, none⟩ = some (.string x)) (hbk : bk < w.heap.size) (hN : xs.length ≤ 140737488355328) (hcap : xs.length ≤ c) (hlen : (Lib.join (xs.map (·.data.toList)) sep.data.toList).length ≤ 140737488355328) :
    Calls Tryd.prog 91 #[.slice (some ⟨bk, o, none⟩) xs.length c, .string sep] w fun e w' => e = .returned (.string ⟨(Lib.join (xs.map (·.data.toList)) sep.data.toList).toArray⟩) ∧ Below w.heap.size w w' := Any.strings_Join Tryd.lays156 Tryd.Builder_Extra_156 bk o c xs sep w hcells hbk hN hcap hlen
end
/-- The text of an error. -/
def Er.text : Er → ByteArray
  | .num n => wordB n
  | .wrap o p e => (((o ++ (⟨#[32]⟩ : ByteArray)) ++ (⟨(Lib.itoa p).toArray⟩ : ByteArray)) ++ (⟨#[58, 32]⟩ : ByteArray)) ++ e.text
  | .many e l => (e.text ++ (⟨#[59, 32]⟩ : ByteArray)) ++ wordB (l.headD 0)
/-- Its numbers are numbers, its places Go's, its many are of two, its operations short. -/
def Er.fine : Er → Prop
  | .num n => 1 ≤ n ∧ n ≤ 19
  | .wrap o p e => o.size ≤ 20 ∧ (-9223372036854775808 ≤ p ∧ p ≤ 9223372036854775807) ∧ e.fine
  | .many e l => (∃ m, l = [m] ∧ 1 ≤ m ∧ m ≤ 19) ∧ e.fine
theorem wordB_le (n : Int) (h1 : 1 ≤ n) (h2 : n ≤ 19) : (wordB n).size ≤ 20 := by
  obtain ⟨j, rfl⟩ := Int.eq_ofNat_of_zero_le (show (0 : Int) ≤ n by omega)
  have h : ∀ j : Fin 20, (wordsL.getD j.1 []).length ≤ 20 := by decide
  unfold wordB
  rw [if_pos (by omega)]
  exact h ⟨j, by omega⟩
theorem Er.text_le : ∀ e : Er, e.fine → e.text.size ≤ 64 * e.sz
  | .num n, h => by have := wordB_le n h.1 h.2; show (wordB n).size ≤ _; simp only [Er.sz]; omega
  | .wrap o p e, h => by
    have h1 := e.text_le h.2.2
    have h2 := Lib.itoa_length_le p h.2.1.1 h.2.1.2
    have h3 := h.1
    show ((((o ++ (⟨#[32]⟩ : ByteArray)) ++ (⟨(Lib.itoa p).toArray⟩ : ByteArray)) ++ (⟨#[58, 32]⟩ : ByteArray)) ++ e.text).size ≤ _
    have h4 : (⟨(Lib.itoa p).toArray⟩ : ByteArray).size = (Lib.itoa p).length := rfl
    have h5 : (⟨#[32]⟩ : ByteArray).size = 1 := rfl
    have h6 : (⟨#[58, 32]⟩ : ByteArray).size = 2 := rfl
    simp only [ByteArray.size_append, Er.sz, h4, h5, h6]
    omega
  | .many e l, h => by
    obtain ⟨⟨m, rfl, h1, h2⟩, h3⟩ := h
    have h4 := e.text_le h3
    have h5 := wordB_le m h1 h2
    show ((e.text ++ (⟨#[59, 32]⟩ : ByteArray)) ++ wordB m).size ≤ _
    have h6 : (⟨#[59, 32]⟩ : ByteArray).size = 2 := rfl
    simp only [ByteArray.size_append, Er.sz, h6, List.length_cons, List.length_nil]
    omega
theorem growT_below (w : World) (k : Nat) (os : Array Obj) : Below w.heap.size w (Go.Sort.grow (w.drewN k) os) :=
  ⟨rfl, rfl, rfl, by simp [Go.Sort.grow], fun i hi => by show (w.heap ++ os)[i]? = _; rw [Array.getElem?_append_left hi]⟩
theorem itoaT_calls (p : Int) (h0 : -9223372036854775808 ≤ p) (h1 : p ≤ 9223372036854775807) (W : World) (hL : Laid W) : Calls Tryd.prog 50 #[.int .i64 p] W (fun r w' => r = .returned (.string ⟨(Lib.itoa p).toArray⟩) ∧ Below W.heap.size W w') :=
  (Tryd.strconv_Itoa p h0 h1 W (Laid.pow10 hL)).mono (by rintro r w' ⟨rfl, k, os, rfl⟩; exact ⟨rfl, growT_below _ _ _⟩)
theorem join2 (a b : ByteArray) (g c : Nat) (hc : 2 ≤ c) (w : World) (h0 : w.cell? ⟨g, 0, none⟩ = some (.string a)) (h1 : w.cell? ⟨g, 1, none⟩ = some (.string b)) (hz : a.size + b.size ≤ 1000000) :
    Calls Tryd.prog 91 #[.slice (some ⟨g, 0, none⟩) 2 c, .string ⟨#[59, 32]⟩] w fun r w' => r = .returned (.string ((a ++ (⟨#[59, 32]⟩ : ByteArray)) ++ b)) ∧ Below w.heap.size w w' := by
  have hl : (Lib.join ([a, b].map (·.data.toList)) (⟨#[59, 32]⟩ : ByteArray).data.toList) = ((a ++ (⟨#[59, 32]⟩ : ByteArray)) ++ b).data.toList := by simp [Lib.join]
  have h := Tryd.strings_Join g 0 c [a, b] ⟨#[59, 32]⟩ w (fun j x hj => by
    match j, hj with
    | 0, hj => simp at hj; subst hj; exact h0
    | 1, hj => simp at hj; subst hj; exact h1) (World.block_lt_of_cell? _ _ h0) (by simp) hc (by rw [hl, Array.length_toList]; show ((a ++ _) ++ b).size ≤ _; simp only [ByteArray.size_append]; have : (⟨#[59, 32]⟩ : ByteArray).size = 2 := rfl; omega)
  rw [hl, show (⟨(((a ++ (⟨#[59, 32]⟩ : ByteArray)) ++ b).data.toList).toArray⟩ : ByteArray) = (a ++ (⟨#[59, 32]⟩ : ByteArray)) ++ b from by rw [Array.toArray_toList]] at h
  exact h
set_option maxHeartbeats 8000000 in
set_option maxRecDepth 100000 in
/-- The text of two errors. -/
theorem manyError (t1 : TypeId) (x1 sv : Value) (m : Int) (s0 s1 : ByteArray) (w : World) (hr : w.ownsRow 0 27 1 sv 2 [.iface t1 x1, eNum m]) (hz : s0.size + s1.size ≤ 1000000)
    (h0 : ∀ W : World, Below w.heap.size w W → Calls Tryd.prog 44 #[.iface t1 x1] W (fun r w' => r = .returned (.string s0) ∧ Below W.heap.size W w'))
    (h1 : ∀ W : World, Below w.heap.size w W → Calls Tryd.prog 44 #[eNum m] W (fun r w' => r = .returned (.string s1) ∧ Below W.heap.size W w')) :
    Calls Tryd.prog 64 #[sv] w fun r w' => r = .returned (.string ((s0 ++ (⟨#[59, 32]⟩ : ByteArray)) ++ s1)) ∧ Below w.heap.size w w' := by
  obtain ⟨g, c, rfl, _, hgl, _, hcell⟩ := row_open hr (by decide)
  have HC1 := Aside0.mk (hcell 1 _ rfl)
  have hc0 := hcell 0 _ rfl
  have H0 := Aside0.mk h0
  have H1 := Aside0.mk h1
  have HZ := Aside0.mk hz
  clear hr h0 h1 hz hcell hgl
  go_enter Tryd.func64, Tryd.ntmps64
  go_wp2
  refine wp_loop_rounds 3 ?_
  rw [rounds_succ]
  go_wp2_with (first
    | (go_at_call 44; (refine (H0.out _ (Below.refl _ _)).mono ?_); rintro r w5 ⟨rfl, hb5⟩; obtain ⟨v6, w6, hrun, ho6, hb6, hk6⟩ := app_lit (w := w5) (w0 := w) s0 (StrRow.nil _ w.heap.size) (by decide) hb5.size hb5; have HRUN := Aside0.mk hrun; have HO6 := Aside0.mk ho6; have HB6 := Aside0.mk hb6; have hc1 := pw_cell_below hb6 HC1.out; unfold eNum at hc1; clear hb5 hrun ho6 hb6 hk6)
    | (at_builtin; refine Lib.wpList_append_run _ rfl _ _ _ _ rfl _ _ rfl rfl _ _ HRUN.out ?_))
  rw [rounds_succ]
  go_wp2_with (first
    | (go_at_call 44; (refine (H1.out _ HB6.out).mono ?_); rintro r w7 ⟨rfl, hb7⟩; obtain ⟨v8, w8, hrun, ho8, hb8, hk8⟩ := app_lit (w := w7) (w0 := w) s1 (HO6.out.below hb7) (by simp) (Nat.le_trans HB6.out.size hb7.size) (below_step HB6.out hb7); obtain ⟨g8, c8, rfl, _, _, hc8, hcell8⟩ := row_open ho8.1 (by simp); have HRUN8 := Aside0.mk hrun; have HC8 := Aside0.mk hc8; have HJ0 := Aside0.mk (hcell8 0 _ rfl); have HJ1 := Aside0.mk (hcell8 1 _ rfl); have HB8 := Aside0.mk hb8; clear hb7 hrun ho8 hb8 hk8 hc8 hcell8)
    | (at_builtin; refine Lib.wpList_append_run _ rfl _ _ _ _ rfl _ _ rfl rfl _ _ HRUN8.out ?_))
  rw [rounds_succ]
  go_wp2_with (go_at_call 91; (refine (join2 s0 s1 g8 c8 HC8.out _ HJ0.out HJ1.out HZ.out).mono ?_); rintro r w9 ⟨rfl, hb9⟩; have HB9 := Aside0.mk (below_step HB8.out hb9); clear hb9)
  go_ret
  exact ⟨rfl, HB9.out⟩
set_option maxHeartbeats 8000000 in
set_option maxRecDepth 100000 in
theorem eText_many (s : ByteArray) (sv : Value) (w : World) (h : Calls Tryd.prog 64 #[sv] w fun r w' => r = .returned (.string s) ∧ Below w.heap.size w w') :
    Calls Tryd.prog 44 #[.iface 52 sv] w fun r w' => r = .returned (.string s) ∧ Below w.heap.size w w' := by
  have HC := Aside0.mk h
  have a1 := ta_faultM
  have a2 : ∀ (v : Value) (w : World), (Instr.typeAssert (.iface 52 v) 27 52 true).run Tryd.prog w = .ok (.tuple #[v, .bool true]) w := fun v w => by kernel_rfl
  clear h
  go_enter Tryd.func44, Tryd.ntmps44
  go_wp2_with (go_at_call 64; (with_reducible refine HC.out.mono ?_); rintro r w5 ⟨rfl, hb5⟩; have HB5 := Aside0.mk hb5; clear hb5)
  go_ret
  exact ⟨rfl, HB5.out⟩
/-- The text of such an error. -/
theorem text_tree : ∀ (e : Er) (v : Value) (w : World), e.fine → e.sz ≤ 1000 → Laid w → ErV w v e →
    Calls Tryd.prog 44 #[v] w fun r w' => r = .returned (.string e.text) ∧ Below w.heap.size w w' := by
  intro e
  induction e with
  | num n =>
    intro v w hf _ hL h
    obtain rfl : v = eNum n := h
    refine (eText_num n hf.1 hf.2 w hL).mono ?_
    rintro r w' ⟨rfl, rfl⟩
    exact ⟨rfl, Below.refl _ _⟩
  | wrap o p e ih =>
    intro v w hf hs hL h
    obtain ⟨g, v1, rfl, hg, hv1⟩ := h
    have h1 := Er.text_le (.wrap o p e) hf
    have h2 : (Er.wrap o p e).text.size = o.size + 1 + (⟨(Lib.itoa p).toArray⟩ : ByteArray).size + 2 + e.text.size := by
      show ((((o ++ (⟨#[32]⟩ : ByteArray)) ++ (⟨(Lib.itoa p).toArray⟩ : ByteArray)) ++ (⟨#[58, 32]⟩ : ByteArray)) ++ e.text).size = _
      simp only [ByteArray.size_append]
      rfl
    refine eText_fault g _ w (fError g o ⟨(Lib.itoa p).toArray⟩ e.text p v1 w hg (by omega) (fun W hb => itoaT_calls p hf.2.1.1 hf.2.1.2 W (Laid.below hL hb)) (fun W hb => ih v1 W hf.2.2 (by simp only [Er.sz] at hs; omega) (Laid.below hL hb) (hv1.below hb)))
  | many e l ih =>
    intro v w hf hs hL h
    obtain ⟨sv, v1, rfl, hr, _, hv1⟩ := h
    obtain ⟨⟨m, rfl, hm1, hm2⟩, hfe⟩ := hf
    obtain ⟨t1, x1, rfl⟩ := hv1.iface
    have h1 := Er.text_le e hfe
    have h2 := wordB_le m hm1 hm2
    refine eText_many _ sv w (manyError t1 x1 sv m e.text (wordB m) w hr (by simp only [Er.sz] at hs; omega) (fun W hb => ih (.iface t1 x1) W hfe (by simp only [Er.sz] at hs; omega) (Laid.below hL hb) (hv1.below hb)) (fun W hb => (eText_num m hm1 hm2 W (Laid.below hL hb)).mono (by rintro r w' ⟨rfl, rfl⟩; exact ⟨rfl, Below.refl _ _⟩)))


end Go.Proofs.YtegcaniikdibdaaDoor.VFaultTexts
