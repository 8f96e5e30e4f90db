/- Contracts of functions of this seat: each call comes to what its Lean function computes; no condition beyond what each theorem states. Printed by a program of this session's own laid over the kit's printer. -/
import Derived.Shelf.Strings.Repeat
import Derived.Test.YtdlmgjpnlgdpkaaVLeApartx0
namespace Go.Proofs.Ytdlmgjpnlgdpkaa.VLeApart
open Go.RowKit Go.Proofs.YtdlmgjpnlgdpkaaW.PrintWords Go.Proofs.YtdlmgjpnlgdpkaaW.PrintLast Go.Proofs.YtdlmgjpnlgdpkaaW.PrintMore
attribute [local go_sem] max2_int min2_int max_two min_two max_three min_three max_four min_four   -- for this text's walks alone
set_option linter.unusedVariables false
set_option linter.unusedSimpArgs false

-- @GIVEN lib_repeat
section
open Go.Shelf
def Try.lays105_ren : Go.Shelf.Ren := ⟨fun | 105 => 18 | 212 => 22 | 99 => 23 | 165 => 24 | 166 => 17 | 170 => 25 | 169 => 19 | 263 => 27 | 264 => 28 | 206 => 29 | 240 => 21 | 241 => 30 | 276 => 26 | 277 => 31 | n => n, fun | 9 => 9 | 3 => 3 | 4 => 4 | 20 => 20 | 0 => 0 | 46 => 44 | 109 => 54 | 5 => 5 | 72 => 30 | 76 => 46 | 51 => 62 | 146 => 63 | 53 => 65 | 148 => 66 | 70 => 27 | 37 => 28 | 75 => 36 | 127 => 59 | 164 => 60 | 80 => 50 | n => n, fun | n => n⟩
theorem Try.lays105 : Go.Proofs.Lays.n105 Try.prog Try.lays105_ren := {
  mixed := by kernel_rfl
  f99 := Try.func23.trans (congrArg some (by kernel_rfl))
  f105 := Try.func18.trans (congrArg some (by kernel_rfl))
  f165 := Try.func24.trans (congrArg some (by kernel_rfl))
  f166 := Try.func17.trans (congrArg some (by kernel_rfl))
  f169 := Try.func19.trans (congrArg some (by kernel_rfl))
  f170 := Try.func25.trans (congrArg some (by kernel_rfl))
  f206 := Try.func29.trans (congrArg some (by kernel_rfl))
  f212 := Try.func22.trans (congrArg some (by kernel_rfl))
  f240 := Try.func21.trans (congrArg some (by kernel_rfl))
  f241 := Try.func30.trans (congrArg some (by kernel_rfl))
  f263 := Try.func27.trans (congrArg some (by kernel_rfl))
  f264 := Try.func28.trans (congrArg some (by kernel_rfl))
  f276 := Try.func26.trans (congrArg some (by kernel_rfl))
  f277 := Try.func31.trans (congrArg some (by kernel_rfl))
  t0 := Try.underlying0
  a0 := Try.isAgg0
  z0 := Try.sizeOf0
  v0 := Try.zeroValue0
  t3 := Try.underlying3
  a3 := Try.isAgg3
  z3 := Try.sizeOf3
  v3 := Try.zeroValue3
  t4 := Try.underlying4
  a4 := Try.isAgg4
  z4 := Try.sizeOf4
  v4 := Try.zeroValue4
  t5 := Try.underlying5
  a5 := Try.isAgg5
  z5 := Try.sizeOf5
  v5 := Try.zeroValue5
  t9 := Try.underlying9
  a9 := Try.isAgg9
  z9 := Try.sizeOf9
  v9 := Try.zeroValue9
  t20 := Try.underlying20
  a20 := Try.isAgg20
  z20 := Try.sizeOf20
  v20 := Try.zeroValue20
  t37 := Try.underlying28
  a37 := Try.isAgg28
  z37 := Try.sizeOf28
  v37 := Try.zeroValue28
  t46 := Try.underlying44
  a46 := Try.isAgg44
  z46 := Try.sizeOf44
  v46 := Try.zeroValue44
  t51 := Try.underlying62
  a51 := Try.isAgg62
  z51 := Try.sizeOf62
  v51 := Try.zeroValue62
  t53 := Try.underlying65
  a53 := Try.isAgg65
  z53 := Try.sizeOf65
  v53 := Try.zeroValue65
  t70 := Try.underlying27
  a70 := Try.isAgg27
  z70 := Try.sizeOf27
  v70 := Try.zeroValue27
  t72 := Try.underlying30
  a72 := Try.isAgg30
  z72 := Try.sizeOf30
  v72 := Try.zeroValue30
  t75 := Try.underlying36
  a75 := Try.isAgg36
  z75 := Try.sizeOf36
  v75 := Try.zeroValue36
  t76 := Try.underlying46
  a76 := Try.isAgg46
  z76 := Try.sizeOf46
  v76 := Try.zeroValue46
  t109 := Try.underlying54
  a109 := Try.isAgg54
  z109 := Try.sizeOf54
  v109 := Try.zeroValue54
  t127 := Try.underlying59
  a127 := Try.isAgg59
  z127 := Try.sizeOf59
  v127 := Try.zeroValue59
  t146 := Try.underlying63
  a146 := Try.isAgg63
  z146 := Try.sizeOf63
  v146 := Try.zeroValue63
  t148 := Try.underlying66
  a148 := Try.isAgg66
  z148 := Try.sizeOf66
  v148 := Try.zeroValue66
  t164 := Try.underlying60
  a164 := Try.isAgg60
  z164 := Try.sizeOf60
  v164 := Try.zeroValue60 }
theorem Try.Builder_Extra_105 : Builder.Extra Try.prog Try.lays105_ren := {
  sizeBuilder := by kernel_rfl
  liesBuilder := by kernel_rfl
  t5 := Try.underlying5
  a5 := Try.isAgg5
  z5 := Try.sizeOf5
  v5 := Try.zeroValue5
  infoByte := by kernel_rfl
  cellsByte := by kernel_rfl
  sizeByte := by kernel_rfl
  neB5 := by decide }
open Go.RowKit Go.Lib in
/-- **strings.Repeat: count ≥ 0, the result within one allocation: count copies of s.** (LAID: no walk: one application.) -/
theorem Try.strings_Repeat (s : ByteArray) (c : Nat) (w : World) (hc : c ≤ 9223372036854775807) (hlen : s.size * c ≤ 140737488355328) :
    Calls Try.prog 18 #[.string s, .int .i64 c] w fun e w' => e = .returned (.string ⟨(Lib.repeatL s.data.toList c).toArray⟩) ∧ Below w.heap.size w w' := Any.strings_Repeat Try.lays105 Try.Builder_Extra_105 s c w hc hlen


end
/-- Copies of one byte 0. -/
def zerosB (c : Nat) : ByteArray := ⟨(List.replicate c (0 : UInt8)).toArray⟩
theorem zerosB_size (c : Nat) : (zerosB c).size = c := by simp [zerosB, ByteArray.size]
theorem repeat0 (c : Nat) : Lib.repeatL [0] c = List.replicate c (0 : UInt8) := by
  induction c with
  | zero => rfl
  | succ c ih => rw [List.replicate_succ, ← ih]; rfl
theorem rep0 (c : Nat) (w : World) (hc : c ≤ 140737488355328) : Calls Try.prog 18 #[.string ⟨#[0]⟩, .int .i64 c] w fun e w' => e = .returned (.string (zerosB c)) ∧ Below w.heap.size w w' := by
  refine (Try.strings_Repeat ⟨#[0]⟩ c w (by omega) (by show 1 * c ≤ _; omega)).mono ?_
  rintro e w' ⟨rfl, hb⟩
  refine ⟨?_, hb⟩
  rw [show (⟨#[0]⟩ : ByteArray).data.toList = [0] from rfl, repeat0]; rfl
theorem rep0i (n : Int) (c : Nat) (w : World) (hn : n = (c : Int)) (hc : c ≤ 140737488355328) : Calls Try.prog 18 #[.string ⟨#[0]⟩, .int .i64 n] w fun e w' => e = .returned (.string (zerosB c)) ∧ Below w.heap.size w w' := by
  subst hn; exact rep0 c w hc


end Go.Proofs.Ytdlmgjpnlgdpkaa.VLeApart
