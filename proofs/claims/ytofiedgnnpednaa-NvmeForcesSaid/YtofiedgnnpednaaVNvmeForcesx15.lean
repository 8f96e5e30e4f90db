/- Contracts of functions of this seat: each call comes to what its Lean function computes; no condition beyond what each theorem states. Printed by a program of this session's own laid over the kit's printer. -/
import Derived.Shelf.Strings.Repeat
import Derived.Test.YtofiedgnnpednaaVNvmeForcesx0
namespace Go.Proofs.Ytofiedgnnpednaa.VNvmeForces
open Go.RowKit Go.Proofs.YtofiedgnnpednaaW.PrintWords Go.Proofs.YtofiedgnnpednaaW.PrintLast Go.Proofs.YtofiedgnnpednaaW.PrintMore
attribute [local go_sem] max2_int min2_int max_two min_two max_three min_three max_four min_four   -- for this text's walks alone
set_option linter.unusedVariables false
set_option linter.unusedSimpArgs false

-- @GIVEN lib_repeat
section
open Go.Shelf
def Try.lays105_ren : Go.Shelf.Ren := ⟨fun | 105 => 44 | 212 => 52 | 99 => 53 | 165 => 54 | 166 => 55 | 170 => 56 | 169 => 57 | 263 => 59 | 264 => 60 | 206 => 61 | 240 => 62 | 241 => 63 | 276 => 64 | 277 => 65 | n => n, fun | 9 => 9 | 3 => 3 | 4 => 4 | 20 => 20 | 0 => 0 | 46 => 116 | 109 => 117 | 5 => 5 | 72 => 122 | 76 => 99 | 51 => 127 | 146 => 128 | 53 => 130 | 148 => 131 | 70 => 120 | 37 => 73 | 75 => 29 | 127 => 133 | 164 => 134 | 80 => 126 | n => n, fun | n => n⟩
theorem Try.lays105 : Go.Proofs.Lays.n105 Try.prog Try.lays105_ren := {
  mixed := by kernel_rfl
  f99 := Try.func53.trans (congrArg some (by kernel_rfl))
  f105 := Try.func44.trans (congrArg some (by kernel_rfl))
  f165 := Try.func54.trans (congrArg some (by kernel_rfl))
  f166 := Try.func55.trans (congrArg some (by kernel_rfl))
  f169 := Try.func57.trans (congrArg some (by kernel_rfl))
  f170 := Try.func56.trans (congrArg some (by kernel_rfl))
  f206 := Try.func61.trans (congrArg some (by kernel_rfl))
  f212 := Try.func52.trans (congrArg some (by kernel_rfl))
  f240 := Try.func62.trans (congrArg some (by kernel_rfl))
  f241 := Try.func63.trans (congrArg some (by kernel_rfl))
  f263 := Try.func59.trans (congrArg some (by kernel_rfl))
  f264 := Try.func60.trans (congrArg some (by kernel_rfl))
  f276 := Try.func64.trans (congrArg some (by kernel_rfl))
  f277 := Try.func65.trans (congrArg some (by kernel_rfl))
  t0 := Try.underlying0
  a0 := Try.isAgg0
  z0 := Try.sizeOf0
  v0 := Try.zeroValue0
  t3 := Try.underlying3
  a3 := Try.isAgg3
  z3 := Try.sizeOf3
  v3 := Try.zeroValue3
  t4 := Try.underlying4
  a4 := Try.isAgg4
  z4 := Try.sizeOf4
  v4 := Try.zeroValue4
  t5 := Try.underlying5
  a5 := Try.isAgg5
  z5 := Try.sizeOf5
  v5 := Try.zeroValue5
  t9 := Try.underlying9
  a9 := Try.isAgg9
  z9 := Try.sizeOf9
  v9 := Try.zeroValue9
  t20 := Try.underlying20
  a20 := Try.isAgg20
  z20 := Try.sizeOf20
  v20 := Try.zeroValue20
  t37 := Try.underlying73
  a37 := Try.isAgg73
  z37 := Try.sizeOf73
  v37 := Try.zeroValue73
  t46 := Try.underlying116
  a46 := Try.isAgg116
  z46 := Try.sizeOf116
  v46 := Try.zeroValue116
  t51 := Try.underlying127
  a51 := Try.isAgg127
  z51 := Try.sizeOf127
  v51 := Try.zeroValue127
  t53 := Try.underlying130
  a53 := Try.isAgg130
  z53 := Try.sizeOf130
  v53 := Try.zeroValue130
  t70 := Try.underlying120
  a70 := Try.isAgg120
  z70 := Try.sizeOf120
  v70 := Try.zeroValue120
  t72 := Try.underlying122
  a72 := Try.isAgg122
  z72 := Try.sizeOf122
  v72 := Try.zeroValue122
  t75 := Try.underlying29
  a75 := Try.isAgg29
  z75 := Try.sizeOf29
  v75 := Try.zeroValue29
  t76 := Try.underlying99
  a76 := Try.isAgg99
  z76 := Try.sizeOf99
  v76 := Try.zeroValue99
  t109 := Try.underlying117
  a109 := Try.isAgg117
  z109 := Try.sizeOf117
  v109 := Try.zeroValue117
  t127 := Try.underlying133
  a127 := Try.isAgg133
  z127 := Try.sizeOf133
  v127 := Try.zeroValue133
  t146 := Try.underlying128
  a146 := Try.isAgg128
  z146 := Try.sizeOf128
  v146 := Try.zeroValue128
  t148 := Try.underlying131
  a148 := Try.isAgg131
  z148 := Try.sizeOf131
  v148 := Try.zeroValue131
  t164 := Try.underlying134
  a164 := Try.isAgg134
  z164 := Try.sizeOf134
  v164 := Try.zeroValue134 }
theorem Try.Builder_Extra_105 : Builder.Extra Try.prog Try.lays105_ren := {
  sizeBuilder := by kernel_rfl
  liesBuilder := by kernel_rfl
  t5 := Try.underlying5
  a5 := Try.isAgg5
  z5 := Try.sizeOf5
  v5 := Try.zeroValue5
  infoByte := by kernel_rfl
  cellsByte := by kernel_rfl
  sizeByte := by kernel_rfl
  neB5 := by decide }
open Go.RowKit Go.Lib in
/-- **strings.Repeat: count ≥ 0, the result within one allocation: count copies of s.** (LAID: no walk: one application.) -/
theorem Try.strings_Repeat (s : ByteArray) (c : Nat) (w : World) (hc : c ≤ 9223372036854775807) (hlen : s.size * c ≤ 140737488355328) :
    Calls Try.prog 44 #[.string s, .int .i64 c] w fun e w' => e = .returned (.string ⟨(Lib.repeatL s.data.toList c).toArray⟩) ∧ Below w.heap.size w w' := Any.strings_Repeat Try.lays105 Try.Builder_Extra_105 s c w hc hlen
end
/-- Copies of one byte 0. -/
def zerosB (c : Nat) : ByteArray := ⟨(List.replicate c (0 : UInt8)).toArray⟩
theorem zerosB_size (c : Nat) : (zerosB c).size = c := by simp [zerosB, ByteArray.size]
theorem repeat0 (c : Nat) : Lib.repeatL [0] c = List.replicate c (0 : UInt8) := by
  induction c with
  | zero => rfl
  | succ c ih => rw [List.replicate_succ, ← ih]; rfl
theorem rep0 (c : Nat) (w : World) (hc : c ≤ 140737488355328) : Calls Try.prog 44 #[.string ⟨#[0]⟩, .int .i64 c] w fun e w' => e = .returned (.string (zerosB c)) ∧ Below w.heap.size w w' := by
  refine (Try.strings_Repeat ⟨#[0]⟩ c w (by omega) (by show 1 * c ≤ _; omega)).mono ?_
  rintro e w' ⟨rfl, hb⟩
  refine ⟨?_, hb⟩
  rw [show (⟨#[0]⟩ : ByteArray).data.toList = [0] from rfl, repeat0]; rfl
theorem rep0i (n : Int) (c : Nat) (w : World) (hn : n = (c : Int)) (hc : c ≤ 140737488355328) : Calls Try.prog 44 #[.string ⟨#[0]⟩, .int .i64 n] w fun e w' => e = .returned (.string (zerosB c)) ∧ Below w.heap.size w w' := by
  subst hn; exact rep0 c w hc


end Go.Proofs.Ytofiedgnnpednaa.VNvmeForces
