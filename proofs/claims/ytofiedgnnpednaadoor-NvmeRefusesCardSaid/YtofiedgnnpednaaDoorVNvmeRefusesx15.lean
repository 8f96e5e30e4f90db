/- Contracts of functions of this seat: each call comes to what its Lean function computes; no condition beyond what each theorem states. Printed by a program of this session's own laid over the kit's printer. -/
import Derived.Shelf.Strings.Repeat
import Derived.Test.YtofiedgnnpednaaDoorVNvmeRefusesx0
namespace Go.Proofs.YtofiedgnnpednaaDoor.VNvmeRefuses
open Go.RowKit Go.Proofs.YtofiedgnnpednaaDoorW.PrintWords Go.Proofs.YtofiedgnnpednaaDoorW.PrintLast Go.Proofs.YtofiedgnnpednaaDoorW.PrintMore
attribute [local go_sem] max2_int min2_int max_two min_two max_three min_three max_four min_four   -- for this text's walks alone
set_option linter.unusedVariables false
set_option linter.unusedSimpArgs false

-- @GIVEN lib_repeat
section
open Go.Shelf
def Tryd.lays105_ren : Go.Shelf.Ren := ⟨fun | 105 => 56 | 212 => 71 | 99 => 72 | 165 => 73 | 166 => 74 | 170 => 75 | 169 => 76 | 263 => 80 | 264 => 81 | 206 => 82 | 240 => 83 | 241 => 84 | 276 => 85 | 277 => 86 | n => n, fun | 9 => 9 | 3 => 3 | 4 => 4 | 20 => 20 | 0 => 0 | 46 => 135 | 109 => 136 | 5 => 5 | 72 => 141 | 76 => 118 | 51 => 161 | 146 => 162 | 53 => 164 | 148 => 165 | 70 => 139 | 37 => 79 | 75 => 27 | 127 => 167 | 164 => 124 | 80 => 145 | n => n, fun | n => n⟩
theorem Tryd.lays105 : Go.Proofs.Lays.n105 Tryd.prog Tryd.lays105_ren := {
  mixed := by kernel_rfl
  f99 := Tryd.func72.trans (congrArg some (by kernel_rfl))
  f105 := Tryd.func56.trans (congrArg some (by kernel_rfl))
  f165 := Tryd.func73.trans (congrArg some (by kernel_rfl))
  f166 := Tryd.func74.trans (congrArg some (by kernel_rfl))
  f169 := Tryd.func76.trans (congrArg some (by kernel_rfl))
  f170 := Tryd.func75.trans (congrArg some (by kernel_rfl))
  f206 := Tryd.func82.trans (congrArg some (by kernel_rfl))
  f212 := Tryd.func71.trans (congrArg some (by kernel_rfl))
  f240 := Tryd.func83.trans (congrArg some (by kernel_rfl))
  f241 := Tryd.func84.trans (congrArg some (by kernel_rfl))
  f263 := Tryd.func80.trans (congrArg some (by kernel_rfl))
  f264 := Tryd.func81.trans (congrArg some (by kernel_rfl))
  f276 := Tryd.func85.trans (congrArg some (by kernel_rfl))
  f277 := Tryd.func86.trans (congrArg some (by kernel_rfl))
  t0 := Tryd.underlying0
  a0 := Tryd.isAgg0
  z0 := Tryd.sizeOf0
  v0 := Tryd.zeroValue0
  t3 := Tryd.underlying3
  a3 := Tryd.isAgg3
  z3 := Tryd.sizeOf3
  v3 := Tryd.zeroValue3
  t4 := Tryd.underlying4
  a4 := Tryd.isAgg4
  z4 := Tryd.sizeOf4
  v4 := Tryd.zeroValue4
  t5 := Tryd.underlying5
  a5 := Tryd.isAgg5
  z5 := Tryd.sizeOf5
  v5 := Tryd.zeroValue5
  t9 := Tryd.underlying9
  a9 := Tryd.isAgg9
  z9 := Tryd.sizeOf9
  v9 := Tryd.zeroValue9
  t20 := Tryd.underlying20
  a20 := Tryd.isAgg20
  z20 := Tryd.sizeOf20
  v20 := Tryd.zeroValue20
  t37 := Tryd.underlying79
  a37 := Tryd.isAgg79
  z37 := Tryd.sizeOf79
  v37 := Tryd.zeroValue79
  t46 := Tryd.underlying135
  a46 := Tryd.isAgg135
  z46 := Tryd.sizeOf135
  v46 := Tryd.zeroValue135
  t51 := Tryd.underlying161
  a51 := Tryd.isAgg161
  z51 := Tryd.sizeOf161
  v51 := Tryd.zeroValue161
  t53 := Tryd.underlying164
  a53 := Tryd.isAgg164
  z53 := Tryd.sizeOf164
  v53 := Tryd.zeroValue164
  t70 := Tryd.underlying139
  a70 := Tryd.isAgg139
  z70 := Tryd.sizeOf139
  v70 := Tryd.zeroValue139
  t72 := Tryd.underlying141
  a72 := Tryd.isAgg141
  z72 := Tryd.sizeOf141
  v72 := Tryd.zeroValue141
  t75 := Tryd.underlying27
  a75 := Tryd.isAgg27
  z75 := Tryd.sizeOf27
  v75 := Tryd.zeroValue27
  t76 := Tryd.underlying118
  a76 := Tryd.isAgg118
  z76 := Tryd.sizeOf118
  v76 := Tryd.zeroValue118
  t109 := Tryd.underlying136
  a109 := Tryd.isAgg136
  z109 := Tryd.sizeOf136
  v109 := Tryd.zeroValue136
  t127 := Tryd.underlying167
  a127 := Tryd.isAgg167
  z127 := Tryd.sizeOf167
  v127 := Tryd.zeroValue167
  t146 := Tryd.underlying162
  a146 := Tryd.isAgg162
  z146 := Tryd.sizeOf162
  v146 := Tryd.zeroValue162
  t148 := Tryd.underlying165
  a148 := Tryd.isAgg165
  z148 := Tryd.sizeOf165
  v148 := Tryd.zeroValue165
  t164 := Tryd.underlying124
  a164 := Tryd.isAgg124
  z164 := Tryd.sizeOf124
  v164 := Tryd.zeroValue124 }
theorem Tryd.Builder_Extra_105 : Builder.Extra Tryd.prog Tryd.lays105_ren := {
  sizeBuilder := by kernel_rfl
  liesBuilder := by kernel_rfl
  t5 := Tryd.underlying5
  a5 := Tryd.isAgg5
  z5 := Tryd.sizeOf5
  v5 := Tryd.zeroValue5
  infoByte := by kernel_rfl
  cellsByte := by kernel_rfl
  sizeByte := by kernel_rfl
  neB5 := by decide }
open Go.RowKit Go.Lib in
/-- **strings.Repeat: count ≥ 0, the result within one allocation: count copies of s.** (LAID: no walk: one application.) -/
theorem Tryd.strings_Repeat (s : ByteArray) (c : Nat) (w : World) (hc : c ≤ 9223372036854775807) (hlen : s.size * c ≤ 140737488355328) :
    Calls Tryd.prog 56 #[.string s, .int .i64 c] w fun e w' => e = .returned (.string ⟨(Lib.repeatL s.data.toList c).toArray⟩) ∧ Below w.heap.size w w' := Any.strings_Repeat Tryd.lays105 Tryd.Builder_Extra_105 s c w hc hlen
end
/-- Copies of one byte 0. -/
def zerosB (c : Nat) : ByteArray := ⟨(List.replicate c (0 : UInt8)).toArray⟩
theorem zerosB_size (c : Nat) : (zerosB c).size = c := by simp [zerosB, ByteArray.size]
theorem repeat0 (c : Nat) : Lib.repeatL [0] c = List.replicate c (0 : UInt8) := by
  induction c with
  | zero => rfl
  | succ c ih => rw [List.replicate_succ, ← ih]; rfl
theorem rep0 (c : Nat) (w : World) (hc : c ≤ 140737488355328) : Calls Tryd.prog 56 #[.string ⟨#[0]⟩, .int .i64 c] w fun e w' => e = .returned (.string (zerosB c)) ∧ Below w.heap.size w w' := by
  refine (Tryd.strings_Repeat ⟨#[0]⟩ c w (by omega) (by show 1 * c ≤ _; omega)).mono ?_
  rintro e w' ⟨rfl, hb⟩
  refine ⟨?_, hb⟩
  rw [show (⟨#[0]⟩ : ByteArray).data.toList = [0] from rfl, repeat0]; rfl
theorem rep0i (n : Int) (c : Nat) (w : World) (hn : n = (c : Int)) (hc : c ≤ 140737488355328) : Calls Tryd.prog 56 #[.string ⟨#[0]⟩, .int .i64 n] w fun e w' => e = .returned (.string (zerosB c)) ∧ Below w.heap.size w w' := by
  subst hn; exact rep0 c w hc


end Go.Proofs.YtofiedgnnpednaaDoor.VNvmeRefuses
