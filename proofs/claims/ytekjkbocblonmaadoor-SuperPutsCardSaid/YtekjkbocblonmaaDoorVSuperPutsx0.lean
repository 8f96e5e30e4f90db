/- Contracts of functions of this seat: each call comes to what its Lean function computes; no condition beyond what each theorem states. Printed by a program of this session's own laid over the kit's printer. -/
import Derived.Test.YtekjkbocblonmaaDoorProg
import Derived.Below
import Derived.Deep.Draws
import Derived.Deep.AppendLies
import Derived.Maps.AppendAt
import Derived.OwnWalk
import Derived.Laws.BytesArg
import Derived.Laws.MakeOwn
import Derived.Laws.OwnMore
import Derived.Deep.OwnRows
import Derived.Tactics
import Derived.Lib.ConvBytes
import Derived.Laws.Slices
import Derived.WalkKit
import Derived.KernelRfl
import Derived.RowKit3
import Derived.Deep.LoopGhost
import Derived.Deep.QuietTactic
import Derived.BigQuiet
import Derived.WideLaws
import Derived.Deep.DeepCutAuto
import Derived.Deep.CutBlock
import Derived.Deep.RegionHeld3
import Derived.Laws.Rows
import Derived.Lib.AppendStr
import Derived.ArgAppend
import Derived.Laws.IdiomCopy
import Derived.OrdersHeld
import Derived.Laws.BitsLemmas
import Derived.RowKit
import Derived.Test.YtekjkbocblonmaaDoorWWords
import Derived.Test.YtekjkbocblonmaaDoorWLast
import Derived.Test.YtekjkbocblonmaaDoorWTab
import Derived.Test.YtekjkbocblonmaaDoorWFour
import Derived.Test.YtekjkbocblonmaaDoorWQPut
import Derived.Test.YtekjkbocblonmaaDoorWApart
import Derived.Test.YtekjkbocblonmaaDoorWArr
import Derived.Test.YtekjkbocblonmaaDoorWZeros
import Derived.Test.YtekjkbocblonmaaDoorWFoot
import Derived.Test.YtekjkbocblonmaaDoorWKept
import Derived.Test.YtekjkbocblonmaaDoorWShare
import Derived.Test.YtekjkbocblonmaaDoorWN
import Derived.Test.YtekjkbocblonmaaDoorWFootNe
import Derived.Test.YtekjkbocblonmaaDoorWAt
import Derived.Test.YtekjkbocblonmaaDoorWEqStruct
import Derived.Test.YtekjkbocblonmaaDoorWRepsOne
import Derived.Test.YtekjkbocblonmaaDoorWInv
import Derived.Test.YtekjkbocblonmaaDoorWInvWords
import Derived.Test.YtekjkbocblonmaaDoorWGuard
import Derived.Test.YtekjkbocblonmaaDoorWNEv
import Derived.Test.YtekjkbocblonmaaDoorWMore
namespace Go.Proofs.YtekjkbocblonmaaDoor.VSuperPuts
open Go.RowKit Go.Proofs.YtekjkbocblonmaaDoorW.PrintWords Go.Proofs.YtekjkbocblonmaaDoorW.PrintLast Go.Proofs.YtekjkbocblonmaaDoorW.PrintMore
attribute [local go_sem] max2_int min2_int max_two min_two max_three min_three max_four min_four   -- for this text's walks alone
set_option linter.unusedVariables false
set_option linter.unusedSimpArgs false



def errW : Option Int → Value
  | none => .nilIface
  | some c => .iface 63 (.int .i64 c)
theorem errW_none : errW none = .nilIface := rfl
theorem errW_some (c : Int) : errW (some c) = .iface 63 (.int .i64 c) := rfl

theorem info5 : (Tryd.prog.info? 5).map (fun i => (i.zero, i.size, i.bytes)) = some (some (.int .u8 0), 1, 1) := by kernel_rfl
-- the values' own types

end Go.Proofs.YtekjkbocblonmaaDoor.VSuperPuts
