/- Contracts of functions of this seat: each call comes to what its Lean function computes; no condition beyond what each theorem states. Printed by a program of this session's own laid over the kit's printer. -/
import Derived.Test.YtekjkbocblonmaaProg
import Derived.Below
import Derived.Deep.Draws
import Derived.Deep.AppendLies
import Derived.Maps.AppendAt
import Derived.OwnWalk
import Derived.Laws.BytesArg
import Derived.Laws.MakeOwn
import Derived.Laws.OwnMore
import Derived.Deep.OwnRows
import Derived.Tactics
import Derived.Lib.ConvBytes
import Derived.Laws.Slices
import Derived.WalkKit
import Derived.KernelRfl
import Derived.RowKit3
import Derived.Deep.LoopGhost
import Derived.Deep.QuietTactic
import Derived.BigQuiet
import Derived.WideLaws
import Derived.Deep.DeepCutAuto
import Derived.Deep.CutBlock
import Derived.Deep.RegionHeld3
import Derived.Laws.Rows
import Derived.Lib.AppendStr
import Derived.ArgAppend
import Derived.Laws.IdiomCopy
import Derived.OrdersHeld
import Derived.Laws.BitsLemmas
import Derived.RowKit
import Derived.Test.YtekjkbocblonmaaWWords
import Derived.Test.YtekjkbocblonmaaWLast
import Derived.Test.YtekjkbocblonmaaWTab
import Derived.Test.YtekjkbocblonmaaWFour
import Derived.Test.YtekjkbocblonmaaWQPut
import Derived.Test.YtekjkbocblonmaaWApart
import Derived.Test.YtekjkbocblonmaaWArr
import Derived.Test.YtekjkbocblonmaaWZeros
import Derived.Test.YtekjkbocblonmaaWFoot
import Derived.Test.YtekjkbocblonmaaWKept
import Derived.Test.YtekjkbocblonmaaWShare
import Derived.Test.YtekjkbocblonmaaWN
import Derived.Test.YtekjkbocblonmaaWFootNe
import Derived.Test.YtekjkbocblonmaaWAt
import Derived.Test.YtekjkbocblonmaaWEqStruct
import Derived.Test.YtekjkbocblonmaaWRepsOne
import Derived.Test.YtekjkbocblonmaaWInv
import Derived.Test.YtekjkbocblonmaaWInvWords
import Derived.Test.YtekjkbocblonmaaWGuard
import Derived.Test.YtekjkbocblonmaaWNEv
import Derived.Test.YtekjkbocblonmaaWMore
namespace Go.Proofs.Ytekjkbocblonmaa.QA
open Go.RowKit Go.Proofs.YtekjkbocblonmaaW.PrintWords Go.Proofs.YtekjkbocblonmaaW.PrintLast Go.Proofs.YtekjkbocblonmaaW.PrintMore
attribute [local go_sem] max2_int min2_int max_two min_two max_three min_three max_four min_four   -- for this text's walks alone
set_option linter.unusedVariables false
set_option linter.unusedSimpArgs false



def errW : Option Int → Value
  | none => .nilIface
  | some c => .iface 0 (.int .i64 c)
theorem errW_none : errW none = .nilIface := rfl
theorem errW_some (c : Int) : errW (some c) = .iface 0 (.int .i64 c) := rfl

-- the values' own types

end Go.Proofs.Ytekjkbocblonmaa.QA
