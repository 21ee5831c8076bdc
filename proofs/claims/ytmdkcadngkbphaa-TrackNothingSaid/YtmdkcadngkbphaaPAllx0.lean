-- laid by a program of this session (tprint.py) out of the translation and of texts typed by hand; Lean checks it
import Derived.Test.YtmdkcadngkbphaaProg
import Derived.Below
import Derived.Deep.Draws
import Derived.Deep.AppendLies
import Derived.Maps.AppendAt
import Derived.OwnWalk
import Derived.Laws.BytesArg
import Derived.Laws.MakeOwn
import Derived.Laws.OwnMore
import Derived.Deep.OwnRows
import Derived.Tactics
import Derived.Lib.ConvBytes
import Derived.Laws.Slices
import Derived.WalkKit
import Derived.KernelRfl
import Derived.RowKit3
import Derived.Deep.LoopGhost
import Derived.Deep.QuietTactic
import Derived.BigQuiet
import Derived.WideLaws
import Derived.Deep.DeepCutAuto
import Derived.Deep.CutBlock
import Derived.Deep.RegionHeld3
import Derived.Laws.Rows
import Derived.Lib.AppendStr
import Derived.ArgAppend
import Derived.Laws.IdiomCopy
import Derived.OrdersHeld
import Derived.Laws.BitsLemmas
import Derived.RowKit
import Derived.Test.YtmdkcadngkbphaaWWords
import Derived.Test.YtmdkcadngkbphaaWLast
import Derived.Test.YtmdkcadngkbphaaWTab
import Derived.Test.YtmdkcadngkbphaaWFour
import Derived.Test.YtmdkcadngkbphaaWQPut
import Derived.Test.YtmdkcadngkbphaaWApart
import Derived.Test.YtmdkcadngkbphaaWArr
import Derived.Test.YtmdkcadngkbphaaWZeros
import Derived.Test.YtmdkcadngkbphaaWFoot
import Derived.Test.YtmdkcadngkbphaaWKept
import Derived.Test.YtmdkcadngkbphaaWShare
import Derived.Test.YtmdkcadngkbphaaWN
import Derived.Test.YtmdkcadngkbphaaWFootNe
import Derived.Test.YtmdkcadngkbphaaWAt
import Derived.Test.YtmdkcadngkbphaaWEqStruct
import Derived.Test.YtmdkcadngkbphaaWRepsOne
import Derived.Test.YtmdkcadngkbphaaWInv
import Derived.Test.YtmdkcadngkbphaaWInvWords
import Derived.Test.YtmdkcadngkbphaaWGuard
import Derived.Test.YtmdkcadngkbphaaWNEv
import Derived.Test.YtmdkcadngkbphaaWMore
namespace Go.Proofs.Ytmdkcadngkbphaa.PAll
open Go.RowKit Go.Proofs.YtmdkcadngkbphaaW.PrintWords Go.Proofs.YtmdkcadngkbphaaW.PrintLast Go.Proofs.YtmdkcadngkbphaaW.PrintMore
attribute [local go_sem] max2_int min2_int max_two min_two max_three min_three max_four min_four   -- for this text's walks alone
set_option linter.unusedVariables false
set_option linter.unusedSimpArgs false



def errW : Option Int → Value
  | none => .nilIface
  | some c => .iface 0 (.int .i64 c)
theorem errW_none : errW none = .nilIface := rfl
theorem errW_some (c : Int) : errW (some c) = .iface 0 (.int .i64 c) := rfl

-- the values' own types

end Go.Proofs.Ytmdkcadngkbphaa.PAll
