-- Written by a program of this session (wip/pp.py over the kit's printer, with our own texts put in).
import Derived.Test.YtbdoablehdpdoaaProg
import Derived.Below
import Derived.Deep.Draws
import Derived.Deep.AppendLies
import Derived.Maps.AppendAt
import Derived.OwnWalk
import Derived.Laws.BytesArg
import Derived.Laws.MakeOwn
import Derived.Laws.OwnMore
import Derived.Deep.OwnRows
import Derived.Tactics
import Derived.Lib.ConvBytes
import Derived.Laws.Slices
import Derived.WalkKit
import Derived.KernelRfl
import Derived.RowKit3
import Derived.Deep.LoopGhost
import Derived.Deep.QuietTactic
import Derived.BigQuiet
import Derived.WideLaws
import Derived.Deep.DeepCutAuto
import Derived.Deep.CutBlock
import Derived.Deep.RegionHeld3
import Derived.Laws.Rows
import Derived.Lib.AppendStr
import Derived.ArgAppend
import Derived.Laws.IdiomCopy
import Derived.OrdersHeld
import Derived.Laws.BitsLemmas
import Derived.RowKit
import Derived.Lib.Bytealg
import Derived.Lib.Slices
import Derived.Lib.Strings
import Derived.Lib.Walk
import Derived.Test.YtbdoablehdpdoaaBase
import Derived.Test.YtbdoablehdpdoaaWWords
import Derived.Test.YtbdoablehdpdoaaWLast
import Derived.Test.YtbdoablehdpdoaaWTab
import Derived.Test.YtbdoablehdpdoaaWFour
import Derived.Test.YtbdoablehdpdoaaWQPut
import Derived.Test.YtbdoablehdpdoaaWApart
import Derived.Test.YtbdoablehdpdoaaWArr
import Derived.Test.YtbdoablehdpdoaaWZeros
import Derived.Test.YtbdoablehdpdoaaWFoot
import Derived.Test.YtbdoablehdpdoaaWKept
import Derived.Test.YtbdoablehdpdoaaWShare
import Derived.Test.YtbdoablehdpdoaaWN
import Derived.Test.YtbdoablehdpdoaaWFootNe
import Derived.Test.YtbdoablehdpdoaaWAt
import Derived.Test.YtbdoablehdpdoaaWEqStruct
import Derived.Test.YtbdoablehdpdoaaWRepsOne
import Derived.Test.YtbdoablehdpdoaaWInv
import Derived.Test.YtbdoablehdpdoaaWInvWords
import Derived.Test.YtbdoablehdpdoaaWGuard
import Derived.Test.YtbdoablehdpdoaaWNEv
import Derived.Test.YtbdoablehdpdoaaWMore
namespace Go.Proofs.Ytbdoablehdpdoaa.P
open Go.RowKit Go.Proofs.YtbdoablehdpdoaaW.PrintWords Go.Proofs.YtbdoablehdpdoaaW.PrintLast Go.Proofs.YtbdoablehdpdoaaW.PrintMore
attribute [local go_sem] max2_int min2_int max_two min_two max_three min_three max_four min_four   -- for this text's walks alone
set_option linter.unusedVariables false
set_option linter.unusedSimpArgs false



def errW : Option Int → Value
  | none => .nilIface
  | some c => .iface 0 (.int .i64 c)
theorem errW_none : errW none = .nilIface := rfl
theorem errW_some (c : Int) : errW (some c) = .iface 0 (.int .i64 c) := rfl

theorem info5 : (Try.prog.info? 5).map (fun i => (i.zero, i.size, i.bytes)) = some (some (.int .u8 0), 1, 1) := by kernel_rfl
-- the values' own types

end Go.Proofs.Ytbdoablehdpdoaa.P
