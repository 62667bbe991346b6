-- Written by inj.py (a program of this session), by the kit's print with functions given by hand. Not trusted: Lean checks it.
import Derived.Test.YtekacbglncnbhaaProg
import Derived.Below
import Derived.Deep.Draws
import Derived.Deep.AppendLies
import Derived.Maps.AppendAt
import Derived.OwnWalk
import Derived.Laws.BytesArg
import Derived.Laws.MakeOwn
import Derived.Laws.OwnMore
import Derived.Deep.OwnRows
import Derived.Tactics
import Derived.Lib.ConvBytes
import Derived.Laws.Slices
import Derived.WalkKit
import Derived.KernelRfl
import Derived.RowKit3
import Derived.Deep.LoopGhost
import Derived.Deep.QuietTactic
import Derived.BigQuiet
import Derived.WideLaws
import Derived.Deep.DeepCutAuto
import Derived.Deep.CutBlock
import Derived.Deep.RegionHeld3
import Derived.Laws.Rows
import Derived.Lib.AppendStr
import Derived.ArgAppend
import Derived.Laws.IdiomCopy
import Derived.OrdersHeld
import Derived.Laws.BitsLemmas
import Derived.RowKit
import Derived.Test.YtekacbglncnbhaaHand
import Derived.Test.YtekacbglncnbhaaWWords
import Derived.Test.YtekacbglncnbhaaWLast
import Derived.Test.YtekacbglncnbhaaWTab
import Derived.Test.YtekacbglncnbhaaWFour
import Derived.Test.YtekacbglncnbhaaWQPut
import Derived.Test.YtekacbglncnbhaaWApart
import Derived.Test.YtekacbglncnbhaaWArr
import Derived.Test.YtekacbglncnbhaaWZeros
import Derived.Test.YtekacbglncnbhaaWFoot
import Derived.Test.YtekacbglncnbhaaWKept
import Derived.Test.YtekacbglncnbhaaWShare
import Derived.Test.YtekacbglncnbhaaWN
import Derived.Test.YtekacbglncnbhaaWFootNe
import Derived.Test.YtekacbglncnbhaaWAt
import Derived.Test.YtekacbglncnbhaaWEqStruct
import Derived.Test.YtekacbglncnbhaaWRepsOne
import Derived.Test.YtekacbglncnbhaaWInv
import Derived.Test.YtekacbglncnbhaaWInvWords
import Derived.Test.YtekacbglncnbhaaWGuard
import Derived.Test.YtekacbglncnbhaaWNEv
import Derived.Test.YtekacbglncnbhaaWMore
namespace Go.Proofs.Ytekacbglncnbhaa.QW
open Go.RowKit Go.Proofs.YtekacbglncnbhaaW.PrintWords Go.Proofs.YtekacbglncnbhaaW.PrintLast Go.Proofs.YtekacbglncnbhaaW.PrintMore
attribute [local go_sem] max2_int min2_int max_two min_two max_three min_three max_four min_four   -- for this text's walks alone
set_option linter.unusedVariables false
set_option linter.unusedSimpArgs false



def errW : Option Int → Value
  | none => .nilIface
  | some c => .iface 0 (.int .i64 c)
theorem errW_none : errW none = .nilIface := rfl
theorem errW_some (c : Int) : errW (some c) = .iface 0 (.int .i64 c) := rfl

-- the values' own types

end Go.Proofs.Ytekacbglncnbhaa.QW
