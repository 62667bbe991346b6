-- Written by inj.py (a program of this session), by the kit's print with functions given by hand. Not trusted: Lean checks it.
import Derived.Test.YtdglmmpnjbobjaaProg
import Derived.Below
import Derived.Deep.Draws
import Derived.Deep.AppendLies
import Derived.Maps.AppendAt
import Derived.OwnWalk
import Derived.Laws.BytesArg
import Derived.Laws.MakeOwn
import Derived.Laws.OwnMore
import Derived.Deep.OwnRows
import Derived.Tactics
import Derived.Lib.ConvBytes
import Derived.Laws.Slices
import Derived.WalkKit
import Derived.KernelRfl
import Derived.RowKit3
import Derived.Deep.LoopGhost
import Derived.Deep.QuietTactic
import Derived.BigQuiet
import Derived.WideLaws
import Derived.Deep.DeepCutAuto
import Derived.Deep.CutBlock
import Derived.Deep.RegionHeld3
import Derived.Laws.Rows
import Derived.Lib.AppendStr
import Derived.ArgAppend
import Derived.Laws.IdiomCopy
import Derived.OrdersHeld
import Derived.Laws.BitsLemmas
import Derived.RowKit
import Derived.Lib.Hide
import Derived.Shelf.Abstract
import Derived.WalkSmall
import Derived.Lib.SliceRun
import Derived.Deep.RegionHeld3
import Derived.Test.YtdglmmpnjbobjaaWWords
import Derived.Test.YtdglmmpnjbobjaaWLast
import Derived.Test.YtdglmmpnjbobjaaWTab
import Derived.Test.YtdglmmpnjbobjaaWFour
import Derived.Test.YtdglmmpnjbobjaaWQPut
import Derived.Test.YtdglmmpnjbobjaaWApart
import Derived.Test.YtdglmmpnjbobjaaWArr
import Derived.Test.YtdglmmpnjbobjaaWZeros
import Derived.Test.YtdglmmpnjbobjaaWFoot
import Derived.Test.YtdglmmpnjbobjaaWKept
import Derived.Test.YtdglmmpnjbobjaaWShare
import Derived.Test.YtdglmmpnjbobjaaWN
import Derived.Test.YtdglmmpnjbobjaaWFootNe
import Derived.Test.YtdglmmpnjbobjaaWAt
import Derived.Test.YtdglmmpnjbobjaaWEqStruct
import Derived.Test.YtdglmmpnjbobjaaWRepsOne
import Derived.Test.YtdglmmpnjbobjaaWInv
import Derived.Test.YtdglmmpnjbobjaaWInvWords
import Derived.Test.YtdglmmpnjbobjaaWGuard
import Derived.Test.YtdglmmpnjbobjaaWNEv
import Derived.Test.YtdglmmpnjbobjaaWMore
namespace Go.Proofs.Ytdglmmpnjbobjaa.QL
open Go.RowKit Go.Proofs.YtdglmmpnjbobjaaW.PrintWords Go.Proofs.YtdglmmpnjbobjaaW.PrintLast Go.Proofs.YtdglmmpnjbobjaaW.PrintMore
attribute [local go_sem] max2_int min2_int max_two min_two max_three min_three max_four min_four   -- for this text's walks alone
set_option linter.unusedVariables false
set_option linter.unusedSimpArgs false



def errW : Option Int → Value
  | none => .nilIface
  | some c => .iface 0 (.int .i64 c)
theorem errW_none : errW none = .nilIface := rfl
theorem errW_some (c : Int) : errW (some c) = .iface 0 (.int .i64 c) := rfl

theorem info24 : (Try.prog.info? 24).map (fun i => (i.zero, i.size, i.bytes)) = some (some (.int .u64 0), 1, 8) := by kernel_rfl
-- the values' own types

end Go.Proofs.Ytdglmmpnjbobjaa.QL
