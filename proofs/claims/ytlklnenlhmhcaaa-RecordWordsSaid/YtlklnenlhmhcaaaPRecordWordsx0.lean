/- The machine's side of a law, printed by a program of this session out of the translation; conditions: none. -/
import Derived.Test.YtlklnenlhmhcaaaProg
import Derived.Below
import Derived.Deep.Draws
import Derived.Deep.AppendLies
import Derived.Maps.AppendAt
import Derived.OwnWalk
import Derived.Laws.BytesArg
import Derived.Laws.MakeOwn
import Derived.Laws.OwnMore
import Derived.Deep.OwnRows
import Derived.Tactics
import Derived.Lib.ConvBytes
import Derived.Laws.Slices
import Derived.WalkKit
import Derived.KernelRfl
import Derived.RowKit3
import Derived.Deep.LoopGhost
import Derived.Deep.QuietTactic
import Derived.BigQuiet
import Derived.WideLaws
import Derived.Deep.DeepCutAuto
import Derived.Deep.CutBlock
import Derived.Deep.RegionHeld3
import Derived.Laws.Rows
import Derived.Lib.AppendStr
import Derived.ArgAppend
import Derived.Laws.IdiomCopy
import Derived.OrdersHeld
import Derived.Laws.BitsLemmas
import Derived.RowKit
import Derived.Test.YtlklnenlhmhcaaaFields
import Derived.Test.YtlklnenlhmhcaaaWWords
import Derived.Test.YtlklnenlhmhcaaaWLast
import Derived.Test.YtlklnenlhmhcaaaWTab
import Derived.Test.YtlklnenlhmhcaaaWFour
import Derived.Test.YtlklnenlhmhcaaaWQPut
import Derived.Test.YtlklnenlhmhcaaaWApart
import Derived.Test.YtlklnenlhmhcaaaWArr
import Derived.Test.YtlklnenlhmhcaaaWZeros
import Derived.Test.YtlklnenlhmhcaaaWFoot
import Derived.Test.YtlklnenlhmhcaaaWKept
import Derived.Test.YtlklnenlhmhcaaaWShare
import Derived.Test.YtlklnenlhmhcaaaWN
import Derived.Test.YtlklnenlhmhcaaaWFootNe
import Derived.Test.YtlklnenlhmhcaaaWAt
import Derived.Test.YtlklnenlhmhcaaaWEqStruct
import Derived.Test.YtlklnenlhmhcaaaWRepsOne
import Derived.Test.YtlklnenlhmhcaaaWInv
import Derived.Test.YtlklnenlhmhcaaaWInvWords
import Derived.Test.YtlklnenlhmhcaaaWGuard
import Derived.Test.YtlklnenlhmhcaaaWNEv
import Derived.Test.YtlklnenlhmhcaaaWMore
namespace Go.Proofs.Ytlklnenlhmhcaaa.PRecordWords
open Go.RowKit Go.Proofs.YtlklnenlhmhcaaaW.PrintWords Go.Proofs.YtlklnenlhmhcaaaW.PrintLast Go.Proofs.YtlklnenlhmhcaaaW.PrintMore
attribute [local go_sem] max2_int min2_int max_two min_two max_three min_three max_four min_four   -- for this text's walks alone
set_option linter.unusedVariables false
set_option linter.unusedSimpArgs false



def errW : Option Int → Value
  | none => .nilIface
  | some c => .iface 0 (.int .i64 c)
theorem errW_none : errW none = .nilIface := rfl
theorem errW_some (c : Int) : errW (some c) = .iface 0 (.int .i64 c) := rfl

theorem info5 : (Try.prog.info? 5).map (fun i => (i.zero, i.size, i.bytes)) = some (some (.int .u8 0), 1, 1) := by kernel_rfl
-- the values' own types

end Go.Proofs.Ytlklnenlhmhcaaa.PRecordWords
