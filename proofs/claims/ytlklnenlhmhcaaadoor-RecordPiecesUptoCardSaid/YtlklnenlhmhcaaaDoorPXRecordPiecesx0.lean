/- The machine's side of a law, printed by a program of this session out of the translation; conditions: none. -/
import Derived.Test.YtlklnenlhmhcaaaDoorProg
import Derived.Below
import Derived.Deep.Draws
import Derived.Deep.AppendLies
import Derived.Maps.AppendAt
import Derived.OwnWalk
import Derived.Laws.BytesArg
import Derived.Laws.MakeOwn
import Derived.Laws.OwnMore
import Derived.Deep.OwnRows
import Derived.Tactics
import Derived.Lib.ConvBytes
import Derived.Laws.Slices
import Derived.WalkKit
import Derived.KernelRfl
import Derived.RowKit3
import Derived.Deep.LoopGhost
import Derived.Deep.QuietTactic
import Derived.BigQuiet
import Derived.WideLaws
import Derived.Deep.DeepCutAuto
import Derived.Deep.CutBlock
import Derived.Deep.RegionHeld3
import Derived.Laws.Rows
import Derived.Lib.AppendStr
import Derived.ArgAppend
import Derived.Laws.IdiomCopy
import Derived.OrdersHeld
import Derived.Laws.BitsLemmas
import Derived.RowKit
import Derived.Test.YtlklnenlhmhcaaaDoorGW
import Derived.Test.YtlklnenlhmhcaaaDoorFields
import Derived.Test.YtlklnenlhmhcaaaDoorWWords
import Derived.Test.YtlklnenlhmhcaaaDoorWLast
import Derived.Test.YtlklnenlhmhcaaaDoorWTab
import Derived.Test.YtlklnenlhmhcaaaDoorWFour
import Derived.Test.YtlklnenlhmhcaaaDoorWQPut
import Derived.Test.YtlklnenlhmhcaaaDoorWApart
import Derived.Test.YtlklnenlhmhcaaaDoorWArr
import Derived.Test.YtlklnenlhmhcaaaDoorWZeros
import Derived.Test.YtlklnenlhmhcaaaDoorWFoot
import Derived.Test.YtlklnenlhmhcaaaDoorWKept
import Derived.Test.YtlklnenlhmhcaaaDoorWShare
import Derived.Test.YtlklnenlhmhcaaaDoorWN
import Derived.Test.YtlklnenlhmhcaaaDoorWFootNe
import Derived.Test.YtlklnenlhmhcaaaDoorWAt
import Derived.Test.YtlklnenlhmhcaaaDoorWEqStruct
import Derived.Test.YtlklnenlhmhcaaaDoorWRepsOne
import Derived.Test.YtlklnenlhmhcaaaDoorWInv
import Derived.Test.YtlklnenlhmhcaaaDoorWInvWords
import Derived.Test.YtlklnenlhmhcaaaDoorWGuard
import Derived.Test.YtlklnenlhmhcaaaDoorWNEv
import Derived.Test.YtlklnenlhmhcaaaDoorWMore
namespace Go.Proofs.YtlklnenlhmhcaaaDoor.PXRecordPieces
open Go.Proofs.YtlklnenlhmhcaaaDoor
open Go.RowKit Go.Proofs.YtlklnenlhmhcaaaDoorW.PrintWords Go.Proofs.YtlklnenlhmhcaaaDoorW.PrintLast Go.Proofs.YtlklnenlhmhcaaaDoorW.PrintMore
attribute [local go_sem] max2_int min2_int max_two min_two max_three min_three max_four min_four   -- for this text's walks alone
set_option linter.unusedVariables false
set_option linter.unusedSimpArgs false



def errW : Option Int → Value
  | none => .nilIface
  | some c => .iface 0 (.int .i64 c)
theorem errW_none : errW none = .nilIface := rfl
theorem errW_some (c : Int) : errW (some c) = .iface 0 (.int .i64 c) := rfl

theorem info5 : (Tryd.prog.info? 5).map (fun i => (i.zero, i.size, i.bytes)) = some (some (.int .u8 0), 1, 1) := by kernel_rfl
theorem info9 : (Tryd.prog.info? 9).map (fun i => (i.zero, i.size, i.bytes)) = some (some (.string ⟨#[]⟩), 1, 16) := by kernel_rfl
-- the values' own types

end Go.Proofs.YtlklnenlhmhcaaaDoor.PXRecordPieces
