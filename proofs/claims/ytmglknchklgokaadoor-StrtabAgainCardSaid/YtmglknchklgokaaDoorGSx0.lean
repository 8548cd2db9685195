-- Printed by a program of the session (wip/gen/tprint.py, over a turned copy of the kit's print): Lean checks it.
import Derived.Test.YtmglknchklgokaaDoorProg
import Derived.Below
import Derived.Deep.Draws
import Derived.Deep.AppendLies
import Derived.Maps.AppendAt
import Derived.OwnWalk
import Derived.Laws.BytesArg
import Derived.Laws.MakeOwn
import Derived.Laws.OwnMore
import Derived.Deep.OwnRows
import Derived.Tactics
import Derived.Lib.ConvBytes
import Derived.Laws.Slices
import Derived.WalkKit
import Derived.KernelRfl
import Derived.RowKit3
import Derived.Deep.LoopGhost
import Derived.Deep.QuietTactic
import Derived.BigQuiet
import Derived.WideLaws
import Derived.Deep.DeepCutAuto
import Derived.Deep.CutBlock
import Derived.Deep.RegionHeld3
import Derived.Laws.Rows
import Derived.Lib.AppendStr
import Derived.ArgAppend
import Derived.Laws.IdiomCopy
import Derived.OrdersHeld
import Derived.Laws.BitsLemmas
import Derived.RowKit
import Derived.Lib.Hide
import Derived.Laws.CopyOwn
import Derived.Deep.RegionLaw
import Derived.Test.YtmglknchklgokaaDoorUtfF
import Derived.Test.YtmglknchklgokaaDoorKw
import Derived.Test.YtmglknchklgokaaDoorMapS
import Derived.Test.YtmglknchklgokaaDoorWWords
import Derived.Test.YtmglknchklgokaaDoorWLast
import Derived.Test.YtmglknchklgokaaDoorWTab
import Derived.Test.YtmglknchklgokaaDoorWQPut
import Derived.Test.YtmglknchklgokaaDoorWApart
import Derived.Test.YtmglknchklgokaaDoorWArr
import Derived.Test.YtmglknchklgokaaDoorWZeros
import Derived.Test.YtmglknchklgokaaDoorWFoot
import Derived.Test.YtmglknchklgokaaDoorWKept
import Derived.Test.YtmglknchklgokaaDoorWShare
import Derived.Test.YtmglknchklgokaaDoorWN
import Derived.Test.YtmglknchklgokaaDoorWFootNe
import Derived.Test.YtmglknchklgokaaDoorWAt
import Derived.Test.YtmglknchklgokaaDoorWEqStruct
import Derived.Test.YtmglknchklgokaaDoorWRepsOne
import Derived.Test.YtmglknchklgokaaDoorWNEv
import Derived.Test.YtmglknchklgokaaDoorWMore
namespace Go.Proofs.YtmglknchklgokaaDoor.GS
open Go.RowKit Go.Proofs.YtmglknchklgokaaDoorW.PrintWords Go.Proofs.YtmglknchklgokaaDoorW.PrintLast Go.Proofs.YtmglknchklgokaaDoorW.PrintMore
attribute [local go_sem] max2_int min2_int max_two min_two max_three min_three max_four min_four   -- for this text's walks alone
set_option linter.unusedVariables false
set_option linter.unusedSimpArgs false



def errW : Option Int → Value
 | none => .nilIface
 | some c => .iface 0 (.int .i64 c)
theorem errW_none : errW none = .nilIface := rfl
theorem errW_some (c : Int) : errW (some c) = .iface 0 (.int .i64 c) := rfl

theorem info5 : (Tryd.prog.info? 5).map (fun i => (i.zero, i.size, i.bytes)) = some (some (.int .u8 0), 1, 1) := by kernel_rfl
theorem info9 : (Tryd.prog.info? 9).map (fun i => (i.zero, i.size, i.bytes)) = some (some (.string ⟨#[]⟩), 1, 16) := by kernel_rfl
theorem info21 : (Tryd.prog.info? 21).map (fun i => (i.zero, i.size, i.bytes)) = some (some (.int .i32 0), 1, 4) := by kernel_rfl
-- the values' own types

end Go.Proofs.YtmglknchklgokaaDoor.GS
