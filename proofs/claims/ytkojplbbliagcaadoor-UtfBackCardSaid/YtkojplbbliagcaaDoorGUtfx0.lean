-- Printed by a program of the session (wip/gen/tprint.py, over a turned copy of the kit's print): Lean checks it.
import Derived.Test.YtkojplbbliagcaaDoorProg
import Derived.Below
import Derived.Deep.Draws
import Derived.Deep.AppendLies
import Derived.Maps.AppendAt
import Derived.OwnWalk
import Derived.Laws.BytesArg
import Derived.Laws.MakeOwn
import Derived.Laws.OwnMore
import Derived.Deep.OwnRows
import Derived.Tactics
import Derived.Lib.ConvBytes
import Derived.Laws.Slices
import Derived.WalkKit
import Derived.KernelRfl
import Derived.RowKit3
import Derived.Deep.LoopGhost
import Derived.Deep.QuietTactic
import Derived.BigQuiet
import Derived.WideLaws
import Derived.Deep.DeepCutAuto
import Derived.Deep.CutBlock
import Derived.Deep.RegionHeld3
import Derived.Laws.Rows
import Derived.Lib.AppendStr
import Derived.ArgAppend
import Derived.Laws.IdiomCopy
import Derived.OrdersHeld
import Derived.Laws.BitsLemmas
import Derived.RowKit
import Derived.Lib.Hide
import Derived.Laws.CopyOwn
import Derived.Deep.RegionLaw
import Derived.Test.YtkojplbbliagcaaDoorUtf
import Derived.Test.YtkojplbbliagcaaDoorPut
import Derived.Test.YtkojplbbliagcaaDoorWWords
import Derived.Test.YtkojplbbliagcaaDoorWLast
import Derived.Test.YtkojplbbliagcaaDoorWTab
import Derived.Test.YtkojplbbliagcaaDoorWFour
import Derived.Test.YtkojplbbliagcaaDoorWQPut
import Derived.Test.YtkojplbbliagcaaDoorWApart
import Derived.Test.YtkojplbbliagcaaDoorWArr
import Derived.Test.YtkojplbbliagcaaDoorWZeros
import Derived.Test.YtkojplbbliagcaaDoorWFoot
import Derived.Test.YtkojplbbliagcaaDoorWKept
import Derived.Test.YtkojplbbliagcaaDoorWShare
import Derived.Test.YtkojplbbliagcaaDoorWN
import Derived.Test.YtkojplbbliagcaaDoorWFootNe
import Derived.Test.YtkojplbbliagcaaDoorWAt
import Derived.Test.YtkojplbbliagcaaDoorWEqStruct
import Derived.Test.YtkojplbbliagcaaDoorWRepsOne
import Derived.Test.YtkojplbbliagcaaDoorWInv
import Derived.Test.YtkojplbbliagcaaDoorWInvWords
import Derived.Test.YtkojplbbliagcaaDoorWGuard
import Derived.Test.YtkojplbbliagcaaDoorWNEv
import Derived.Test.YtkojplbbliagcaaDoorWMore
namespace Go.Proofs.YtkojplbbliagcaaDoor.GUtf
open Go.RowKit Go.Proofs.YtkojplbbliagcaaDoorW.PrintWords Go.Proofs.YtkojplbbliagcaaDoorW.PrintLast Go.Proofs.YtkojplbbliagcaaDoorW.PrintMore
attribute [local go_sem] max2_int min2_int max_two min_two max_three min_three max_four min_four   -- for this text's walks alone
set_option linter.unusedVariables false
set_option linter.unusedSimpArgs false



def errW : Option Int → Value
  | none => .nilIface
  | some c => .iface 0 (.int .i64 c)
theorem errW_none : errW none = .nilIface := rfl
theorem errW_some (c : Int) : errW (some c) = .iface 0 (.int .i64 c) := rfl

theorem info5 : (Tryd.prog.info? 5).map (fun i => (i.zero, i.size, i.bytes)) = some (some (.int .u8 0), 1, 1) := by kernel_rfl
theorem info21 : (Tryd.prog.info? 21).map (fun i => (i.zero, i.size, i.bytes)) = some (some (.int .i32 0), 1, 4) := by kernel_rfl
-- the values' own types

end Go.Proofs.YtkojplbbliagcaaDoor.GUtf
