-- Printed by a program of the session (wip/gen/tprint.py, over a turned copy of the kit's print): Lean checks it.
import Derived.Test.YtcphcaiiofeflaaDoorLcGLx0
namespace Go.Proofs.YtcphcaiiofeflaaDoor.GL
open Go.RowKit Go.Proofs.YtcphcaiiofeflaaDoorW.PrintWords Go.Proofs.YtcphcaiiofeflaaDoorW.PrintLast Go.Proofs.YtcphcaiiofeflaaDoorW.PrintMore
attribute [local go_sem] max2_int min2_int max_two min_two max_three min_three max_four min_four   -- for this text's walks alone
set_option linter.unusedVariables false
set_option linter.unusedSimpArgs false

/-! ### dioramaref12_Right: function 23 -/
def dioramaref12_Right.l0 : Nat → List Int → Int → Option (Bool)
 | 0, _, _ => none
 | k + 1, x3, x4 => if x4 < 5 then (if 0 ≤ x4 then (if x4 < (x3.length : Int) then (if (rd x3 x4) < 0 then (some false) else (if (rd x3 x4) > 16777216 then (some false) else (dioramaref12_Right.l0 k x3 (wrap64 (x4 + 1))))) else (none)) else (none)) else (some true)
def dioramaref12_Right.f (k : Nat) (a0_0 : Int) (a0_1 : Int) (a0_2 : Int) (a0_3 : Int) (a0_4 : Int) : Option (Bool) := dioramaref12_Right.l0 k (([a0_0, a0_1, a0_2, a0_3, a0_4] : List Int)) 0

/-! ### dioramaref12_Within: function 25 -/
def dioramaref12_Within.f (a0_0 : Int) (a0_1 : Int) (a0_2 : Int) (a0_3 : Int) (a0_4 : Int) (a1_0 : Int) (a1_1 : Int) (a1_2 : Int) (a1_3 : Int) (a1_4 : Int) : Option (Bool) := if a0_0 ≤ a1_0 then (if a0_1 ≤ a1_1 then (if a0_2 ≤ a1_2 then (if a0_3 ≤ a1_3 then (some (decide (a0_4 ≤ a1_4))) else (some false)) else (some false)) else (some false)) else (some false)

end Go.Proofs.YtcphcaiiofeflaaDoor.GL
