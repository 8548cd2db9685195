-- Printed by a program of the session (wip/gen/tprint.py, over a turned copy of the kit's print): Lean checks it.
import Derived.Test.YtcphcaiiofeflaaDoorLgGLx0
import Derived.Test.YtcphcaiiofeflaaDoorLgGLx11
namespace Go.Proofs.YtcphcaiiofeflaaDoor.GL
open Go.RowKit Go.Proofs.YtcphcaiiofeflaaDoorW.PrintWords Go.Proofs.YtcphcaiiofeflaaDoorW.PrintLast Go.Proofs.YtcphcaiiofeflaaDoorW.PrintMore
attribute [local go_sem] max2_int min2_int max_two min_two max_three min_three max_four min_four   -- for this text's walks alone
set_option linter.unusedVariables false
set_option linter.unusedSimpArgs false

/-! ### dioramaref09_Refs: function 60 -/
mutual
def dioramaref09_Refs.l0 : Nat → Int → List (S53) → Int → Option (Int)
 | 0, _, _, _ => none
 | k + 1, x3, x253000, x253001 => if x3 < (x253000.length : Int) then (dioramaref09_Refs.l1 k x3 0 x253000 x253001) else (some (-1))
def dioramaref09_Refs.l1 : Nat → Int → Int → List (S53) → Int → Option (Int)
 | 0, _, _, _, _ => none
 | k + 1, x3, x4, x253000, x253001 => if 0 ≤ x3 then (if x3 < (x253000.length : Int) then (if x4 < (((rd_T53 x253000 x3).f3).length : Int) then (if 0 ≤ x4 then ((dioramaref09_Place.f x253000 x253001 (rd ((rd_T53 x253000 x3).f3) x4)).bind fun t256 => (if t256 = true then (dioramaref09_Refs.l1 k x3 (wrap64 (x4 + 1)) x253000 x253001) else (some x3))) else (none)) else (dioramaref09_Refs.l0 k (wrap64 (x3 + 1)) x253000 x253001)) else (none)) else (none)
end
def dioramaref09_Refs.f (k : Nat) (l0_0 : List (S53)) (a0_1 : Int) : Option (Int) := dioramaref09_Refs.l0 k 0 l0_0 a0_1

end Go.Proofs.YtcphcaiiofeflaaDoor.GL
