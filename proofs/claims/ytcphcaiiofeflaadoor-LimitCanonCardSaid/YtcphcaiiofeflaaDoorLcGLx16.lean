-- Printed by a program of the session (wip/gen/tprint.py, over a turned copy of the kit's print): Lean checks it.
import Derived.Test.YtcphcaiiofeflaaDoorLcGLx0
import Derived.Test.YtcphcaiiofeflaaDoorLcGLx10
import Derived.Test.YtcphcaiiofeflaaDoorLcGLx14
import Derived.Test.YtcphcaiiofeflaaDoorLcGLx15
namespace Go.Proofs.YtcphcaiiofeflaaDoor.GL
open Go.RowKit Go.Proofs.YtcphcaiiofeflaaDoorW.PrintWords Go.Proofs.YtcphcaiiofeflaaDoorW.PrintLast Go.Proofs.YtcphcaiiofeflaaDoorW.PrintMore
attribute [local go_sem] max2_int min2_int max_two min_two max_three min_three max_four min_four   -- for this text's walks alone
set_option linter.unusedVariables false
set_option linter.unusedSimpArgs false

/-! ### dioramaref12_Measure: function 21 -/
def dioramaref12_Measure.f (k : Nat) (l0_0 : List (S53)) (a0_1 : Int) : Option (Int × Int × Int × Int × Int) := (dioramaref09_Edges.f k l0_0 a0_1).bind fun t336 => ((dioramaref12_Texts.f k l0_0 a0_1).bind fun t337 => ((dioramaref06_Bytes.f k t337).bind fun t340 => ((dioramaref09_Right.f k l0_0 a0_1).bind fun t342 => (if t342 = true then ((dioramaref09_Depths.f k l0_0 a0_1).bind fun t343 => (if 0 ≤ a0_1 then (if a0_1 < (t343.length : Int) then (some (0, (l0_0.length : Int), t336, rd t343 a0_1, t340)) else (none)) else (none))) else (some (0, (l0_0.length : Int), t336, 0, t340))))))

end Go.Proofs.YtcphcaiiofeflaaDoor.GL
