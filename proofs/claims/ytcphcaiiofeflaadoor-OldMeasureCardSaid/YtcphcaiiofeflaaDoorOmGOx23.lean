
import Derived.Test.YtcphcaiiofeflaaDoorOmGOx0
import Derived.Test.YtcphcaiiofeflaaDoorOmGOx2
import Derived.Test.YtcphcaiiofeflaaDoorOmGOx21
import Derived.Test.YtcphcaiiofeflaaDoorOmGOx22
namespace Go.Proofs.YtcphcaiiofeflaaDoor.GO
open Go.RowKit Go.Proofs.YtcphcaiiofeflaaDoorW.PrintWords Go.Proofs.YtcphcaiiofeflaaDoorW.PrintLast Go.Proofs.YtcphcaiiofeflaaDoorW.PrintMore
attribute [local go_sem] max2_int min2_int max_two min_two max_three min_three max_four min_four
set_option linter.unusedVariables false
set_option linter.unusedSimpArgs false
def r12_Measure.f (k:Nat) (l0_0:List (S53)) (a0_1:Int):Option (Int × Int × Int × Int × Int):=(r09_Edges.f k l0_0 a0_1).bind fun t406 => ((r12_Texts.f k l0_0 a0_1).bind fun t407 => ((r06_Bytes.f k t407).bind fun t410 => ((r09_Right.f k l0_0 a0_1).bind fun t412 => (if t412 = true then ((r09_Depths.f k l0_0 a0_1).bind fun t413 => (if 0≤a0_1 then (if a0_1 < (t413.length:Int) then (some (0,(l0_0.length:Int),t406,rd t413 a0_1,t410)) else (none)) else (none))) else (some (0,(l0_0.length:Int),t406,0,t410))))))
end Go.Proofs.YtcphcaiiofeflaaDoor.GO
