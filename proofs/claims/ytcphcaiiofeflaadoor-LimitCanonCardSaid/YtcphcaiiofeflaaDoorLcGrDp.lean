/- Depths of the reference, plain. -/
import Derived.Test.YtcphcaiiofeflaaDoorLcGrV
import Derived.Test.YtcphcaiiofeflaaDoorLcGrD
import Derived.Test.YtcphcaiiofeflaaDoorLcGLx15
namespace Go.Proofs.YtcphcaiiofeflaaDoor.GL
open Go.RowKit Go.Proofs.YtcphcaiiofeflaaDoorW.PrintWords Go.Proofs.YtcphcaiiofeflaaDoorW.PrintLast Go.Proofs.YtcphcaiiofeflaaDoorW.PrintMore
set_option linter.unusedVariables false
set_option linter.unusedSimpArgs false
end Go.Proofs.YtcphcaiiofeflaaDoor.GL
