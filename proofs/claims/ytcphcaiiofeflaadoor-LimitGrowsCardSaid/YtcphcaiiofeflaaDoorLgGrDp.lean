/- Depths of the reference, plain. -/
import Derived.Test.YtcphcaiiofeflaaDoorLgGrV
import Derived.Test.YtcphcaiiofeflaaDoorLgGrD
import Derived.Test.YtcphcaiiofeflaaDoorLgGLx15
namespace Go.Proofs.YtcphcaiiofeflaaDoor.GL
open Go.RowKit Go.Proofs.YtcphcaiiofeflaaDoorW.PrintWords Go.Proofs.YtcphcaiiofeflaaDoorW.PrintLast Go.Proofs.YtcphcaiiofeflaaDoorW.PrintMore
set_option linter.unusedVariables false
set_option linter.unusedSimpArgs false
end Go.Proofs.YtcphcaiiofeflaaDoor.GL
