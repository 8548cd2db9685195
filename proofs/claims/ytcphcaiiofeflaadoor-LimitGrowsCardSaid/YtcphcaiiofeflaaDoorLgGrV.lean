/- What is wrong, by the reference. -/
import Derived.Test.YtcphcaiiofeflaaDoorLgGrC
import Derived.Test.YtcphcaiiofeflaaDoorLgGLx14
namespace Go.Proofs.YtcphcaiiofeflaaDoor.GL
open Go.RowKit Go.Proofs.YtcphcaiiofeflaaDoorW.PrintWords Go.Proofs.YtcphcaiiofeflaaDoorW.PrintLast Go.Proofs.YtcphcaiiofeflaaDoorW.PrintMore
set_option linter.unusedVariables false
set_option linter.unusedSimpArgs false
end Go.Proofs.YtcphcaiiofeflaaDoor.GL
