import Derived.Test.YtcphcaiiofeflaaDoorOmOpen
namespace Go.Proofs.YtcphcaiiofeflaaDoor.O
open Go.RowKit Go.ChangeShapes Go.WideShapes Go.Proofs.YtcphcaiiofeflaaDoorW.PrintWords Go.Proofs.YtcphcaiiofeflaaDoorW.PrintLast Go.Proofs.YtcphcaiiofeflaaDoorW.PrintMore
end Go.Proofs.YtcphcaiiofeflaaDoor.O
