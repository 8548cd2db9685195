/- A slice that came in, as the printed contracts take it. -/
import Derived.Test.YtlfjjapndlkamaaCtOpen
namespace Go.Proofs.Ytlfjjapndlkamaa.O
open Go.RowKit Go.ChangeShapes Go.WideShapes Go.Proofs.YtlfjjapndlkamaaW.PrintWords Go.Proofs.YtlfjjapndlkamaaW.PrintLast Go.Proofs.YtlfjjapndlkamaaW.PrintMore
end Go.Proofs.Ytlfjjapndlkamaa.O
