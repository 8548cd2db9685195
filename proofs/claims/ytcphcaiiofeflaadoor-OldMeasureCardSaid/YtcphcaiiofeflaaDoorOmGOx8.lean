
import Derived.Test.YtcphcaiiofeflaaDoorOmGOx0
import Derived.Test.YtcphcaiiofeflaaDoorOmGOx4
import Derived.Test.YtcphcaiiofeflaaDoorOmGOx7
namespace Go.Proofs.YtcphcaiiofeflaaDoor.GO
open Go.RowKit Go.Proofs.YtcphcaiiofeflaaDoorW.PrintWords Go.Proofs.YtcphcaiiofeflaaDoorW.PrintLast Go.Proofs.YtcphcaiiofeflaaDoorW.PrintMore
attribute [local go_sem] max2_int min2_int max_two min_two max_three min_three max_four min_four
set_option linter.unusedVariables false
set_option linter.unusedSimpArgs false
def r12_Typed.l0:Nat→Int→Int→List (S53)→Int→Option (Int × Int)
 | 0,_,_,_,_ => none
 | k+1,x1,x6,x188000,x188001 => if x6 < (x188000.length:Int) then (if 0≤x6 then ((r07_Spec.f k x1 ((rd_T53 x188000 x6).f0)).bind fun bt189 => (if bt189.2.2.2.2 = true then ((r08_Check.f k ((rd_T53 x188000 x6).f0) ((rd_T53 x188000 x6).f1) ((rd_T53 x188000 x6).f2) ((rd_T53 x188000 x6).f3) bt189.1 bt189.2.1 bt189.2.2.1 bt189.2.2.2.1).bind fun t198 => (if t198 = 0 then (r12_Typed.l0 k x1 (wrap64 (x6+1)) x188000 x188001) else (some (t198,x6)))) else (some (9,x6)))) else (none)) else (some (0,0))
def r12_Typed.f (k:Nat) (l0_0:List (S53)) (a0_1:Int) (a1:Int):Option (Int × Int):=r12_Typed.l0 k a1 0 l0_0 a0_1
end Go.Proofs.YtcphcaiiofeflaaDoor.GO
