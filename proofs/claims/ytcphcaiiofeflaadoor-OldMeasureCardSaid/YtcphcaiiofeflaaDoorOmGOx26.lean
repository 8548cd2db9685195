
import Derived.Test.YtcphcaiiofeflaaDoorOmGOx0
import Derived.Test.YtcphcaiiofeflaaDoorOmGOx21
namespace Go.Proofs.YtcphcaiiofeflaaDoor.GO
open Go.RowKit Go.Proofs.YtcphcaiiofeflaaDoorW.PrintWords Go.Proofs.YtcphcaiiofeflaaDoorW.PrintLast Go.Proofs.YtcphcaiiofeflaaDoorW.PrintMore
attribute [local go_sem] max2_int min2_int max_two min_two max_three min_three max_four min_four
set_option linter.unusedVariables false
set_option linter.unusedSimpArgs false
mutual
def r16_Is.j0:Nat→Bool→List (S53)→Int→Option (Bool)
 | 0,_,_,_ => none
 | k+1,x12,x460000,x460001 => if x12 = true then (some false) else (r16_Is.l0 k 0 x460000 x460001)
def r16_Is.l0:Nat→Int→List (S53)→Int→Option (Bool)
 | 0,_,_,_ => none
 | k+1,x3,x460000,x460001 => if x3 < (x460000.length:Int) then (r16_Is.l1 k x3 0 x460000 x460001) else (some true)
def r16_Is.l1:Nat→Int→Int→List (S53)→Int→Option (Bool)
 | 0,_,_,_,_ => none
 | k+1,x3,x4,x460000,x460001 => if 0≤x3 then (if x3 < (x460000.length:Int) then (if x4 < (((rd_T53 x460000 x3).f3).length:Int) then (if 0≤x4 then (if (rd ((rd_T53 x460000 x3).f3) x4)≤x3 then (some false) else (r16_Is.l1 k x3 (wrap64 (x4+1)) x460000 x460001)) else (none)) else (r16_Is.l0 k (wrap64 (x3+1)) x460000 x460001)) else (none)) else (none)
end
def r16_Is.f (k:Nat) (l0_0:List (S53)) (a0_1:Int):Option (Bool):=(r09_Right.f k l0_0 a0_1).bind fun t460 => (if t460 = true then (r16_Is.j0 k (a0_1 != 0) l0_0 a0_1) else (r16_Is.j0 k true l0_0 a0_1))
end Go.Proofs.YtcphcaiiofeflaaDoor.GO
