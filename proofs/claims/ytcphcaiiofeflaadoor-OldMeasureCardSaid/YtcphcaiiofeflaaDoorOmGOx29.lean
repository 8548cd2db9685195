
import Derived.Test.YtcphcaiiofeflaaDoorOmGOx0
import Derived.Test.YtcphcaiiofeflaaDoorOmGOx28
namespace Go.Proofs.YtcphcaiiofeflaaDoor.GO
open Go.RowKit Go.Proofs.YtcphcaiiofeflaaDoorW.PrintWords Go.Proofs.YtcphcaiiofeflaaDoorW.PrintLast Go.Proofs.YtcphcaiiofeflaaDoorW.PrintMore
attribute [local go_sem] max2_int min2_int max_two min_two max_three min_three max_four min_four
set_option linter.unusedVariables false
set_option linter.unusedSimpArgs false
mutual
def r09_Same.j0:Nat→Bool→List (S53)→Int→List (S53)→Int→Option (Bool)
 | 0,_,_,_,_,_ => none
 | k+1,x19,x493000,x493001,x494000,x494001 => if x19 = true then (some false) else (r09_Same.l0 k 0 x493000 x493001 x494000 x494001)
def r09_Same.l0:Nat→Int→List (S53)→Int→List (S53)→Int→Option (Bool)
 | 0,_,_,_,_,_ => none
 | k+1,x5,x493000,x493001,x494000,x494001 => if x5 < (x493000.length:Int) then (if 0≤x5 then (if x5 < (x494000.length:Int) then ((r08_Same.f k ((rd_T53 x493000 x5).f0) ((rd_T53 x493000 x5).f1) ((rd_T53 x493000 x5).f2) ((rd_T53 x493000 x5).f3) ((rd_T53 x494000 x5).f0) ((rd_T53 x494000 x5).f1) ((rd_T53 x494000 x5).f2) ((rd_T53 x494000 x5).f3)).bind fun t496 => (if t496 = true then (r09_Same.l0 k (wrap64 (x5+1)) x493000 x493001 x494000 x494001) else (some false))) else (none)) else (none)) else (some true)
end
def r09_Same.f (k:Nat) (l0_0:List (S53)) (a0_1:Int) (l1_0:List (S53)) (a1_1:Int):Option (Bool):=if a0_1 = a1_1 then (r09_Same.j0 k ((l0_0.length:Int) != (l1_0.length:Int)) l0_0 a0_1 l1_0 a1_1) else (r09_Same.j0 k true l0_0 a0_1 l1_0 a1_1)
end Go.Proofs.YtcphcaiiofeflaaDoor.GO
