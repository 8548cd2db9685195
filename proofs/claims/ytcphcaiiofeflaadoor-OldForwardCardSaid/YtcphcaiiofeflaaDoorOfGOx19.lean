
import Derived.Test.YtcphcaiiofeflaaDoorOfGOx0
import Derived.Test.YtcphcaiiofeflaaDoorOfGOx18
namespace Go.Proofs.YtcphcaiiofeflaaDoor.GO
open Go.RowKit Go.Proofs.YtcphcaiiofeflaaDoorW.PrintWords Go.Proofs.YtcphcaiiofeflaaDoorW.PrintLast Go.Proofs.YtcphcaiiofeflaaDoorW.PrintMore
attribute [local go_sem] max2_int min2_int max_two min_two max_three min_three max_four min_four
set_option linter.unusedVariables false
set_option linter.unusedSimpArgs false
mutual
def r09_Refs.l0:Nat→Int→List (S53)→Int→Option (Int)
 | 0,_,_,_ => none
 | k+1,x3,x323000,x323001 => if x3 < (x323000.length:Int) then (r09_Refs.l1 k x3 0 x323000 x323001) else (some (-1))
def r09_Refs.l1:Nat→Int→Int→List (S53)→Int→Option (Int)
 | 0,_,_,_,_ => none
 | k+1,x3,x4,x323000,x323001 => if 0≤x3 then (if x3 < (x323000.length:Int) then (if x4 < (((rd_T53 x323000 x3).f3).length:Int) then (if 0≤x4 then ((r09_Place.f x323000 x323001 (rd ((rd_T53 x323000 x3).f3) x4)).bind fun t326 => (if t326 = true then (r09_Refs.l1 k x3 (wrap64 (x4+1)) x323000 x323001) else (some x3))) else (none)) else (r09_Refs.l0 k (wrap64 (x3+1)) x323000 x323001)) else (none)) else (none)
end
def r09_Refs.f (k:Nat) (l0_0:List (S53)) (a0_1:Int):Option (Int):=r09_Refs.l0 k 0 l0_0 a0_1
end Go.Proofs.YtcphcaiiofeflaaDoor.GO
