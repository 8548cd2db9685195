
import Derived.Test.YtcphcaiiofeflaaDoorOmGOx0
import Derived.Test.YtcphcaiiofeflaaDoorOmGOx27
namespace Go.Proofs.YtcphcaiiofeflaaDoor.GO
open Go.RowKit Go.Proofs.YtcphcaiiofeflaaDoorW.PrintWords Go.Proofs.YtcphcaiiofeflaaDoorW.PrintLast Go.Proofs.YtcphcaiiofeflaaDoorW.PrintMore
attribute [local go_sem] max2_int min2_int max_two min_two max_three min_three max_four min_four
set_option linter.unusedVariables false
set_option linter.unusedSimpArgs false
mutual
def r08_Same.j0:Nat→Bool→Int→List Int→List ByteArray→List Int→Int→List Int→List ByteArray→List Int→Option (Bool)
 | 0,_,_,_,_,_,_,_,_,_ => none
 | k+1,x18,x488000,x488001,x488002,x488003,x489000,x489001,x489002,x489003 => if x18 = true then (some false) else (r08_Same.l0 k 0 x488000 x488001 x488002 x488003 x489000 x489001 x489002 x489003)
def r08_Same.l0:Nat→Int→Int→List Int→List ByteArray→List Int→Int→List Int→List ByteArray→List Int→Option (Bool)
 | 0,_,_,_,_,_,_,_,_,_ => none
 | k+1,x5,x488000,x488001,x488002,x488003,x489000,x489001,x489002,x489003 => if x5 < (x488003.length:Int) then (if 0≤x5 then (if x5 < (x489003.length:Int) then (if (rd x488003 x5) = (rd x489003 x5) then (r08_Same.l0 k (wrap64 (x5+1)) x488000 x488001 x488002 x488003 x489000 x489001 x489002 x489003) else (some false)) else (none)) else (none)) else (some true)
end
def r08_Same.f (k:Nat) (a0_0:Int) (l0_1:List Int) (l0_2:List ByteArray) (l0_3:List Int) (a1_0:Int) (l1_1:List Int) (l1_2:List ByteArray) (l1_3:List Int):Option (Bool):=(r08_Own.f k a0_0 l0_1 l0_2 l0_3 a1_0 l1_1 l1_2 l1_3).bind fun t489 => (if t489 = true then (r08_Same.j0 k ((l0_3.length:Int) != (l1_3.length:Int)) a0_0 l0_1 l0_2 l0_3 a1_0 l1_1 l1_2 l1_3) else (r08_Same.j0 k true a0_0 l0_1 l0_2 l0_3 a1_0 l1_1 l1_2 l1_3))
end Go.Proofs.YtcphcaiiofeflaaDoor.GO
