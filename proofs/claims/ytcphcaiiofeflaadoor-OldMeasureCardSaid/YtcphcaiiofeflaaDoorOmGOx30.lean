
import Derived.Test.YtcphcaiiofeflaaDoorOmGOx0
namespace Go.Proofs.YtcphcaiiofeflaaDoor.GO
open Go.RowKit Go.Proofs.YtcphcaiiofeflaaDoorW.PrintWords Go.Proofs.YtcphcaiiofeflaaDoorW.PrintLast Go.Proofs.YtcphcaiiofeflaaDoorW.PrintMore
attribute [local go_sem] max2_int min2_int max_two min_two max_three min_three max_four min_four
set_option linter.unusedVariables false
set_option linter.unusedSimpArgs false
mutual
def r10_meet.l0:Nat→Int→List Int→Int→List (S53)→Int→Option (List Int)
 | 0,_,_,_,_,_ => none
 | k+1,x1,x2,x7,x498000,x498001 => if x7 < (x2.length:Int) then (if 0≤x7 then (if (rd x2 x7) = x1 then (some x2) else (r10_meet.l0 k x1 x2 (wrap64 (x7+1)) x498000 x498001)) else (none)) else (r10_meet.l1 k x1 x2 0 x498000 x498001)
def r10_meet.l1:Nat→Int→List Int→Int→List (S53)→Int→Option (List Int)
 | 0,_,_,_,_,_ => none
 | k+1,x1,x2,x8,x498000,x498001 => if 0≤x1 then (if x1 < (x498000.length:Int) then (if x8 < (((rd_T53 x498000 x1).f3).length:Int) then (if 0≤x8 then ((r10_meet.f k x498000 x498001 (rd ((rd_T53 x498000 x1).f3) x8) x2).bind fun t502 => (r10_meet.l1 k x1 t502 (wrap64 (x8+1)) x498000 x498001)) else (none)) else ((some (([]:List Int):List Int)).bind fun y505 => (if y505.length+x2.length < 17592186044416 then ((some (y505 ++ x2:List Int)).bind fun y508 => (if y508.length < 17592186044416 then (some (y508 ++ [x1])) else (none))) else (none)))) else (none)) else (none)
def r10_meet.f:Nat→List (S53)→Int→Int→List Int→Option (List Int)
 | 0,_,_,_,_ => none
 | k+1,l0_0,a0_1,a1,l2 => r10_meet.l0 k a1 l2 0 l0_0 a0_1
end
def r10_Order.f (k:Nat) (l0_0:List (S53)) (a0_1:Int):Option (List Int):=(r10_meet.f k l0_0 a0_1 a0_1 ([]:List Int)).bind fun t515 => (some t515)
def r10_Find.l0:Nat→List Int→Int→Int→Option (Int)
 | 0,_,_,_ => none
 | k+1,x0,x1,x5 => if x5 < (x0.length:Int) then (if 0≤x5 then (if (rd x0 x5) = x1 then (some x5) else (r10_Find.l0 k x0 x1 (wrap64 (x5+1)))) else (none)) else (some (-1))
def r10_Find.f (k:Nat) (l0:List Int) (a1:Int):Option (Int):=r10_Find.l0 k l0 a1 0
end Go.Proofs.YtcphcaiiofeflaaDoor.GO
