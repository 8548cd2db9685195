
import Derived.Test.YtcphcaiiofeflaaDoorOfGOx0
namespace Go.Proofs.YtcphcaiiofeflaaDoor.GO
open Go.RowKit Go.Proofs.YtcphcaiiofeflaaDoorW.PrintWords Go.Proofs.YtcphcaiiofeflaaDoorW.PrintLast Go.Proofs.YtcphcaiiofeflaaDoorW.PrintMore
attribute [local go_sem] max2_int min2_int max_two min_two max_three min_three max_four min_four
set_option linter.unusedVariables false
set_option linter.unusedSimpArgs false
def r09_Led.l0:Nat→List Bool→List Int→List (S53)→Int→Option (List Bool)
 | 0,_,_,_,_ => none
 | k+1,x5,x6,x328000,x328001 => if (x6.length:Int) > 0 then (if 0 < (x6.length:Int) then (if 1≤(x6.length:Int) then ((some (x6.drop (1:Int).toNat:List Int)).bind fun y339 => (if 0≤(rd x6 0) then (if (rd x6 0) < (x5.length:Int) then (if (rdOf false x5 (rd x6 0) = true) then (r09_Led.l0 k x5 y339 x328000 x328001) else ((some (([]:List Int):List Int)).bind fun y344 => (if y344.length+y339.length < 17592186044416 then ((some (y344 ++ y339:List Int)).bind fun y347 => (if (rd x6 0) < (x328000.length:Int) then (if y347.length+((rd_T53 x328000 (rd x6 0)).f3).length < 17592186044416 then (r09_Led.l0 k (x5.set ((rd x6 0):Int).toNat true) (y347 ++ ((rd_T53 x328000 (rd x6 0)).f3)) x328000 x328001) else (none)) else (none))) else (none)))) else (none)) else (none))) else (none)) else (none)) else (some x5)
def r09_Led.f (k:Nat) (l0_0:List (S53)) (a0_1:Int) (a1:Int):Option (List Bool):=if 0≤(l0_0.length:Int) then (if ((l0_0.length:Int):Int).toNat≤281474976710656 then ((some (([]:List Int):List Int)).bind fun y331 => (if 0≤a1 then (if a1 < (l0_0.length:Int) then (if y331.length+((rd_T53 l0_0 a1).f3).length < 17592186044416 then (r09_Led.l0 k (List.replicate ((l0_0.length:Int):Int).toNat false) (y331 ++ ((rd_T53 l0_0 a1).f3)) l0_0 a0_1) else (none)) else (none)) else (none))) else (none)) else (none)
end Go.Proofs.YtcphcaiiofeflaaDoor.GO
