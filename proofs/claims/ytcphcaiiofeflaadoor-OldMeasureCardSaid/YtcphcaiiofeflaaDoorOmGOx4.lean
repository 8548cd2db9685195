
import Derived.Test.YtcphcaiiofeflaaDoorOmGOx0
namespace Go.Proofs.YtcphcaiiofeflaaDoor.GO
open Go.RowKit Go.Proofs.YtcphcaiiofeflaaDoorW.PrintWords Go.Proofs.YtcphcaiiofeflaaDoorW.PrintLast Go.Proofs.YtcphcaiiofeflaaDoorW.PrintMore
attribute [local go_sem] max2_int min2_int max_two min_two max_three min_three max_four min_four
set_option linter.unusedVariables false
set_option linter.unusedSimpArgs false
mutual
def r07_Spec.j0:Nat→Int→Bool→Int→Int→Int→Option (List Int × Int × Int × Int × Bool)
 | 0,_,_,_,_,_ => none
 | k+1,x10,x18,x128001,x128002,x128003 => if x18 = true then (some ((([3]:List Int)),1,0,0,true)) else (if x10 = 5 then (some (([]:List Int),1,0,0,true)) else (if x10 = 6 then (some ((([4]:List Int)),0,0,0,true)) else (some (([]:List Int),x128001,x128002,x128003,false))))
def r07_Spec.j1:Nat→Int→Bool→Int→Int→Int→Option (List Int × Int × Int × Int × Bool)
 | 0,_,_,_,_,_ => none
 | k+1,x31,x35,x128001,x128002,x128003 => if x35 = true then (some ((([2,2,2]:List Int)),0,1,1,true)) else (if x31 = 3 then (some ((([3,3,3]:List Int)),1,0,0,true)) else (if x31 = 4 then (some ((([3]:List Int)),1,0,0,true)) else (if x31 = 5 then (some ((([3]:List Int)),2,0,0,true)) else (if x31 = 6 then (some ((([1]:List Int)),0,0,(-1),true)) else (if x31 = 7 then (some ((([4,4,4,5]:List Int)),0,0,0,true)) else (some (([]:List Int),x128001,x128002,x128003,false)))))))
end
def r07_Spec.f (k:Nat) (a0:Int) (a1:Int):Option (List Int × Int × Int × Int × Bool):=if a0 = 1 then (if a1 = 1 then (some (([]:List Int),0,0,(-1),true)) else (if a1 = 2 then (some ((([2,2,2,2]:List Int)),0,1,1,true)) else (if a1 = 3 then (r07_Spec.j0 k a1 (a1 == 3) 0 0 0) else (r07_Spec.j0 k a1 (a1 == 4) 0 0 0)))) else (if a1 = 1 then (some (([]:List Int),1,0,(-1),true)) else (if a1 = 2 then (r07_Spec.j1 k a1 (a1 == 2) 0 0 0) else (r07_Spec.j1 k a1 (a1 == 8) 0 0 0)))
def r07_In.f (a0:Int) (a1:Int):Option (Bool):=if a0 = 1 then (some true) else (if a0 = 2 then (if a1 ≥ 0 then (if a1≤140737488355328 then (some true) else (if a1 < 0 then (some (decide (a1 ≥ (-140737488355328)))) else (some false))) else (if a1 < 0 then (some (decide (a1 ≥ (-140737488355328)))) else (some false))) else (if a0 = 3 then (if a1 ≥ 0 then (some (decide (a1≤140737488355328))) else (some false)) else (if a0 = 4 then (if a1 ≥ 0 then (some (decide (a1 < 256))) else (some false)) else (if a0 = 5 then (if (wrap64 (a1 * a1)) = a1 then (if a1 ≥ 0 then (some (decide (a1≤1))) else (some false)) else (some false)) else (some false)))))
end Go.Proofs.YtcphcaiiofeflaaDoor.GO
