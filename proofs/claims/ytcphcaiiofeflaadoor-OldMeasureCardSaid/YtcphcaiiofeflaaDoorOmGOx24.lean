
import Derived.Test.YtcphcaiiofeflaaDoorOmGOx0
import Derived.Test.YtcphcaiiofeflaaDoorOmGOx8
import Derived.Test.YtcphcaiiofeflaaDoorOmGOx21
import Derived.Test.YtcphcaiiofeflaaDoorOmGOx23
namespace Go.Proofs.YtcphcaiiofeflaaDoor.GO
open Go.RowKit Go.Proofs.YtcphcaiiofeflaaDoorW.PrintWords Go.Proofs.YtcphcaiiofeflaaDoorW.PrintLast Go.Proofs.YtcphcaiiofeflaaDoorW.PrintMore
attribute [local go_sem] max2_int min2_int max_two min_two max_three min_three max_four min_four
set_option linter.unusedVariables false
set_option linter.unusedSimpArgs false
def r12_Right.l0:Nat→List Int→Int→Option (Bool)
 | 0,_,_ => none
 | k+1,x3,x4 => if x4 < 5 then (if 0≤x4 then (if x4 < (x3.length:Int) then (if (rd x3 x4) < 0 then (some false) else (if (rd x3 x4) > 16777216 then (some false) else (r12_Right.l0 k x3 (wrap64 (x4+1))))) else (none)) else (none)) else (some true)
def r12_Right.f (k:Nat) (a0_0:Int) (a0_1:Int) (a0_2:Int) (a0_3:Int) (a0_4:Int):Option (Bool):=r12_Right.l0 k (([a0_0,a0_1,a0_2,a0_3,a0_4]:List Int)) 0
def r12_Within.f (a0_0:Int) (a0_1:Int) (a0_2:Int) (a0_3:Int) (a0_4:Int) (a1_0:Int) (a1_1:Int) (a1_2:Int) (a1_3:Int) (a1_4:Int):Option (Bool):=if a0_0≤a1_0 then (if a0_1≤a1_1 then (if a0_2≤a1_2 then (if a0_3≤a1_3 then (some (decide (a0_4≤a1_4))) else (some false)) else (some false)) else (some false)) else (some false)
def r16_Valid.f (k:Nat) (l0_0:List (S53)) (a0_1:Int) (a1_0:Int) (a1_1:Int) (a1_2:Int) (a1_3:Int) (a1_4:Int):Option (Int × Int):=(r12_Right.f k a1_0 a1_1 a1_2 a1_3 a1_4).bind fun t427 => (if t427 = true then ((r12_Typed.f k l0_0 a0_1 1).bind fun bt428 => (if bt428.1 = 0 then ((r09_Check.f k l0_0 a0_1).bind fun bt430 => (if bt430.1 = 0 then ((r12_Measure.f k l0_0 a0_1).bind fun bt432 => ((r12_Within.f bt432.1 bt432.2.1 bt432.2.2.1 bt432.2.2.2.1 bt432.2.2.2.2 a1_0 a1_1 a1_2 a1_3 a1_4).bind fun t437 => (if t437 = true then (some (0,0)) else (some (19,(-1)))))) else (some (bt430.1,bt430.2)))) else (some (bt428.1,bt428.2)))) else (some (1,(-1))))
end Go.Proofs.YtcphcaiiofeflaaDoor.GO
