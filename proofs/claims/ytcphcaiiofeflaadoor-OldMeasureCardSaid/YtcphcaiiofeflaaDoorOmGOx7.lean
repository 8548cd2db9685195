
import Derived.Test.YtcphcaiiofeflaaDoorOmGOx0
import Derived.Test.YtcphcaiiofeflaaDoorOmGOx4
import Derived.Test.YtcphcaiiofeflaaDoorOmGOx6
namespace Go.Proofs.YtcphcaiiofeflaaDoor.GO
open Go.RowKit Go.Proofs.YtcphcaiiofeflaaDoorW.PrintWords Go.Proofs.YtcphcaiiofeflaaDoorW.PrintLast Go.Proofs.YtcphcaiiofeflaaDoorW.PrintMore
attribute [local go_sem] max2_int min2_int max_two min_two max_three min_three max_four min_four
set_option linter.unusedVariables false
set_option linter.unusedSimpArgs false
def r05_Read.l0:Nat→ByteArray→List Int→Int→Option (List Int × Int)
 | 0,_,_,_ => none
 | k+1,x0,x4,x5 => if x5 < (x0.size:Int) then ((r05_At.f k x0 x5).bind fun bt171 => (if bt171.2 = 0 then (some (x4,x5)) else (if x4.length < 35184372088832 then (r05_Read.l0 k x0 (x4 ++ [bt171.1]) (wrap64 (x5+bt171.2))) else (none)))) else (some (x4,x5))
def r05_Read.f (k:Nat) (a0:ByteArray):Option (List Int × Int):=r05_Read.l0 k a0 (([]:List Int)) 0
def r05_Right.f (k:Nat) (a0:ByteArray):Option (Bool):=(r05_Read.f k a0).bind fun bt176 => (some (bt176.2 == (a0.size:Int)))
mutual
def r08_Check.l0:Nat→Int→Int→List Int→List ByteArray→List Int→List Int→Int→Int→Int→Option (Int)
 | 0,_,_,_,_,_,_,_,_,_ => none
 | k+1,x5,x181000,x181001,x181002,x181003,x182000,x182001,x182002,x182003 => if x5 < (x181001.length:Int) then (if 0≤x5 then (if x5 < (x182000.length:Int) then ((r07_In.f (rd x182000 x5) (rd x181001 x5)).bind fun t184 => (if t184 = true then (r08_Check.l0 k (wrap64 (x5+1)) x181000 x181001 x181002 x181003 x182000 x182001 x182002 x182003) else (some 10))) else (none)) else (none)) else (if (x181002.length:Int) = x182001 then (r08_Check.l1 k 0 x181000 x181001 x181002 x181003 x182000 x182001 x182002 x182003) else (some 11))
def r08_Check.l1:Nat→Int→Int→List Int→List ByteArray→List Int→List Int→Int→Int→Int→Option (Int)
 | 0,_,_,_,_,_,_,_,_,_ => none
 | k+1,x6,x181000,x181001,x181002,x181003,x182000,x182001,x182002,x182003 => if x6 < (x181002.length:Int) then (if 0≤x6 then ((r05_Right.f k (rdOf ByteArray.empty x181002 x6)).bind fun t186 => (if t186 = true then (r08_Check.l1 k (wrap64 (x6+1)) x181000 x181001 x181002 x181003 x182000 x182001 x182002 x182003) else (some 11))) else (none)) else (if (x181003.length:Int) < x182002 then (some 12) else (if x182003 ≥ 0 then (if (x181003.length:Int) > x182003 then (some 12) else (some 0)) else (some 0)))
end
def r08_Check.f (k:Nat) (a0_0:Int) (l0_1:List Int) (l0_2:List ByteArray) (l0_3:List Int) (l1_0:List Int) (a1_1:Int) (a1_2:Int) (a1_3:Int):Option (Int):=if (l0_1.length:Int) = (l1_0.length:Int) then (r08_Check.l0 k 0 a0_0 l0_1 l0_2 l0_3 l1_0 a1_1 a1_2 a1_3) else (some 10)
end Go.Proofs.YtcphcaiiofeflaaDoor.GO
