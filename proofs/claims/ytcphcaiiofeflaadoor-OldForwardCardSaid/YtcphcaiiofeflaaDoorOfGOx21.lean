
import Derived.Test.YtcphcaiiofeflaaDoorOfGOx0
import Derived.Test.YtcphcaiiofeflaaDoorOfGOx18
import Derived.Test.YtcphcaiiofeflaaDoorOfGOx19
import Derived.Test.YtcphcaiiofeflaaDoorOfGOx20
namespace Go.Proofs.YtcphcaiiofeflaaDoor.GO
open Go.RowKit Go.Proofs.YtcphcaiiofeflaaDoorW.PrintWords Go.Proofs.YtcphcaiiofeflaaDoorW.PrintLast Go.Proofs.YtcphcaiiofeflaaDoorW.PrintMore
attribute [local go_sem] max2_int min2_int max_two min_two max_three min_three max_four min_four
set_option linter.unusedVariables false
set_option linter.unusedSimpArgs false
mutual
def r09_Check.l0:Nat→Int→List (S53)→Int→Option (Int × Int)
 | 0,_,_,_ => none
 | k+1,x5,x355000,x355001 => if x5 < (x355000.length:Int) then ((r09_Led.f k x355000 x355001 x5).bind fun t357 => (if 0≤x5 then (if x5 < (t357.length:Int) then (if rdOf false t357 x5 = true then (some (14,x5)) else (r09_Check.l0 k (wrap64 (x5+1)) x355000 x355001)) else (none)) else (none))) else ((r09_Led.f k x355000 x355001 x355001).bind fun t361 => (r09_Check.l1 k t361 0 x355000 x355001))
def r09_Check.l1:Nat→List Bool→Int→List (S53)→Int→Option (Int × Int)
 | 0,_,_,_,_ => none
 | k+1,x6,x7,x355000,x355001 => if x7 < (x355000.length:Int) then (if x7 = x355001 then (r09_Check.l1 k x6 (wrap64 (x7+1)) x355000 x355001) else (if 0≤x7 then (if x7 < (x6.length:Int) then (if rdOf false x6 x7 = true then (r09_Check.l1 k x6 (wrap64 (x7+1)) x355000 x355001) else (some (15,x7))) else (none)) else (none))) else (some (0,0))
end
def r09_Check.f (k:Nat) (l0_0:List (S53)) (a0_1:Int):Option (Int × Int):=(r09_Place.f l0_0 a0_1 a0_1).bind fun t355 => (if t355 = true then ((r09_Refs.f k l0_0 a0_1).bind fun t356 => (if t356 ≥ 0 then (some (13,t356)) else (r09_Check.l0 k 0 l0_0 a0_1))) else (some (13,(-1))))
def r09_Right.f (k:Nat) (l0_0:List (S53)) (a0_1:Int):Option (Bool):=(r09_Check.f k l0_0 a0_1).bind fun bt366 => (some (bt366.1 == 0))
def r06_Bytes.l0:Nat→List ByteArray→Int→Int→Option (Int)
 | 0,_,_,_ => none
 | k+1,x0,x3,x4 => if x4 < (x0.length:Int) then (if 0≤x4 then (r06_Bytes.l0 k x0 (wrap64 (x3+((rdOf ByteArray.empty x0 x4).size:Int))) (wrap64 (x4+1))) else (none)) else (some x3)
def r06_Bytes.f (k:Nat) (l0:List ByteArray):Option (Int):=r06_Bytes.l0 k l0 0 0
def r06_Find.l0:Nat→List ByteArray→ByteArray→Int→Option (Int)
 | 0,_,_,_ => none
 | k+1,x0,x1,x5 => if x5 < (x0.length:Int) then (if 0≤x5 then (if (rdOf ByteArray.empty x0 x5).toList = x1.toList then (some x5) else (r06_Find.l0 k x0 x1 (wrap64 (x5+1)))) else (none)) else (some (-1))
def r06_Find.f (k:Nat) (l0:List ByteArray) (a1:ByteArray):Option (Int):=r06_Find.l0 k l0 a1 0
def r06_Intern.f (k:Nat) (l0:List ByteArray) (a1:ByteArray):Option (List ByteArray × Int):=(r06_Find.f k l0 a1).bind fun t370 => (if t370 ≥ 0 then (some (l0,t370)) else ((some (([]:List ByteArray):List ByteArray)).bind fun y371 => (if y371.length+l0.length < 8796093022208 then ((some (y371 ++ l0:List ByteArray)).bind fun y374 => (if y374.length < 8796093022208 then (some ((y374 ++ [a1]),(l0.length:Int))) else (none))) else (none))))
end Go.Proofs.YtcphcaiiofeflaaDoor.GO
