
import Derived.Test.YtcphcaiiofeflaaDoorOmGOx0
import Derived.Test.YtcphcaiiofeflaaDoorOmGOx5
namespace Go.Proofs.YtcphcaiiofeflaaDoor.GO
open Go.RowKit Go.Proofs.YtcphcaiiofeflaaDoorW.PrintWords Go.Proofs.YtcphcaiiofeflaaDoorW.PrintLast Go.Proofs.YtcphcaiiofeflaaDoorW.PrintMore
attribute [local go_sem] max2_int min2_int max_two min_two max_three min_three max_four min_four
set_option linter.unusedVariables false
set_option linter.unusedSimpArgs false
mutual
def r05_At.l0:Nat→ByteArray→Int→Int→Option (Int × Int)
 | 0,_,_,_ => none
 | k+1,x0,x1,x6 => if x6≤4 then (r05_At.j1 k x0 x1 x6 (decide ((wrap64 (x1+x6))≤(x0.size:Int)))) else (r05_At.j1 k x0 x1 x6 false)
def r05_At.j1:Nat→ByteArray→Int→Int→Bool→Option (Int × Int)
 | 0,_,_,_,_ => none
 | k+1,x0,x1,x6,x18 => if x18 = true then (if 0≤x1 then (if x1 < (x0.size:Int) then (if x6 = 2 then (r05_At.j2 k x0 x1 x6 (wrap64 ((wrap64 (bt x0 x1)) - 192))) else (r05_At.j2 k x0 x1 x6 (wrap64 (bt x0 x1)))) else (none)) else (none)) else (some (0,0))
def r05_At.j2:Nat→ByteArray→Int→Int→Int→Option (Int × Int)
 | 0,_,_,_,_ => none
 | k+1,x0,x1,x6,x7 => if x6 = 3 then (r05_At.j3 k x0 x1 x6 (wrap64 (x7 - 224))) else (r05_At.j3 k x0 x1 x6 x7)
def r05_At.j3:Nat→ByteArray→Int→Int→Int→Option (Int × Int)
 | 0,_,_,_,_ => none
 | k+1,x0,x1,x6,x7 => if x6 = 4 then (r05_At.j4 k x0 x1 x6 (wrap64 (x7 - 240))) else (r05_At.j4 k x0 x1 x6 x7)
def r05_At.j4:Nat→ByteArray→Int→Int→Int→Option (Int × Int)
 | 0,_,_,_,_ => none
 | k+1,x0,x1,x6,x7 => r05_At.l1 k x0 x1 x6 x7 1
def r05_At.l1:Nat→ByteArray→Int→Int→Int→Int→Option (Int × Int)
 | 0,_,_,_,_,_ => none
 | k+1,x0,x1,x6,x7,x8 => if x8 < x6 then (if 0≤(wrap64 (x1+x8)) then (if (wrap64 (x1+x8)) < (x0.size:Int) then (r05_At.l1 k x0 x1 x6 (wrap64 ((wrap64 ((wrap64 (64 * x7))+(wrap64 (bt x0 (wrap64 (x1+x8)))))) - 128)) (wrap64 (x8+1))) else (none)) else (none)) else (if x7 ≥ 0 then (if x7≤1114111 then ((r05_Char.f k (wrap32 (x7))).bind fun t167 => (if 0≤x1 then (if x1≤(wrap64 (x1+x6)) then (if (wrap64 (x1+x6))≤(x0.size:Int) then (if t167.toList = (x0.extract (x1:Int).toNat ((wrap64 (x1+x6)):Int).toNat).toList then (some (wrap32 (x7),x6)) else (r05_At.l0 k x0 x1 (wrap64 (x6+1)))) else (none)) else (none)) else (none))) else (r05_At.l0 k x0 x1 (wrap64 (x6+1)))) else (r05_At.l0 k x0 x1 (wrap64 (x6+1))))
end
def r05_At.f (k:Nat) (a0:ByteArray) (a1:Int):Option (Int × Int):=r05_At.l0 k a0 a1 1
end Go.Proofs.YtcphcaiiofeflaaDoor.GO
