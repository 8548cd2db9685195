
import Derived.Test.YtcphcaiiofeflaaDoorOmGOx0
import Derived.Test.YtcphcaiiofeflaaDoorOmGOx3
import Derived.Test.YtcphcaiiofeflaaDoorOmGOx30
namespace Go.Proofs.YtcphcaiiofeflaaDoor.GO
open Go.RowKit Go.Proofs.YtcphcaiiofeflaaDoorW.PrintWords Go.Proofs.YtcphcaiiofeflaaDoorW.PrintLast Go.Proofs.YtcphcaiiofeflaaDoorW.PrintMore
attribute [local go_sem] max2_int min2_int max_two min_two max_three min_three max_four min_four
set_option linter.unusedVariables false
set_option linter.unusedSimpArgs false
mutual
def r10_Canon.l0:Nat→List Int→Int→List (S53)→Int→List (S53)→Int→Option ((List (S53)) × Int)
 | 0,_,_,_,_,_,_ => none
 | k+1,x3,x5,x520000,x520001,x525000,x525001 => if x5 < (x3.length:Int) then (if 0≤x5 then (if 0≤(rd x3 x5) then (if (rd x3 x5) < (x520000.length:Int) then ((r08_Copy.f ((rd_T53 x520000 (rd x3 x5)).f0) ((rd_T53 x520000 (rd x3 x5)).f1) ((rd_T53 x520000 (rd x3 x5)).f2) ((rd_T53 x520000 (rd x3 x5)).f3)).bind fun bt527 => (r10_Canon.l1 k x3 x5 0 x520000 x520001 x525000 x525001 bt527.1 bt527.2.1 bt527.2.2.1 bt527.2.2.2)) else (none)) else (none)) else (none)) else (some (x525000,x525001))
def r10_Canon.l1:Nat→List Int→Int→Int→List (S53)→Int→List (S53)→Int→Int→List Int→List ByteArray→List Int→Option ((List (S53)) × Int)
 | 0,_,_,_,_,_,_,_,_,_,_,_ => none
 | k+1,x3,x5,x7,x520000,x520001,x525000,x525001,x538000,x538001,x538002,x538003 => if x7 < (x538003.length:Int) then (if 0≤x7 then ((r10_Find.f k x3 (rd x538003 x7)).bind fun t539 => (r10_Canon.l1 k x3 x5 (wrap64 (x7+1)) x520000 x520001 x525000 x525001 x538000 x538001 x538002 (x538003.set (x7:Int).toNat t539))) else (none)) else (if x525000.length < 1759218604441 then (r10_Canon.l0 k x3 (wrap64 (x5+1)) x520000 x520001 (x525000 ++ [(⟨x538000,x538001,x538002,x538003⟩:S53)]) x525001) else (none))
end
def r10_Canon.f (k:Nat) (l0_0:List (S53)) (a0_1:Int):Option ((List (S53)) × Int):=(r10_Order.f k l0_0 a0_1).bind fun t521 => (r10_Canon.l0 k t521 0 l0_0 a0_1 ([]:List (S53)) (wrap64 ((t521.length:Int) - 1)))
end Go.Proofs.YtcphcaiiofeflaaDoor.GO
