
import Derived.Test.YtcphcaiiofeflaaDoorOmGOx0
namespace Go.Proofs.YtcphcaiiofeflaaDoor.GO
open Go.RowKit Go.Proofs.YtcphcaiiofeflaaDoorW.PrintWords Go.Proofs.YtcphcaiiofeflaaDoorW.PrintLast Go.Proofs.YtcphcaiiofeflaaDoorW.PrintMore
attribute [local go_sem] max2_int min2_int max_two min_two max_three min_three max_four min_four
set_option linter.unusedVariables false
set_option linter.unusedSimpArgs false
section
open Go.Lib
def r08_Copy.f (a0_0:Int) (l0_1:List Int) (l0_2:List ByteArray) (l0_3:List Int):Option (Int × List Int × List ByteArray × List Int) :=
 if l0_1.length < 17592186044416∧l0_2.length < 8796093022208∧l0_3.length < 17592186044416 then some (a0_0,l0_1,l0_2,l0_3) else none
def r08_Copy.T1:Bool × List (List Nat × List Nat):=(true,[([],[]),([0],[0]),([],[]),([],[]),([3],[3]),([2,4],[2,4]),([],[]),([],[]),([7],[7]),([6,8,5],[6,8]),([],[]),([],[]),([11],[11]),([10,12,9],[10,12]),([1,5,9,13],[1,5,9,13]),([14,13,0,1,2,3,4,5,6,7,8,9,10,11,12,13,14],[14])])
theorem r08_Copy.tab1:rtab .any (opsOf Tryd.f43 1) = r08_Copy.T1:=by kernel_rfl
def r08_Copy.L (p q r:Nat):Array Bool:=#[true,true,decide (1≤p),true,true,decide (2≤p),decide (1≤q),true,true,decide (2≤q),decide (1≤r),true,true,decide (2≤r),false,false]
end
def r09_Copy.l0:Nat→Int→List (S53)→Int→List (S53)→Int→Option ((List (S53)) × Int)
 | 0,_,_,_,_,_ => none
 | k+1,x4,x110000,x110001,x112000,x112001 => if x4 < (x110000.length:Int) then (if 0≤x4 then ((r08_Copy.f ((rd_T53 x110000 x4).f0) ((rd_T53 x110000 x4).f1) ((rd_T53 x110000 x4).f2) ((rd_T53 x110000 x4).f3)).bind fun bt113 => (if x112000.length < 1759218604441 then (r09_Copy.l0 k (wrap64 (x4+1)) x110000 x110001 (x112000 ++ [(⟨bt113.1,bt113.2.1,bt113.2.2.1,bt113.2.2.2⟩:S53)]) x112001) else (none))) else (none)) else (some (x112000,x112001))
def r09_Copy.f (k:Nat) (l0_0:List (S53)) (a0_1:Int):Option ((List (S53)) × Int):=r09_Copy.l0 k 0 l0_0 a0_1 ([]:List (S53)) a0_1
end Go.Proofs.YtcphcaiiofeflaaDoor.GO
