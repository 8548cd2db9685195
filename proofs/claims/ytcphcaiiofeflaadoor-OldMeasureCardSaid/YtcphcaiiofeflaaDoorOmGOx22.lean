
import Derived.Test.YtcphcaiiofeflaaDoorOmGOx0
import Derived.Test.YtcphcaiiofeflaaDoorOmGOx21
namespace Go.Proofs.YtcphcaiiofeflaaDoor.GO
open Go.RowKit Go.Proofs.YtcphcaiiofeflaaDoorW.PrintWords Go.Proofs.YtcphcaiiofeflaaDoorW.PrintLast Go.Proofs.YtcphcaiiofeflaaDoorW.PrintMore
attribute [local go_sem] max2_int min2_int max_two min_two max_three min_three max_four min_four
set_option linter.unusedVariables false
set_option linter.unusedSimpArgs false
mutual
def r12_Texts.l0:Nat→List ByteArray→Int→List (S53)→Int→Option (List ByteArray)
 | 0,_,_,_,_ => none
 | k+1,x3,x4,x381000,x381001 => if x4 < (x381000.length:Int) then (r12_Texts.l1 k x3 x4 0 x381000 x381001) else (some x3)
def r12_Texts.l1:Nat→List ByteArray→Int→Int→List (S53)→Int→Option (List ByteArray)
 | 0,_,_,_,_,_ => none
 | k+1,x3,x4,x5,x381000,x381001 => if 0≤x4 then (if x4 < (x381000.length:Int) then (if x5 < (((rd_T53 x381000 x4).f2).length:Int) then (if 0≤x5 then ((r06_Intern.f k x3 (rdOf ByteArray.empty ((rd_T53 x381000 x4).f2) x5)).bind fun bt387 => (r12_Texts.l1 k bt387.1 x4 (wrap64 (x5+1)) x381000 x381001)) else (none)) else (r12_Texts.l0 k x3 (wrap64 (x4+1)) x381000 x381001)) else (none)) else (none)
end
def r12_Texts.f (k:Nat) (l0_0:List (S53)) (a0_1:Int):Option (List ByteArray):=r12_Texts.l0 k (([]:List ByteArray)) 0 l0_0 a0_1
mutual
def r09_Depths.l0:Nat→List Int→Int→List (S53)→Int→Option (List Int)
 | 0,_,_,_,_ => none
 | k+1,x3,x4,x392000,x392001 => if x4≤(x392000.length:Int) then (r09_Depths.l1 k x3 x4 0 x392000 x392001) else (some x3)
def r09_Depths.l1:Nat→List Int→Int→Int→List (S53)→Int→Option (List Int)
 | 0,_,_,_,_,_ => none
 | k+1,x3,x4,x5,x392000,x392001 => if x5 < (x392000.length:Int) then (r09_Depths.l2 k x3 x4 x5 0 0 x392000 x392001) else (r09_Depths.l0 k x3 (wrap64 (x4+1)) x392000 x392001)
def r09_Depths.l2:Nat→List Int→Int→Int→Int→Int→List (S53)→Int→Option (List Int)
 | 0,_,_,_,_,_,_,_ => none
 | k+1,x3,x4,x5,x6,x7,x392000,x392001 => if 0≤x5 then (if x5 < (x392000.length:Int) then (if x7 < (((rd_T53 x392000 x5).f3).length:Int) then (if 0≤x7 then (if 0≤(rd ((rd_T53 x392000 x5).f3) x7) then (if (rd ((rd_T53 x392000 x5).f3) x7) < (x3.length:Int) then (if (rd x3 (rd ((rd_T53 x392000 x5).f3) x7)) > x6 then (r09_Depths.l2 k x3 x4 x5 (rd x3 (rd ((rd_T53 x392000 x5).f3) x7)) (wrap64 (x7+1)) x392000 x392001) else (r09_Depths.l2 k x3 x4 x5 x6 (wrap64 (x7+1)) x392000 x392001)) else (none)) else (none)) else (none)) else (if x5 < (x3.length:Int) then (if (wrap64 (x6+1)) > (rd x3 x5) then (r09_Depths.l1 k (x3.set (x5:Int).toNat (wrap64 (x6+1))) x4 (wrap64 (x5+1)) x392000 x392001) else (r09_Depths.l1 k x3 x4 (wrap64 (x5+1)) x392000 x392001)) else (none))) else (none)) else (none)
end
def r09_Depths.f (k:Nat) (l0_0:List (S53)) (a0_1:Int):Option (List Int):=if 0≤(l0_0.length:Int) then (if ((l0_0.length:Int):Int).toNat≤35184372088832 then (r09_Depths.l0 k (List.replicate ((l0_0.length:Int):Int).toNat 0) 0 l0_0 a0_1) else (none)) else (none)
end Go.Proofs.YtcphcaiiofeflaaDoor.GO
