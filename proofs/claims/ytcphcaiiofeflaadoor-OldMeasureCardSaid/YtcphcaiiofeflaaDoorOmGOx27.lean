
import Derived.Test.YtcphcaiiofeflaaDoorOmGOx0
namespace Go.Proofs.YtcphcaiiofeflaaDoor.GO
open Go.RowKit Go.Proofs.YtcphcaiiofeflaaDoorW.PrintWords Go.Proofs.YtcphcaiiofeflaaDoorW.PrintLast Go.Proofs.YtcphcaiiofeflaaDoorW.PrintMore
attribute [local go_sem] max2_int min2_int max_two min_two max_three min_three max_four min_four
set_option linter.unusedVariables false
set_option linter.unusedSimpArgs false
mutual
def r08_Diff.j0:Nat→Bool→Int→List Int→List ByteArray→List Int→Int→List Int→List ByteArray→List Int→Option ((List (S120)) × Bool)
 | 0,_,_,_,_,_,_,_,_,_ => none
 | k+1,x31,x465000,x465001,x465002,x465003,x466000,x466001,x466002,x466003 => if x31 = true then (some (([]:List (S120)),false)) else (r08_Diff.l0 k (([]:List (S120))) 0 x465000 x465001 x465002 x465003 x466000 x466001 x466002 x466003)
def r08_Diff.l0:Nat→List (S120)→Int→Int→List Int→List ByteArray→List Int→Int→List Int→List ByteArray→List Int→Option ((List (S120)) × Bool)
 | 0,_,_,_,_,_,_,_,_,_,_ => none
 | k+1,x6,x7,x465000,x465001,x465002,x465003,x466000,x466001,x466002,x466003 => if x7 < (x465001.length:Int) then (if 0≤x7 then (if x7 < (x466001.length:Int) then (if (rd x465001 x7) = (rd x466001 x7) then (r08_Diff.l0 k x6 (wrap64 (x7+1)) x465000 x465001 x465002 x465003 x466000 x466001 x466002 x466003) else (if x6.length < 3518437208883 then (r08_Diff.l0 k (x6 ++ [(⟨false,x7,rd x466001 x7,(⟨#[]⟩:ByteArray)⟩:S120)]) (wrap64 (x7+1)) x465000 x465001 x465002 x465003 x466000 x466001 x466002 x466003) else (none))) else (none)) else (none)) else (r08_Diff.l1 k x6 0 x465000 x465001 x465002 x465003 x466000 x466001 x466002 x466003)
def r08_Diff.l1:Nat→List (S120)→Int→Int→List Int→List ByteArray→List Int→Int→List Int→List ByteArray→List Int→Option ((List (S120)) × Bool)
 | 0,_,_,_,_,_,_,_,_,_,_ => none
 | k+1,x6,x8,x465000,x465001,x465002,x465003,x466000,x466001,x466002,x466003 => if x8 < (x465002.length:Int) then (if 0≤x8 then (if x8 < (x466002.length:Int) then (if (rdOf ByteArray.empty x465002 x8).toList = (rdOf ByteArray.empty x466002 x8).toList then (r08_Diff.l1 k x6 (wrap64 (x8+1)) x465000 x465001 x465002 x465003 x466000 x466001 x466002 x466003) else (if x6.length < 3518437208883 then (r08_Diff.l1 k (x6 ++ [(⟨true,x8,0,rdOf ByteArray.empty x466002 x8⟩:S120)]) (wrap64 (x8+1)) x465000 x465001 x465002 x465003 x466000 x466001 x466002 x466003) else (none))) else (none)) else (none)) else (some (x6,true))
end
def r08_Diff.f (k:Nat) (a0_0:Int) (l0_1:List Int) (l0_2:List ByteArray) (l0_3:List Int) (a1_0:Int) (l1_1:List Int) (l1_2:List ByteArray) (l1_3:List Int):Option ((List (S120)) × Bool):=if a0_0 = a1_0 then (if (l0_1.length:Int) = (l1_1.length:Int) then (r08_Diff.j0 k ((l0_2.length:Int) != (l1_2.length:Int)) a0_0 l0_1 l0_2 l0_3 a1_0 l1_1 l1_2 l1_3) else (r08_Diff.j0 k true a0_0 l0_1 l0_2 l0_3 a1_0 l1_1 l1_2 l1_3)) else (r08_Diff.j0 k true a0_0 l0_1 l0_2 l0_3 a1_0 l1_1 l1_2 l1_3)
def r08_Own.f (k:Nat) (a0_0:Int) (l0_1:List Int) (l0_2:List ByteArray) (l0_3:List Int) (a1_0:Int) (l1_1:List Int) (l1_2:List ByteArray) (l1_3:List Int):Option (Bool):=(r08_Diff.f k a0_0 l0_1 l0_2 l0_3 a1_0 l1_1 l1_2 l1_3).bind fun bt483 => (if bt483.2 = true then (some ((bt483.1.length:Int) == 0)) else (some false))
end Go.Proofs.YtcphcaiiofeflaaDoor.GO
