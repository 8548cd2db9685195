
import Derived.Test.YtcphcaiiofeflaaDoorOmGOx0
import Derived.Test.YtcphcaiiofeflaaDoorOmGOx3
import Derived.Test.YtcphcaiiofeflaaDoorOmGOx31
namespace Go.Proofs.YtcphcaiiofeflaaDoor.GO
open Go.RowKit Go.Proofs.YtcphcaiiofeflaaDoorW.PrintWords Go.Proofs.YtcphcaiiofeflaaDoorW.PrintLast Go.Proofs.YtcphcaiiofeflaaDoorW.PrintMore
attribute [local go_sem] max2_int min2_int max_two min_two max_three min_three max_four min_four
set_option linter.unusedVariables false
set_option linter.unusedSimpArgs false
mutual
def r09_Turn.l0:Nat→Int→Int→List (S53)→Int→List (S53)→Int→Option ((List (S53)) × Int)
 | 0,_,_,_,_,_,_ => none
 | k+1,x3,x5,x545000,x545001,x547000,x547001 => if x5 ≥ 0 then (if 0≤x5 then (if x5 < (x545000.length:Int) then ((r08_Copy.f ((rd_T53 x545000 x5).f0) ((rd_T53 x545000 x5).f1) ((rd_T53 x545000 x5).f2) ((rd_T53 x545000 x5).f3)).bind fun bt548 => (r09_Turn.l1 k x3 x5 0 x545000 x545001 x547000 x547001 bt548.1 bt548.2.1 bt548.2.2.1 bt548.2.2.2)) else (none)) else (none)) else (some (x547000,x547001))
def r09_Turn.l1:Nat→Int→Int→Int→List (S53)→Int→List (S53)→Int→Int→List Int→List ByteArray→List Int→Option ((List (S53)) × Int)
 | 0,_,_,_,_,_,_,_,_,_,_,_ => none
 | k+1,x3,x5,x7,x545000,x545001,x547000,x547001,x559000,x559001,x559002,x559003 => if x7 < (x559003.length:Int) then (if 0≤x7 then (r09_Turn.l1 k x3 x5 (wrap64 (x7+1)) x545000 x545001 x547000 x547001 x559000 x559001 x559002 (x559003.set (x7:Int).toNat (wrap64 ((wrap64 (x3 - 1)) - (rd x559003 x7))))) else (none)) else (if x547000.length < 1759218604441 then (r09_Turn.l0 k x3 (wrap64 (x5 - 1)) x545000 x545001 (x547000 ++ [(⟨x559000,x559001,x559002,x559003⟩:S53)]) x547001) else (none))
end
def r09_Turn.f (k:Nat) (l0_0:List (S53)) (a0_1:Int):Option ((List (S53)) × Int):=r09_Turn.l0 k (l0_0.length:Int) (wrap64 ((l0_0.length:Int) - 1)) l0_0 a0_1 ([]:List (S53)) (wrap64 ((wrap64 ((l0_0.length:Int) - 1)) - a0_1))
def r16_Flat.f (k:Nat) (l0_0:List (S53)) (a0_1:Int):Option ((List (S53)) × Int):=(r10_Canon.f k l0_0 a0_1).bind fun bt566 => ((r09_Turn.f k bt566.1 bt566.2).bind fun bt570 => (some (bt570.1,bt570.2)))
end Go.Proofs.YtcphcaiiofeflaaDoor.GO
