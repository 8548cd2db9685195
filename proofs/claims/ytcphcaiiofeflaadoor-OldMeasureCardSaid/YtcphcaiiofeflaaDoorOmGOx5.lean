
import Derived.Test.YtcphcaiiofeflaaDoorOmGOx0
namespace Go.Proofs.YtcphcaiiofeflaaDoor.GO
open Go.RowKit Go.Proofs.YtcphcaiiofeflaaDoorW.PrintWords Go.Proofs.YtcphcaiiofeflaaDoorW.PrintLast Go.Proofs.YtcphcaiiofeflaaDoorW.PrintMore
attribute [local go_sem] max2_int min2_int max_two min_two max_three min_three max_four min_four
set_option linter.unusedVariables false
set_option linter.unusedSimpArgs false
def r05_Char.j0:Nat→Int→Bool→Option (ByteArray)
 | 0,_,_ => none
 | k+1,x0,x17 => if x17 = true then (some (⟨#[]⟩:ByteArray)) else (if (wrap64 (x0)) < 128 then (some (strOfNums (([(wrap64 (x0)) % 256]:List Int)))) else (if (wrap64 (x0)) < 2048 then (some (strOfNums (([(wrap64 (192+(wrap64 (Int.tdiv (wrap64 (x0)) 64)))) % 256,(wrap64 (128+(Int.tmod (wrap64 (x0)) 64))) % 256]:List Int)))) else (if (wrap64 (x0)) < 65536 then (some (strOfNums (([(wrap64 (224+(wrap64 (Int.tdiv (wrap64 (x0)) 4096)))) % 256,(wrap64 (128+(Int.tmod (wrap64 (Int.tdiv (wrap64 (x0)) 64)) 64))) % 256,(wrap64 (128+(Int.tmod (wrap64 (x0)) 64))) % 256]:List Int)))) else (some (strOfNums (([(wrap64 (240+(wrap64 (Int.tdiv (wrap64 (x0)) 262144)))) % 256,(wrap64 (128+(Int.tmod (wrap64 (Int.tdiv (wrap64 (x0)) 4096)) 64))) % 256,(wrap64 (128+(Int.tmod (wrap64 (Int.tdiv (wrap64 (x0)) 64)) 64))) % 256,(wrap64 (128+(Int.tmod (wrap64 (x0)) 64))) % 256]:List Int)))))))
def r05_Char.f (k:Nat) (a0:Int):Option (ByteArray):=if a0 < 0 then (r05_Char.j0 k a0 true) else (if a0 > 1114111 then (r05_Char.j0 k a0 true) else (if a0 ≥ 55296 then (r05_Char.j0 k a0 (decide (a0≤57343))) else (r05_Char.j0 k a0 false)))
end Go.Proofs.YtcphcaiiofeflaaDoor.GO
