-- Printed by a program of the session (wip/gen/tprint.py, over a turned copy of the kit's print): Lean checks it.
import Derived.Test.YtcphcaiiofeflaaDoorLcGLx0
import Derived.Test.YtcphcaiiofeflaaDoorLcGLx23
import Derived.Test.YtcphcaiiofeflaaDoorLcGLx25
namespace Go.Proofs.YtcphcaiiofeflaaDoor.GL
open Go.RowKit Go.Proofs.YtcphcaiiofeflaaDoorW.PrintWords Go.Proofs.YtcphcaiiofeflaaDoorW.PrintLast Go.Proofs.YtcphcaiiofeflaaDoorW.PrintMore
attribute [local go_sem] max2_int min2_int max_two min_two max_three min_three max_four min_four   -- for this text's walks alone
set_option linter.unusedVariables false
set_option linter.unusedSimpArgs false

/-! ### dioramaref05_Read: function 92 -/
def dioramaref05_Read.l0 : Nat → ByteArray → List Int → Int → Option (List Int × Int)
 | 0, _, _, _ => none
 | k + 1, x0, x4, x5 => if x5 < (x0.size : Int) then ((dioramaref05_At.f k x0 x5).bind fun bt491 => (if bt491.2 = 0 then (some (x4, x5)) else (if x4.length < 35184372088832 then (dioramaref05_Read.l0 k x0 (x4 ++ [bt491.1]) (wrap64 (x5 + bt491.2))) else (none)))) else (some (x4, x5))
def dioramaref05_Read.f (k : Nat) (a0 : ByteArray) : Option (List Int × Int) := dioramaref05_Read.l0 k a0 (([] : List Int)) 0

/-! ### dioramaref05_Right: function 77 -/
def dioramaref05_Right.f (k : Nat) (a0 : ByteArray) : Option (Bool) := (dioramaref05_Read.f k a0).bind fun bt496 => (some (bt496.2 == (a0.size : Int)))

/-! ### dioramaref08_Check: function 47 -/
mutual
def dioramaref08_Check.l0 : Nat → Int → Int → List Int → List ByteArray → List Int → List Int → Int → Int → Int → Option (Int)
 | 0, _, _, _, _, _, _, _, _, _ => none
 | k + 1, x5, x501000, x501001, x501002, x501003, x502000, x502001, x502002, x502003 => if x5 < (x501001.length : Int) then (if 0 ≤ x5 then (if x5 < (x502000.length : Int) then ((dioramaref07_In.f (rd x502000 x5) (rd x501001 x5)).bind fun t504 => (if t504 = true then (dioramaref08_Check.l0 k (wrap64 (x5 + 1)) x501000 x501001 x501002 x501003 x502000 x502001 x502002 x502003) else (some 10))) else (none)) else (none)) else (if (x501002.length : Int) = x502001 then (dioramaref08_Check.l1 k 0 x501000 x501001 x501002 x501003 x502000 x502001 x502002 x502003) else (some 11))
def dioramaref08_Check.l1 : Nat → Int → Int → List Int → List ByteArray → List Int → List Int → Int → Int → Int → Option (Int)
 | 0, _, _, _, _, _, _, _, _, _ => none
 | k + 1, x6, x501000, x501001, x501002, x501003, x502000, x502001, x502002, x502003 => if x6 < (x501002.length : Int) then (if 0 ≤ x6 then ((dioramaref05_Right.f k (rdOf ByteArray.empty x501002 x6)).bind fun t506 => (if t506 = true then (dioramaref08_Check.l1 k (wrap64 (x6 + 1)) x501000 x501001 x501002 x501003 x502000 x502001 x502002 x502003) else (some 11))) else (none)) else (if (x501003.length : Int) < x502002 then (some 12) else (if x502003 ≥ 0 then (if (x501003.length : Int) > x502003 then (some 12) else (some 0)) else (some 0)))
end
def dioramaref08_Check.f (k : Nat) (a0_0 : Int) (l0_1 : List Int) (l0_2 : List ByteArray) (l0_3 : List Int) (l1_0 : List Int) (a1_1 : Int) (a1_2 : Int) (a1_3 : Int) : Option (Int) := if (l0_1.length : Int) = (l1_0.length : Int) then (dioramaref08_Check.l0 k 0 a0_0 l0_1 l0_2 l0_3 l1_0 a1_1 a1_2 a1_3) else (some 10)

end Go.Proofs.YtcphcaiiofeflaaDoor.GL
