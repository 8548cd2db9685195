-- Printed by a program of the session (wip/gen/tprint.py, over a turned copy of the kit's print): Lean checks it.
import Derived.Test.YtcphcaiiofeflaaDoorLgGLx0
import Derived.Test.YtcphcaiiofeflaaDoorLgGLx11
import Derived.Test.YtcphcaiiofeflaaDoorLgGLx12
import Derived.Test.YtcphcaiiofeflaaDoorLgGLx13
namespace Go.Proofs.YtcphcaiiofeflaaDoor.GL
open Go.RowKit Go.Proofs.YtcphcaiiofeflaaDoorW.PrintWords Go.Proofs.YtcphcaiiofeflaaDoorW.PrintLast Go.Proofs.YtcphcaiiofeflaaDoorW.PrintMore
attribute [local go_sem] max2_int min2_int max_two min_two max_three min_three max_four min_four   -- for this text's walks alone
set_option linter.unusedVariables false
set_option linter.unusedSimpArgs false

/-! ### dioramaref09_Check: function 35 -/
mutual
def dioramaref09_Check.l0 : Nat → Int → List (S53) → Int → Option (Int × Int)
 | 0, _, _, _ => none
 | k + 1, x5, x285000, x285001 => if x5 < (x285000.length : Int) then ((dioramaref09_Led.f k x285000 x285001 x5).bind fun t287 => (if 0 ≤ x5 then (if x5 < (t287.length : Int) then (if rdOf false t287 x5 = true then (some (14, x5)) else (dioramaref09_Check.l0 k (wrap64 (x5 + 1)) x285000 x285001)) else (none)) else (none))) else ((dioramaref09_Led.f k x285000 x285001 x285001).bind fun t291 => (dioramaref09_Check.l1 k t291 0 x285000 x285001))
def dioramaref09_Check.l1 : Nat → List Bool → Int → List (S53) → Int → Option (Int × Int)
 | 0, _, _, _, _ => none
 | k + 1, x6, x7, x285000, x285001 => if x7 < (x285000.length : Int) then (if x7 = x285001 then (dioramaref09_Check.l1 k x6 (wrap64 (x7 + 1)) x285000 x285001) else (if 0 ≤ x7 then (if x7 < (x6.length : Int) then (if rdOf false x6 x7 = true then (dioramaref09_Check.l1 k x6 (wrap64 (x7 + 1)) x285000 x285001) else (some (15, x7))) else (none)) else (none))) else (some (0, 0))
end
def dioramaref09_Check.f (k : Nat) (l0_0 : List (S53)) (a0_1 : Int) : Option (Int × Int) := (dioramaref09_Place.f l0_0 a0_1 a0_1).bind fun t285 => (if t285 = true then ((dioramaref09_Refs.f k l0_0 a0_1).bind fun t286 => (if t286 ≥ 0 then (some (13, t286)) else (dioramaref09_Check.l0 k 0 l0_0 a0_1))) else (some (13, (-1))))

/-! ### dioramaref09_Right: function 26 -/
def dioramaref09_Right.f (k : Nat) (l0_0 : List (S53)) (a0_1 : Int) : Option (Bool) := (dioramaref09_Check.f k l0_0 a0_1).bind fun bt296 => (some (bt296.1 == 0))

/-! ### dioramaref06_Bytes: function 49 -/
def dioramaref06_Bytes.l0 : Nat → List ByteArray → Int → Int → Option (Int)
 | 0, _, _, _ => none
 | k + 1, x0, x3, x4 => if x4 < (x0.length : Int) then (if 0 ≤ x4 then (dioramaref06_Bytes.l0 k x0 (wrap64 (x3 + ((rdOf ByteArray.empty x0 x4).size : Int))) (wrap64 (x4 + 1))) else (none)) else (some x3)
def dioramaref06_Bytes.f (k : Nat) (l0 : List ByteArray) : Option (Int) := dioramaref06_Bytes.l0 k l0 0 0

/-! ### dioramaref06_Find: function 93 -/
def dioramaref06_Find.l0 : Nat → List ByteArray → ByteArray → Int → Option (Int)
 | 0, _, _, _ => none
 | k + 1, x0, x1, x5 => if x5 < (x0.length : Int) then (if 0 ≤ x5 then (if (rdOf ByteArray.empty x0 x5).toList = x1.toList then (some x5) else (dioramaref06_Find.l0 k x0 x1 (wrap64 (x5 + 1)))) else (none)) else (some (-1))
def dioramaref06_Find.f (k : Nat) (l0 : List ByteArray) (a1 : ByteArray) : Option (Int) := dioramaref06_Find.l0 k l0 a1 0

/-! ### dioramaref06_Intern: function 78 -/
def dioramaref06_Intern.f (k : Nat) (l0 : List ByteArray) (a1 : ByteArray) : Option (List ByteArray × Int) := (dioramaref06_Find.f k l0 a1).bind fun t300 => (if t300 ≥ 0 then (some (l0, t300)) else ((some (([] : List ByteArray) : List ByteArray)).bind fun y301 => (if y301.length + l0.length < 8796093022208 then ((some (y301 ++ l0 : List ByteArray)).bind fun y304 => (if y304.length < 8796093022208 then (some ((y304 ++ [a1]), (l0.length : Int))) else (none))) else (none))))

end Go.Proofs.YtcphcaiiofeflaaDoor.GL
