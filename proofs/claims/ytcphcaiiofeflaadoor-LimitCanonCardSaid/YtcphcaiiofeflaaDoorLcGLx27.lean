-- Printed by a program of the session (wip/gen/tprint.py, over a turned copy of the kit's print): Lean checks it.
import Derived.Test.YtcphcaiiofeflaaDoorLcGLx0
import Derived.Test.YtcphcaiiofeflaaDoorLcGLx14
import Derived.Test.YtcphcaiiofeflaaDoorLcGLx16
import Derived.Test.YtcphcaiiofeflaaDoorLcGLx17
import Derived.Test.YtcphcaiiofeflaaDoorLcGLx23
import Derived.Test.YtcphcaiiofeflaaDoorLcGLx26
namespace Go.Proofs.YtcphcaiiofeflaaDoor.GL
open Go.RowKit Go.Proofs.YtcphcaiiofeflaaDoorW.PrintWords Go.Proofs.YtcphcaiiofeflaaDoorW.PrintLast Go.Proofs.YtcphcaiiofeflaaDoorW.PrintMore
attribute [local go_sem] max2_int min2_int max_two min_two max_three min_three max_four min_four   -- for this text's walks alone
set_option linter.unusedVariables false
set_option linter.unusedSimpArgs false

/-! ### dioramaref12_Typed: function 19 -/
def dioramaref12_Typed.l0 : Nat → Int → Int → List (S53) → Int → Option (Int × Int)
 | 0, _, _, _, _ => none
 | k + 1, x1, x6, x508000, x508001 => if x6 < (x508000.length : Int) then (if 0 ≤ x6 then ((dioramaref07_Spec.f k x1 ((rd_T53 x508000 x6).f0)).bind fun bt509 => (if bt509.2.2.2.2 = true then ((dioramaref08_Check.f k ((rd_T53 x508000 x6).f0) ((rd_T53 x508000 x6).f1) ((rd_T53 x508000 x6).f2) ((rd_T53 x508000 x6).f3) bt509.1 bt509.2.1 bt509.2.2.1 bt509.2.2.2.1).bind fun t518 => (if t518 = 0 then (dioramaref12_Typed.l0 k x1 (wrap64 (x6 + 1)) x508000 x508001) else (some (t518, x6)))) else (some (9, x6)))) else (none)) else (some (0, 0))
def dioramaref12_Typed.f (k : Nat) (l0_0 : List (S53)) (a0_1 : Int) (a1 : Int) : Option (Int × Int) := dioramaref12_Typed.l0 k a1 0 l0_0 a0_1

/-! ### dioramaref12_Valid: function 17 -/
def dioramaref12_Valid.f (k : Nat) (l0_0 : List (S53)) (a0_1 : Int) (a1_0 : Int) (a1_1 : Int) (a1_2 : Int) (a1_3 : Int) (a1_4 : Int) : Option (Int × Int) := (dioramaref12_Right.f k a1_0 a1_1 a1_2 a1_3 a1_4).bind fun t521 => (if t521 = true then ((dioramaref12_Typed.f k l0_0 a0_1 2).bind fun bt522 => (if bt522.1 = 0 then ((dioramaref09_Check.f k l0_0 a0_1).bind fun bt524 => (if bt524.1 = 0 then ((dioramaref12_Measure.f k l0_0 a0_1).bind fun bt526 => ((dioramaref12_Within.f bt526.1 bt526.2.1 bt526.2.2.1 bt526.2.2.2.1 bt526.2.2.2.2 a1_0 a1_1 a1_2 a1_3 a1_4).bind fun t531 => (if t531 = true then (some (0, 0)) else (some (19, (-1)))))) else (some (bt524.1, bt524.2)))) else (some (bt522.1, bt522.2)))) else (some (1, (-1))))

end Go.Proofs.YtcphcaiiofeflaaDoor.GL
