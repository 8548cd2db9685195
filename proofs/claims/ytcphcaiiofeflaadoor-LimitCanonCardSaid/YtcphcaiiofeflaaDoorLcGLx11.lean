-- Printed by a program of the session (wip/gen/tprint.py, over a turned copy of the kit's print): Lean checks it.
import Derived.Test.YtcphcaiiofeflaaDoorLcGLx0
namespace Go.Proofs.YtcphcaiiofeflaaDoor.GL
open Go.RowKit Go.Proofs.YtcphcaiiofeflaaDoorW.PrintWords Go.Proofs.YtcphcaiiofeflaaDoorW.PrintLast Go.Proofs.YtcphcaiiofeflaaDoorW.PrintMore
attribute [local go_sem] max2_int min2_int max_two min_two max_three min_three max_four min_four   -- for this text's walks alone
set_option linter.unusedVariables false
set_option linter.unusedSimpArgs false

/-! ### dioramaref08_Copy: function 43 -/
section
open Go.Lib
def dioramaref08_Copy.f (a0_0 : Int) (l0_1 : List Int) (l0_2 : List ByteArray) (l0_3 : List Int) : Option (Int × List Int × List ByteArray × List Int) :=
 if l0_1.length < 17592186044416 ∧ l0_2.length < 8796093022208 ∧ l0_3.length < 17592186044416 then some (a0_0, l0_1, l0_2, l0_3) else none
def dioramaref08_Copy.T1 : Bool × List (List Nat × List Nat) := (true, [([], []), ([0], [0]), ([], []), ([], []), ([3], [3]), ([2, 4], [2, 4]), ([], []), ([], []), ([7], [7]), ([6, 8, 5], [6, 8]), ([], []), ([], []), ([11], [11]), ([10, 12, 9], [10, 12]), ([1, 5, 9, 13], [1, 5, 9, 13]), ([14, 13, 0, 1, 2, 3, 4, 5, 6, 7, 8, 9, 10, 11, 12, 13, 14], [14])])
theorem dioramaref08_Copy.tab1 : rtab .any (opsOf Tryd.f43 1) = dioramaref08_Copy.T1 := by kernel_rfl
/-- What is done: p, q, r of each row's two steps. -/
def dioramaref08_Copy.L (p q r : Nat) : Array Bool := #[true, true, decide (1 ≤ p), true, true, decide (2 ≤ p), decide (1 ≤ q), true, true, decide (2 ≤ q), decide (1 ≤ r), true, true, decide (2 ≤ r), false, false]
end


/-! ### dioramaref09_Copy: function 16 -/
def dioramaref09_Copy.l0 : Nat → Int → List (S53) → Int → List (S53) → Int → Option ((List (S53)) × Int)
 | 0, _, _, _, _, _ => none
 | k + 1, x4, x235000, x235001, x237000, x237001 => if x4 < (x235000.length : Int) then (if 0 ≤ x4 then ((dioramaref08_Copy.f ((rd_T53 x235000 x4).f0) ((rd_T53 x235000 x4).f1) ((rd_T53 x235000 x4).f2) ((rd_T53 x235000 x4).f3)).bind fun bt238 => (if x237000.length < 1759218604441 then (dioramaref09_Copy.l0 k (wrap64 (x4 + 1)) x235000 x235001 (x237000 ++ [(⟨bt238.1, bt238.2.1, bt238.2.2.1, bt238.2.2.2⟩ : S53)]) x237001) else (none))) else (none)) else (some (x237000, x237001))
def dioramaref09_Copy.f (k : Nat) (l0_0 : List (S53)) (a0_1 : Int) : Option ((List (S53)) × Int) := dioramaref09_Copy.l0 k 0 l0_0 a0_1 ([] : List (S53)) a0_1

/-! ### dioramaref09_Place: function 59 -/
def dioramaref09_Place.f (l0_0 : List (S53)) (a0_1 : Int) (a1 : Int) : Option (Bool) := if a1 ≥ 0 then (some (decide (a1 < (l0_0.length : Int)))) else (some false)
set_option maxHeartbeats 8000000 in
set_option maxRecDepth 100000 in
theorem dioramaref09_Place.calls (A0_0 : Option Addr) (c0_0 : Nat) (l0_0 : List (S53)) (a0_1 : Int) (a1 : Int) (r : Bool) (w : World) (hr0_0 : Kd.C k53 w A0_0 l0_0.length l0_0) (hc0_0 : l0_0.length ≤ c0_0) (h : dioramaref09_Place.f l0_0 a0_1 a1 = some r) :
  Calls Tryd.prog 59 #[.agg #[.slice A0_0 l0_0.length c0_0, .int .i64 a0_1], .int .i64 a1] w fun e w' => e = .returned (.bool r) ∧ Below w.heap.size w w' := by
 have hu24 := Tryd.underlying24; have HR0_0 := AM hr0_0; have HC0_0 := AM hc0_0; clear hr0_0 hc0_0; have HB := AM (Below.refl w.heap.size w); have H : (if a1 ≥ 0 then (some (decide (a1 < (l0_0.length : Int)))) else (some false)) = some r := h; clear h; by_cases c3 : a1 ≥ 0
 ·rw [if_pos c3] at H; have c3b0 : decide (0 ≤ a1) = true := decide_eq_true c3; clear c3; obtain rfl := Option.some.inj H; go_enter Tryd.func59, Tryd.ntmps59
  go_wp2_with (first | ((with_reducible refine gate_dst (N := 2) rfl ?_); refine box_event ?hg (N := 2) ?hd (cs := #[.slice A0_0 l0_0.length c0_0, .int .i64 a0_1]) (t := 24) ?hr ?_; (case hd => rfl); (case hg => rfl); (case hr => first | (go_simp; done) | (go_simp; rfl)); intro gb251 hg w4 hbox hb; have BK251 := AM (hbox); have GW251 := GW HB hg; have GE251 := GW HB hg; replace HB := BS HB hb; clear hb hbox hg; have hcz5_0 := BC BK251 0 (.slice A0_0 l0_0.length c0_0) rfl; have hcz5_1 := BC BK251 1 (.int .i64 a0_1) rfl; have hfz5_0 := BF BK251 0; have hfz5_1 := BF BK251 1))
  go_ret
  exact ⟨by first | rfl | (simp [errW_none, errW_some] <;> rfl) | (simp [*, errW_none, errW_some] <;> rfl), BB HB⟩
 ·rw [if_neg c3] at H; have c3b0 : decide (0 ≤ a1) = false := decide_eq_false c3; clear c3; obtain rfl := Option.some.inj H; go_enter Tryd.func59, Tryd.ntmps59
  go_wp2_with (first | ((with_reducible refine gate_dst (N := 2) rfl ?_); refine box_event ?hg (N := 2) ?hd (cs := #[.slice A0_0 l0_0.length c0_0, .int .i64 a0_1]) (t := 24) ?hr ?_; (case hd => rfl); (case hg => rfl); (case hr => first | (go_simp; done) | (go_simp; rfl)); intro gb251 hg w6 hbox hb; have BK251 := AM (hbox); have GW251 := GW HB hg; have GE251 := GW HB hg; replace HB := BS HB hb; clear hb hbox hg))
  go_ret
  exact ⟨by first | rfl | (simp [errW_none, errW_some] <;> rfl) | (simp [*, errW_none, errW_some] <;> rfl), BB HB⟩

end Go.Proofs.YtcphcaiiofeflaaDoor.GL
