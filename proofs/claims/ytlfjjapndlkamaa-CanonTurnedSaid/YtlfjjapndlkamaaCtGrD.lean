/- graph.Depth, plain. -/
import Derived.Test.YtlfjjapndlkamaaCtGrC
namespace Go.Proofs.Ytlfjjapndlkamaa.GH
open Go.RowKit Go.Proofs.YtlfjjapndlkamaaW.PrintWords Go.Proofs.YtlfjjapndlkamaaW.PrintLast Go.Proofs.YtlfjjapndlkamaaW.PrintMore
set_option linter.unusedVariables false
set_option linter.unusedSimpArgs false
/-- How deep it is at a node. -/
def H (l0 : List (S40)) (x : Nat) : Nat := GT.ht (GT.toG (kidsI l0)) l0.length x
theorem H_step {l0 : List (S40)} {R : Nat → Nat} (hR : GT.Ranked (GT.toG (kidsI l0)) R) (hRl : ∀ x, x < l0.length → R x < l0.length) {x : Nat} (hx : x < l0.length) : H l0 x = GT.mxL ((GT.kids (GT.toG (kidsI l0)) x).map (H l0)) + 1 := by
  have h1 := hRl x hx
  unfold H
  rw [GT.ht_fuel hR l0.length (l0.length + 1) x (by omega) (by omega), GT.ht]
end Go.Proofs.Ytlfjjapndlkamaa.GH
