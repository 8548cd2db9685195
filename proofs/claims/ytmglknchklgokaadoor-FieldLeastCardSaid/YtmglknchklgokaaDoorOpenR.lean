/- A slice that came in, as the printed contracts take it. -/
import Derived.Test.YtmglknchklgokaaDoorOpen
namespace Go.Proofs.YtmglknchklgokaaDoor.O
open Go.RowKit Go.ChangeShapes Go.WideShapes Go.Proofs.YtmglknchklgokaaDoorW.PrintWords Go.Proofs.YtmglknchklgokaaDoorW.PrintLast Go.Proofs.YtmglknchklgokaaDoorW.PrintMore
theorem slice_of {α : Type} {d : Kd α} {w : World} {v : Value} {l : List α} {T : Nat} (h : (Kd.slice T d).K w l v.cells.toList) (hv : ∃ a n c, v = .slice a n c) : ∃ A cap, v = .slice A l.length cap ∧ l.length ≤ cap ∧ d.C w A l.length l := by
  obtain ⟨a, n, c, rfl⟩ := hv
  obtain ⟨A, cap, he, hl, hc⟩ := h
  simp only [Value.cells, List.cons.injEq, Value.slice.injEq, and_true] at he
  obtain ⟨rfl, rfl, rfl⟩ := he
  exact ⟨_, _, rfl, hl, hc⟩
end Go.Proofs.YtmglknchklgokaaDoor.O
