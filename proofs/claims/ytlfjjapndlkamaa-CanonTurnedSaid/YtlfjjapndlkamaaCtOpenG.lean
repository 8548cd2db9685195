/- A scene that came in, as the printed contracts take it. -/
import Derived.Test.YtlfjjapndlkamaaCtOpenR
import Derived.Test.YtlfjjapndlkamaaCtGHx0
namespace Go.Proofs.Ytlfjjapndlkamaa.GH
open Go.RowKit Go.ChangeShapes Go.WideShapes Go.Proofs.YtlfjjapndlkamaaW.PrintWords Go.Proofs.YtlfjjapndlkamaaW.PrintLast Go.Proofs.YtlfjjapndlkamaaW.PrintMore
theorem opens_node : O.Opens Try.prog 40 k40 (fun _ => True) :=
  O.opens_imp (O.opens_iso (fun x : S40 => (x.f0, x.f1, x.f2, x.f3)) (fun p => ⟨p.1, p.2.1, p.2.2.1, p.2.2.2⟩) (fun _ => rfl)
    (O.opens_struct4 Try.underlying40 (by kernel_rfl) rfl rfl rfl rfl (by kernel_rfl) (by kernel_rfl) (by kernel_rfl) (by kernel_rfl)
      (O.opens_int Try.underlying3) (O.opens_slice Try.underlying37 (by kernel_rfl) (O.opens_int Try.underlying2)) (O.opens_slice Try.underlying38 (by kernel_rfl) (O.opens_string Try.underlying9)) (O.opens_slice Try.underlying31 (by kernel_rfl) (O.opens_int Try.underlying3)))) (fun _ _ => trivial)
theorem opens_scene : O.Opens Try.prog 24 (Kd.pair (Kd.slice 40 k40) (Kd.int .i64)) (fun _ => True) :=
  O.opens_imp (O.opens_struct2 Try.underlying24 (by kernel_rfl) rfl rfl (by kernel_rfl) (by kernel_rfl) (O.opens_slice Try.underlying22 (by kernel_rfl) opens_node) (O.opens_int Try.underlying3)) (fun _ _ => trivial)
theorem scene_of {w : World} {v : Value} {x : List S40 × Int} {n : Nat} (h : (Kd.pair (Kd.slice 40 k40) (Kd.int .i64)).K w x v.cells.toList) (hv : ∃ cs, v = .agg cs ∧ cs.size = n) :
    ∃ A cap, v = .agg #[.slice A x.1.length cap, .int .i64 x.2] ∧ x.1.length ≤ cap ∧ Kd.C k40 w A x.1.length x.1 := by
  obtain ⟨cs, rfl, _⟩ := hv
  obtain ⟨c1, c2, he, ⟨A, cap, rfl, hl, hc⟩, h2⟩ := h
  obtain rfl := h2
  refine ⟨A, cap, ?_, hl, hc⟩
  have he2 : cs.toList = [.slice A x.1.length cap, .int .i64 x.2] := he
  rw [← Array.toArray_toList (xs := cs), he2]
end Go.Proofs.Ytlfjjapndlkamaa.GH
