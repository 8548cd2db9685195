/- A scene that came in, with what is known of its numbers. -/
import Derived.Test.YtlfjjapndlkamaaOpenG
namespace Go.Proofs.Ytlfjjapndlkamaa.GU
open Go.RowKit Go.ChangeShapes Go.WideShapes Go.Proofs.YtlfjjapndlkamaaW.PrintWords Go.Proofs.YtlfjjapndlkamaaW.PrintLast Go.Proofs.YtlfjjapndlkamaaW.PrintMore
theorem opens_nodeT : O.Opens Try.prog 40 k40 (fun x => ∀ z ∈ x.f3, (Lit.int .i64 z).wf = true) :=
  O.opens_imp (O.opens_iso (fun x : S40 => (x.f0, x.f1, x.f2, x.f3)) (fun p => ⟨p.1, p.2.1, p.2.2.1, p.2.2.2⟩) (fun _ => rfl)
    (O.opens_struct4 Try.underlying40 (by kernel_rfl) rfl rfl rfl rfl (by kernel_rfl) (by kernel_rfl) (by kernel_rfl) (by kernel_rfl)
      (O.opens_int Try.underlying3) (O.opens_slice Try.underlying37 (by kernel_rfl) (O.opens_int Try.underlying2)) (O.opens_slice Try.underlying38 (by kernel_rfl) (O.opens_string Try.underlying9)) (O.opens_slice Try.underlying31 (by kernel_rfl) (O.opens_int Try.underlying3)))) (fun _ h => h.2.2.2.2)
theorem wf_int {z : Int} (h : (Lit.int .i64 z).wf = true) : -9223372036854775808 ≤ z ∧ z ≤ 9223372036854775807 := by simpa [Lit.wf, IntKind.min, IntKind.max, IntKind.bits, IntKind.signed] using h
theorem opens_sceneT : O.Opens Try.prog 24 (Kd.pair (Kd.slice 40 k40) (Kd.int .i64)) (fun x => (∀ y ∈ x.1, ∀ z ∈ y.f3, -9223372036854775808 ≤ z ∧ z ≤ 9223372036854775807) ∧ -9223372036854775808 ≤ x.2 ∧ x.2 ≤ 9223372036854775807) :=
  O.opens_imp (O.opens_struct2 Try.underlying24 (by kernel_rfl) rfl rfl (by kernel_rfl) (by kernel_rfl) (O.opens_slice Try.underlying22 (by kernel_rfl) opens_nodeT) (O.opens_int Try.underlying3)) (fun _ h => ⟨fun y hy z hz => wf_int (h.1.2 y hy z hz), wf_int h.2⟩)
end Go.Proofs.Ytlfjjapndlkamaa.GU
