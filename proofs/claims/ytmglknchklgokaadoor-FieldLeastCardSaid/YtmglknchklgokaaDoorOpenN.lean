/- A node, a spec and a row of sets that came in, as the printed contracts take them. -/
import Derived.Test.YtmglknchklgokaaDoorOpenR
import Derived.Test.YtmglknchklgokaaDoorGYx0
namespace Go.Proofs.YtmglknchklgokaaDoor.GY
open Go.RowKit Go.ChangeShapes Go.WideShapes Go.Proofs.YtmglknchklgokaaDoorW.PrintWords Go.Proofs.YtmglknchklgokaaDoorW.PrintLast Go.Proofs.YtmglknchklgokaaDoorW.PrintMore
theorem opens_node : O.Opens Tryd.prog 26 k26 (fun _ => True) :=
  O.opens_imp (O.opens_iso (fun x : S26 => (x.f0, x.f1, x.f2, x.f3)) (fun p => ⟨p.1, p.2.1, p.2.2.1, p.2.2.2⟩) (fun _ => rfl)
    (O.opens_struct4 Tryd.underlying26 (by kernel_rfl) rfl rfl rfl rfl (by kernel_rfl) (by kernel_rfl) (by kernel_rfl) (by kernel_rfl)
      (O.opens_int Tryd.underlying3) (O.opens_slice Tryd.underlying22 (by kernel_rfl) (O.opens_int Tryd.underlying2)) (O.opens_slice Tryd.underlying23 (by kernel_rfl) (O.opens_string Tryd.underlying9)) (O.opens_slice Tryd.underlying24 (by kernel_rfl) (O.opens_int Tryd.underlying3)))) (fun _ _ => trivial)
theorem node_of {w : World} {v : Value} {x : S26} {n : Nat} (h : k26.K w x v.cells.toList) (hv : ∃ cs, v = .agg cs ∧ cs.size = n) :
    ∃ A1 c1 A2 c2 A3 c3, v = .agg #[.int .i64 x.f0, .slice A1 x.f1.length c1, .slice A2 x.f2.length c2, .slice A3 x.f3.length c3] ∧ x.f1.length ≤ c1 ∧ (Kd.int .i64).C w A1 x.f1.length x.f1 ∧ x.f2.length ≤ c2 ∧ Kd.string.C w A2 x.f2.length x.f2 ∧ x.f3.length ≤ c3 ∧ (Kd.int .i64).C w A3 x.f3.length x.f3 := by
  obtain ⟨cs, rfl, _⟩ := hv
  obtain ⟨A1, c1, A2, c2, A3, c3, he, h1, h2, h3, h4, h5, h6⟩ := k26_open h
  refine ⟨A1, c1, A2, c2, A3, c3, ?_, h1, h2, h3, h4, h5, h6⟩
  have he2 : cs.toList = _ := he
  rw [← Array.toArray_toList (xs := cs), he2]
end Go.Proofs.YtmglknchklgokaaDoor.GY
