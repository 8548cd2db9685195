/- A node that came in, with its numbers' ranges. -/
import Derived.Test.YtoigkneoaemcfaaDoorRxOpenR
import Derived.Test.YtoigkneoaemcfaaDoorRxRcPut
namespace Go.Proofs.YtoigkneoaemcfaaDoor.Rec
open Go.RowKit Go.ChangeShapes Go.WideShapes Go.Proofs.YtoigkneoaemcfaaDoorW.PrintWords Go.Proofs.YtoigkneoaemcfaaDoorW.PrintLast Go.Proofs.YtoigkneoaemcfaaDoorW.PrintMore Go.Proofs.YtoigkneoaemcfaaDoor.GR
theorem wf64 {n : Int} (h : (Lit.int .i64 n).wf = true) : -9223372036854775808 ≤ n ∧ n ≤ 9223372036854775807 := by simpa [Lit.wf, IntKind.min, IntKind.max, IntKind.bits, IntKind.signed] using h
theorem opens_node : O.Opens Tryd.prog 40 k40 (fun x => I64 x.f1 ∧ I64 x.f3) :=
  O.opens_imp (O.opens_iso (fun x : S40 => (x.f0, x.f1, x.f2, x.f3)) (fun p => ⟨p.1, p.2.1, p.2.2.1, p.2.2.2⟩) (fun _ => rfl)
    (O.opens_struct4 Tryd.underlying40 (by kernel_rfl) rfl rfl rfl rfl (by kernel_rfl) (by kernel_rfl) (by kernel_rfl) (by kernel_rfl)
      (O.opens_int Tryd.underlying3) (O.opens_slice Tryd.underlying36 (by kernel_rfl) (O.opens_int Tryd.underlying2)) (O.opens_slice Tryd.underlying37 (by kernel_rfl) (O.opens_string Tryd.underlying9)) (O.opens_slice Tryd.underlying38 (by kernel_rfl) (O.opens_int Tryd.underlying3)))) (fun _ h => ⟨fun x hx => wf64 (h.2.1.2 x hx), fun x hx => wf64 (h.2.2.2.2 x hx)⟩)
theorem node_of {w : World} {v : Value} {x : S40} {n : Nat} (h : k40.K w x v.cells.toList) (hv : ∃ cs, v = .agg cs ∧ cs.size = n) :
    ∃ A1 c1 A2 c2 A3 c3, v = .agg #[.int .i64 x.f0, .slice A1 x.f1.length c1, .slice A2 x.f2.length c2, .slice A3 x.f3.length c3] ∧ In w A1 c1 x.f1 A2 c2 x.f2 A3 c3 x.f3 := by
  obtain ⟨cs, rfl, _⟩ := hv
  obtain ⟨A1, c1, A2, c2, A3, c3, he, h1, h2, h3, h4, h5, h6⟩ := k40_open h
  refine ⟨A1, c1, A2, c2, A3, c3, ?_, ⟨h2, h1, h4, h3, h6, h5⟩⟩
  have he2 : cs.toList = _ := he
  rw [← Array.toArray_toList (xs := cs), he2]
end Go.Proofs.YtoigkneoaemcfaaDoor.Rec
