/- An array of two numbers that came in; a row of nodes. -/
import Derived.Test.YtoigkneoaemcfaaDoorRxOpenM
namespace Go.Proofs.YtoigkneoaemcfaaDoor.Rec
open Go.RowKit Go.ChangeShapes Go.WideShapes Go.Proofs.YtoigkneoaemcfaaDoorW.PrintWords Go.Proofs.YtoigkneoaemcfaaDoorW.PrintLast Go.Proofs.YtoigkneoaemcfaaDoorW.PrintMore Go.Proofs.YtoigkneoaemcfaaDoor.GR
theorem opens_array2 {P : Program} {t e : TypeId} {k : IntKind} (ht : P.underlying t = some (.array 2 e)) (he : P.underlying e = some (.int k)) (ct : P.cellsOf t = 2) (ce : P.cellsOf e = 1) :
    O.Opens P t (Kd.pair (Kd.int k) (Kd.int k)) (fun x => (Lit.int k x.1).wf = true ∧ (Lit.int k x.2).wf = true) := by
  intro H enc w fuel cs x h hw
  obtain ⟨xs, m, _, rfl, hcl, hxl, hf⟩ := DataW.trod_array ht h
  rw [ct] at hcl
  match cs, hcl, xs, hxl with
  | [u0, u1], _, [x0, x1], _ =>
    have h0 := hf 0 (by omega)
    have h1 := hf 1 (by omega)
    rw [ce] at h0 h1
    obtain ⟨a, e0, _, w0⟩ := DataW.trod_int he h0
    obtain ⟨b, e1, _, w1⟩ := DataW.trod_int he h1
    simp at e0 e1
    subst e0 e1
    exact ⟨(a, b), ⟨[_], [_], rfl, rfl, rfl⟩, w0, w1⟩
theorem okWide_array {P : Program} {w : World} {r : Reach} {base n : Nat} {t e : TypeId} {v : Value} (ht : P.underlying t = some (.array n e)) (h : Value.okWide P w r base t v) : ∃ cs, v = .agg cs ∧ cs.size = P.cellsOf t := by
  simp only [Value.okWide, ht] at h
  obtain ⟨cs, h1, h2, _⟩ := h
  exact ⟨cs, h1, h2⟩
theorem array_of {w : World} {v : Value} {x : Int × Int} {n : Nat} (h : (Kd.pair (Kd.int .i64) (Kd.int .i64)).K w x v.cells.toList) (hv : ∃ cs, v = .agg cs ∧ cs.size = n) : v = .agg #[.int .i64 x.1, .int .i64 x.2] := by
  obtain ⟨cs, rfl, _⟩ := hv
  obtain ⟨c0, c1, he, h0, h1⟩ := h
  have e0 : c0 = [.int .i64 x.1] := h0
  have e1 : c1 = [.int .i64 x.2] := h1
  subst e0 e1
  have he2 : cs.toList = _ := he
  rw [← Array.toArray_toList (xs := cs), he2]
  rfl
end Go.Proofs.YtoigkneoaemcfaaDoor.Rec
