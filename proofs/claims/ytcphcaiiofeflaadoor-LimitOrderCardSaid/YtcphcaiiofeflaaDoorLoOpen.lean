/- Arguments opened by their kinds: what a value's cells hold, and how much. -/
import Derived.Test.YtcphcaiiofeflaaDoorLoBase
import Derived.Deep.Slices
import Derived.SizedLaws
import Derived.ChangeArms
import Derived.Lib.SmallJoins
namespace Go.Proofs.YtcphcaiiofeflaaDoor.O
open Go.RowKit Go.ChangeShapes Go.WideShapes Go.Proofs.YtcphcaiiofeflaaDoorW.PrintWords Go.Proofs.YtcphcaiiofeflaaDoorW.PrintLast Go.Proofs.YtcphcaiiofeflaaDoorW.PrintMore
/-- Whatever reads at type t holds a value of kind d that meets Q. -/
def Opens {α : Type} (P : Program) (t : TypeId) (d : Kd α) (Q : α → Prop) : Prop :=
  ∀ {H : Type} (enc : TypeId × Value → H) (w : World) (fuel : Nat) (cs : List Value) (x : DataW H × List MemPlace),
    DataW.trod enc P w 0 (fun _ => true) true fuel t cs = some x → (∀ n ∈ DataW.weights P t x.1, n ≤ reachBytes) → ∃ v : α, d.K w v cs ∧ Q v
section
variable {P : Program} {t e : TypeId}
theorem opens_int {k : IntKind} (ht : P.underlying t = some (.int k)) : Opens P t (Kd.int k) (fun n => (Lit.int k n).wf = true) := by
  intro H enc w fuel cs x h _
  obtain ⟨n, rfl, rfl, hw⟩ := DataW.trod_int ht h
  exact ⟨n, rfl, hw⟩
theorem opens_imp {α : Type} {d : Kd α} {Q Q' : α → Prop} (h : Opens P t d Q) (hq : ∀ a, Q a → Q' a) : Opens P t d Q' := by
  intro H enc w fuel cs x hx hw
  obtain ⟨v, hk, h1⟩ := h enc w fuel cs x hx hw
  exact ⟨v, hk, hq v h1⟩
/-- A field's part of a struct's cells. -/
theorem field_opens {α : Type} {d : Kd α} {Q : α → Prop} {fs : Array Field} {H : Type} {enc : TypeId × Value → H} {w : World} {n : Nat} {cs : List Value} {xs : List (DataW H × List MemPlace)} (i : Nat) (f : Field) (hf : fs[i]? = some f)
    (ht : P.underlying t = some (.struct fs)) (ho : Opens P f.type d Q) (hw : ∀ k ∈ DataW.weights P t (.agg (xs.map (·.1))), k ≤ reachBytes) (hl : xs.length = fs.size)
    (hx : DataW.trod enc P w 0 (fun _ => true) true n f.type ((cs.drop f.offset).take (P.cellsOf f.type)) = xs[i]?) : ∃ v : α, d.K w v ((cs.drop f.offset).take (P.cellsOf f.type)) ∧ Q v := by
  have hi : i < xs.length := by
    have := (Array.getElem?_eq_some_iff.1 hf).1
    omega
  rw [List.getElem?_eq_getElem hi] at hx
  refine ho enc w n _ _ hx (fun k hk => hw k ?_)
  simp only [DataW.weights, ht]
  refine DataW.weights_mem_each (j := i) (t := f.type) (d := xs[i].1) ?_ ?_ k hk
  · rw [List.getElem?_map]; simp [hf]
  · rw [List.getElem?_map, List.getElem?_eq_getElem hi]; rfl
theorem opens_struct5 {α β γ δ ε : Type} {d0 : Kd α} {d1 : Kd β} {d2 : Kd γ} {d3 : Kd δ} {d4 : Kd ε} {Q0 : α → Prop} {Q1 : β → Prop} {Q2 : γ → Prop} {Q3 : δ → Prop} {Q4 : ε → Prop} {f0 f1 f2 f3 f4 : Field} (ht : P.underlying t = some (.struct #[f0, f1, f2, f3, f4])) (ct : P.cellsOf t = 5)
    (o0 : f0.offset = 0) (o1 : f1.offset = 1) (o2 : f2.offset = 2) (o3 : f3.offset = 3) (o4 : f4.offset = 4) (c0 : P.cellsOf f0.type = 1) (c1 : P.cellsOf f1.type = 1) (c2 : P.cellsOf f2.type = 1) (c3 : P.cellsOf f3.type = 1) (c4 : P.cellsOf f4.type = 1)
    (h0 : Opens P f0.type d0 Q0) (h1 : Opens P f1.type d1 Q1) (h2 : Opens P f2.type d2 Q2) (h3 : Opens P f3.type d3 Q3) (h4 : Opens P f4.type d4 Q4) :
    Opens P t (Kd.pair d0 (Kd.pair d1 (Kd.pair d2 (Kd.pair d3 d4)))) (fun x => Q0 x.1 ∧ Q1 x.2.1 ∧ Q2 x.2.2.1 ∧ Q3 x.2.2.2.1 ∧ Q4 x.2.2.2.2) := by
  intro H enc w fuel cs x h hw
  obtain ⟨xs, n, _, rfl, hcl, hxl, hf⟩ := DataW.trod_struct ht h
  obtain ⟨v0, k0, q0⟩ := field_opens 0 f0 rfl ht h0 hw hxl (hf 0 f0 rfl)
  obtain ⟨v1, k1, q1⟩ := field_opens 1 f1 rfl ht h1 hw hxl (hf 1 f1 rfl)
  obtain ⟨v2, k2, q2⟩ := field_opens 2 f2 rfl ht h2 hw hxl (hf 2 f2 rfl)
  obtain ⟨v3, k3, q3⟩ := field_opens 3 f3 rfl ht h3 hw hxl (hf 3 f3 rfl)
  obtain ⟨v4, k4, q4⟩ := field_opens 4 f4 rfl ht h4 hw hxl (hf 4 f4 rfl)
  rw [o0, c0] at k0
  rw [o1, c1] at k1
  rw [o2, c2] at k2
  rw [o3, c3] at k3
  rw [o4, c4] at k4
  rw [ct] at hcl
  match cs, hcl with
  | [u0, u1, u2, u3, u4], _ => exact ⟨(v0, v1, v2, v3, v4), ⟨[u0], [u1, u2, u3, u4], rfl, k0, [u1], [u2, u3, u4], rfl, k1, [u2], [u3, u4], rfl, k2, [u3], [u4], rfl, k3, k4⟩, q0, q1, q2, q3, q4⟩
/-- An argument of a row: its weight is one of the row's. -/
theorem opens_arg {α : Type} {d : Kd α} {Q : α → Prop} (ho : Opens P t d Q) {H : Type} {enc : TypeId × Value → H} {w : World} {v : Value} {x : DataW H} {ps : List MemPlace} (h : DataW.Trod enc P w 0 (fun _ => true) true t v x ps)
    {ts : List TypeId} {ds : List (DataW H)} {j : Nat} (hsz : (DataW.weightsEach P ts ds).all (· ≤ reachBytes) = true) (ht : ts[j]? = some t) (hd : ds[j]? = some x) : ∃ u : α, d.K w u v.cells.toList ∧ Q u := by
  obtain ⟨fuel, hf⟩ := h
  refine ho enc w fuel _ _ hf (fun n hn => ?_)
  have := List.all_eq_true.1 hsz _ (DataW.weights_mem_each ht hd n hn)
  simpa using this
end
end Go.Proofs.YtcphcaiiofeflaaDoor.O
