/- Arguments opened by their kinds: what a value's cells hold, and how much. -/
import Derived.Test.YtlfjjapndlkamaaCtBase
import Derived.Deep.Slices
import Derived.SizedLaws
import Derived.ChangeArms
import Derived.Lib.SmallJoins
namespace Go.Proofs.Ytlfjjapndlkamaa.O
open Go.RowKit Go.ChangeShapes Go.WideShapes Go.Proofs.YtlfjjapndlkamaaW.PrintWords Go.Proofs.YtlfjjapndlkamaaW.PrintLast Go.Proofs.YtlfjjapndlkamaaW.PrintMore
/-- Whatever reads at type t holds a value of kind d that meets Q. -/
def Opens {α : Type} (P : Program) (t : TypeId) (d : Kd α) (Q : α → Prop) : Prop :=
  ∀ {H : Type} (enc : TypeId × Value → H) (w : World) (fuel : Nat) (cs : List Value) (x : DataW H × List MemPlace),
    DataW.trod enc P w 0 (fun _ => true) true fuel t cs = some x → (∀ n ∈ DataW.weights P t x.1, n ≤ reachBytes) → ∃ v : α, d.K w v cs ∧ Q v
section
variable {P : Program} {t e : TypeId}
theorem opens_int {k : IntKind} (ht : P.underlying t = some (.int k)) : Opens P t (Kd.int k) (fun n => (Lit.int k n).wf = true) := by
  intro H enc w fuel cs x h _
  obtain ⟨n, rfl, rfl, hw⟩ := DataW.trod_int ht h
  exact ⟨n, rfl, hw⟩
theorem opens_string (ht : P.underlying t = some .string) : Opens P t Kd.string (fun s => s.size ≤ reachBytes) := by
  intro H enc w fuel cs x h hw
  obtain ⟨s, rfl, rfl, _⟩ := DataW.trod_string ht h
  refine ⟨s, rfl, ?_⟩
  have := hw s.data.toList.length (by simp [DataW.weights])
  rwa [Array.length_toList] at this
theorem weights_all {H : Type} (e : TypeId) : ∀ (l : List (DataW H)) (d : DataW H), d ∈ l → ∀ n, n ∈ DataW.weights P e d → n ∈ DataW.weightsAll P e l
  | [], _, h, _, _ => by cases h
  | a :: l, d, h, n, hn => by
    unfold DataW.weightsAll
    rcases List.mem_cons.mp h with rfl | h
    · exact List.mem_append_left _ hn
    · exact List.mem_append_right _ (weights_all e l d h n hn)
theorem opens_slice {α : Type} {d : Kd α} {Q : α → Prop} (ht : P.underlying t = some (.slice e)) (hc : P.cellsOf e = d.sz) (he : Opens P e d Q) :
    Opens P t (Kd.slice e d) (fun xs => xs.length * P.bytesOf e ≤ reachBytes ∧ ∀ x ∈ xs, Q x) := by
  intro H enc w fuel cs x h hw
  rcases Go.Deep.open_slice ht h with ⟨rfl, rfl⟩ | ⟨a, len, cap, m, n, D, Pl, rfl, hb, hl, hm, hmm, rfl, hx⟩
  · exact ⟨[], ⟨none, 0, rfl, Nat.le_refl _, rfl, by simp, fun h => by simp at h⟩, by simp, fun x hx => by cases hx⟩
  simp only [if_true] at hmm
  subst hmm
  have hlen : len ≤ 9223372036854775807 := by unfold maxLen at hm; omega
  have hwt : ∀ i, i < len → ∀ k ∈ DataW.weights P e (D i), k ≤ reachBytes := by
    intro i hi k hk
    refine hw k ?_
    simp only [DataW.weights, ht]
    refine List.mem_cons_of_mem _ (List.mem_append_left _ (weights_all e _ (D i) ?_ k hk))
    exact List.mem_map.mpr ⟨i, List.mem_range.mpr hi, rfl⟩
  have hsz : len * P.bytesOf e ≤ reachBytes := by
    have := hw ((((List.range len).map D).length + ((List.range (m - len)).map fun j => D (len + j)).length) * P.bytesOf e) (by simp only [DataW.weights, ht]; exact List.mem_cons_self)
    refine Nat.le_trans (Nat.mul_le_mul_right _ ?_) this
    simp
  have each : ∀ i, i < len → ∃ v : α, (∃ c, c.length = d.sz ∧ d.K w v c ∧ ∀ j u, c[j]? = some u → w.cell? (a.add (i * d.sz + j)) = some u) ∧ Q v := by
    intro i hi
    obtain ⟨cs', h1, h2⟩ := hx i (by omega)
    obtain ⟨v, hk, hq⟩ := he enc w n cs' (D i, Pl i) h2 (hwt i hi)
    refine ⟨v, ⟨cs', ?_, hk, ?_⟩, hq⟩
    · exact d.K_len hk
    · intro j u hu
      obtain ⟨_, hln, hcell⟩ := World.cells?_some h1
      have hj : j < cs'.length := by
        rcases Nat.lt_or_ge j cs'.length with hj | hj
        · exact hj
        · rw [List.getElem?_eq_none hj] at hu; cases hu
      have e0 := hcell j (by omega)
      rw [Go.Deep.add_add] at e0
      rw [hc] at e0
      rw [e0, hu]
  have hf : ∃ f : List α, f.length = len ∧ ∀ i v, f[i]? = some v → (∃ c, c.length = d.sz ∧ d.K w v c ∧ ∀ j u, c[j]? = some u → w.cell? (a.add (i * d.sz + j)) = some u) ∧ Q v := by
    have key : ∀ m, m ≤ len → ∃ f : List α, f.length = m ∧ ∀ i v, f[i]? = some v → (∃ c, c.length = d.sz ∧ d.K w v c ∧ ∀ j u, c[j]? = some u → w.cell? (a.add (i * d.sz + j)) = some u) ∧ Q v := by
      intro m
      induction m with
      | zero => exact fun _ => ⟨[], rfl, fun i v h => by simp at h⟩
      | succ m ih =>
        intro hm
        obtain ⟨f, hl, hf⟩ := ih (by omega)
        obtain ⟨v, hv⟩ := each m (by omega)
        refine ⟨f ++ [v], by simp [hl], fun i u hu => ?_⟩
        rcases Nat.lt_or_ge i f.length with hi | hi
        · rw [List.getElem?_append_left hi] at hu
          exact hf i u hu
        · rw [List.getElem?_append_right hi] at hu
          have h0 : i - f.length = 0 := by
            rcases Nat.eq_zero_or_pos (i - f.length) with h0 | h0
            · exact h0
            · rw [List.getElem?_eq_none (by simp; omega)] at hu; cases hu
          rw [h0] at hu
          simp at hu
          subst hu
          rw [show i = m by omega]
          exact hv
    exact key len (Nat.le_refl _)
  obtain ⟨f, hfl, hff⟩ := hf
  refine ⟨f, ⟨some a, m, by rw [hfl], by omega, rfl, by omega, fun _ => ⟨a, rfl, fun j p hp => (hff j p hp).1⟩⟩, by rw [hfl]; exact hsz, fun x hx => ?_⟩
  obtain ⟨i, hi⟩ := List.getElem?_of_mem hx
  exact (hff i x hi).2
theorem opens_iso {α β : Type} {d : Kd α} {Q : α → Prop} (f : β → α) (g : α → β) (hg : ∀ a, f (g a) = a) (h : Opens P t d Q) : Opens P t (Kd.iso d f) (fun b => Q (f b)) := by
  intro H enc w fuel cs x hx hw
  obtain ⟨v, hk, hq⟩ := h enc w fuel cs x hx hw
  exact ⟨g v, by show d.K w (f (g v)) cs; rw [hg]; exact hk, by show Q (f (g v)); rw [hg]; exact hq⟩
theorem opens_imp {α : Type} {d : Kd α} {Q Q' : α → Prop} (h : Opens P t d Q) (hq : ∀ a, Q a → Q' a) : Opens P t d Q' := by
  intro H enc w fuel cs x hx hw
  obtain ⟨v, hk, h1⟩ := h enc w fuel cs x hx hw
  exact ⟨v, hk, hq v h1⟩
/-- A field's part of a struct's cells. -/
theorem field_opens {α : Type} {d : Kd α} {Q : α → Prop} {fs : Array Field} {H : Type} {enc : TypeId × Value → H} {w : World} {n : Nat} {cs : List Value} {xs : List (DataW H × List MemPlace)} (i : Nat) (f : Field) (hf : fs[i]? = some f)
    (ht : P.underlying t = some (.struct fs)) (ho : Opens P f.type d Q) (hw : ∀ k ∈ DataW.weights P t (.agg (xs.map (·.1))), k ≤ reachBytes) (hl : xs.length = fs.size)
    (hx : DataW.trod enc P w 0 (fun _ => true) true n f.type ((cs.drop f.offset).take (P.cellsOf f.type)) = xs[i]?) : ∃ v : α, d.K w v ((cs.drop f.offset).take (P.cellsOf f.type)) ∧ Q v := by
  have hi : i < xs.length := by
    have := (Array.getElem?_eq_some_iff.1 hf).1
    omega
  rw [List.getElem?_eq_getElem hi] at hx
  refine ho enc w n _ _ hx (fun k hk => hw k ?_)
  simp only [DataW.weights, ht]
  refine DataW.weights_mem_each (j := i) (t := f.type) (d := xs[i].1) ?_ ?_ k hk
  · rw [List.getElem?_map]; simp [hf]
  · rw [List.getElem?_map, List.getElem?_eq_getElem hi]; rfl
theorem opens_struct2 {α β : Type} {d0 : Kd α} {d1 : Kd β} {Q0 : α → Prop} {Q1 : β → Prop} {f0 f1 : Field} (ht : P.underlying t = some (.struct #[f0, f1])) (ct : P.cellsOf t = 2)
    (o0 : f0.offset = 0) (o1 : f1.offset = 1) (c0 : P.cellsOf f0.type = 1) (c1 : P.cellsOf f1.type = 1) (h0 : Opens P f0.type d0 Q0) (h1 : Opens P f1.type d1 Q1) :
    Opens P t (Kd.pair d0 d1) (fun x => Q0 x.1 ∧ Q1 x.2) := by
  intro H enc w fuel cs x h hw
  obtain ⟨xs, n, _, rfl, hcl, hxl, hf⟩ := DataW.trod_struct ht h
  obtain ⟨v0, k0, q0⟩ := field_opens 0 f0 rfl ht h0 hw hxl (hf 0 f0 rfl)
  obtain ⟨v1, k1, q1⟩ := field_opens 1 f1 rfl ht h1 hw hxl (hf 1 f1 rfl)
  rw [o0, c0] at k0
  rw [o1, c1] at k1
  rw [ct] at hcl
  match cs, hcl with
  | [u0, u1], _ => exact ⟨(v0, v1), ⟨[u0], [u1], rfl, k0, k1⟩, q0, q1⟩
theorem opens_struct4 {α β γ δ : Type} {d0 : Kd α} {d1 : Kd β} {d2 : Kd γ} {d3 : Kd δ} {Q0 : α → Prop} {Q1 : β → Prop} {Q2 : γ → Prop} {Q3 : δ → Prop} {f0 f1 f2 f3 : Field} (ht : P.underlying t = some (.struct #[f0, f1, f2, f3])) (ct : P.cellsOf t = 4)
    (o0 : f0.offset = 0) (o1 : f1.offset = 1) (o2 : f2.offset = 2) (o3 : f3.offset = 3) (c0 : P.cellsOf f0.type = 1) (c1 : P.cellsOf f1.type = 1) (c2 : P.cellsOf f2.type = 1) (c3 : P.cellsOf f3.type = 1)
    (h0 : Opens P f0.type d0 Q0) (h1 : Opens P f1.type d1 Q1) (h2 : Opens P f2.type d2 Q2) (h3 : Opens P f3.type d3 Q3) :
    Opens P t (Kd.pair d0 (Kd.pair d1 (Kd.pair d2 d3))) (fun x => Q0 x.1 ∧ Q1 x.2.1 ∧ Q2 x.2.2.1 ∧ Q3 x.2.2.2) := by
  intro H enc w fuel cs x h hw
  obtain ⟨xs, n, _, rfl, hcl, hxl, hf⟩ := DataW.trod_struct ht h
  obtain ⟨v0, k0, q0⟩ := field_opens 0 f0 rfl ht h0 hw hxl (hf 0 f0 rfl)
  obtain ⟨v1, k1, q1⟩ := field_opens 1 f1 rfl ht h1 hw hxl (hf 1 f1 rfl)
  obtain ⟨v2, k2, q2⟩ := field_opens 2 f2 rfl ht h2 hw hxl (hf 2 f2 rfl)
  obtain ⟨v3, k3, q3⟩ := field_opens 3 f3 rfl ht h3 hw hxl (hf 3 f3 rfl)
  rw [o0, c0] at k0
  rw [o1, c1] at k1
  rw [o2, c2] at k2
  rw [o3, c3] at k3
  rw [ct] at hcl
  match cs, hcl with
  | [u0, u1, u2, u3], _ => exact ⟨(v0, v1, v2, v3), ⟨[u0], [u1, u2, u3], rfl, k0, [u1], [u2, u3], rfl, k1, [u2], [u3], rfl, k2, k3⟩, q0, q1, q2, q3⟩
/-- An argument of a row: its weight is one of the row's. -/
theorem opens_arg {α : Type} {d : Kd α} {Q : α → Prop} (ho : Opens P t d Q) {H : Type} {enc : TypeId × Value → H} {w : World} {v : Value} {x : DataW H} {ps : List MemPlace} (h : DataW.Trod enc P w 0 (fun _ => true) true t v x ps)
    {ts : List TypeId} {ds : List (DataW H)} {j : Nat} (hsz : (DataW.weightsEach P ts ds).all (· ≤ reachBytes) = true) (ht : ts[j]? = some t) (hd : ds[j]? = some x) : ∃ u : α, d.K w u v.cells.toList ∧ Q u := by
  obtain ⟨fuel, hf⟩ := h
  refine ho enc w fuel _ _ hf (fun n hn => ?_)
  have := List.all_eq_true.1 hsz _ (DataW.weights_mem_each ht hd n hn)
  simpa using this
end
end Go.Proofs.Ytlfjjapndlkamaa.O
