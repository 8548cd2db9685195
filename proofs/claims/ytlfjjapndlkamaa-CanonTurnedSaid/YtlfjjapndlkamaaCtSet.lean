/- A map[int]bool that the call makes, as a set of numbers. -/
import Derived.Test.YtlfjjapndlkamaaProg
import Derived.Test.YtlfjjapndlkamaaCtKw
import Derived.Maps.OwnSet
import Derived.Maps.OwnOps
import Derived.Lib.SlKeysI
namespace Go.Proofs.Ytlfjjapndlkamaa.Set
open Go.RowKit Go.Lib Go.Maps
set_option linter.unusedVariables false
set_option linter.unusedSimpArgs false
theorem law : Keyed Try.prog 3 := int_keyed Try.underlying3
theorem zeroE (w : World) : (zeroValue 4).run Try.prog w = .ok (.bool false) w := by kernel_rfl
/-- Block b is a map of at most n entries; it is true at just the numbers of met. -/
def IsSet (w : World) (b n : Nat) (met : List Nat) : Prop :=
  ∃ D : DataW Unit, w.ownsMap Try.prog 3 (plainElem Try.prog 4) b n D ∧ (∀ j : Nat, D.atKey (.int .i64 (j : Int)) (.lit (.bool false)) = .lit (.bool (decide (j ∈ met)))) ∧ ∀ z : Int, Maps.has D (.int .i64 z) = true ↔ ∃ j, j ∈ met ∧ z = (j : Int)
theorem wf_nat {j : Nat} (h : j ≤ 9223372036854775807) : (Lit.int .i64 (j : Int)).wf = true := WalkArith.wf_i64 (by omega)
theorem key_of {j : Nat} (h : j ≤ 9223372036854775807) : keyOf Try.prog 3 (.int .i64 (j : Int)) = some (.int .i64 (j : Int)) := keyOf_int_mk Try.underlying3 (wf_nat h)
theorem made (w : World) : IsSet (w.alloc (.map #[] 0)) w.heap.size 0 [] := ⟨.map [], World.ownsMap_made _ _ _ _, fun j => by simp [DataW.atKey], fun z => by simp [Maps.has]⟩
section
variable {w w' : World} {b n : Nat} {met : List Nat}
theorem IsSet.lt (h : IsSet w b n met) : b < w.heap.size := by
  obtain ⟨D, h, _⟩ := h
  exact h.lt
theorem IsSet.kept {row : Option Nat} (h : IsSet w b n met) (hg : w.grownBy w' row) (hne : some b ≠ row) : IsSet w' b n met := by
  obtain ⟨D, h, hD⟩ := h
  exact ⟨D, h.kept hg hne, hD⟩
theorem IsSet.alloc (h : IsSet w b n met) (o : Obj) : IsSet (w.alloc o) b n met := h.kept (World.grownBy_alloc w o none) (by simp)
theorem IsSet.drew (h : IsSet w b n met) : IsSet w.drew b n met := h
theorem IsSet.drewN (h : IsSet w b n met) (k : Nat) : IsSet (w.drewN k) b n met := h
theorem IsSet.mono {n' : Nat} (h : IsSet w b n met) (hn : n ≤ n') : IsSet w b n' met := by
  obtain ⟨D, h, hD⟩ := h
  exact ⟨D, h.mono hn, hD⟩
theorem IsSet.congr {met' : List Nat} (h : IsSet w b n met) (hm : ∀ j, j ∈ met ↔ j ∈ met') : IsSet w b n met' := by
  obtain ⟨D, h, hD⟩ := h
  exact ⟨D, h, fun j => by rw [hD.1, decide_eq_decide.2 (hm j)], fun z => by rw [hD.2]; exact ⟨fun ⟨j, h1, h2⟩ => ⟨j, (hm j).1 h1, h2⟩, fun ⟨j, h1, h2⟩ => ⟨j, (hm j).2 h1, h2⟩⟩⟩
theorem plainElem_bool_inv0 {P : Program} {e : TypeId} (he : P.underlying e = some .bool) {v : Value} {z : DataW Unit × List MemPlace} (h : plainElem P e v = some z) : ∃ x, v = .bool x ∧ z = (.lit (.bool x), []) := by
  unfold plainElem at h
  rw [he] at h
  cases v <;> simp at h
  exact ⟨_, rfl, h.symm⟩
theorem plainElem_bool_inv {v : Value} {z : DataW Unit × List MemPlace} (h : plainElem Try.prog 4 v = some z) : ∃ x, v = .bool x ∧ z = (.lit (.bool x), []) := plainElem_bool_inv0 Try.underlying4 h
theorem IsSet.look (h : IsSet w b n met) {j : Nat} (hj : j ≤ 9223372036854775807) : (Instr.lookup 44 (.map (some b)) (.int .i64 (j : Int)) false).run Try.prog w = .ok (.bool (decide (j ∈ met))) w := by
  obtain ⟨D, h, hD⟩ := h
  obtain ⟨v, ps, hrun, hv⟩ := h.lookup law Try.underlying44 (zeroE w) (plainElem_bool Try.underlying4 false) (key_of hj)
  rw [hD.1] at hv
  obtain ⟨x, rfl, hx⟩ := plainElem_bool_inv hv
  simp only [Prod.mk.injEq, DataW.lit.injEq, Lit.bool.injEq] at hx
  rw [hrun, hx.1]
theorem IsSet.store (h : IsSet w b n met) {j : Nat} (hj : j ≤ 9223372036854775807) (hn : n < maxLen) : ∃ w', (Instr.mapUpdate 44 (.map (some b)) (.int .i64 (j : Int)) (.bool true)).run Try.prog w = .ok () w' ∧ IsSet w' b (n + 1) (j :: met) ∧ w.grownBy w' (some b) := by
  obtain ⟨D, h, hD⟩ := h
  have h0 := h
  obtain ⟨w', hrun, h1, hg⟩ := h.update law Try.underlying44 hn (key_of hj) (plainElem_bool Try.underlying4 true)
  refine ⟨w', hrun, ⟨_, h1, fun i => ?_, fun z => ?_⟩, hg⟩
  rotate_left
  · by_cases hz : z = (j : Int)
    · subst hz
      rw [has_put_same h0.isMap (show WideAt.IsKeyLit (.int .i64 (j : Int)) from trivial)]
      simp
    · rw [has_put_other (by intro e; injection e with _ e; exact hz e), hD.2]
      constructor
      · rintro ⟨i, h1, h2⟩; exact ⟨i, List.mem_cons_of_mem _ h1, h2⟩
      · rintro ⟨i, h1, h2⟩
        rcases List.mem_cons.1 h1 with rfl | h1
        · exact absurd h2 hz
        · exact ⟨i, h1, h2⟩
  by_cases hi : i = j
  · subst hi
    rw [atKey_put_same h0.isMap (show WideAt.IsKeyLit (.int .i64 (i : Int)) from trivial)]
    simp
  · rw [atKey_put_other (by intro e; injection e with _ e; omega), hD.1]
    simp [hi]
/-- The map's keys. -/
theorem IsSet.keys (h : IsSet w b n met) (hn : met.Nodup) : ∃ D : DataW Unit, w.ownsMap Try.prog 3 (plainElem Try.prog 4) b n D ∧ Maps.size D ≤ n ∧ (met.map Int.ofNat).Perm (intKeys D) := by
  obtain ⟨D, h, hD⟩ := h
  refine ⟨D, h, h.size_le, ?_⟩
  refine CollectedI.perm (left := fun _ => false) ⟨?_, fun x => ?_⟩ h law Try.underlying3 (fun _ => rfl)
  · refine List.pairwise_map.2 (hn.imp (fun {a b} hne e => hne ?_))
    exact Int.ofNat.inj e
  · rw [hD.2, List.mem_map]
    exact ⟨fun ⟨j, h1, h2⟩ => ⟨⟨j, h1, h2.symm⟩, rfl⟩, fun ⟨⟨j, h1, h2⟩, _⟩ => ⟨j, h1, h2.symm⟩⟩
/-- What is left of a map in a world that keeps its block. -/
theorem IsSet.of_block (h : IsSet w b n met) (hb : w'.heap[b]? = w.heap[b]?) : IsSet w' b n met := by
  obtain ⟨D, ⟨es, clock, h1, h2⟩, hD⟩ := h
  exact ⟨D, ⟨es, clock, hb.trans h1, h2⟩, hD⟩
theorem IsSet.below (h : IsSet w b n met) (hb : Below w.heap.size w w') : IsSet w' b n met := h.of_block (hb.block b h.lt)
theorem intKeys_len {D : DataW Unit} (h : IsMap D) : (intKeys D).length = Maps.size D := by
  obtain ⟨es, rfl⟩ := h
  simp [intKeys, Maps.size]
theorem IsSet.len (h : IsSet w b n met) (hn : met.Nodup) (ty : TypeId) : (Builtin.len_ #[44] ty #[.map (some b)]).run Try.prog w = .ok (.int .i64 (met.length : Int)) w := by
  obtain ⟨D, h1, _, hp⟩ := h.keys hn
  have h2 := h1.len Try.underlying44 ty
  rw [h2, ← intKeys_len h1.isMap, ← hp.length_eq, List.length_map]
/-- 'm[j]' at the operation. -/
theorem wpList_look {ops : Array Oper} {rest : List Oper} {o : Oper} {a : Act} {Q : Exit → Act → World → Prop} (w : World)
    (hg : o.guard = none) (m x : Operand) (hop : o.op = Op.lookup 44 m x false) (b n : Nat) (met : List Nat) (hown : IsSet w b n met) (j : Nat) (hj : j ≤ 9223372036854775807) (ji : Int) (hji : ji = (j : Int))
    (hm : a.eval m = .map (some b)) (hx : a.eval x = .int .i64 ji) (hK : wpList Try.prog ops Q rest (a.put o.dst (.bool (decide (j ∈ met)))) w) :
    wpList Try.prog ops Q (o :: rest) a w := by
  subst hji
  refine wpList_plain hg fun K' hK' => ?_
  unfold Oper.wp
  simp [execOp, hop, hm, hx, hown.look hj, Result.andThen]
  exact hK' _ _ hK
/-- 'm[j] = true' at the operation. -/
theorem wpList_store {ops : Array Oper} {rest : List Oper} {o : Oper} {a : Act} {Q : Exit → Act → World → Prop} (w : World)
    (hg : o.guard = none) (m x v : Operand) (hop : o.op = Op.mapUpdate 44 m x v) (b n : Nat) (met : List Nat) (hown : IsSet w b n met) (j : Nat) (hj : j ≤ 9223372036854775807) (ji : Int) (hji : ji = (j : Int)) (hn : n < maxLen)
    (hm : a.eval m = .map (some b)) (hx : a.eval x = .int .i64 ji) (hv : a.eval v = .bool true)
    (hK : ∀ w', IsSet w' b (n + 1) (j :: met) → w.grownBy w' (some b) → wpList Try.prog ops Q rest (a.put o.dst undef) w') :
    wpList Try.prog ops Q (o :: rest) a w := by
  subst hji
  refine wpList_plain hg fun K' hK' => ?_
  obtain ⟨w', hrun, r1, r2⟩ := hown.store hj hn
  unfold Oper.wp
  simp [execOp, hop, hm, hx, hv, hrun, Result.andThen]
  exact hK' _ _ (hK w' r1 r2)
end
end Go.Proofs.Ytlfjjapndlkamaa.Set
