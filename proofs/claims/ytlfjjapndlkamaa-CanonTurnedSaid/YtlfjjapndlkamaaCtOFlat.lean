/- old.Flat, called: the canonical scene, turned in place. -/
import Derived.Test.YtlfjjapndlkamaaCtGHx4
import Derived.Deep.LoopGhost
namespace Go.Proofs.Ytlfjjapndlkamaa.GH
open Go.RowKit Go.Lib Go.Proofs.YtlfjjapndlkamaaW.PrintWords Go.Proofs.YtlfjjapndlkamaaW.PrintLast Go.Proofs.YtlfjjapndlkamaaW.PrintMore
set_option linter.unusedVariables false
set_option linter.unusedSimpArgs false
/-! Nodes apart, with the cells of their row. -/
def SI (f : Nat → Nat) (w : World) (base : Nat) (ok : Nat → Prop) (g cap : Nat) (xs : List (S40)) (inner : List Value) : Prop :=
  ok g ∧ w.ownsRow base 40 4 (.slice (some ⟨g, 0, none⟩) xs.length cap) xs.length inner ∧ inner.length = xs.length * 4 ∧
    ∀ (j : Nat) (x : S40), xs[j]? = some x → k40.M w base (fun k => (ok k ∧ k ≠ g) ∧ f k = j) x ((inner.drop (j * 4)).take 4)
theorem ne_own {g k n c : Nat} (h : some k ≠ (Value.slice (some ⟨g, 0, none⟩) n c).ownBlock) : k ≠ g := fun e => h (by rw [e]; rfl)
theorem SI_of {w : World} {base : Nat} {ok : Nat → Prop} {g cap n : Nat} {xs : List (S40)} (h : Kd.S k40 40 w base ok (.slice (some ⟨g, 0, none⟩) n cap) xs) : n = xs.length ∧ ∃ f inner, SI f w base ok g cap xs inner := by
  have hn := (Kd.R_reads' (Kd.S_R h)).1
  subst hn
  obtain ⟨f, h0, inner, ho, hr⟩ := h
  rw [List.length_zipIdx] at ho
  refine ⟨rfl, f, inner, h0 g rfl, ho, by have := hr.1; rw [List.length_zipIdx] at this; exact this, fun j x hx => ?_⟩
  exact k40.M_mono (fun k hk => ⟨⟨hk.1.1, ne_own hk.1.2⟩, hk.2⟩) (hr.2 j (x, j) (Kd.zip_at hx))
theorem SI_step {f : Nat → Nat} {w w1 : World} {base : Nat} {ok : Nat → Prop} {g cap : Nat} {xs : List (S40)} {inner : List Value} (h : SI f w base ok g cap xs inner) (hm : ∀ k, ok k → k < w.heap.size → w1.heap[k]? = w.heap[k]?) : SI f w1 base ok g cap xs inner := by
  obtain ⟨h0, h1, h2, h3⟩ := h
  refine ⟨h0, ?_, h2, fun j x hx => ?_⟩
  · obtain ⟨q1, q2⟩ := h1
    refine ⟨q1, q2.imp id ?_⟩
    rintro ⟨g', cap', cur, hv, hb, hg, rest⟩
    have hg' : g' = g := by cases hv; rfl
    subst hg'
    exact ⟨g', cap', cur, hv, hb, (hm g' h0 (blk_lt hg)).trans hg, rest⟩
  · exact k40.M_mono (fun k hk => hk.1) (k40.M_move (w1 := w1) (fun k hk => hm k hk.1.1.1 hk.2.2.1) (k40.M_bound (h3 j x hx)))
/-- An element: its cells and its rows. -/
theorem SI_at {f : Nat → Nat} {w : World} {base : Nat} {ok : Nat → Prop} {g cap : Nat} {xs : List (S40)} {inner : List Value} (h : SI f w base ok g cap xs inner) {j : Nat} {x : S40} (hx : xs[j]? = some x) :
    ∃ v1 v2 v3, (inner.drop (j * 4)).take 4 = [.int .i64 x.f0, v1, v2, v3] ∧ (Kd.int .i64).R 2 w base (fun k => (ok k ∧ k ≠ g) ∧ f k = j) v1 x.f1 ∧ Kd.string.R 9 w base (fun k => (ok k ∧ k ≠ g) ∧ f k = j) v2 x.f2 ∧ (Kd.int .i64).R 3 w base (fun k => (ok k ∧ k ≠ g) ∧ f k = j) v3 x.f3 ∧
      (∀ i, i < 4 → w.cell? ⟨g, j * 4 + i, none⟩ = [.int .i64 x.f0, v1, v2, v3][i]?) := by
  obtain ⟨h0, h1, h2, h3⟩ := h
  obtain ⟨v1, v2, v3, e, r1, r2, r3⟩ := k40_openM (h3 j x hx)
  refine ⟨v1, v2, v3, e, r1, r2, r3, fun i hi => ?_⟩
  have hj : j < xs.length := (List.getElem?_eq_some_iff.1 hx).1
  have hc : inner[j * 4 + i]? = [Value.int .i64 x.f0, v1, v2, v3][i]? := by
    rw [← e, List.getElem?_take, if_pos hi, List.getElem?_drop]
  rw [← hc, List.getElem?_eq_getElem (by omega)]
  have := h1.cells (g := g) rfl (j * 4 + i) _ (List.getElem?_eq_getElem (by omega))
  rwa [add_plain] at this
/-- The kids of an element are written. -/
theorem SI_kids {f : Nat → Nat} {w w1 : World} {base : Nat} {ok : Nat → Prop} {g cap : Nat} {xs : List (S40)} {inner : List Value} (h : SI f w base ok g cap xs inner) {i : Nat} {x : S40} (hx : xs[i]? = some x)
    {v1 v2 v3 : Value} (e : (inner.drop (i * 4)).take 4 = [.int .i64 x.f0, v1, v2, v3]) (hg : w.grownBy w1 v3.ownBlock) {K : List Int} (hown : w1.ownsRow base 3 1 v3 K.length (K.map (Value.int .i64))) : SI f w1 base ok g cap (xs.set i ⟨x.f0, x.f1, x.f2, K⟩) inner := by
  obtain ⟨h0, h1, h2, h3⟩ := h
  obtain ⟨u1, u2, u3, e', r1, r2, r3⟩ := k40_openM (h3 i x hx)
  rw [e] at e'
  simp only [List.cons.injEq, and_true, true_and] at e'
  obtain ⟨rfl, rfl, rfl⟩ := e'
  have hv3 := r3.1
  have hng : v3.ownBlock ≠ some g := fun hq => (hv3 g hq).1.2 rfl
  have hil : i < xs.length := (List.getElem?_eq_some_iff.1 hx).1
  refine ⟨h0, ?_, by rw [List.length_set]; exact h2, fun j y hy => ?_⟩
  · rw [List.length_set]
    obtain ⟨q1, q2⟩ := h1
    refine ⟨q1, q2.imp id ?_⟩
    rintro ⟨g', cap', cur, hv, hb, hg', rest⟩
    have hgg : g' = g := by cases hv; rfl
    subst hgg
    exact ⟨g', cap', cur, hv, hb, (hg.block g' (blk_lt hg') (fun q => hng q.symm)).trans hg', rest⟩
  · by_cases hj : j = i
    · subst hj
      rw [List.getElem?_set_self hil] at hy
      obtain rfl := Option.some.inj hy
      rw [e]
      have R3 : (Kd.int .i64).R 3 w1 base (fun k => (ok k ∧ k ≠ g) ∧ f k = j) v3 K := ⟨hv3, (Kw.R_of_own (enc := Value.int .i64) (h1 := fun _ => rfl) hown).2.imp_ (fun _ _ hp => hp)⟩
      exact k40_mkM w1 base _ ⟨x.f0, x.f1, x.f2, K⟩ (Kd.R_over r1 r3 (by decide) hg) (Kd.R_over r2 r3 (by decide) hg) R3
    · rw [List.getElem?_set_ne (Ne.symm hj)] at hy
      have hM := h3 j y hy
      refine k40.M_mono (fun k hk => hk.1) (k40.M_move (w1 := w1) (fun k hk => hg.block k hk.2.2.1 (fun q => ?_)) (k40.M_bound hM))
      have h5 := (hv3 k q.symm).2
      have h6 := hk.1.2
      omega
/-- The cells of a row, element by element. -/
def chunks (inner : List Value) (n : Nat) : List (List Value) := (List.range n).map fun j => (inner.drop (j * 4)).take 4
/-- A node, its kids turned. -/
def turnK (m : Int) (y : S40) : S40 := ⟨y.f0, y.f1, y.f2, y.f3.map fun k => m - k⟩
/-- The first nodes turned. -/
def flatAt (C : List (S40)) (m : Int) (i : Nat) : List (S40) := (C.take i).map (turnK m) ++ C.drop i
/-- The kids, turned up to a place. -/
def mixT (m : Int) (K : List Int) (j : Nat) : List Int := (K.take j).map (fun k => m - k) ++ K.drop j
/-- The new row, as it is filled from its end on. -/
def outAt (rows : List (List Value)) (i : Nat) : List (List Value) := List.replicate (rows.length - i) [.int .i64 0, .slice none 0 0, .slice none 0 0, .slice none 0 0] ++ (rows.take i).reverse
end Go.Proofs.Ytlfjjapndlkamaa.GH
