/- CanonTurned: two elements of a row apart change places. -/
import Derived.Test.YtlfjjapndlkamaaCtOFlat
import Derived.Test.YtlfjjapndlkamaaCtCTurnP
namespace Go.Proofs.Ytlfjjapndlkamaa.GH
open Go.RowKit Go.Lib Go.Proofs.YtlfjjapndlkamaaW.PrintWords Go.Proofs.YtlfjjapndlkamaaW.PrintLast Go.Proofs.YtlfjjapndlkamaaW.PrintMore
set_option linter.unusedVariables false
set_option linter.unusedSimpArgs false
theorem sw_get? {α : Type} (l : List α) {a b : Nat} {x y : α} (hx : l[a]? = some x) (hy : l[b]? = some y) (j : Nat) : ((l.set a y).set b x)[j]? = l[sw a b j]? := by
  have ha := (List.getElem?_eq_some_iff.1 hx).1
  have hb := (List.getElem?_eq_some_iff.1 hy).1
  unfold sw
  by_cases h1 : j = a
  · rw [if_pos h1]
    subst h1
    by_cases h2 : b = j
    · subst h2
      rw [List.getElem?_set_self (by rw [List.length_set]; exact hb), hx]
    · rw [List.getElem?_set_ne h2, List.getElem?_set_self ha, hy]
  · rw [if_neg h1]
    by_cases h2 : j = b
    · rw [if_pos h2]
      subst h2
      rw [List.getElem?_set_self (by rw [List.length_set]; exact hb), hx]
    · rw [if_neg h2, List.getElem?_set_ne (Ne.symm h2), List.getElem?_set_ne (Ne.symm h1)]
/-- Rows apart, told again. -/
theorem SI_S {f : Nat → Nat} {w : World} {base : Nat} {ok : Nat → Prop} {g cap : Nat} {xs : List (S40)} {inner : List Value} (h : SI f w base ok g cap xs inner) : Kd.S k40 40 w base ok (.slice (some ⟨g, 0, none⟩) xs.length cap) xs := by
  obtain ⟨h0, h1, h2, h3⟩ := h
  refine ⟨f, fun k hk => ?_, inner, by rw [List.length_zipIdx]; exact h1, by rw [List.length_zipIdx]; exact h2, fun j p hp => ?_⟩
  · cases hk
    exact h0
  · rw [List.getElem?_zipIdx, Nat.zero_add] at hp
    obtain ⟨y, hy, rfl⟩ := Option.map_eq_some_iff.1 hp
    refine k40.M_mono (fun k hk => ⟨⟨hk.1.1, fun e => ?_⟩, hk.2⟩) (h3 j y hy)
    simp only [Value.ownBlock, Option.some.injEq] at e
    exact hk.1.2 e
/-- The cells of the row alone. -/
theorem SI_raw {f : Nat → Nat} {w : World} {base : Nat} {ok : Nat → Prop} {g cap : Nat} {xs : List (S40)} {inner : List Value} (h : SI f w base ok g cap xs inner) : (Kd.raw 4).R 40 w base (fun _ => True) (.slice (some ⟨g, 0, none⟩) xs.length cap) (chunks inner xs.length) := by
  obtain ⟨h0, h1, h2, h3⟩ := h
  have hl : (chunks inner xs.length).length = xs.length := by simp [chunks]
  refine ⟨fun _ _ => trivial, inner, by rw [hl]; exact h1, by rw [hl]; exact h2, fun j p hp => ?_⟩
  have hj : j < xs.length := by have := (List.getElem?_eq_some_iff.1 hp).1; omega
  have e : p = (inner.drop (j * 4)).take 4 := by
    unfold chunks at hp
    rw [List.getElem?_map, List.getElem?_range hj] at hp
    exact (Option.some.inj hp).symm
  obtain ⟨v1, v2, v3, e2, r1, r2, r3⟩ := k40_openM (h3 j _ (List.getElem?_eq_getElem hj))
  obtain ⟨A1, c1, rfl⟩ := Kd.R_slice r1
  obtain ⟨A2, c2, rfl⟩ := Kd.R_slice r2
  obtain ⟨A3, c3, rfl⟩ := Kd.R_slice r3
  subst e
  refine ⟨rfl, ?_, fun u hu => ?_⟩
  · show ((inner.drop (j * 4)).take 4).length = 4
    rw [e2]
    rfl
  · have hu' : u ∈ (inner.drop (j * 4)).take 4 := hu
    rw [e2] at hu'
    simp only [List.mem_cons, List.not_mem_nil, or_false] at hu'
    rcases hu' with rfl | rfl | rfl | rfl <;> rfl
theorem chunks_get {inner : List Value} {n j : Nat} (hj : j < n) : (chunks inner n)[j]? = some ((inner.drop (j * 4)).take 4) := by
  unfold chunks
  rw [List.getElem?_map, List.getElem?_range hj]
  rfl
/-- Two elements have changed places. -/
theorem SI_swap {f : Nat → Nat} {w w1 : World} {base : Nat} {ok : Nat → Prop} {g cap : Nat} {xs : List (S40)} {inner : List Value} (h : SI f w base ok g cap xs inner) {a b : Nat} (ha : a < xs.length) (hb : b < xs.length)
    (hm : ∀ k, ok k → k ≠ g → k < w.heap.size → w1.heap[k]? = w.heap[k]?)
    (ho : (Kd.raw 4).R 40 w1 base (fun _ => True) (.slice (some ⟨g, 0, none⟩) xs.length cap) (((chunks inner xs.length).set a ((inner.drop (b * 4)).take 4)).set b ((inner.drop (a * 4)).take 4))) :
    ∃ inner', SI (fun k => sw a b (f k)) w1 base ok g cap (swL xs a b) inner' := by
  obtain ⟨h0, h1, h2, h3⟩ := h
  obtain ⟨_, inner', ho', hr'⟩ := ho
  have hlen : (((chunks inner xs.length).set a ((inner.drop (b * 4)).take 4)).set b ((inner.drop (a * 4)).take 4)).length = xs.length := by simp [chunks]
  rw [hlen] at ho'
  have hr1 := hr'.1
  rw [hlen] at hr1
  refine ⟨inner', h0, by rw [swL_len]; exact ho', by rw [swL_len]; exact hr1, fun j x hx => ?_⟩
  have hj : j < xs.length := by have := (List.getElem?_eq_some_iff.1 hx).1; rwa [swL_len] at this
  have hx' : xs[sw a b j]? = some x := by
    rw [← hx]
    unfold swL
    rw [rdT_get ha, rdT_get hb]
    exact (sw_get? xs (List.getElem?_eq_getElem ha) (List.getElem?_eq_getElem hb) j).symm
  have hc := sw_get? (chunks inner xs.length) (chunks_get ha) (chunks_get hb) j
  rw [chunks_get (sw_lt ha hb hj)] at hc
  have e1 := (hr'.2 j _ hc).1
  have e2 : (inner'.drop (j * 4)).take 4 = (inner.drop (sw a b j * 4)).take 4 := e1
  rw [e2]
  refine k40.M_mono (fun k hk => ⟨hk.1.1, ?_⟩) (k40.M_move (w1 := w1) (fun k hk => hm k hk.1.1.1 hk.1.1.2 hk.2.2.1) (k40.M_bound (h3 _ x hx')))
  have := hk.1.2
  show sw a b (f k) = j
  rw [this, sw_sw]
end Go.Proofs.Ytlfjjapndlkamaa.GH
