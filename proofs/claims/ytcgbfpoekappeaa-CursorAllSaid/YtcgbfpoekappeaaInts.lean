/- A list of whole numbers in memory, read. -/
import Derived.Test.YtcgbfpoekappeaaOpen
namespace Go.Proofs.Ytcgbfpoekappeaa.O
open Go.RowKit Go.ChangeShapes Go.WideShapes Go.Proofs.YtcgbfpoekappeaaW.PrintWords Go.Proofs.YtcgbfpoekappeaaW.PrintLast Go.Proofs.YtcgbfpoekappeaaW.PrintMore Go.Proofs.Ytcgbfpoekappeaa.B
def Ints (k : IntKind) (w : World) (A : Option Addr) (l : List Int) : Prop :=
  l = [] ∨ ∃ b off, A = some ⟨b, off, none⟩ ∧ b < w.heap.size ∧ ∀ i, i < l.length → w.cell? ⟨b, off + i, none⟩ = some (.int k (l.getD i 0))
theorem ints_of {k : IntKind} {w : World} {v : Value} {l : List Int} {T : Nat} (h : (Kd.slice T (Kd.int k)).K w l v.cells.toList) (hv : ∃ a n c, v = .slice a n c) : ∃ A cap, v = .slice A l.length cap ∧ Ints k w A l := by
  obtain ⟨a, n, c, rfl⟩ := hv
  obtain ⟨A, cap, he, _, hc⟩ := h
  simp only [Value.cells, List.cons.injEq, Value.slice.injEq, and_true] at he
  obtain ⟨rfl, rfl, rfl⟩ := he
  refine ⟨_, _, rfl, ?_⟩
  rcases Nat.eq_zero_or_pos l.length with h0 | h0
  · exact .inl (List.eq_nil_of_length_eq_zero h0)
  right
  obtain ⟨ad, rfl, hcell⟩ := hc.2.2 h0
  have key : ∀ i, i < l.length → w.cell? (ad.add (i * 1 + 0)) = some (.int k (l.getD i 0)) := by
    intro i hi
    obtain ⟨cs, _, hk, hcc⟩ := hcell i _ (List.getElem?_eq_getElem hi)
    have hk : cs = [.int k l[i]] := hk
    subst hk
    have e : l.getD i 0 = l[i] := by rw [List.getD_eq_getElem?_getD, List.getElem?_eq_getElem hi]; rfl
    rw [e]
    exact hcc 0 _ rfl
  obtain ⟨b, off, spot⟩ := ad
  have hspot : spot = none := by simpa [Addr.add] using World.cell?_spot (key 0 h0)
  subst hspot
  refine ⟨b, off, rfl, ?_, fun i hi => ?_⟩
  · have := World.block_lt_of_cell? w _ (key 0 h0)
    simpa [Addr.add] using this
  · have k0 := key i hi
    rw [Go.WideShapes.add_plain, Nat.mul_one, Nat.add_zero] at k0
    exact k0
theorem Ints.at {k : IntKind} {w wr : World} {A : Option Addr} {l : List Int} (h : Ints k w A l) (m : Mv nil w wr) (i : Nat) (hi : i < l.length) :
    ∃ b off, A = some ⟨b, off, none⟩ ∧ wr.cell? ⟨b, off + i, none⟩ = some (.int k (l.getD i 0)) ∧ b < w.heap.size := by
  rcases h with rfl | ⟨b, off, rfl, hlt, hc⟩
  · simp at hi
  exact ⟨b, off, rfl, (World.cell?_of_block (w := w) (m.block b hlt (fun h => h))).trans (hc i hi), hlt⟩
end Go.Proofs.Ytcgbfpoekappeaa.O
