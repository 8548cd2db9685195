/- CanonTurned: a list, its first elements turned. -/
import Derived.Test.YtlfjjapndlkamaaCtCTurnR
namespace Go.Proofs.Ytlfjjapndlkamaa.GH
open Go.RowKit Go.Lib Go.Proofs.YtlfjjapndlkamaaW.PrintWords Go.Proofs.YtlfjjapndlkamaaW.PrintLast Go.Proofs.YtlfjjapndlkamaaW.PrintMore
set_option linter.unusedVariables false
set_option linter.unusedSimpArgs false
def mapAt {α : Type} (f : α → α) (C : List α) (i : Nat) : List α := (C.take i).map f ++ C.drop i
section
variable {α : Type} (f : α → α) (C : List α) (i : Nat)
theorem mapAt_len : (mapAt f C i).length = C.length := by unfold mapAt; simp; omega
theorem mapAt_zero : mapAt f C 0 = C := by simp [mapAt]
theorem mapAt_get (hi : i < C.length) : (mapAt f C i)[i]? = C[i]? := by
  unfold mapAt
  rw [List.getElem?_append_right (by simp; omega)]
  have h0 : i - ((C.take i).map f).length = 0 := by simp; omega
  rw [h0, List.getElem?_drop, Nat.add_zero]
theorem mapAt_set (hi : i < C.length) : (mapAt f C i).set i (f C[i]) = mapAt f C (i + 1) := by
  unfold mapAt
  have h0 : i - ((C.take i).map f).length = 0 := by simp; omega
  rw [List.set_append_right _ _ (by simp; omega), h0, List.drop_eq_getElem_cons hi, List.set_cons_zero, List.take_succ_eq_append_getElem hi, List.map_append, List.append_assoc]
  rfl
theorem mapAt_all : mapAt f C C.length = C.map f := by unfold mapAt; rw [List.take_length, List.drop_length, List.append_nil]
theorem mapAt_keep (hi : i < C.length) : (mapAt f C i).set i C[i] = mapAt f C i := by
  have h := mapAt_get f C i hi
  rw [List.getElem?_eq_getElem hi] at h
  have hl : i < (mapAt f C i).length := by rw [mapAt_len]; exact hi
  rw [List.getElem?_eq_getElem hl] at h
  rw [← Option.some.inj h, List.set_getElem_self]
end
theorem row_below {w w' : World} {base : Nat} {e : TypeId} {v : Value} {n size : Nat} {xs : List Value} (h : w.ownsRow base e size v n xs) (m : Below w.heap.size w w') : w'.ownsRow base e size v n xs := by
  obtain ⟨h1, h2⟩ := h
  refine ⟨h1, h2.imp id ?_⟩
  rintro ⟨g, cap, cur, rfl, hb, hg, rest⟩
  exact ⟨g, cap, cur, rfl, hb, (m.block g (blk_lt hg)).trans hg, rest⟩
theorem grow_on {w w1 w2 : World} {v : Option Nat} (h1 : w.grownBy w1 v) (h2 : w1.grownBy w2 v) : w.grownBy w2 v := ⟨h2.os.trans h1.os, h2.tape.trans h1.tape, h2.output.trans h1.output, Nat.le_trans h1.size h2.size, fun q hq hn => (h2.block q (Nat.lt_of_lt_of_le hq h1.size) hn).trans (h1.block q hq hn)⟩
end Go.Proofs.Ytlfjjapndlkamaa.GH
