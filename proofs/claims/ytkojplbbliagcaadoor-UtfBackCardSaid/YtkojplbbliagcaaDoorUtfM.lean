/- Plain facts of UTF-8: what stands ahead and behind, and where a text is no UTF-8 any more. -/
import Derived.Test.YtkojplbbliagcaaDoorUtf
import Derived.Test.YtkojplbbliagcaaDoorPut
import Derived.Lib.RuneCountTail
import Derived.Lib.DecodeN
namespace Go.Proofs.YtkojplbbliagcaaDoor.U
open Go.RowKit Go.Lib
set_option linter.unusedVariables false
set_option linter.unusedSimpArgs false
def Good (x : Nat × Nat) : Prop := ¬ (x.1 = 65533 ∧ x.2 ≤ 1)
set_option maxRecDepth 100000 in
set_option maxHeartbeats 8000000 in
theorem decodeN_good {n m b0 b1 b2 b3 c1 c2 c3 : Nat} (hn : 1 ≤ n) (hg : Good (decodeN n b0 b1 b2 b3)) (hm : (decodeN n b0 b1 b2 b3).2 ≤ m)
    (h1 : 1 < m → b1 = c1) (h2 : 2 < m → b2 = c2) (h3 : 3 < m → b3 = c3) : decodeN m b0 c1 c2 c3 = decodeN n b0 b1 b2 b3 ∧ (decodeN n b0 b1 b2 b3).2 ≤ n := by
  revert hg hm
  unfold decodeN Good
  repeat' split
  all_goals intro hg hm
  all_goals first | (exfalso; exact hg ⟨rfl, Nat.le_refl _⟩) | skip
  all_goals (simp only at hm)
  all_goals first | (exfalso; omega) | (refine ⟨?_, by simp only; omega⟩; first | (apply Prod.ext <;> simp only <;> omega) | (exfalso; omega))
theorem head_size (s : ByteArray) (q : Nat) (h : q ≤ s.size) : (s.extract 0 q).size = q := by
  rw [size_eq, extract_data, List.length_take, List.length_drop, ← size_eq]
  omega
theorem head_get! (s : ByteArray) (q j : Nat) (h : j < q) : (s.extract 0 q).get! j = s.get! j := by
  rw [← getD_get!', ← getD_get!', extract_data]
  simp [List.getD, List.getElem?_take, h]
/-- A unit that is right stands so in what goes on to its end at least. -/
theorem decode_head (s : ByteArray) (q p : Nat) (hp : p < s.size) (hg : Good (Utf8.decode s p)) (hq : p + (Utf8.decode s p).2 ≤ q) (hs : q ≤ s.size) : Utf8.decode (s.extract 0 q) p = Utf8.decode s p := by
  have hw : 1 ≤ (Utf8.decode s p).2 := width_pos s p hp
  have e := head_size s q hs
  rw [decode_at] at hg hq hw ⊢
  rw [decode_at s p, e, head_get! s q p (by omega)]
  refine (decodeN_good (by omega) hg (by omega) ?_ ?_ ?_).1
  · intro h; rw [head_get! s q (p + 1) (by omega)]
  · intro h; rw [head_get! s q (p + 2) (by omega)]
  · intro h; rw [head_get! s q (p + 3) (by omega)]
theorem width_fits (s : ByteArray) (p : Nat) (hp : p < s.size) (hg : Good (Utf8.decode s p)) : p + (Utf8.decode s p).2 ≤ s.size := by
  rw [decode_at] at hg ⊢
  have := (decodeN_good (m := (decodeN (s.size - p) (s.get! p).toNat (s.get! (p + 1)).toNat (s.get! (p + 2)).toNat (s.get! (p + 3)).toNat).2) (by omega) hg (Nat.le_refl _) (fun _ => rfl) (fun _ => rfl) (fun _ => rfl)).2
  omega
theorem go_tail (s : ByteArray) (p : Nat) (h : p < s.size) : decodeGo (s.extract p s.size) = Utf8.decode s p := by
  unfold decodeGo
  rw [tail_decode]
  rw [if_neg (by rw [tail_size]; omega)]
  simp
end Go.Proofs.YtkojplbbliagcaaDoor.U
