/- Words of the world: what a call may have written, and that all else stands. -/
import Derived.Test.YtlfjjapndlkamaaCtWAll
import Derived.Lib.Hide
import Derived.Deep.QuietTactic
import Derived.BigQuiet
import Derived.WalkKit
namespace Go.Proofs.Ytlfjjapndlkamaa.B
open Go.RowKit Go.Proofs.YtlfjjapndlkamaaW.PrintWords Go.Proofs.YtlfjjapndlkamaaW.PrintLast Go.Proofs.YtlfjjapndlkamaaW.PrintMore
/-- Of what was there, only blocks of S may have turned. -/
structure Mv (S : Nat → Prop) (w w' : World) : Prop where
  os : w'.os = w.os
  tape : w'.tape = w.tape
  output : w'.output = w.output
  size : w.heap.size ≤ w'.heap.size
  block : ∀ k, k < w.heap.size → ¬ S k → w'.heap[k]? = w.heap[k]?
def one (g : Nat) : Nat → Prop := fun k => k = g
def two (g h : Nat) : Nat → Prop := fun k => k = g ∨ k = h
def nil : Nat → Prop := fun _ => False
section
variable {S S2 : Nat → Prop} {w w1 w2 w' : World}
theorem Mv.refl (S : Nat → Prop) (w : World) : Mv S w w := ⟨rfl, rfl, rfl, Nat.le_refl _, fun _ _ _ => rfl⟩
theorem Mv.of_below (h : Below w.heap.size w w') : Mv S w w' := ⟨h.os, h.tape, h.output, h.size, fun k hk _ => h.block k hk⟩
theorem Mv.below (h : Mv S w w') (hs : ∀ k, S k → w.heap.size ≤ k) : Below w.heap.size w w' := ⟨h.os, h.tape, h.output, h.size, fun k hk => h.block k hk (fun hS => by have := hs k hS; omega)⟩
theorem Mv.trans (h : Mv S w w1) (k : Mv S2 w1 w2) (hs : ∀ k, S2 k → S k ∨ w.heap.size ≤ k) : Mv S w w2 :=
  ⟨k.os.trans h.os, k.tape.trans h.tape, k.output.trans h.output, Nat.le_trans h.size k.size, fun i hi hn =>
    (k.block i (Nat.lt_of_lt_of_le hi h.size) (fun h2 => by rcases hs i h2 with h3 | h3; exact hn h3; omega)).trans (h.block i hi hn)⟩
theorem Mv.step (h : Mv S w w1) (k : Mv S w1 w2) : Mv S w w2 := h.trans k (fun _ h => .inl h)
theorem Mv.grow (h : Mv S w w1) (k : Below w1.heap.size w1 w2) : Mv S w w2 := h.trans (S2 := nil) (Mv.of_below k) (fun _ h => h.elim)
theorem Mv.mono (h : Mv S w w1) (hs : ∀ k, S k → S2 k) : Mv S2 w w1 := ⟨h.os, h.tape, h.output, h.size, fun k hk hn => h.block k hk (fun h2 => hn (hs k h2))⟩
theorem Mv.drew (h : Mv S w w1) : Mv S w w1.drew := ⟨h.os, h.tape, h.output, h.size, h.block⟩
theorem Mv.drewN (h : Mv S w w1) (n : Nat) : Mv S w (w1.drewN n) := ⟨h.os, h.tape, h.output, h.size, h.block⟩
theorem Mv.setCell (h : Mv S w w1) {p : Addr} (hp : S p.block ∨ w.heap.size ≤ p.block) (u : Value) : Mv S w (w1.setCell p u) :=
  h.trans (S2 := one p.block) ⟨rfl, rfl, rfl, by simp [World.setCell], fun k _ hn => Below.heap_setCell w1 p u k hn⟩ (fun k hk => by rw [show k = p.block from hk]; exact hp)
theorem Mv.alloc (h : Mv S w w1) (o : Obj) : Mv S w (w1.alloc o) := h.grow ((Below.refl _ _).alloc (Nat.le_refl _) o)
theorem Mv.keep (h : Mv S w w1) {g : Nat} {o : Obj} (hb : w.heap[g]? = some o) (hg : ¬ S g) : w1.heap[g]? = some o := (h.block g (blk_lt hb) hg).trans hb
end
end Go.Proofs.Ytlfjjapndlkamaa.B
