/- Words beside the printed ones: rows of scalars. -/
import Derived.Test.YtmglknchklgokaaDoorWMore
import Derived.Test.YtmglknchklgokaaDoorWRepsOne
import Derived.Lib.OthersKept
import Derived.Lib.Hide
import Derived.Lib.SliceRun
import Derived.LoopTactic
import Derived.WalkKit
import Derived.Laws.AppendOwn
namespace Go.Proofs.YtmglknchklgokaaDoor.Kw
open Go.RowKit Go.Lib Go.Proofs.YtmglknchklgokaaDoorW.PrintWords Go.Proofs.YtmglknchklgokaaDoorW.PrintLast Go.Proofs.YtmglknchklgokaaDoorW.PrintMore
set_option linter.unusedVariables false
set_option linter.unusedSimpArgs false
theorem reps_map {α : Type} (R : α → List Value → Prop) (enc : α → Value) (h : ∀ c, R c [enc c]) : ∀ l : List α, Reps R 1 l (l.map enc)
  | [] => Reps.none _ _
  | c :: l => Reps.one (h c) (reps_map R enc h l)
/-- The cells of a row of scalars that is read. -/
theorem cells_of {α : Type} {enc : α → Value} {h1 : ∀ x, (enc x).oneCell' = true} {w : World} {ad : Addr} {l : List α} (h : Kd.C (Kd.scalar enc h1) w (some ad) l.length l) : ∀ j u, (l.map enc)[j]? = some u → w.cell? (ad.add j) = some u := by
  intro j u hj
  have hlt : j < l.length := by
    have := (List.getElem?_eq_some_iff.1 hj).1
    simpa using this
  obtain ⟨ad', e, hc⟩ := h.2.2 (by omega)
  cases e
  obtain ⟨c, hl, hR, hcell⟩ := hc j _ (List.getElem?_eq_getElem hlt)
  have hR : c = [enc l[j]] := hR
  subst hR
  rw [List.getElem?_map, List.getElem?_eq_getElem hlt] at hj
  have := hcell 0 u (by simpa using hj)
  rw [show (Kd.scalar enc h1).sz = 1 from rfl, Nat.mul_one, Nat.add_zero] at this
  exact this
theorem nil_of {α : Type} {d : Kd α} {w : World} {l : List α} (h : Kd.C d w none l.length l) : l = [] := by
  rcases Nat.eq_zero_or_pos l.length with h0 | h0
  · exact List.eq_nil_of_length_eq_zero h0
  · obtain ⟨ad, e, _⟩ := h.2.2 h0
    cases e
theorem R_of_own {α : Type} {enc : α → Value} {h1 : ∀ x, (enc x).oneCell' = true} {w : World} {base : Nat} {v : Value} {e : Nat} {l : List α} (h : w.ownsRow base e 1 v l.length (l.map enc)) : Kd.R (Kd.scalar enc h1) e w base (fun _ => True) v l :=
  ⟨fun _ _ => trivial, l.map enc, h, reps_map ((Kd.scalar enc h1).M w base _) enc (fun _ => rfl) l⟩
theorem own_of_R {α : Type} {enc : α → Value} {h1 : ∀ x, (enc x).oneCell' = true} {w : World} {base : Nat} {ok : Nat → Prop} {v : Value} {e : Nat} {l : List α} (h : Kd.R (Kd.scalar enc h1) e w base ok v l) : w.ownsRow base e 1 v l.length (l.map enc) := by
  obtain ⟨_, inner, ho, hr⟩ := h
  have he : inner = l.map enc := by
    apply List.ext_getElem?
    intro j
    by_cases hj : j < l.length
    · have := hr.2 j _ (List.getElem?_eq_getElem hj)
      have h2 : (inner.drop (j * 1)).take 1 = [enc l[j]] := this
      rw [Nat.mul_one] at h2
      have h3 : ((inner.drop j).take 1)[0]? = some (enc l[j]) := by rw [h2]; rfl
      rw [List.getElem?_take] at h3
      simp at h3
      rw [h3, List.getElem?_map, List.getElem?_eq_getElem hj]
      rfl
    · have hl : inner.length = l.length := by have := hr.1; rw [show (Kd.scalar enc h1).sz = 1 from rfl] at this; omega
      rw [List.getElem?_eq_none (by omega), List.getElem?_eq_none (by rw [List.length_map]; omega)]
  rw [← he]
  exact ho
theorem grown_trans {w w1 w2 : World} {row row1 : Option Nat} (h : w.grownBy w1 row) (h2 : w1.grownBy w2 row1) (hrow : row1 = row ∨ row1 = none ∨ ∃ g, row1 = some g ∧ w.heap.size ≤ g) : w.grownBy w2 row :=
  ⟨h2.os.trans h.os, h2.tape.trans h.tape, h2.output.trans h.output, Nat.le_trans h.size h2.size, fun k hk hn => (h2.block k (Nat.lt_of_lt_of_le hk h.size) (fun e => by
    rcases hrow with rfl | rfl | ⟨g, rfl, hg⟩
    · exact hn e
    · cases e
    · cases e; omega)).trans (h.block k hk hn)⟩
theorem grown_below {w0 w w1 : World} {row : Option Nat} (h : Below w0.heap.size w0 w) (hg : w.grownBy w1 row) (hrow : ∀ g, row = some g → w0.heap.size ≤ g) : Below w0.heap.size w0 w1 := h.grown hg h.size hrow
end Go.Proofs.YtmglknchklgokaaDoor.Kw
namespace Go.Proofs.YtmglknchklgokaaDoorW.PrintWords.Kd
open Go.Proofs.YtmglknchklgokaaDoorW.PrintWords Go.Proofs.YtmglknchklgokaaDoorW.PrintMore
/-- A row that is read, not empty: it lies in a block that its footprint names. -/
theorem V_away {α : Type} {d : Kd α} {e base : Nat} {W : World} {ok : Nat → Prop} {v : Value} {xs : List α} (h : V d e W base ok v xs) {g : Nat} (hok : ∀ k, ok k → k ≠ g)
    (hs : 0 < d.sz := by decide) (hne : 0 < xs.length := by (first | omega | (simp only [decide_eq_true_eq, eq_iff_iff, iff_true] at *; omega))) : some g ≠ v.ownBlock := by
  intro he
  obtain ⟨A, c, rfl, hl, hF⟩ := h
  cases A with
  | none => simp [Value.ownBlock] at he
  | some ad =>
    have hg : g = ad.block := by simpa [Value.ownBlock] using he
    have hC := hF { W with heap := W.heap.setIfInBounds g (.map #[] 0) } (fun k hk => by
      have := hok k hk
      simp [Ne.symm this])
    obtain ⟨ad', e2, hc⟩ := hC.2.2 hne
    cases e2
    obtain ⟨cs, hlen, _, hcell⟩ := hc 0 _ (List.getElem?_eq_getElem hne)
    have h0 : 0 < cs.length := by omega
    have := hcell 0 _ (List.getElem?_eq_getElem h0)
    rw [Nat.zero_mul, Nat.add_zero] at this
    subst hg
    unfold World.cell? at this
    simp only [Addr.add] at this
    rw [Array.getElem?_setIfInBounds] at this
    by_cases hb : ad.block < W.heap.size
    · simp [hb] at this
    · simp [hb] at this
end Go.Proofs.YtmglknchklgokaaDoorW.PrintWords.Kd
namespace Go.Proofs.YtmglknchklgokaaDoorW.PrintWords
open Go.RowKit Go.Proofs.YtmglknchklgokaaDoorW.PrintLast Go.Proofs.YtmglknchklgokaaDoorW.PrintMore
/-- What printed texts say often, once: what was made is below; a block is as it was. -/
theorem BB {b : Nat} {w0 w w' : World} (h : Aside0 (Below b w0 w)) (k : Below b w0 w → Below b w0 w' := by intro h_; repeat (first | (with_reducible first | exact h_ | apply below_alloc | apply pw_below_drewN | apply below_drew1 | refine below_set ?_ (Aside0.out (by assumption))) | exact h_)) : Below b w0 w' := k h.out
theorem BL {g : Nat} {o : Obj} {w w' : World} (h : Aside0 (w.heap[g]? = some o)) (k : w.heap[g]? = some o → w'.heap[g]? = some o := by intro h_; (with_reducible repeat (first | refine blk_drewN ?_ _ | refine blk_drew ?_ | refine blk_alloc ?_ _)); exact h_) : w'.heap[g]? = some o := k h.out
theorem RL {α : Type} {d : Kd α} {e : TypeId} {base : Nat} {ok : Nat → Prop} {v : Value} {xs : List α} {w w' : World} (h : Aside0 (Kd.R d e w base ok v xs)) (k : Kd.R d e w base ok v xs → Kd.R d e w' base ok v xs := by intro h_; (with_reducible repeat (first | apply Kd.R_alloc | apply Kd.R_drewN | apply Kd.R_drew)); exact h_) : Kd.R d e w' base ok v xs := k h.out
theorem BE {g : Nat} {o : Obj} {w w1 w2 : World} (h : Aside0 (w.heap[g]? = some o)) (hb : Below w1.heap.size w1 w2) (k : w.heap[g]? = some o → w1.heap[g]? = some o := by intro h_; (with_reducible repeat (first | refine blk_drewN ?_ _ | refine blk_drew ?_ | refine blk_alloc ?_ _)); exact h_) : Aside0 (w2.heap[g]? = some o) := Aside0.mk (blk_below (k h.out) hb)
theorem CR {α : Type} {d : Kd α} {e : TypeId} {base : Nat} {ok : Nat → Prop} {A : Option Addr} {c : Nat} {xs : List α} {w w' : World} (h : Aside0 (Kd.R d e w base ok (.slice A xs.length c) xs)) (k : Kd.C d w A xs.length xs → Kd.C d w' A xs.length xs := by intro h_; repeat (first | exact h_ | (with_reducible refine Kd.C_alloc ?_ _) | (with_reducible refine Kd.C_drewN ?_ _) | (with_reducible refine Kd.C_drew ?_))) : Kd.C d w' A xs.length xs := k (Kd.R_reads' h.out).2.2
end Go.Proofs.YtmglknchklgokaaDoorW.PrintWords
