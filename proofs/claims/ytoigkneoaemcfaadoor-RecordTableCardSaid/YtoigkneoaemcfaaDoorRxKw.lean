/- Words beside the printed ones: rows of scalars. -/
import Derived.Test.YtoigkneoaemcfaaDoorRxWAll
import Derived.Lib.OthersKept
import Derived.Lib.Hide
import Derived.Lib.SliceRun
import Derived.LoopTactic
import Derived.WalkKit
import Derived.Laws.AppendOwn
namespace Go.Proofs.YtoigkneoaemcfaaDoor.Kw
open Go.RowKit Go.Lib Go.Proofs.YtoigkneoaemcfaaDoorW.PrintWords Go.Proofs.YtoigkneoaemcfaaDoorW.PrintLast Go.Proofs.YtoigkneoaemcfaaDoorW.PrintMore
set_option linter.unusedVariables false
set_option linter.unusedSimpArgs false
theorem reps_map {α : Type} (R : α → List Value → Prop) (enc : α → Value) (h : ∀ c, R c [enc c]) : ∀ l : List α, Reps R 1 l (l.map enc)
  | [] => Reps.none _ _
  | c :: l => Reps.one (h c) (reps_map R enc h l)
theorem R_of_own {α : Type} {enc : α → Value} {h1 : ∀ x, (enc x).oneCell' = true} {w : World} {base : Nat} {v : Value} {e : Nat} {l : List α} (h : w.ownsRow base e 1 v l.length (l.map enc)) : Kd.R (Kd.scalar enc h1) e w base (fun _ => True) v l :=
  ⟨fun _ _ => trivial, l.map enc, h, reps_map ((Kd.scalar enc h1).M w base _) enc (fun _ => rfl) l⟩
theorem own_of_R {α : Type} {enc : α → Value} {h1 : ∀ x, (enc x).oneCell' = true} {w : World} {base : Nat} {ok : Nat → Prop} {v : Value} {e : Nat} {l : List α} (h : Kd.R (Kd.scalar enc h1) e w base ok v l) : w.ownsRow base e 1 v l.length (l.map enc) := by
  obtain ⟨_, inner, ho, hr⟩ := h
  have he : inner = l.map enc := by
    apply List.ext_getElem?
    intro j
    by_cases hj : j < l.length
    · have := hr.2 j _ (List.getElem?_eq_getElem hj)
      have h2 : (inner.drop (j * 1)).take 1 = [enc l[j]] := this
      rw [Nat.mul_one] at h2
      have h3 : ((inner.drop j).take 1)[0]? = some (enc l[j]) := by rw [h2]; rfl
      rw [List.getElem?_take] at h3
      simp at h3
      rw [h3, List.getElem?_map, List.getElem?_eq_getElem hj]
      rfl
    · have hl : inner.length = l.length := by have := hr.1; rw [show (Kd.scalar enc h1).sz = 1 from rfl] at this; omega
      rw [List.getElem?_eq_none (by omega), List.getElem?_eq_none (by rw [List.length_map]; omega)]
  rw [← he]
  exact ho
end Go.Proofs.YtoigkneoaemcfaaDoor.Kw
namespace Go.Proofs.YtoigkneoaemcfaaDoorW.PrintWords.Kd
open Go.Proofs.YtoigkneoaemcfaaDoorW.PrintWords Go.Proofs.YtoigkneoaemcfaaDoorW.PrintMore
end Go.Proofs.YtoigkneoaemcfaaDoorW.PrintWords.Kd
namespace Go.Proofs.YtoigkneoaemcfaaDoorW.PrintWords
open Go.RowKit Go.Proofs.YtoigkneoaemcfaaDoorW.PrintLast Go.Proofs.YtoigkneoaemcfaaDoorW.PrintMore
/-- What printed texts say often, once: what was made is below; a block is as it was. -/
theorem BB {b : Nat} {w0 w w' : World} (h : Aside0 (Below b w0 w)) (k : Below b w0 w → Below b w0 w' := by intro h_; repeat (first | (with_reducible first | exact h_ | apply below_alloc | apply pw_below_drewN | apply below_drew1 | refine below_set ?_ (Aside0.out (by assumption))) | exact h_)) : Below b w0 w' := k h.out
theorem BL {g : Nat} {o : Obj} {w w' : World} (h : Aside0 (w.heap[g]? = some o)) (k : w.heap[g]? = some o → w'.heap[g]? = some o := by intro h_; (with_reducible repeat (first | refine blk_drewN ?_ _ | refine blk_drew ?_ | refine blk_alloc ?_ _)); exact h_) : w'.heap[g]? = some o := k h.out
theorem RL {α : Type} {d : Kd α} {e : TypeId} {base : Nat} {ok : Nat → Prop} {v : Value} {xs : List α} {w w' : World} (h : Aside0 (Kd.R d e w base ok v xs)) (k : Kd.R d e w base ok v xs → Kd.R d e w' base ok v xs := by intro h_; (with_reducible repeat (first | apply Kd.R_alloc | apply Kd.R_drewN | apply Kd.R_drew)); exact h_) : Kd.R d e w' base ok v xs := k h.out
theorem BE {g : Nat} {o : Obj} {w w1 w2 : World} (h : Aside0 (w.heap[g]? = some o)) (hb : Below w1.heap.size w1 w2) (k : w.heap[g]? = some o → w1.heap[g]? = some o := by intro h_; (with_reducible repeat (first | refine blk_drewN ?_ _ | refine blk_drew ?_ | refine blk_alloc ?_ _)); exact h_) : Aside0 (w2.heap[g]? = some o) := Aside0.mk (blk_below (k h.out) hb)
theorem CR {α : Type} {d : Kd α} {e : TypeId} {base : Nat} {ok : Nat → Prop} {A : Option Addr} {c : Nat} {xs : List α} {w w' : World} (h : Aside0 (Kd.R d e w base ok (.slice A xs.length c) xs)) (k : Kd.C d w A xs.length xs → Kd.C d w' A xs.length xs := by intro h_; repeat (first | exact h_ | (with_reducible refine Kd.C_alloc ?_ _) | (with_reducible refine Kd.C_drewN ?_ _) | (with_reducible refine Kd.C_drew ?_))) : Kd.C d w' A xs.length xs := k (Kd.R_reads' h.out).2.2
end Go.Proofs.YtoigkneoaemcfaaDoorW.PrintWords
