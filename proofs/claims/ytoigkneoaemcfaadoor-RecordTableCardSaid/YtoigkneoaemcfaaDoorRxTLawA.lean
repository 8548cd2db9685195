/- A table that a law made, called. -/
import Derived.Test.YtoigkneoaemcfaaDoorRxTRef
import Derived.Test.YtoigkneoaemcfaaDoorRxGRx1
namespace Go.Proofs.YtoigkneoaemcfaaDoor.Tab
open Go.RowKit Go.Lib Go.Proofs.YtoigkneoaemcfaaDoorW.PrintWords Go.Proofs.YtoigkneoaemcfaaDoorW.PrintLast Go.Proofs.YtoigkneoaemcfaaDoorW.PrintMore Go.Proofs.YtoigkneoaemcfaaDoor.B Go.Proofs.YtoigkneoaemcfaaDoor.Bd Go.Proofs.YtoigkneoaemcfaaDoor.GR
set_option linter.unusedVariables false
set_option linter.unusedSimpArgs false
/-- A table that was made since the world w0, and all since then. -/
def Has (w0 w : World) (F : Nat → Prop) (p : Nat) (l : List ByteArray) : Prop := Below w0.heap.size w0 w ∧ IsTab w F p l ∧ ∀ k, F k → w0.heap.size ≤ k
section
variable {w0 w w' : World} {F : Nat → Prop} {p : Nat} {l : List ByteArray}
theorem Has.bel (h : Has w0 w F p l) : Below w0.heap.size w0 w := h.1
theorem Has.below (h : Has w0 w F p l) (m : Below w.heap.size w w') : Has w0 w' F p l := ⟨below_step h.1 m, h.2.1.below m, h.2.2⟩
theorem Has.drawn (h : Has w0 w F p l) (m : Drawn0 w w') : Has w0 w' F p l := h.below m.below
/-- Another's blocks were turned. -/
theorem Has.apart {S : Nat → Prop} (h : Has w0 w F p l) (m : Mv S w w') (hS : ∀ k, S k → w0.heap.size ≤ k) (ha : ∀ k, F k → ¬ S k) : Has w0 w' F p l :=
  ⟨((Mv.of_below (S := S) h.1).step m).below hS, h.2.1.mv m ha, h.2.2⟩
theorem Has.lt (h : Has w0 w F p l) : ∀ k, F k → k < w.heap.size := h.2.1.lt
theorem Has.new (hb : Below w0.heap.size w0 w) : Calls Tryd.prog 38 #[] w fun e w' => ∃ p F, e = .returned (.pointer (some ⟨p, 0, none⟩)) ∧ Has w0 w' F p [] ∧ (∀ k, F k → w.heap.size ≤ k) ∧ Below w.heap.size w w' := by
  refine (new_calls w).mono ?_
  rintro e w' ⟨p, F, rfl, h1, h2, h3⟩
  exact ⟨p, F, rfl, ⟨below_step hb h3, h1, fun k hk => Nat.le_trans hb.size (h2 k hk)⟩, h2, h3⟩
theorem Has.intern (h : Has w0 w F p l) (s : ByteArray) (hs : s.size ≤ 1000000000) (hl : l.length ≤ 100000000) (ht : total l ≤ 1000000000000000) :
    Calls Tryd.prog 46 #[.pointer (some ⟨p, 0, none⟩), .string s] w fun e w' => e = .returned (.int .i64 ((Tab.intern l s).2 : Int)) ∧ ∃ F', Has w0 w' F' p (Tab.intern l s).1 ∧ Mv F w w' ∧ Fresh w.heap.size F F' := by
  refine (intern_calls F p l s w h.2.1 hs hl ht).mono ?_
  rintro e w' ⟨rfl, F', h1, h2, h3⟩
  refine ⟨rfl, F', ⟨((Mv.of_below (S := F) h.1).step h2).below h.2.2, h1, fun k hk => ?_⟩, h2, h3⟩
  rcases h3 k hk with h4 | h4
  · exact h.2.2 k h4
  · exact Nat.le_trans h.1.size h4
theorem Has.len (h : Has w0 w F p l) : Calls Tryd.prog 27 #[.pointer (some ⟨p, 0, none⟩)] w fun e w' => e = .returned (.int .i64 (l.length : Int)) ∧ w = w' := len_calls F p l w h.2.1
theorem Has.at (h : Has w0 w F p l) (i : Int) : Calls Tryd.prog 55 #[.pointer (some ⟨p, 0, none⟩), .int .i64 i] w fun e w' => e = .returned (.tuple #[.string (atT l i).1, .bool (atT l i).2]) ∧ w = w' := at_calls F p l i w h.2.1
theorem Has.put (h : Has w0 w F p l) (hl : l.length ≤ 1000000) (ht : total l ≤ 1000000000) :
    Calls Tryd.prog 41 #[.pointer (some ⟨p, 0, none⟩)] w fun e w' => e = .returned (.string (tabB l)) ∧ Has w0 w' F p l ∧ Below w.heap.size w w' := by
  refine (put_calls F p l w h.2.1 hl ht).mono ?_
  rintro e w' ⟨rfl, h1⟩
  exact ⟨rfl, h.below h1, h1⟩
/-- A row of texts that was made since, apart from the table. -/
def Texts (w0 w : World) (F : Nat → Prop) (v : Value) (l : List ByteArray) : Prop := w.ownsRow w0.heap.size 9 1 v l.length (l.map Value.string) ∧ ∀ k, v.ownBlock = some k → ¬ F k
theorem Texts.below {v : Value} (h : Texts w0 w F v l) (m : Below w.heap.size w w') : Texts w0 w' F v l := ⟨row_mv h.1 (Mv.of_below (S := nil) m) (fun _ _ h => h), h.2⟩
theorem Texts.interned {F' : Nat → Prop} {v : Value} (h : Texts w0 w F v l) (m : Mv F w w') (f : Fresh w.heap.size F F') : Texts w0 w' F' v l :=
  ⟨row_mv h.1 m h.2, fun k hk hf => by
    rcases f k hf with h1 | h1
    · exact h.2 k hk h1
    · have := row_lt h.1 hk; omega⟩
theorem Texts.reads {v : Value} (h : Texts w0 w F v l) : ∃ A c, v = .slice A l.length c ∧ l.length ≤ c ∧ Kd.C Kd.string w A l.length l := own_reads h.1
theorem Texts.nil (F : Nat → Prop) (w0 w : World) : Texts w0 w F (.slice none 0 0) [] := ⟨World.ownsRow_nil _ _ _ _, fun k hk => by simp [Value.ownBlock] at hk⟩
/-- The reference's Intern, beside a table. -/
theorem Texts.rintern {v : Value} {m : List ByteArray} (hH : Has w0 w F p m) (h : Texts w0 w F v l) (s : ByteArray) (hl : l.length ≤ 100000000) :
    Calls Tryd.prog 47 #[v, .string s] w fun e w' => ∃ v', e = .returned (.tuple #[v', .int .i64 ((Tab.intern l s).2 : Int)]) ∧ Texts w0 w' F v' (Tab.intern l s).1 ∧ Has w0 w' F p m := by
  have hlt := hH.lt
  have hR : Kd.R Kd.string 9 w w0.heap.size (fun k => v.ownBlock = some k) v l := by
    have := Kw.R_of_own (enc := Value.string) (h1 := fun _ => rfl) h.1
    exact ⟨fun k hk => hk, this.2.imp_ (fun _ _ hp => hp)⟩
  refine (dioramaref06_Intern.calls _ (fun k => v.ownBlock = some k) v l s _ _ w0 w hH.1 hR (intern_f l s hl (l.length + 1) (Nat.le_refl _))).mono ?_
  rintro e w' ⟨v', rfl, hR', hB, hK⟩
  have hm := mv_kept hH.1 hB hK
  refine ⟨v', rfl, ⟨Kw.own_of_R (enc := Value.string) (h1 := fun _ => rfl) hR', fun k hk hf => ?_⟩, hB, hH.2.1.mv hm (fun k hk hs => h.2 k hs hk), hH.2.2⟩
  rcases hR'.1 k hk with h1 | h1
  · exact h.2 k h1 hf
  · have := hlt k hf; omega
end
end Go.Proofs.YtoigkneoaemcfaaDoor.Tab
