/- A table that a law made, called: the laws' words. -/
import Derived.Test.YtmglknchklgokaaDoorTRef
import Derived.Test.YtmglknchklgokaaDoorTAll
import Derived.Test.YtmglknchklgokaaDoorGSx1
namespace Go.Proofs.YtmglknchklgokaaDoor.Tab
open Go.RowKit Go.Lib Go.Proofs.YtmglknchklgokaaDoorW.PrintWords Go.Proofs.YtmglknchklgokaaDoorW.PrintLast Go.Proofs.YtmglknchklgokaaDoorW.PrintMore Go.Proofs.YtmglknchklgokaaDoor.B Go.Proofs.YtmglknchklgokaaDoor.Bd Go.Proofs.YtmglknchklgokaaDoor.GS
set_option linter.unusedVariables false
set_option linter.unusedSimpArgs false
/-- A table that was made since the world w0, and all since then. -/
def Has (w0 w : World) (F : Nat → Prop) (p : Nat) (l : List ByteArray) : Prop := Below w0.heap.size w0 w ∧ IsTab w F p l ∧ ∀ k, F k → w0.heap.size ≤ k
section
variable {w0 w w' : World} {F : Nat → Prop} {p : Nat} {l : List ByteArray}
theorem Has.bel (h : Has w0 w F p l) : Below w0.heap.size w0 w := h.1
theorem Has.below (h : Has w0 w F p l) (m : Below w.heap.size w w') : Has w0 w' F p l := ⟨below_step h.1 m, h.2.1.below m, h.2.2⟩
theorem Has.drawn (h : Has w0 w F p l) (m : Drawn0 w w') : Has w0 w' F p l := h.below m.below
/-- Another's blocks were turned. -/
theorem Has.apart {S : Nat → Prop} (h : Has w0 w F p l) (m : Mv S w w') (hS : ∀ k, S k → w0.heap.size ≤ k) (ha : ∀ k, F k → ¬ S k) : Has w0 w' F p l :=
  ⟨((Mv.of_below (S := S) h.1).step m).below hS, h.2.1.mv m ha, h.2.2⟩
theorem Has.lt (h : Has w0 w F p l) : ∀ k, F k → k < w.heap.size := h.2.1.lt
theorem Has.new (hb : Below w0.heap.size w0 w) : Calls Tryd.prog 28 #[] w fun e w' => ∃ p F, e = .returned (.pointer (some ⟨p, 0, none⟩)) ∧ Has w0 w' F p [] ∧ (∀ k, F k → w.heap.size ≤ k) ∧ Below w.heap.size w w' := by
  refine (new_calls w).mono ?_
  rintro e w' ⟨p, F, rfl, h1, h2, h3⟩
  exact ⟨p, F, rfl, ⟨below_step hb h3, h1, fun k hk => Nat.le_trans hb.size (h2 k hk)⟩, h2, h3⟩
theorem Has.intern (h : Has w0 w F p l) (s : ByteArray) (hs : s.size ≤ 1000000000) (hl : l.length ≤ 100000000) (ht : total l ≤ 1000000000000000) :
    Calls Tryd.prog 30 #[.pointer (some ⟨p, 0, none⟩), .string s] w fun e w' => e = .returned (.int .i64 ((Tab.intern l s).2 : Int)) ∧ ∃ F', Has w0 w' F' p (Tab.intern l s).1 ∧ Mv F w w' ∧ Fresh w.heap.size F F' := by
  refine (intern_calls F p l s w h.2.1 hs hl ht).mono ?_
  rintro e w' ⟨rfl, F', h1, h2, h3⟩
  refine ⟨rfl, F', ⟨((Mv.of_below (S := F) h.1).step h2).below h.2.2, h1, fun k hk => ?_⟩, h2, h3⟩
  rcases h3 k hk with h4 | h4
  · exact h.2.2 k h4
  · exact Nat.le_trans h.1.size h4
theorem Has.len (h : Has w0 w F p l) : Calls Tryd.prog 32 #[.pointer (some ⟨p, 0, none⟩)] w fun e w' => e = .returned (.int .i64 (l.length : Int)) ∧ w = w' := len_calls F p l w h.2.1
theorem Has.bytes (h : Has w0 w F p l) : Calls Tryd.prog 33 #[.pointer (some ⟨p, 0, none⟩)] w fun e w' => e = .returned (.int .i64 (total l : Int)) ∧ w = w' := bytes_calls F p l w h.2.1
theorem Has.at (h : Has w0 w F p l) (i : Int) : Calls Tryd.prog 31 #[.pointer (some ⟨p, 0, none⟩), .int .i64 i] w fun e w' => e = .returned (.tuple #[.string (atT l i).1, .bool (atT l i).2]) ∧ w = w' := at_calls F p l i w h.2.1
theorem Has.put (h : Has w0 w F p l) (hl : l.length ≤ 1000000) (ht : total l ≤ 1000000000) :
    Calls Tryd.prog 37 #[.pointer (some ⟨p, 0, none⟩)] w fun e w' => e = .returned (.string (tabB l)) ∧ Has w0 w' F p l ∧ Below w.heap.size w w' := by
  refine (put_calls F p l w h.2.1 hl ht).mono ?_
  rintro e w' ⟨rfl, h1⟩
  exact ⟨rfl, h.below h1, h1⟩
/-- A row of texts that was made since, apart from the table. -/
def Texts (w0 w : World) (F : Nat → Prop) (v : Value) (l : List ByteArray) : Prop := w.ownsRow w0.heap.size 9 1 v l.length (l.map Value.string) ∧ ∀ k, v.ownBlock = some k → ¬ F k
theorem Texts.below {v : Value} (h : Texts w0 w F v l) (m : Below w.heap.size w w') : Texts w0 w' F v l := ⟨row_mv h.1 (Mv.of_below (S := nil) m) (fun _ _ h => h), h.2⟩
theorem Texts.interned {F' : Nat → Prop} {v : Value} (h : Texts w0 w F v l) (m : Mv F w w') (f : Fresh w.heap.size F F') : Texts w0 w' F' v l :=
  ⟨row_mv h.1 m h.2, fun k hk hf => by
    rcases f k hf with h1 | h1
    · exact h.2 k hk h1
    · have := row_lt h.1 hk; omega⟩
theorem Texts.reads {v : Value} (h : Texts w0 w F v l) : ∃ A c, v = .slice A l.length c ∧ l.length ≤ c ∧ Kd.C Kd.string w A l.length l := own_reads h.1
theorem Texts.nil (F : Nat → Prop) (w0 w : World) : Texts w0 w F (.slice none 0 0) [] := ⟨World.ownsRow_nil _ _ _ _, fun k hk => by simp [Value.ownBlock] at hk⟩
/-- The reference's Intern, beside a table. -/
theorem Texts.rintern {v : Value} {m : List ByteArray} (hH : Has w0 w F p m) (h : Texts w0 w F v l) (s : ByteArray) (hl : l.length ≤ 100000000) :
    Calls Tryd.prog 29 #[v, .string s] w fun e w' => ∃ v', e = .returned (.tuple #[v', .int .i64 ((Tab.intern l s).2 : Int)]) ∧ Texts w0 w' F v' (Tab.intern l s).1 ∧ Has w0 w' F p m := by
  have hlt := hH.lt
  have hR : Kd.R Kd.string 9 w w0.heap.size (fun k => v.ownBlock = some k) v l := by
    have := Kw.R_of_own (enc := Value.string) (h1 := fun _ => rfl) h.1
    exact ⟨fun k hk => hk, this.2.imp_ (fun _ _ hp => hp)⟩
  refine (dioramaref06_Intern.calls _ (fun k => v.ownBlock = some k) v l s _ _ w0 w hH.1 hR (intern_f l s hl (l.length + 1) (Nat.le_refl _))).mono ?_
  rintro e w' ⟨v', rfl, hR', hB, hK⟩
  have hm := mv_kept hH.1 hB hK
  refine ⟨v', rfl, ⟨Kw.own_of_R (enc := Value.string) (h1 := fun _ => rfl) hR', fun k hk hf => ?_⟩, hB, hH.2.1.mv hm (fun k hk hs => h.2 k hs hk), hH.2.2⟩
  rcases hR'.1 k hk with h1 | h1
  · exact h.2 k h1 hf
  · have := hlt k hf; omega
/-- All its texts, one behind the other. -/
theorem Has.all (h : Has w0 w F p l) (hl : l.length ≤ 5000) : Calls Tryd.prog 36 #[.pointer (some ⟨p, 0, none⟩)] w fun e w' => ∃ A c, e = .returned (.slice A l.length c) ∧ l.length ≤ c ∧ Kd.C Kd.string w' A l.length l ∧ Below w.heap.size w w' := by
  refine (all_calls F p l w h.2.1 hl).mono ?_
  rintro e w' ⟨v, rfl, ho, hb⟩
  obtain ⟨A, c, rfl, h1, h2⟩ := own_reads ho
  exact ⟨A, c, rfl, h1, h2, hb⟩
end
/-- strtab.Get, told from a law's world. -/
theorem law_get {w0 w : World} (hb0 : Below w0.heap.size w0 w) (b : ByteArray) (texts bytes : Int) (ht : ∀ w', Below w0.heap.size w0 w' → Lib.Utf8Tabs 0 1 w') (hb : b.size ≤ 1000000) (t0 : -9223372036854775808 ≤ texts) (t1 : texts ≤ 9223372036854775807) (b0 : -9223372036854775808 ≤ bytes) (b1 : bytes ≤ 9223372036854775807)
    {q : Int} {l : List ByteArray} (hE : getE badS b texts bytes = (q, l)) :
    Calls Tryd.prog 39 #[.string b, .int .i64 texts, .int .i64 bytes] w fun e w' => Below w.heap.size w w' ∧ (q = 0 → ∃ p F, e = .returned (.tuple #[.pointer (some ⟨p, 0, none⟩), .int .i64 0]) ∧ Has w0 w' F p l ∧ ∀ k, F k → w.heap.size ≤ k) ∧ (q ≠ 0 → e = .returned (.tuple #[.pointer none, .int .i64 q])) := by
  refine (get_calls badS bad_calls b texts bytes w (fun w' hb => ht w' (below_step hb0 hb)) hb t0 t1 b0 b1).mono ?_
  rintro e w' ⟨h1, h2⟩
  rw [hE] at h2
  refine ⟨h1, fun h => ?_, fun h => ?_⟩
  · rw [if_pos h] at h2
    obtain ⟨p, F, rfl, h3, h4⟩ := h2
    exact ⟨p, F, rfl, ⟨below_step hb0 h1, h3, fun k hk => Nat.le_trans hb0.size (h4 k hk)⟩, h4⟩
  · rw [if_neg h] at h2
    exact h2
/-! ### awake -/
def sA : ByteArray := ⟨#[97]⟩
def sB : ByteArray := ⟨#[98]⟩
theorem aw_in1 : intern [] sA = ([sA], 0) := by decide +kernel
theorem aw_in2 : intern [sA] sB = ([sA, sB], 1) := by decide +kernel
theorem aw_in3 : intern [sA, sB] sA = ([sA, sB], 0) := by decide +kernel
theorem aw_get1 : getE badS ⟨#[2, 1, 97, 1, 98]⟩ 9 9 = (0, [sA, sB]) := by decide +kernel
theorem aw_get2 : getE badS ⟨#[2, 1, 97, 1, 97]⟩ 9 9 = (17, [sA]) := by decide +kernel
theorem aw_put : tabB [sA, sB] = ⟨#[2, 1, 97, 1, 98]⟩ := by decide +kernel
theorem aw_at : atT [sA, sB] 1 = (⟨#[98]⟩, true) := by decide +kernel
set_option maxHeartbeats 4000000 in
set_option maxRecDepth 100000 in
theorem awake_calls (w : World) (ht : ∀ w', Below w.heap.size w w' → Lib.Utf8Tabs 0 1 w') :
    Calls Tryd.prog 26 #[] w fun e w' => e = .returned (.bool true) ∧ Below w.heap.size w w' := by
  have HT := Lib.hid ht
  clear ht
  go_enter Tryd.func26, Tryd.ntmps26
  go_wp2_with (fail)
  refine (Has.new (Below.refl _ w)).mono ?_
  rintro e w1 ⟨p, F1, rfl, h1, _, _⟩
  have H1 := Lib.hid h1
  clear h1
  go_wp2_with (fail)
  refine (H1.out.intern sA (by decide) (by decide) (by decide)).mono ?_
  rw [aw_in1]
  rintro e w2 ⟨rfl, F2, h2, _, _⟩
  have H2 := Lib.hid h2
  clear h2
  go_wp2_with (fail)
  refine (H2.out.intern sB (by decide) (by decide) (by decide)).mono ?_
  rw [aw_in2]
  rintro e w3 ⟨rfl, F3, h3, _, _⟩
  have H3 := Lib.hid h3
  clear h3
  go_wp2_with (fail)
  refine (H3.out.intern sA (by decide) (by decide) (by decide)).mono ?_
  rw [aw_in3]
  rintro e w4 ⟨rfl, F4, h4, _, _⟩
  have H4 := Lib.hid h4
  clear h4
  go_wp2_with (fail)
  refine (law_get H4.out.bel ⟨#[2, 1, 97, 1, 98]⟩ 9 9 HT.out (by decide) (by omega) (by omega) (by omega) (by omega) aw_get1).mono ?_
  rintro e w5 ⟨hb5, h5, _⟩
  obtain ⟨u, G, rfl, h5, _⟩ := h5 rfl
  have H5 := Lib.hid h5
  have K5 := Lib.hid (H4.out.below hb5)
  clear h5 hb5
  go_wp2_with (fail)
  refine (law_get H5.out.bel ⟨#[2, 1, 97, 1, 97]⟩ 9 9 HT.out (by decide) (by omega) (by omega) (by omega) (by omega) aw_get2).mono ?_
  rintro e w6 ⟨hb6, _, h6⟩
  obtain rfl := h6 (by decide)
  have H6 := Lib.hid (H5.out.below hb6)
  have K6 := Lib.hid (K5.out.below hb6)
  clear h6 hb6
  go_wp2_with (fail)
  refine (H6.out.at 1).mono ?_
  rw [aw_at]
  rintro e w7 ⟨rfl, rfl⟩
  go_wp2_with (fail)
  refine K6.out.len.mono ?_
  rintro e w7 ⟨rfl, rfl⟩
  go_wp2_with (fail)
  refine K6.out.bytes.mono ?_
  rintro e w7 ⟨rfl, rfl⟩
  go_wp2_with (fail)
  refine (K6.out.put (by decide) (by decide)).mono ?_
  rw [aw_put]
  rintro e w7 ⟨rfl, h7, _⟩
  have H7 := Lib.hid h7.bel
  clear h7
  go_wp2_with (fail)
  go_ret
  exact ⟨rfl, H7.out⟩
end Go.Proofs.YtmglknchklgokaaDoor.Tab
