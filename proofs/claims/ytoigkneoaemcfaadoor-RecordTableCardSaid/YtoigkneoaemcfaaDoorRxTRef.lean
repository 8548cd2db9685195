/- The reference's functions on texts, in closed form, called. -/
import Derived.Test.YtoigkneoaemcfaaDoorRxTPlA
import Derived.Test.YtoigkneoaemcfaaDoorRxKw
import Derived.Test.YtoigkneoaemcfaaDoorRxGRx1
namespace Go.Proofs.YtoigkneoaemcfaaDoor.Tab
open Go.RowKit Go.Lib Go.Proofs.YtoigkneoaemcfaaDoorW.PrintWords Go.Proofs.YtoigkneoaemcfaaDoorW.PrintLast Go.Proofs.YtoigkneoaemcfaaDoorW.PrintMore Go.Proofs.YtoigkneoaemcfaaDoor.B Go.Proofs.YtoigkneoaemcfaaDoor.Bd Go.Proofs.YtoigkneoaemcfaaDoor.GR
set_option linter.unusedVariables false
set_option linter.unusedSimpArgs false
theorem wr64 {n : Int} (h : -9223372036854775808 ≤ n) (h2 : n ≤ 9223372036854775807) : wrap64 n = n := by unfold wrap64; omega
theorem text_at {l : List ByteArray} {i : Nat} (h : i < l.length) : l.drop i = rdOf ByteArray.empty l (i : Int) :: l.drop (i + 1) := by
  rw [List.drop_eq_getElem_cons h]
  unfold rdOf
  rw [Int.toNat_natCast, List.getD_eq_getElem?_getD, List.getElem?_eq_getElem h]
  rfl
theorem toList_eq {a b : ByteArray} : (a.toList = b.toList) = (a = b) := by
  rw [eq_iff_iff]
  constructor
  · intro h
    simp only [ByteArray.toList_eq] at h
    cases a; cases b
    simp only [Array.toList_inj] at h
    rw [h]
  · rintro rfl; rfl
/-- A text's place; -1: it isn't there. -/
def findT (l : List ByteArray) (s : ByteArray) : Int := if s ∈ l then (l.idxOf s : Int) else -1
theorem find_l0 (l : List ByteArray) (s : ByteArray) (hl : l.length ≤ 100000000) (k : Nat) : ∀ d i : Nat, i + d = l.length → dioramaref06_Find.l0 (k + d + 1) l s (i : Int) = some (if s ∈ l.drop i then ((i + (l.drop i).idxOf s : Nat) : Int) else -1) := by
  intro d
  induction d with
  | zero =>
    intro i hi
    rw [dioramaref06_Find.l0, if_neg (by omega), List.drop_of_length_le (by omega)]; simp
  | succ d ih =>
    intro i hi
    rw [show k + (d + 1) + 1 = (k + d + 1) + 1 by omega, dioramaref06_Find.l0, if_pos (by omega), if_pos (by omega), text_at (by omega)]
    by_cases he : rdOf ByteArray.empty l (i : Int) = s
    · rw [if_pos (by rw [he]), he, if_pos List.mem_cons_self, List.idxOf_cons_self, Nat.add_zero]
    · rw [if_neg (fun h => he (toList_eq.mp h)), wr64 (by omega) (by omega), show ((i : Int) + 1) = ((i + 1 : Nat) : Int) by omega, ih (i + 1) (by omega)]
      congr 1
      by_cases hm : s ∈ l.drop (i + 1)
      · rw [if_pos hm, if_pos (List.mem_cons_of_mem _ hm), List.idxOf_cons, beq_false_of_ne he, cond_false]
        omega
      · rw [if_neg hm, if_neg (fun h => (List.mem_cons.1 h).elim (fun h2 => he h2.symm) hm)]
theorem find_f (l : List ByteArray) (s : ByteArray) (hl : l.length ≤ 100000000) (k : Nat) (hk : l.length + 1 ≤ k) : dioramaref06_Find.f k l s = some (findT l s) := by
  have := find_l0 l s hl (k - l.length - 1) l.length 0 (by omega)
  rw [show k - l.length - 1 + l.length + 1 = k by omega, List.drop_zero, Nat.zero_add] at this
  exact this
theorem intern_f (l : List ByteArray) (s : ByteArray) (hl : l.length ≤ 100000000) (k : Nat) (hk : l.length + 1 ≤ k) : dioramaref06_Intern.f k l s = some ((intern l s).1, ((intern l s).2 : Int)) := by
  unfold dioramaref06_Intern.f intern
  rw [find_f l s hl k hk, Option.bind_some]
  unfold findT
  by_cases h : s ∈ l
  · rw [if_pos h, if_pos h, if_pos (by omega)]
  · rw [if_neg h, if_neg h, if_neg (by omega)]
    simp only [Option.bind_some, List.length_nil, List.nil_append]
    rw [if_pos (by omega), if_pos (by omega)]
/-- Not more texts, and no greater ones, than are played. -/
def Tame (l : List ByteArray) : Prop := l.length ≤ 200 ∧ ∀ s ∈ l, s.size ≤ 500
instance (l : List ByteArray) : Decidable (Tame l) := inferInstanceAs (Decidable (_ ∧ _))
theorem great_l0 (l : List ByteArray) (hl : l.length ≤ 200) (k : Nat) : ∀ d i : Nat, i + d = l.length → dioramaref06_Great.l0 (k + d + 1) l (i : Int) = some (!decide (∀ s ∈ l.drop i, s.size ≤ 500)) := by
  intro d
  induction d with
  | zero =>
    intro i hi
    rw [dioramaref06_Great.l0, if_neg (by omega), List.drop_of_length_le (by omega)]; simp
  | succ d ih =>
    intro i hi
    rw [show k + (d + 1) + 1 = (k + d + 1) + 1 by omega, dioramaref06_Great.l0, if_pos (by omega), if_pos (by omega), text_at (by omega)]
    by_cases he : ((rdOf ByteArray.empty l (i : Int)).size : Int) > 500
    · rw [if_pos he, decide_eq_false (fun h => by have := h _ List.mem_cons_self; omega)]; rfl
    · rw [if_neg he, wr64 (by omega) (by omega), show ((i : Int) + 1) = ((i + 1 : Nat) : Int) by omega, ih (i + 1) (by omega)]
      congr 2
      rw [decide_eq_decide]
      simp only [List.mem_cons, forall_eq_or_imp]
      exact ⟨fun h => ⟨by omega, h⟩, fun h => h.2⟩
theorem great_calls (A0 : Option Addr) (c0 : Nat) (l : List ByteArray) (w : World) (hr0 : Kd.C Kd.string w A0 l.length l) (hc0 : l.length ≤ c0) :
    Calls Tryd.prog 45 #[.slice A0 l.length c0] w fun e w' => e = .returned (.bool (!decide (Tame l))) ∧ Drawn0 w w' := by
  by_cases h : (l.length : Int) > 200
  · have e : (!decide (Tame l)) = true := by rw [decide_eq_false (fun h2 : Tame l => by have := h2.1; omega)]; rfl
    rw [e]
    exact dioramaref06_Great.calls 0 A0 c0 l _ w hr0 hc0 (by unfold dioramaref06_Great.f; rw [if_pos h])
  · have := great_l0 l (by omega) 0 l.length 0 (by omega)
    have e : (!decide (Tame l)) = (!decide (∀ s ∈ l.drop 0, s.size ≤ 500)) := by
      congr 1
      rw [decide_eq_decide]
      unfold Tame
      simp only [List.drop_zero]
      exact ⟨fun h => h.2, fun h2 => ⟨by omega, h2⟩⟩
    rw [e]
    exact dioramaref06_Great.calls _ A0 c0 l _ w hr0 hc0 (by unfold dioramaref06_Great.f; rw [if_neg h]; exact this)
theorem tame_total {l : List ByteArray} (h : Tame l) : total l ≤ 100000 := by
  have : ∀ l : List ByteArray, (∀ s ∈ l, s.size ≤ 500) → total l ≤ 500 * l.length := by
    intro l
    induction l with
    | nil => intro _; simp [total]
    | cons a l ih =>
      intro hs
      have h1 := ih (fun s hs2 => hs s (List.mem_cons_of_mem _ hs2))
      have h2 := hs a List.mem_cons_self
      rw [total_cons, List.length_cons]
      omega
  have h1 := this l h.2
  have h2 := h.1
  omega
/-- What stays when a call turns some row alone. -/
theorem mv_kept {n : Nat} {w0 w w' : World} {S : Nat → Prop} (h1 : Below n w0 w) (h2 : Below n w0 w') (hk : Kept w w' S) : Mv S w w' :=
  ⟨h2.os.trans h1.os.symm, h2.tape.trans h1.tape.symm, h2.output.trans h1.output.symm, hk.1, hk.2⟩
/-- A row of texts that a call made: its cells may be read. -/
theorem own_reads {w : World} {base : Nat} {v : Value} {l : List ByteArray} (h : w.ownsRow base 9 1 v l.length (l.map Value.string)) : ∃ A c, v = .slice A l.length c ∧ l.length ≤ c ∧ Kd.C Kd.string w A l.length l := Kd.R_reads (Kw.R_of_own (enc := Value.string) (h1 := fun _ => rfl) h)
end Go.Proofs.YtoigkneoaemcfaaDoor.Tab
