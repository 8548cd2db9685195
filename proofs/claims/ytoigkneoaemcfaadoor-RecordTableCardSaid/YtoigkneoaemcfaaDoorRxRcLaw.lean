/- The laws' words of records: nodes that are read, made, copied, compared. -/
import Derived.Test.YtoigkneoaemcfaaDoorRxRcRef
import Derived.Test.YtoigkneoaemcfaaDoorRxRcRGet
import Derived.Test.YtoigkneoaemcfaaDoorRxGRx5
import Derived.Test.YtoigkneoaemcfaaDoorRxGRx6
namespace Go.Proofs.YtoigkneoaemcfaaDoor.Rec
open Go.RowKit Go.Lib Go.Proofs.YtoigkneoaemcfaaDoorW.PrintWords Go.Proofs.YtoigkneoaemcfaaDoorW.PrintLast Go.Proofs.YtoigkneoaemcfaaDoorW.PrintMore Go.Proofs.YtoigkneoaemcfaaDoor.B Go.Proofs.YtoigkneoaemcfaaDoor.Bd Go.Proofs.YtoigkneoaemcfaaDoor.Tab Go.Proofs.YtoigkneoaemcfaaDoor.GR
set_option linter.unusedVariables false
set_option linter.unusedSimpArgs false
/-! ### plain -/
theorem diff_l1 (a : Int) (l1 : List Int) (l2 : List ByteArray) (l3 : List Int) (b : Int) (m1 : List Int) (m3 : List Int) (h2 : l2.length < 8796093022208) : ∀ (d i : Nat), i + d = l2.length → ∀ k, dioramaref08_Diff.l1 (k + d + 1) [] (i : Int) a l1 l2 l3 b m1 l2 m3 = some ([], true) := by
  intro d
  induction d with
  | zero =>
    intro i hi k
    rw [dioramaref08_Diff.l1, if_neg (by omega)]
  | succ d ih =>
    intro i hi k
    rw [show k + (d + 1) + 1 = (k + d + 1) + 1 by omega, dioramaref08_Diff.l1, if_pos (by omega), if_pos (by omega), if_pos (by omega), if_pos rfl, w64 (by omega) (by omega)]
    exact ih (i + 1) (by omega) k
theorem diff_l0 (a : Int) (l1 : List Int) (l2 : List ByteArray) (l3 : List Int) (b : Int) (m3 : List Int) (h1 : l1.length < 8796093022208) (h2 : l2.length < 8796093022208) : ∀ (d i : Nat), i + d = l1.length → ∀ k, dioramaref08_Diff.l0 (k + l2.length + 1 + d + 1) [] (i : Int) a l1 l2 l3 b l1 l2 m3 = some ([], true) := by
  intro d
  induction d with
  | zero =>
    intro i hi k
    rw [dioramaref08_Diff.l0, if_neg (by omega)]
    exact diff_l1 a l1 l2 l3 b l1 m3 h2 l2.length 0 (by omega) k
  | succ d ih =>
    intro i hi k
    rw [show k + l2.length + 1 + (d + 1) + 1 = (k + l2.length + 1 + d + 1) + 1 by omega, dioramaref08_Diff.l0, if_pos (by omega), if_pos (by omega), if_pos (by omega), if_pos rfl, w64 (by omega) (by omega)]
    exact ih (i + 1) (by omega) k
theorem own8_refl (a : Int) (l1 : List Int) (l2 : List ByteArray) (l3 : List Int) (m3 : List Int) (h1 : l1.length < 8796093022208) (h2 : l2.length < 8796093022208) (k : Nat) : dioramaref08_Own.f (k + l2.length + 1 + l1.length + 1 + 1) a l1 l2 l3 a l1 l2 m3 = some true := by
  unfold dioramaref08_Own.f dioramaref08_Diff.f
  rw [if_pos rfl, if_pos rfl, dioramaref08_Diff.j0, if_neg (by simp)]
  have := diff_l0 a l1 l2 l3 a m3 h1 h2 l1.length 0 (by omega) k
  rw [show ((0 : Nat) : Int) = 0 from rfl] at this
  rw [this, Option.bind_some]
  rfl
theorem same8_l0 (a : Int) (l1 : List Int) (l2 : List ByteArray) (l3 : List Int) (h3 : l3.length < 8796093022208) : ∀ (d i : Nat), i + d = l3.length → ∀ k, dioramaref08_Same.l0 (k + d + 1) (i : Int) a l1 l2 l3 a l1 l2 l3 = some true := by
  intro d
  induction d with
  | zero =>
    intro i hi k
    rw [dioramaref08_Same.l0, if_neg (by omega)]
  | succ d ih =>
    intro i hi k
    rw [show k + (d + 1) + 1 = (k + d + 1) + 1 by omega, dioramaref08_Same.l0, if_pos (by omega), if_pos (by omega), if_pos (by omega), if_pos rfl, w64 (by omega) (by omega)]
    exact ih (i + 1) (by omega) k
theorem same8_refl (a : Int) (l1 : List Int) (l2 : List ByteArray) (l3 : List Int) (h1 : l1.length < 8796093022208) (h2 : l2.length < 8796093022208) (h3 : l3.length < 8796093022208) : ∃ K, ∀ k, dioramaref08_Same.f (k + K) a l1 l2 l3 a l1 l2 l3 = some true := by
  refine ⟨l2.length + 1 + l1.length + 1 + 1 + l3.length + 1, fun k => ?_⟩
  have h4 := own8_refl a l1 l2 l3 l3 h1 h2 (k + l3.length + 1)
  rw [show k + l3.length + 1 + l2.length + 1 + l1.length + 1 + 1 = k + (l2.length + 1 + l1.length + 1 + 1 + l3.length + 1) by omega] at h4
  have h5 := same8_l0 a l1 l2 l3 h3 l3.length 0 (by omega) (k + l2.length + 1 + l1.length + 1)
  rw [show k + l2.length + 1 + l1.length + 1 + l3.length + 1 = k + l2.length + 1 + l1.length + l3.length + 2 by omega] at h5
  rw [dioramaref08_Same.f, h4, Option.bind_some, if_pos rfl, show k + (l2.length + 1 + l1.length + 1 + 1 + l3.length + 1) = (k + l2.length + 1 + l1.length + l3.length + 2) + 1 by omega, dioramaref08_Same.j0, if_neg (by simp)]
  exact h5
/-- A node that isn't too great. -/
structure Sm (l1 : List Int) (l2 : List ByteArray) (l3 : List Int) : Prop where
  n1 : l1.length ≤ 100
  n2 : l2.length ≤ 100
  n3 : l3.length ≤ 300
  s2 : ∀ s ∈ l2, s.size ≤ 500
theorem Sm.fit {l1 : List Int} {l2 : List ByteArray} {l3 : List Int} (h : Sm l1 l2 l3) : Fit l1 l2 l3 := ⟨by have := h.n1; omega, by have := h.n2; omega, by have := h.n3; omega, fun s hs => by have := h.s2 s hs; omega⟩
theorem Sm.total {l1 : List Int} {l2 : List ByteArray} {l3 : List Int} (h : Sm l1 l2 l3) : Tab.total l2 ≤ 50000 := by
  have : ∀ l : List ByteArray, (∀ s ∈ l, s.size ≤ 500) → Tab.total l ≤ 500 * l.length := by
    intro l
    induction l with
    | nil => intro _; simp [Tab.total]
    | cons a l ih =>
      intro hs
      have h1 := ih (fun s hs2 => hs s (List.mem_cons_of_mem _ hs2))
      have h2 := hs a List.mem_cons_self
      rw [total_cons, List.length_cons]
      omega
  have h1 := this l2 h.s2
  have h2 := h.n2
  omega
theorem great8_loop (a0 : Int) (l1 : List Int) (l2 : List ByteArray) (l3 : List Int) (h2 : l2.length ≤ 100) : ∀ d i : Nat, i + d = l2.length → ∃ b, (∀ k, dioramaref08_Great.l0 (k + d + 1) (i : Int) a0 l1 l2 l3 = some b) ∧ (b = false → ∀ s ∈ l2.drop i, s.size ≤ 500) := by
  intro d
  induction d with
  | zero =>
    intro i hi
    refine ⟨false, fun k => ?_, fun _ s hs => ?_⟩
    · rw [dioramaref08_Great.l0, if_neg (by omega)]
    · rw [List.drop_of_length_le (by omega)] at hs; cases hs
  | succ d ih =>
    intro i hi
    obtain ⟨b, h, hb⟩ := ih (i + 1) (by omega)
    by_cases hc : ((rdOf ByteArray.empty l2 i).size : Int) > 500
    · refine ⟨true, fun k => ?_, fun h => by cases h⟩
      rw [dioramaref08_Great.l0, if_pos (by omega), if_pos (by omega), if_pos hc]
    · refine ⟨b, fun k => ?_, fun hf s hs => ?_⟩
      · rw [show k + (d + 1) + 1 = (k + d + 1) + 1 by omega, dioramaref08_Great.l0, if_pos (by omega), if_pos (by omega), if_neg hc, w64 (by omega) (by omega)]
        exact h k
      · rw [txt_at (by omega)] at hs
        rcases List.mem_cons.1 hs with rfl | hs
        · omega
        · exact hb hf s hs
theorem great8 (a0 : Int) (l1 : List Int) (l2 : List ByteArray) (l3 : List Int) : ∃ b, (∀ k, dioramaref08_Great.f (k + 103) a0 l1 l2 l3 = some b) ∧ (b = false → Sm l1 l2 l3) := by
  have htrue : ∀ k, dioramaref08_Great.j0 (k + 103) true a0 l1 l2 l3 = some true := fun k => by rw [show k + 103 = (k + 102) + 1 by omega, dioramaref08_Great.j0, if_pos rfl]
  by_cases h1 : (l1.length : Int) > 100
  · refine ⟨true, fun k => ?_, fun h => by cases h⟩
    rw [dioramaref08_Great.f, if_pos h1]; exact htrue k
  · by_cases h2 : (l2.length : Int) > 100
    · refine ⟨true, fun k => ?_, fun h => by cases h⟩
      rw [dioramaref08_Great.f, if_neg h1, if_pos h2]; exact htrue k
    · by_cases h3 : (l3.length : Int) > 300
      · refine ⟨true, fun k => ?_, fun h => by cases h⟩
        rw [dioramaref08_Great.f, if_neg h1, if_neg h2, decide_eq_true h3]; exact htrue k
      · obtain ⟨b, h, hb⟩ := great8_loop a0 l1 l2 l3 (by omega) l2.length 0 (by omega)
        refine ⟨b, fun k => ?_, fun hf => ⟨by omega, by omega, by omega, fun s hs => hb hf s (by simpa using hs)⟩⟩
        rw [dioramaref08_Great.f, if_neg h1, if_neg h2, decide_eq_false h3, show k + 103 = (k + 101 - l2.length + l2.length + 1) + 1 by omega, dioramaref08_Great.j0, if_neg (by simp)]
        exact h _
theorem copy8 (a0 : Int) (l1 : List Int) (l2 : List ByteArray) (l3 : List Int) (h1 : l1.length ≤ 100) (h2 : l2.length ≤ 100) (h3 : l3.length ≤ 300) : dioramaref08_Copy.f a0 l1 l2 l3 = some (a0, l1, l2, l3) := by
  unfold dioramaref08_Copy.f
  first | (rw [if_pos ⟨by omega, by omega, by omega⟩]; done) | (simp only [Option.bind_some, List.length_nil, Nat.zero_add, List.nil_append]; rw [if_pos (by omega), if_pos (by omega), if_pos (by omega)])
/-! ### called -/
section
variable {k : Int} {A1 : Option Addr} {c1 : Nat} {l1 : List Int} {A2 : Option Addr} {c2 : Nat} {l2 : List ByteArray} {A3 : Option Addr} {c3 : Nat} {l3 : List Int}
theorem same_calls8 {B1 : Option Addr} {d1 : Nat} {B2 : Option Addr} {d2 : Nat} {B3 : Option Addr} {d3 : Nat} (w : World) (h : In w A1 c1 l1 A2 c2 l2 A3 c3 l3) (h' : In w B1 d1 l1 B2 d2 l2 B3 d3 l3) (n1 : l1.length ≤ 1000000) (n2 : l2.length ≤ 1000000) (n3 : l3.length ≤ 100000000) :
    Calls Tryd.prog 24 #[.agg #[.int .i64 k, .slice A1 l1.length c1, .slice A2 l2.length c2, .slice A3 l3.length c3], .agg #[.int .i64 k, .slice B1 l1.length d1, .slice B2 l2.length d2, .slice B3 l3.length d3]] w fun e w' => e = .returned (.bool true) ∧ Below w.heap.size w w' := by
  obtain ⟨K, hK⟩ := same8_refl k l1 l2 l3 (by omega) (by omega) (by omega)
  exact dioramaref08_Same.calls (0 + K) k A1 c1 l1 A2 c2 l2 A3 c3 l3 k B1 d1 l1 B2 d2 l2 B3 d3 l3 true w h.r1 h.e1 h.r2 h.e2 h.r3 h.e3 h'.r1 h'.e1 h'.r2 h'.e2 h'.r3 h'.e3 (hK 0)
theorem great_calls8 (k : Int) (l1 : List Int) (l2 : List ByteArray) (l3 : List Int) : ∃ b : Bool, (b = false → Sm l1 l2 l3) ∧ ∀ (w : World) (A1 : Option Addr) (c1 : Nat) (A2 : Option Addr) (c2 : Nat) (A3 : Option Addr) (c3 : Nat), In w A1 c1 l1 A2 c2 l2 A3 c3 l3 →
    Calls Tryd.prog 16 #[.agg #[.int .i64 k, .slice A1 l1.length c1, .slice A2 l2.length c2, .slice A3 l3.length c3]] w fun e w' => e = .returned (.bool b) ∧ Below w.heap.size w w' := by
  obtain ⟨b, hb, hs⟩ := great8 k l1 l2 l3
  exact ⟨b, hs, fun w A1 c1 A2 c2 A3 c3 h => dioramaref08_Great.calls (0 + 103) k A1 c1 l1 A2 c2 l2 A3 c3 l3 b w h.r1 h.e1 h.r2 h.e2 h.r3 h.e3 (hb 0)⟩
theorem copy_calls8 (w : World) (h : In w A1 c1 l1 A2 c2 l2 A3 c3 l3) (hs : Sm l1 l2 l3) :
    Calls Tryd.prog 18 #[.agg #[.int .i64 k, .slice A1 l1.length c1, .slice A2 l2.length c2, .slice A3 l3.length c3]] w fun e w' => ∃ v1 v2 v3, e = .returned (.agg #[.int .i64 k, v1, v2, v3]) ∧ Made w' w.heap.size v1 v2 v3 l1 l2 l3 ∧ Below w.heap.size w w' := by
  refine (dioramaref08_Copy.calls k A1 c1 l1 A2 c2 l2 A3 c3 l3 k l1 l2 l3 w h.r1 h.e1 h.r2 h.e2 h.r3 h.e3 (copy8 k l1 l2 l3 hs.n1 hs.n2 hs.n3)).mono ?_
  rintro e w' ⟨v1, v2, v3, rfl, o1, o2, o3, hb⟩
  exact ⟨v1, v2, v3, rfl, ⟨Kw.own_of_R (enc := i64V) (h1 := fun _ => rfl) o1, Kw.own_of_R (enc := Value.string) (h1 := fun _ => rfl) o2, Kw.own_of_R (enc := i64V) (h1 := fun _ => rfl) o3⟩, hb⟩
end
section
variable {w w' : World} {base : Nat} {v1 v2 v3 : Value} {l1 : List Int} {l2 : List ByteArray} {l3 : List Int}
/-- Blocks that none of its rows is. -/
def Away (F : Nat → Prop) (v1 v2 v3 : Value) : Prop := ∀ k, F k → v1.ownBlock ≠ some k ∧ v2.ownBlock ≠ some k ∧ v3.ownBlock ≠ some k
theorem Made.mv {S : Nat → Prop} (h : Made w base v1 v2 v3 l1 l2 l3) (m : Mv S w w') (hS : Away S v1 v2 v3) : Made w' base v1 v2 v3 l1 l2 l3 :=
  ⟨row_mv h.1 m (fun k hk hs => (hS k hs).1 hk), row_mv h.2.1 m (fun k hk hs => (hS k hs).2.1 hk), row_mv h.2.2 m (fun k hk hs => (hS k hs).2.2 hk)⟩
theorem Made.away {F : Nat → Prop} (h : Made w base v1 v2 v3 l1 l2 l3) (hF : ∀ k, F k → k < base) : Away F v1 v2 v3 := fun k hk =>
  ⟨fun e => by have := (h.1.lt k e).1; have := hF k hk; omega, fun e => by have := (h.2.1.lt k e).1; have := hF k hk; omega, fun e => by have := (h.2.2.lt k e).1; have := hF k hk; omega⟩
theorem Made.fresh {F F' : Nat → Prop} (h : Made w base v1 v2 v3 l1 l2 l3) (ha : Away F v1 v2 v3) (hf : Fresh w.heap.size F F') : Away F' v1 v2 v3 := fun k hk => by
  rcases hf k hk with h1 | h1
  · exact ha k h1
  · exact ⟨fun e => by have := (h.1.lt k e).2; omega, fun e => by have := (h.2.1.lt k e).2; omega, fun e => by have := (h.2.2.lt k e).2; omega⟩
theorem Made.below (h : Made w base v1 v2 v3 l1 l2 l3) (m : Below w.heap.size w w') : Made w' base v1 v2 v3 l1 l2 l3 := h.mv (Mv.of_below (S := nil) m) (fun _ h => h.elim)
/-- Its rows may be read. -/
theorem Made.reads (h : Made w base v1 v2 v3 l1 l2 l3) : ∃ A1 c1 A2 c2 A3 c3, v1 = .slice A1 l1.length c1 ∧ v2 = .slice A2 l2.length c2 ∧ v3 = .slice A3 l3.length c3 ∧ In w A1 c1 l1 A2 c2 l2 A3 c3 l3 := by
  obtain ⟨A1, c1, rfl, h1, r1⟩ := Kd.R_reads (Kw.R_of_own (enc := i64V) (h1 := fun _ => rfl) h.1)
  obtain ⟨A2, c2, rfl, h2, r2⟩ := Kd.R_reads (Kw.R_of_own (enc := Value.string) (h1 := fun _ => rfl) h.2.1)
  obtain ⟨A3, c3, rfl, h3, r3⟩ := Kd.R_reads (Kw.R_of_own (enc := i64V) (h1 := fun _ => rfl) h.2.2)
  exact ⟨A1, c1, A2, c2, A3, c3, rfl, rfl, rfl, ⟨r1, h1, r2, h2, r3, h3⟩⟩
/-- And so they may behind any call that turns other blocks. -/
theorem Made.reads' {A1 : Option Addr} {c1 : Nat} {A2 : Option Addr} {c2 : Nat} {A3 : Option Addr} {c3 : Nat} (h : Made w base (.slice A1 l1.length c1) (.slice A2 l2.length c2) (.slice A3 l3.length c3) l1 l2 l3) : In w A1 c1 l1 A2 c2 l2 A3 c3 l3 := by
  obtain ⟨_, _, _, _, _, _, e1, e2, e3, h⟩ := h.reads
  cases e1; cases e2; cases e3
  exact h
end
section
variable {w0 w w' : World} {F : Nat → Prop} {p : Nat} {L : List ByteArray}
/-- A node that a law may read all along: it came in, or was made behind the table. -/
def Stays (w0 w : World) (F : Nat → Prop) (A1 : Option Addr) (c1 : Nat) (l1 : List Int) (A2 : Option Addr) (c2 : Nat) (l2 : List ByteArray) (A3 : Option Addr) (c3 : Nat) (l3 : List Int) : Prop := ∀ w', Mv F w w' → In w' A1 c1 l1 A2 c2 l2 A3 c3 l3
theorem has_turned (h : Has w0 w F p L) (m : Mv F w w') : Below w0.heap.size w0 w' := ((Mv.of_below (S := F) h.1).trans m (fun k hk => .inl hk)).below h.2.2
section
variable {A1 : Option Addr} {c1 : Nat} {l1 : List Int} {A2 : Option Addr} {c2 : Nat} {l2 : List ByteArray} {A3 : Option Addr} {c3 : Nat} {l3 : List Int}
theorem stays_made {base : Nat} (hm : Made w base (.slice A1 l1.length c1) (.slice A2 l2.length c2) (.slice A3 l3.length c3) l1 l2 l3) (hF : Away F (.slice A1 l1.length c1) (.slice A2 l2.length c2) (.slice A3 l3.length c3)) : Stays w0 w F A1 c1 l1 A2 c2 l2 A3 c3 l3 := fun w' m => (hm.mv m hF).reads'
/-- A record is put. -/
theorem has_rput (h : Has w0 w F p L) (k at' : Int) (ht : ∀ w', Below w0.heap.size w0 w' → Lib.Utf8Tabs 0 1 w') (hn : Stays w0 w F A1 c1 l1 A2 c2 l2 A3 c3 l3) (hf : Fit l1 l2 l3) (hi1 : I64 l1) (hi3 : I64 l3) (hat : -9223372036854775808 ≤ at' ∧ at' ≤ 9223372036854775807) (hL : L.length ≤ 1000000) (htot : total L ≤ 1000000000000) :
    Calls Tryd.prog 17 #[.agg #[.int .i64 k, .slice A1 l1.length c1, .slice A2 l2.length c2, .slice A3 l3.length c3], .int .i64 at', .pointer (some ⟨p, 0, none⟩)] w fun e w' => e = .returned (.tuple #[.string (putR k l1 l2 l3 at' L).1, .int .i64 (putR k l1 l2 l3 at' L).2.2]) ∧ ∃ F', Has w0 w' F' p (putR k l1 l2 l3 at' L).2.1 ∧ Mv F w w' ∧ Fresh w.heap.size F F' := by
  refine (recput_calls F p L k at' A1 c1 l1 A2 c2 l2 A3 c3 l3 w h.2.1 (fun w' m => ht w' (has_turned h m)) hn hf hi1 hi3 hat hL htot).mono ?_
  rintro e w' ⟨rfl, F', h1, h2, h3⟩
  refine ⟨rfl, F', ⟨has_turned h h2, h1, fun k hk => ?_⟩, h2, h3⟩
  rcases h3 k hk with h4 | h4
  · exact h.2.2 k h4
  · exact Nat.le_trans h.1.size h4
/-- A record is got. -/
theorem has_rget (h : Has w0 w F p L) {g : Nat} {c : Cur.Cur} (at' edges : Int) (hC : Cur.IsC w g c) (hok : c.ok) (hg : ¬ F g) (hg0 : w0.heap.size ≤ g) (he : edges ≤ 9223372036854775807) (hat : -9223372036854775808 ≤ at' ∧ at' ≤ 9223372036854775807) :
    Calls Tryd.prog 22 #[.pointer (some ⟨g, 0, none⟩), .int .i64 at', .pointer (some ⟨p, 0, none⟩), .int .i64 edges] w fun e w' => ∃ v1 v2 v3, e = .returned (.agg #[.int .i64 (getR at' edges L c).2.1, v1, v2, v3]) ∧ Cur.IsC w' g (getR at' edges L c).1 ∧ (getR at' edges L c).1.ok ∧ Made w' w.heap.size v1 v2 v3 (getR at' edges L c).2.2.1 (getR at' edges L c).2.2.2.1 (getR at' edges L c).2.2.2.2 ∧ Mv (one g) w w' ∧ Has w0 w' F p L := by
  refine (recget_calls F g p L c at' edges w hC hok h.2.1 hg he hat).mono ?_
  rintro e w' ⟨v1, v2, v3, rfl, h1, h2, h3, h4⟩
  exact ⟨v1, v2, v3, rfl, h1, h2, h3, h4, h.apart h4 (fun k hk => by obtain rfl : k = g := hk; exact hg0) (fun k hk e => hg (by have e2 : k = g := e; rwa [← e2]))⟩
end
end
end Go.Proofs.YtoigkneoaemcfaaDoor.Rec
