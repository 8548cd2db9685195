/- What a cursor does, as plain functions: for every text, place and error. -/
import Derived.Test.YtoigkneoaemcfaaDoorRxBase
import Derived.Test.YtoigkneoaemcfaaDoorRxVarM
namespace Go.Proofs.YtoigkneoaemcfaaDoor.Cur
open Go.RowKit Go.Proofs.YtoigkneoaemcfaaDoorW.PrintWords Go.Proofs.YtoigkneoaemcfaaDoorW.PrintLast Go.Proofs.YtoigkneoaemcfaaDoorW.PrintMore Go.Proofs.YtoigkneoaemcfaaDoor.VM Go.Proofs.YtoigkneoaemcfaaDoor.B
/-- A text's bytes, as numbers. -/
def bl (b : ByteArray) : List Nat := b.data.toList.map UInt8.toNat
theorem bl_length (b : ByteArray) : (bl b).length = b.size := by unfold bl; rw [List.length_map, data_length]
theorem bl_byte (b : ByteArray) : ∀ x ∈ bl b, x < 256 := by
  unfold bl; intro x hx
  obtain ⟨y, _, rfl⟩ := List.mem_map.mp hx
  exact y.toNat_lt
theorem bt_bl (b : ByteArray) (i : Nat) (h : i < (bl b).length) : bt b (i : Int) = ((bl b)[i] : Nat) := by
  have e : (bl b)[i] = (b.data.toList[i]'(by rw [data_length, ← bl_length]; exact h)).toNat := by simp [bl]
  rw [e]
  rw [bl_length] at h
  unfold bt
  simp only [Int.toNat_natCast, h, dif_pos]
  rfl
theorem bl_strOfNums (l : List Nat) (h : ∀ x ∈ l, x < 256) : bl (strOfNums (l.map Int.ofNat)) = l := by
  unfold bl
  rw [strOfNums_data, List.map_map, List.map_map]
  conv => rhs; rw [← List.map_id l]
  apply List.map_congr_left
  intro x hx
  have := h x hx
  simp
  omega
theorem bl_inj {a b : ByteArray} (h : bl a = bl b) : a = b := by
  unfold bl at h
  have : a.data.toList = b.data.toList := by
    have hinj : ∀ (s t : List UInt8), s.map UInt8.toNat = t.map UInt8.toNat → s = t := by
      intro s
      induction s with
      | nil => intro t h; cases t with | nil => rfl | cons => simp at h
      | cons x s ih =>
        intro t h
        cases t with
        | nil => simp at h
        | cons y t =>
          simp only [List.map_cons, List.cons.injEq] at h
          rw [UInt8.toNat_inj.mp h.1, ih t h.2]
    exact hinj _ _ h
  cases a; cases b; simp only at this; congr; exact Array.toList_inj.mp this

theorem append_bl (a b : ByteArray) : bl (a ++ b) = bl a ++ bl b := by
  unfold bl
  rw [ByteArray.data_append, Array.toList_append, List.map_append]
theorem extract_bl (b : ByteArray) (m n : Nat) : bl (b.extract m n) = ((bl b).take n).drop m := by
  unfold bl
  rw [ByteArray.data_extract, Array.toList_extract, List.extract_eq_take_drop, ← List.drop_take, List.map_drop, List.map_take]
/-- What Get answers. -/
def got (at' : Int) : Dec → Int × Int × Int
  | .ok v n => (v, at' + n, 0)
  | .cut => (0, 0, 2)
  | .long => (0, 0, 3)
/-- The number that stands at a place. -/
def gt (b : ByteArray) (at' : Nat) : Int × Int × Int := got at' (dec 0 ((bl b).drop at'))
theorem gt_cases (b : ByteArray) (at' : Nat) : (∃ v n : Nat, gt b at' = ((v : Int), (at' : Int) + n, 0) ∧ v < 18446744073709551616 ∧ at' + n ≤ b.size ∧ 1 ≤ n ∧ n ≤ 10 ∧ enc v = ((bl b).drop at').take n) ∨ gt b at' = (0, 0, 2) ∨ gt b at' = (0, 0, 3) := by
  unfold gt
  cases hd : dec 0 ((bl b).drop at') with
  | cut => exact .inr (.inl rfl)
  | long => exact .inr (.inr rfl)
  | ok v n =>
    obtain ⟨a1, a2, a3, a4, a5, _⟩ := dec_ok _ 0 v n (fun x hx => bl_byte b x (List.mem_of_mem_drop hx)) hd (by omega)
    rw [List.length_drop, bl_length] at a1
    exact .inl ⟨v, n, rfl, by simpa using a4, by omega, a3, by omega, a5⟩
/-- A number without its sign, and back. -/
def zg (n : Int) : Int := if 0 ≤ n then 2 * n else -2 * n - 1
def zag (n : Int) : Int := if n % 2 = 0 then n / 2 else -(n / 2) - 1
theorem zag_zg (n : Int) : zag (zg n) = n := by unfold zag zg; split <;> split <;> omega
theorem zg_nonneg (n : Int) : 0 ≤ zg n := by unfold zg; split <;> omega

/-- A cursor: bytes, how far they were read, the first error (0: none). -/
structure Cur where
  b : ByteArray
  at' : Nat
  e : Int
def Cur.ok (c : Cur) : Prop := c.at' ≤ c.b.size ∧ c.b.size ≤ 140737488351232
def new (b : ByteArray) : Cur := ⟨b, 0, 0⟩
theorem new_ok {b : ByteArray} (h : b.size ≤ 140737488351232) : (new b).ok := ⟨Nat.zero_le _, h⟩
def Cur.left (c : Cur) : Int := (c.b.size : Int) - c.at'
def Cur.fail (c : Cur) (e : Int) : Cur := if c.e = 0 then { c with e := e } else c
def Cur.bytes (c : Cur) (n : Int) : ByteArray × Cur :=
  if c.e ≠ 0 then (⟨#[]⟩, c) else if n < 0 then (⟨#[]⟩, { c with e := 1 }) else if c.left < n then (⟨#[]⟩, { c with e := 2 }) else (c.b.extract c.at' (c.at' + n.toNat), { c with at' := c.at' + n.toNat })
def Cur.byte (c : Cur) : Int × Cur := (if (c.bytes 1).1.size = 0 then 0 else bt (c.bytes 1).1 0, (c.bytes 1).2)
def Cur.uint (c : Cur) (most : Int) : Int × Cur :=
  if c.e ≠ 0 then (0, c) else if (gt c.b c.at').2.2 ≠ 0 then (0, { c with e := (gt c.b c.at').2.2 }) else if (gt c.b c.at').1 > most ∨ (gt c.b c.at').1 > 16777216 then (0, { c with e := 19 }) else ((gt c.b c.at').1, { c with at' := (gt c.b c.at').2.1.toNat })
def Cur.number (c : Cur) : Int × Int × Cur := if c.e ≠ 0 then (0, (c.at' : Int), c) else ((gt c.b c.at').1, (gt c.b c.at').2.1, c.fail (gt c.b c.at').2.2)
def Cur.int (c : Cur) : Int × Cur :=
  if c.e ≠ 0 then (0, c) else if (gt c.b c.at').2.2 ≠ 0 then (0, { c with e := (gt c.b c.at').2.2 }) else (zag (gt c.b c.at').1, { c with at' := (gt c.b c.at').2.1.toNat })
def Cur.textOf (c : Cur) (s : ByteArray × Cur) : ByteArray × Cur := if s.2.e ≠ 0 then (⟨#[]⟩, { c with e := s.2.e }) else s
def Cur.text (c : Cur) (most : Int) : ByteArray × Cur :=
  if c.e ≠ 0 then (⟨#[]⟩, c) else c.textOf ((c.uint (if most < 0 then 0 else most)).2.bytes (c.uint (if most < 0 then 0 else most)).1)

section
variable {c : Cur}
theorem fail_b (e : Int) : (c.fail e).b = c.b := by unfold Cur.fail; split <;> rfl
theorem fail_at (e : Int) : (c.fail e).at' = c.at' := by unfold Cur.fail; split <;> rfl
theorem fail_ok (h : c.ok) (e : Int) : (c.fail e).ok := by unfold Cur.ok; rw [fail_b, fail_at]; exact h
theorem bytes_b (n : Int) : (c.bytes n).2.b = c.b := by
  unfold Cur.bytes
  repeat' split
  all_goals rfl
theorem uint_b (n : Int) : (c.uint n).2.b = c.b := by
  unfold Cur.uint
  repeat' split
  all_goals rfl
theorem uint_ok (h : c.ok) (n : Int) : (c.uint n).2.ok := by
  obtain ⟨h1, h2⟩ := h
  have hg := gt_cases c.b c.at'
  unfold Cur.uint
  repeat' split
  all_goals (unfold Cur.ok; simp only)
  all_goals try exact ⟨h1, h2⟩
  generalize gt c.b c.at' = r at *
  rcases hg with ⟨v, n, rfl, h3, h4, _⟩ | rfl | rfl
  all_goals (simp at *)
  all_goals omega
theorem uint_range (n : Int) : 0 ≤ (c.uint n).1 ∧ (c.uint n).1 ≤ 16777216 := by
  have hg := gt_cases c.b c.at'
  unfold Cur.uint
  repeat' split
  all_goals simp only
  all_goals try omega
  generalize gt c.b c.at' = r at *
  rcases hg with ⟨v, n, rfl, h3, h4, _⟩ | rfl | rfl
  all_goals (simp at *)
  all_goals omega
theorem int_b : c.int.2.b = c.b := by
  unfold Cur.int
  repeat' split
  all_goals rfl
theorem int_ok (h : c.ok) : c.int.2.ok := by
  obtain ⟨h1, h2⟩ := h
  have hg := gt_cases c.b c.at'
  unfold Cur.int
  repeat' split
  all_goals (unfold Cur.ok; simp only)
  all_goals try exact ⟨h1, h2⟩
  generalize gt c.b c.at' = r at *
  rcases hg with ⟨v, n, rfl, h3, h4, _⟩ | rfl | rfl
  all_goals (simp at *)
  all_goals omega
end
end Go.Proofs.YtoigkneoaemcfaaDoor.Cur
