/- The plain law of SchemaNames: any kind has the name that the document says, and is found by it; any text is a kind's name, or none. -/
import Derived.Test.YtkojplbbliagcaaGSNamesx2
import Derived.Lib.Strings
namespace Go.Proofs.Ytkojplbbliagcaa.Pure
open Go.RowKit Go.Proofs.Ytkojplbbliagcaa.GSNames Go.Proofs.YtkojplbbliagcaaW.PrintWords Go.Proofs.YtkojplbbliagcaaW.PrintLast
set_option maxRecDepth 100000
namespace SN
def T : List ByteArray := [(⟨#[103, 114, 111, 117, 112]⟩ : ByteArray), (⟨#[109, 111, 118, 101]⟩ : ByteArray), (⟨#[98, 111, 120]⟩ : ByteArray), (⟨#[98, 97, 108, 108]⟩ : ByteArray), (⟨#[108, 97, 98, 101, 108]⟩ : ByteArray), (⟨#[115, 119, 105, 116, 99, 104]⟩ : ByteArray), (⟨#[108, 105, 103, 104, 116]⟩ : ByteArray), (⟨#[115, 99, 97, 108, 101]⟩ : ByteArray)]
def U : List ByteArray := [(⟨#[]⟩ : ByteArray), (⟨#[103, 114, 111, 117, 112]⟩ : ByteArray), (⟨#[109, 111, 118, 101]⟩ : ByteArray), (⟨#[98, 111, 120]⟩ : ByteArray), (⟨#[98, 97, 108, 108]⟩ : ByteArray), (⟨#[108, 97, 98, 101, 108]⟩ : ByteArray), (⟨#[115, 119, 105, 116, 99, 104]⟩ : ByteArray), (⟨#[108, 105, 103, 104, 116]⟩ : ByteArray), (⟨#[115, 99, 97, 108, 101]⟩ : ByteArray)]
theorem namesT : dioramaref07_Names.f = some T := rfl
theorem namesU : schema_names.f = some U := rfl
theorem awake (k : Nat) (h : 20 ≤ k) : dioramalaw07_awake.f k = some true := by
  induction k with
  | zero => omega
  | succ k ih =>
    rcases Nat.lt_or_ge k 20 with h1 | h1
    · obtain rfl : k = 19 := by omega
      decide +kernel
    · exact dioramalaw07_awake.mono k _ (ih h1)
def fin (x0 : Int) (x5 : ByteArray) (x7 : Int) (x8 : Bool) (x9 : Int) (x10 : Bool) (x11 : Int) : Option Bool :=
  (schema_Name.f x0).bind fun t330 => (if t330.toList = x5.toList then (if (x8 == (x5.toList != ([] : List UInt8))) = true then (if x8 = true then (if x7 = x0 then (if x9 = x11 then (some (x10 == (decide (x11 > 0)))) else none) else none) else (if x7 = 0 then (if x9 = x11 then (some (x10 == (decide (x11 > 0)))) else none) else none)) else none) else none)
theorem stop (k : Nat) (x0 : Int) (x1 x5 : ByteArray) (x7 : Int) (x8 : Bool) (x9 : Int) (x10 : Bool) (x11 : Int) : dioramalaw07_SchemaNames.l0 (k + 1) x0 x1 x5 x7 x8 x9 x10 x11 T 8 8 = fin x0 x5 x7 x8 x9 x10 x11 := by
  rw [dioramalaw07_SchemaNames.l0, if_neg (by decide)]
  rfl
theorem ne_step (k : Nat) (x0 : Int) (x1 x5 : ByteArray) (x7 : Int) (x8 : Bool) (x9 : Int) (x10 : Bool) (x11 i j : Int) (h1 : 0 ≤ i) (h2 : i < 8) (hj : wrap64 (i + 1) = j) (hne : ¬ (rdOf ByteArray.empty T i).toList = x1.toList) :
    dioramalaw07_SchemaNames.l0 (k + 1) x0 x1 x5 x7 x8 x9 x10 x11 T 8 i = dioramalaw07_SchemaNames.l0 k x0 x1 x5 x7 x8 x9 x10 x11 T 8 j := by
  rw [dioramalaw07_SchemaNames.l0, if_pos h2, if_pos h1, if_pos (show i < (T.length : Int) from h2), if_neg hne, hj]
theorem eq_step (k : Nat) (x0 : Int) (x1 x5 : ByteArray) (x7 : Int) (x8 : Bool) (x9 : Int) (x10 : Bool) (x11 i j : Int) (h1 : 0 ≤ i) (h2 : i < 8) (hj : wrap64 (i + 1) = j) (he : (rdOf ByteArray.empty T i).toList = x1.toList) :
    dioramalaw07_SchemaNames.l0 (k + 1) x0 x1 x5 x7 x8 x9 x10 x11 T 8 i = dioramalaw07_SchemaNames.l0 k x0 x1 x5 x7 x8 x9 x10 j T 8 j := by
  rw [dioramalaw07_SchemaNames.l0, if_pos h2, if_pos h1, if_pos (show i < (T.length : Int) from h2), if_pos he, hj]
theorem miss (k : Nat) (s : ByteArray) (i j : Int) (h1 : 0 ≤ i) (h2 : i < 9) (hj : wrap64 (i + 1) = j) (hne : ¬ s.toList = (rdOf ByteArray.empty U i).toList) :
    slices_Index_string_string.l0 (k + 1) U s 9 i = slices_Index_string_string.l0 k U s 9 j := by
  rw [slices_Index_string_string.l0, if_pos h2, if_pos h1, if_pos (show i < (U.length : Int) from h2), if_neg hne, hj]
theorem none_ (k : Nat) (s : ByteArray) : slices_Index_string_string.l0 (k + 1) U s 9 9 = some (-1) := by
  rw [slices_Index_string_string.l0, if_neg (by decide)]
theorem bext {a b : ByteArray} (h : a.toList = b.toList) : a = b := by
  rw [Lib.toList_data, Lib.toList_data] at h
  rw [← Lib.mk_data a, ← Lib.mk_data b, h]

/-- A text is a kind's name, or none. -/
theorem text (s : ByteArray) : ∃ n : Int, schema_Kind.f 57 s = some (n, decide (n > 0)) ∧ ∀ x0 x5 x7 x8 x9 x10, dioramalaw07_SchemaNames.l0 57 x0 s x5 x7 x8 x9 x10 0 T 8 0 = fin x0 x5 x7 x8 x9 x10 n := by
  by_cases e0 : s.toList = ([103, 114, 111, 117, 112] : List UInt8)
  · obtain rfl : s = (⟨#[103, 114, 111, 117, 112]⟩ : ByteArray) := bext (e0.trans (by decide +kernel))
    refine ⟨1, by decide +kernel, fun x0 x5 x7 x8 x9 x10 => ?_⟩
    rw [eq_step _ _ _ _ _ _ _ _ _ 0 1 (by decide) (by decide) (by decide +kernel) (by decide +kernel), ne_step _ _ _ _ _ _ _ _ _ 1 2 (by decide) (by decide) (by decide +kernel) (by decide +kernel), ne_step _ _ _ _ _ _ _ _ _ 2 3 (by decide) (by decide) (by decide +kernel) (by decide +kernel), ne_step _ _ _ _ _ _ _ _ _ 3 4 (by decide) (by decide) (by decide +kernel) (by decide +kernel), ne_step _ _ _ _ _ _ _ _ _ 4 5 (by decide) (by decide) (by decide +kernel) (by decide +kernel), ne_step _ _ _ _ _ _ _ _ _ 5 6 (by decide) (by decide) (by decide +kernel) (by decide +kernel), ne_step _ _ _ _ _ _ _ _ _ 6 7 (by decide) (by decide) (by decide +kernel) (by decide +kernel), ne_step _ _ _ _ _ _ _ _ _ 7 8 (by decide) (by decide) (by decide +kernel) (by decide +kernel), stop]
  by_cases e1 : s.toList = ([109, 111, 118, 101] : List UInt8)
  · obtain rfl : s = (⟨#[109, 111, 118, 101]⟩ : ByteArray) := bext (e1.trans (by decide +kernel))
    refine ⟨2, by decide +kernel, fun x0 x5 x7 x8 x9 x10 => ?_⟩
    rw [ne_step _ _ _ _ _ _ _ _ _ 0 1 (by decide) (by decide) (by decide +kernel) (by decide +kernel), eq_step _ _ _ _ _ _ _ _ _ 1 2 (by decide) (by decide) (by decide +kernel) (by decide +kernel), ne_step _ _ _ _ _ _ _ _ _ 2 3 (by decide) (by decide) (by decide +kernel) (by decide +kernel), ne_step _ _ _ _ _ _ _ _ _ 3 4 (by decide) (by decide) (by decide +kernel) (by decide +kernel), ne_step _ _ _ _ _ _ _ _ _ 4 5 (by decide) (by decide) (by decide +kernel) (by decide +kernel), ne_step _ _ _ _ _ _ _ _ _ 5 6 (by decide) (by decide) (by decide +kernel) (by decide +kernel), ne_step _ _ _ _ _ _ _ _ _ 6 7 (by decide) (by decide) (by decide +kernel) (by decide +kernel), ne_step _ _ _ _ _ _ _ _ _ 7 8 (by decide) (by decide) (by decide +kernel) (by decide +kernel), stop]
  by_cases e2 : s.toList = ([98, 111, 120] : List UInt8)
  · obtain rfl : s = (⟨#[98, 111, 120]⟩ : ByteArray) := bext (e2.trans (by decide +kernel))
    refine ⟨3, by decide +kernel, fun x0 x5 x7 x8 x9 x10 => ?_⟩
    rw [ne_step _ _ _ _ _ _ _ _ _ 0 1 (by decide) (by decide) (by decide +kernel) (by decide +kernel), ne_step _ _ _ _ _ _ _ _ _ 1 2 (by decide) (by decide) (by decide +kernel) (by decide +kernel), eq_step _ _ _ _ _ _ _ _ _ 2 3 (by decide) (by decide) (by decide +kernel) (by decide +kernel), ne_step _ _ _ _ _ _ _ _ _ 3 4 (by decide) (by decide) (by decide +kernel) (by decide +kernel), ne_step _ _ _ _ _ _ _ _ _ 4 5 (by decide) (by decide) (by decide +kernel) (by decide +kernel), ne_step _ _ _ _ _ _ _ _ _ 5 6 (by decide) (by decide) (by decide +kernel) (by decide +kernel), ne_step _ _ _ _ _ _ _ _ _ 6 7 (by decide) (by decide) (by decide +kernel) (by decide +kernel), ne_step _ _ _ _ _ _ _ _ _ 7 8 (by decide) (by decide) (by decide +kernel) (by decide +kernel), stop]
  by_cases e3 : s.toList = ([98, 97, 108, 108] : List UInt8)
  · obtain rfl : s = (⟨#[98, 97, 108, 108]⟩ : ByteArray) := bext (e3.trans (by decide +kernel))
    refine ⟨4, by decide +kernel, fun x0 x5 x7 x8 x9 x10 => ?_⟩
    rw [ne_step _ _ _ _ _ _ _ _ _ 0 1 (by decide) (by decide) (by decide +kernel) (by decide +kernel), ne_step _ _ _ _ _ _ _ _ _ 1 2 (by decide) (by decide) (by decide +kernel) (by decide +kernel), ne_step _ _ _ _ _ _ _ _ _ 2 3 (by decide) (by decide) (by decide +kernel) (by decide +kernel), eq_step _ _ _ _ _ _ _ _ _ 3 4 (by decide) (by decide) (by decide +kernel) (by decide +kernel), ne_step _ _ _ _ _ _ _ _ _ 4 5 (by decide) (by decide) (by decide +kernel) (by decide +kernel), ne_step _ _ _ _ _ _ _ _ _ 5 6 (by decide) (by decide) (by decide +kernel) (by decide +kernel), ne_step _ _ _ _ _ _ _ _ _ 6 7 (by decide) (by decide) (by decide +kernel) (by decide +kernel), ne_step _ _ _ _ _ _ _ _ _ 7 8 (by decide) (by decide) (by decide +kernel) (by decide +kernel), stop]
  by_cases e4 : s.toList = ([108, 97, 98, 101, 108] : List UInt8)
  · obtain rfl : s = (⟨#[108, 97, 98, 101, 108]⟩ : ByteArray) := bext (e4.trans (by decide +kernel))
    refine ⟨5, by decide +kernel, fun x0 x5 x7 x8 x9 x10 => ?_⟩
    rw [ne_step _ _ _ _ _ _ _ _ _ 0 1 (by decide) (by decide) (by decide +kernel) (by decide +kernel), ne_step _ _ _ _ _ _ _ _ _ 1 2 (by decide) (by decide) (by decide +kernel) (by decide +kernel), ne_step _ _ _ _ _ _ _ _ _ 2 3 (by decide) (by decide) (by decide +kernel) (by decide +kernel), ne_step _ _ _ _ _ _ _ _ _ 3 4 (by decide) (by decide) (by decide +kernel) (by decide +kernel), eq_step _ _ _ _ _ _ _ _ _ 4 5 (by decide) (by decide) (by decide +kernel) (by decide +kernel), ne_step _ _ _ _ _ _ _ _ _ 5 6 (by decide) (by decide) (by decide +kernel) (by decide +kernel), ne_step _ _ _ _ _ _ _ _ _ 6 7 (by decide) (by decide) (by decide +kernel) (by decide +kernel), ne_step _ _ _ _ _ _ _ _ _ 7 8 (by decide) (by decide) (by decide +kernel) (by decide +kernel), stop]
  by_cases e5 : s.toList = ([115, 119, 105, 116, 99, 104] : List UInt8)
  · obtain rfl : s = (⟨#[115, 119, 105, 116, 99, 104]⟩ : ByteArray) := bext (e5.trans (by decide +kernel))
    refine ⟨6, by decide +kernel, fun x0 x5 x7 x8 x9 x10 => ?_⟩
    rw [ne_step _ _ _ _ _ _ _ _ _ 0 1 (by decide) (by decide) (by decide +kernel) (by decide +kernel), ne_step _ _ _ _ _ _ _ _ _ 1 2 (by decide) (by decide) (by decide +kernel) (by decide +kernel), ne_step _ _ _ _ _ _ _ _ _ 2 3 (by decide) (by decide) (by decide +kernel) (by decide +kernel), ne_step _ _ _ _ _ _ _ _ _ 3 4 (by decide) (by decide) (by decide +kernel) (by decide +kernel), ne_step _ _ _ _ _ _ _ _ _ 4 5 (by decide) (by decide) (by decide +kernel) (by decide +kernel), eq_step _ _ _ _ _ _ _ _ _ 5 6 (by decide) (by decide) (by decide +kernel) (by decide +kernel), ne_step _ _ _ _ _ _ _ _ _ 6 7 (by decide) (by decide) (by decide +kernel) (by decide +kernel), ne_step _ _ _ _ _ _ _ _ _ 7 8 (by decide) (by decide) (by decide +kernel) (by decide +kernel), stop]
  by_cases e6 : s.toList = ([108, 105, 103, 104, 116] : List UInt8)
  · obtain rfl : s = (⟨#[108, 105, 103, 104, 116]⟩ : ByteArray) := bext (e6.trans (by decide +kernel))
    refine ⟨7, by decide +kernel, fun x0 x5 x7 x8 x9 x10 => ?_⟩
    rw [ne_step _ _ _ _ _ _ _ _ _ 0 1 (by decide) (by decide) (by decide +kernel) (by decide +kernel), ne_step _ _ _ _ _ _ _ _ _ 1 2 (by decide) (by decide) (by decide +kernel) (by decide +kernel), ne_step _ _ _ _ _ _ _ _ _ 2 3 (by decide) (by decide) (by decide +kernel) (by decide +kernel), ne_step _ _ _ _ _ _ _ _ _ 3 4 (by decide) (by decide) (by decide +kernel) (by decide +kernel), ne_step _ _ _ _ _ _ _ _ _ 4 5 (by decide) (by decide) (by decide +kernel) (by decide +kernel), ne_step _ _ _ _ _ _ _ _ _ 5 6 (by decide) (by decide) (by decide +kernel) (by decide +kernel), eq_step _ _ _ _ _ _ _ _ _ 6 7 (by decide) (by decide) (by decide +kernel) (by decide +kernel), ne_step _ _ _ _ _ _ _ _ _ 7 8 (by decide) (by decide) (by decide +kernel) (by decide +kernel), stop]
  by_cases e7 : s.toList = ([115, 99, 97, 108, 101] : List UInt8)
  · obtain rfl : s = (⟨#[115, 99, 97, 108, 101]⟩ : ByteArray) := bext (e7.trans (by decide +kernel))
    refine ⟨8, by decide +kernel, fun x0 x5 x7 x8 x9 x10 => ?_⟩
    rw [ne_step _ _ _ _ _ _ _ _ _ 0 1 (by decide) (by decide) (by decide +kernel) (by decide +kernel), ne_step _ _ _ _ _ _ _ _ _ 1 2 (by decide) (by decide) (by decide +kernel) (by decide +kernel), ne_step _ _ _ _ _ _ _ _ _ 2 3 (by decide) (by decide) (by decide +kernel) (by decide +kernel), ne_step _ _ _ _ _ _ _ _ _ 3 4 (by decide) (by decide) (by decide +kernel) (by decide +kernel), ne_step _ _ _ _ _ _ _ _ _ 4 5 (by decide) (by decide) (by decide +kernel) (by decide +kernel), ne_step _ _ _ _ _ _ _ _ _ 5 6 (by decide) (by decide) (by decide +kernel) (by decide +kernel), ne_step _ _ _ _ _ _ _ _ _ 6 7 (by decide) (by decide) (by decide +kernel) (by decide +kernel), eq_step _ _ _ _ _ _ _ _ _ 7 8 (by decide) (by decide) (by decide +kernel) (by decide +kernel), stop]
  refine ⟨0, ?_, fun x0 x5 x7 x8 x9 x10 => ?_⟩
  · unfold schema_Kind.f
    by_cases e : s.toList = ([] : List UInt8)
    · rw [if_pos e]; rfl
    · rw [if_neg e, namesU, Option.bind_some]
      unfold slices_Index_string_string.f
      rw [show (U.length : Int) = 9 from rfl, miss _ _ 0 1 (by decide) (by decide) (by decide +kernel) (fun h => e (h.trans (by decide +kernel))), miss _ _ 1 2 (by decide) (by decide) (by decide +kernel) (fun h => e0 (h.trans (by decide +kernel))), miss _ _ 2 3 (by decide) (by decide) (by decide +kernel) (fun h => e1 (h.trans (by decide +kernel))), miss _ _ 3 4 (by decide) (by decide) (by decide +kernel) (fun h => e2 (h.trans (by decide +kernel))), miss _ _ 4 5 (by decide) (by decide) (by decide +kernel) (fun h => e3 (h.trans (by decide +kernel))), miss _ _ 5 6 (by decide) (by decide) (by decide +kernel) (fun h => e4 (h.trans (by decide +kernel))), miss _ _ 6 7 (by decide) (by decide) (by decide +kernel) (fun h => e5 (h.trans (by decide +kernel))), miss _ _ 7 8 (by decide) (by decide) (by decide +kernel) (fun h => e6 (h.trans (by decide +kernel))), miss _ _ 8 9 (by decide) (by decide) (by decide +kernel) (fun h => e7 (h.trans (by decide +kernel))), none_]
      decide +kernel
  · rw [ne_step _ _ _ _ _ _ _ _ _ 0 1 (by decide) (by decide) (by decide +kernel) (fun h => e0 (h.symm.trans (by decide +kernel))), ne_step _ _ _ _ _ _ _ _ _ 1 2 (by decide) (by decide) (by decide +kernel) (fun h => e1 (h.symm.trans (by decide +kernel))), ne_step _ _ _ _ _ _ _ _ _ 2 3 (by decide) (by decide) (by decide +kernel) (fun h => e2 (h.symm.trans (by decide +kernel))), ne_step _ _ _ _ _ _ _ _ _ 3 4 (by decide) (by decide) (by decide +kernel) (fun h => e3 (h.symm.trans (by decide +kernel))), ne_step _ _ _ _ _ _ _ _ _ 4 5 (by decide) (by decide) (by decide +kernel) (fun h => e4 (h.symm.trans (by decide +kernel))), ne_step _ _ _ _ _ _ _ _ _ 5 6 (by decide) (by decide) (by decide +kernel) (fun h => e5 (h.symm.trans (by decide +kernel))), ne_step _ _ _ _ _ _ _ _ _ 6 7 (by decide) (by decide) (by decide +kernel) (fun h => e6 (h.symm.trans (by decide +kernel))), ne_step _ _ _ _ _ _ _ _ _ 7 8 (by decide) (by decide) (by decide +kernel) (fun h => e7 (h.symm.trans (by decide +kernel))), stop]
/-- The last test, for a kind and its name. -/
theorem fin_of (x0 : Int) (want : ByteArray) (m n : Int) (b : Bool) (h1 : schema_Name.f x0 = some want) (hb : b = (want.toList != ([] : List UInt8))) (h2 : if b = true then m = x0 else m = 0) : fin x0 want m b n (decide (n > 0)) n = some true := by
  unfold fin
  rw [h1, Option.bind_some, if_pos rfl, ← hb, if_pos (by simp)]
  by_cases hh : b = true
  · rw [if_pos hh] at h2 ⊢
    rw [if_pos h2, if_pos rfl]
    simp
  · rw [if_neg hh] at h2 ⊢
    rw [if_pos h2, if_pos rfl]
    simp
theorem j2 (x0 : Int) (s want : ByteArray) (m : Int) (b : Bool) (h0 : schema_Kind.f 57 want = some (m, b)) (h1 : schema_Name.f x0 = some want) (hb : b = (want.toList != ([] : List UInt8))) (h2 : if b = true then m = x0 else m = 0) : dioramalaw07_SchemaNames.j2 58 x0 s want = some true := by
  obtain ⟨n, e1, e2⟩ := text s
  rw [dioramalaw07_SchemaNames.j2, h0, Option.bind_some, e1, Option.bind_some, namesT, Option.bind_some]
  exact (e2 _ _ _ _ _ _).trans (fin_of x0 want m n b h1 hb h2)
theorem j1 (x0 : Int) (s : ByteArray) : dioramalaw07_SchemaNames.j1 59 x0 s (⟨#[]⟩ : ByteArray) T (if x0 ≥ 1 then decide (x0 ≤ (T.length : Int)) else false) = some true := by
  by_cases hk : 1 ≤ x0 ∧ x0 ≤ 8
  · have : x0 = 1 ∨ x0 = 2 ∨ x0 = 3 ∨ x0 = 4 ∨ x0 = 5 ∨ x0 = 6 ∨ x0 = 7 ∨ x0 = 8 := by omega
    rcases this with rfl | rfl | rfl | rfl | rfl | rfl | rfl | rfl
    · rw [dioramalaw07_SchemaNames.j1, if_pos (by decide), if_pos (by decide +kernel), if_pos (by decide +kernel)]
      rw [show rdOf ByteArray.empty T (wrap64 (1 - 1)) = (⟨#[103, 114, 111, 117, 112]⟩ : ByteArray) from by decide +kernel]
      exact j2 1 s _ 1 true (by decide +kernel) (by decide +kernel) (by decide +kernel) (by decide)
    · rw [dioramalaw07_SchemaNames.j1, if_pos (by decide), if_pos (by decide +kernel), if_pos (by decide +kernel)]
      rw [show rdOf ByteArray.empty T (wrap64 (2 - 1)) = (⟨#[109, 111, 118, 101]⟩ : ByteArray) from by decide +kernel]
      exact j2 2 s _ 2 true (by decide +kernel) (by decide +kernel) (by decide +kernel) (by decide)
    · rw [dioramalaw07_SchemaNames.j1, if_pos (by decide), if_pos (by decide +kernel), if_pos (by decide +kernel)]
      rw [show rdOf ByteArray.empty T (wrap64 (3 - 1)) = (⟨#[98, 111, 120]⟩ : ByteArray) from by decide +kernel]
      exact j2 3 s _ 3 true (by decide +kernel) (by decide +kernel) (by decide +kernel) (by decide)
    · rw [dioramalaw07_SchemaNames.j1, if_pos (by decide), if_pos (by decide +kernel), if_pos (by decide +kernel)]
      rw [show rdOf ByteArray.empty T (wrap64 (4 - 1)) = (⟨#[98, 97, 108, 108]⟩ : ByteArray) from by decide +kernel]
      exact j2 4 s _ 4 true (by decide +kernel) (by decide +kernel) (by decide +kernel) (by decide)
    · rw [dioramalaw07_SchemaNames.j1, if_pos (by decide), if_pos (by decide +kernel), if_pos (by decide +kernel)]
      rw [show rdOf ByteArray.empty T (wrap64 (5 - 1)) = (⟨#[108, 97, 98, 101, 108]⟩ : ByteArray) from by decide +kernel]
      exact j2 5 s _ 5 true (by decide +kernel) (by decide +kernel) (by decide +kernel) (by decide)
    · rw [dioramalaw07_SchemaNames.j1, if_pos (by decide), if_pos (by decide +kernel), if_pos (by decide +kernel)]
      rw [show rdOf ByteArray.empty T (wrap64 (6 - 1)) = (⟨#[115, 119, 105, 116, 99, 104]⟩ : ByteArray) from by decide +kernel]
      exact j2 6 s _ 6 true (by decide +kernel) (by decide +kernel) (by decide +kernel) (by decide)
    · rw [dioramalaw07_SchemaNames.j1, if_pos (by decide), if_pos (by decide +kernel), if_pos (by decide +kernel)]
      rw [show rdOf ByteArray.empty T (wrap64 (7 - 1)) = (⟨#[108, 105, 103, 104, 116]⟩ : ByteArray) from by decide +kernel]
      exact j2 7 s _ 7 true (by decide +kernel) (by decide +kernel) (by decide +kernel) (by decide)
    · rw [dioramalaw07_SchemaNames.j1, if_pos (by decide), if_pos (by decide +kernel), if_pos (by decide +kernel)]
      rw [show rdOf ByteArray.empty T (wrap64 (8 - 1)) = (⟨#[115, 99, 97, 108, 101]⟩ : ByteArray) from by decide +kernel]
      exact j2 8 s _ 8 true (by decide +kernel) (by decide +kernel) (by decide +kernel) (by decide)
  · have hf : (if x0 ≥ 1 then decide (x0 ≤ (T.length : Int)) else false) = false := by
      by_cases h1 : x0 ≥ 1
      · rw [if_pos h1]
        exact decide_eq_false (fun h => hk ⟨h1, h⟩)
      · rw [if_neg h1]
    rw [hf, dioramalaw07_SchemaNames.j1, if_neg (by decide)]
    refine j2 x0 s _ 0 false (by decide +kernel) ?_ (by decide +kernel) (by rw [if_neg (by decide)])
    unfold schema_Name.f
    by_cases h1 : x0 < 1
    · rw [if_pos h1]
    · rw [if_neg h1, if_pos (by omega)]
end SN
open SN in
theorem SchemaNames : dioramalaw07_SchemaNames.Pure := by
  intro a0 a1 h0 h1
  refine ⟨60, ?_⟩
  unfold dioramalaw07_SchemaNames.f
  rw [SN.awake 60 (by omega), Option.bind_some, if_pos rfl]
  by_cases hl : (a1.size : Int) > 100
  · rw [decide_eq_true hl, dioramalaw07_SchemaNames.j0, if_pos rfl, SN.awake 59 (by omega), Option.bind_some]
  · rw [decide_eq_false hl, dioramalaw07_SchemaNames.j0, if_neg (by decide), namesT, Option.bind_some]
    have h := SN.j1 a0 a1
    by_cases hk : a0 ≥ 1
    · rw [if_pos hk] at h ⊢; exact h
    · rw [if_neg hk] at h ⊢; exact h
end Go.Proofs.Ytkojplbbliagcaa.Pure
