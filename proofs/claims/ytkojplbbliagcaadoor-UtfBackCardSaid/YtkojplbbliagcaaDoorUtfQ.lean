/- What the document's Read, Put and Same tell; characters that are put and read. -/
import Derived.Test.YtkojplbbliagcaaDoorUtfP
namespace Go.Proofs.YtkojplbbliagcaaDoor.U
open Go.RowKit Go.Lib Go.Proofs.YtkojplbbliagcaaDoor.GUtf Go.Proofs.YtkojplbbliagcaaDoorW.PrintWords Go.Proofs.YtkojplbbliagcaaDoorW.PrintLast
set_option linter.unusedVariables false
set_option linter.unusedSimpArgs false
theorem read_l0 {s : ByteArray} {p q : Nat} {l : List Int} (h : Run s p l q) (hs : s.size ≤ 1000000) (hq : q ≤ s.size) (hb : q < s.size → ¬ Good (Utf8.decode s q)) :
    ∀ (k : Nat) (acc : List Int), acc.length ≤ p → dioramaref05_Read.l0 (k + l.length + 42) s acc p = some (acc ++ l, (q : Int)) := by
  induction h with
  | nil p =>
    intro k acc ha
    rw [List.length_nil, show k + 0 + 42 = (k + 1 + 40) + 1 by omega, dioramaref05_Read.l0]
    by_cases hp : p < s.size
    · rw [if_pos (by omega), at_f (k + 1) s p hp hs, if_neg (hb hp), Option.bind_some, if_pos rfl, List.append_nil]
    · rw [if_neg (by omega), List.append_nil]
  | @cons p q l hp hg hr ih =>
    intro k acc ha
    have hw := width_pos s p hp
    have hf := width_fits s p hp hg
    rw [List.length_cons, show k + (l.length + 1) + 42 = ((k + l.length + 2) + 40) + 1 by omega, dioramaref05_Read.l0, if_pos (by omega), at_f _ s p hp hs, if_pos hg, Option.bind_some, if_neg (by simp only; omega), if_pos (by omega)]
    have e1 : wrap64 ((p : Int) + ((Utf8.decode s p).2 : Int)) = ((p + (Utf8.decode s p).2 : Nat) : Int) := by rw [w64 (by omega) (by omega)]; omega
    rw [e1]
    have := ih hq hb k (acc ++ [((Utf8.decode s p).1 : Int)]) (by simp only [List.length_append, List.length_cons, List.length_nil]; omega)
    rw [show k + l.length + 2 + 40 = k + l.length + 42 by omega, this, List.append_assoc]
    rfl
theorem read_f {s : ByteArray} {q : Nat} {l : List Int} (h : Run s 0 l q) (hs : s.size ≤ 1000000) (hq : q ≤ s.size) (hb : q < s.size → ¬ Good (Utf8.decode s q)) (k : Nat) :
    dioramaref05_Read.f (k + l.length + 42) s = some (l, (q : Int)) := by
  unfold dioramaref05_Read.f
  have := read_l0 h hs hq hb k [] (Nat.le_refl _)
  rwa [List.nil_append] at this
theorem same_refl (l : List Int) (hl : l.length ≤ 1000000) (k : Nat) : dioramaref05_Same.f (k + l.length + 1) l l = some true := by
  have key : ∀ (d i : Nat), i + d = l.length → dioramaref05_Same.l0 (k + d + 1) l l i = some true := by
    intro d
    induction d with
    | zero => intro i hi; rw [dioramaref05_Same.l0, if_neg (by omega)]
    | succ d ih =>
      intro i hi
      rw [dioramaref05_Same.l0, if_pos (by omega), if_pos (by omega), if_pos (by omega), if_pos rfl, w64 (by omega) (by omega)]
      exact ih (i + 1) (by omega)
  unfold dioramaref05_Same.f
  rw [if_pos rfl]
  exact key l.length 0 (by omega)
theorem str_enc {c : Int} (h : Lib.validRune c = true) : strOfNums (charZ c) = ⟨(encodeRune c).toArray⟩ := by
  unfold charZ
  rw [if_pos h]
  rfl
theorem charZ_none {c : Int} (h : ¬ Lib.validRune c = true) : charZ c = [] := by
  unfold charZ
  rw [if_neg h]
theorem bytes_app (a b : List UInt8) : ((⟨a.toArray⟩ : ByteArray) ++ (⟨b.toArray⟩ : ByteArray)) = ⟨(a ++ b).toArray⟩ := by
  apply ByteArray.ext
  rw [ByteArray.data_append]
  simp
theorem enc_pos (x : Int) : 1 ≤ (Lib.encodeRune x).length := by
  have h := (Lib.runeCells_le x).1
  rw [Lib.runeCells_length] at h
  exact h
theorem put_l0 (l : List Int) (hl : l.length ≤ 1000000) (hw : ∀ x ∈ l, -2147483648 ≤ x ∧ x ≤ 2147483647) (k : Nat) : ∀ (d i : Nat) (acc : List UInt8), i + d = l.length → acc.length ≤ 4 * i →
    dioramaref05_Put.l0 (k + d + 2) l ⟨acc.toArray⟩ i = some (⟨(putL (l.drop i) acc).1.toArray⟩, (putL (l.drop i) acc).2) := by
  intro d
  induction d with
  | zero =>
    intro i acc hi ha
    rw [dioramaref05_Put.l0, if_neg (by omega), List.drop_of_length_le (by omega), putL]
  | succ d ih =>
    intro i acc hi ha
    have hlt : i < l.length := by omega
    have hrd : rd l i = l.getD i 0 := by unfold rd; rw [Int.toNat_natCast]
    have hd : l.drop i = l.getD i 0 :: l.drop (i + 1) := by
      rw [List.drop_eq_getElem_cons hlt, List.getD_eq_getElem?_getD, List.getElem?_eq_getElem hlt]; rfl
    have hm : l.getD i 0 ∈ l := by
      rw [List.getD_eq_getElem?_getD, List.getElem?_eq_getElem hlt]
      exact List.getElem_mem hlt
    obtain ⟨b0, b1⟩ := hw _ hm
    rw [hd, putL]
    generalize l.getD i 0 = c at *
    rw [show k + (d + 1) + 2 = (k + d + 1 + 1) + 1 by omega, dioramaref05_Put.l0, if_pos (by omega), if_pos (by omega), hrd, char_f _ c b0 b1, Option.bind_some, Option.bind_some]
    by_cases hv : Lib.validRune c = true
    · have he := enc_len c
      have hp := enc_pos c
      rw [str_enc hv, if_pos hv]
      have hne : ¬ (⟨(encodeRune c).toArray⟩ : ByteArray).toList = [] := by
        rw [ByteArray.toList_mk]
        intro e
        rw [e] at hp
        exact absurd hp (by decide)
      have hsz : (⟨acc.toArray⟩ : ByteArray).size + (⟨(encodeRune c).toArray⟩ : ByteArray).size ≤ 9223372036854775807 := by
        show acc.toArray.size + (encodeRune c).toArray.size ≤ _
        simp only [List.size_toArray]
        omega
      rw [if_neg hne, if_pos hsz, bytes_app, w64 (by omega) (by omega)]
      exact ih (i + 1) (acc ++ encodeRune c) (by omega) (by rw [List.length_append]; omega)
    · rw [if_neg hv, charZ_none hv, if_pos (by rw [ByteArray.toList_eq]; rfl)]
theorem put_f (l : List Int) (hl : l.length ≤ 1000000) (hw : ∀ x ∈ l, -2147483648 ≤ x ∧ x ≤ 2147483647) (k : Nat) : dioramaref05_Put.f (k + l.length + 2) l = some (⟨(putL l []).1.toArray⟩, (putL l []).2) := by
  unfold dioramaref05_Put.f
  exact put_l0 l hl hw k l.length 0 [] (by omega) (by simp)
theorem putL_valid : ∀ (l : List Int) (acc : List UInt8), (∀ x ∈ l, Lib.validRune x = true) → putL l acc = (acc ++ l.flatMap encodeRune, true)
  | [], acc, _ => by simp [putL]
  | x :: l, acc, h => by
    rw [putL, if_pos (h x (List.mem_cons_self ..)), putL_valid l _ (fun y hy => h y (List.mem_cons_of_mem _ hy)), List.flatMap_cons, List.append_assoc]
theorem putL_true : ∀ (l : List Int) (acc : List UInt8), (putL l acc).2 = true → ∀ x ∈ l, Lib.validRune x = true
  | [], _, _, x, hx => by cases hx
  | y :: l, acc, h, x, hx => by
    rw [putL] at h
    by_cases hv : Lib.validRune y = true
    · rw [if_pos hv] at h
      rcases List.mem_cons.1 hx with rfl | hx
      · exact hv
      · exact putL_true l _ h x hx
    · rw [if_neg hv] at h; cases h
theorem enc_chars {c : Int} (h : Lib.validRune c = true) : (encodeRune c).map (fun b => (b.toNat : Int)) = charZ c := by
  have hb := charZ_byte c
  have e : encodeRune c = (charZ c).map fun x => x.toNat.toUInt8 := by unfold charZ; rw [if_pos h]; rfl
  rw [e, List.map_map]
  conv => rhs; rw [← List.map_id (charZ c)]
  refine List.map_congr_left (fun x hx => ?_)
  have := hb x hx
  simp only [Function.comp, id, Nat.toUInt8, UInt8.toNat_ofNat']
  omega
theorem run_of_put : ∀ (l : List Int) (pre : List UInt8), (∀ x ∈ l, Lib.validRune x = true) → Run ⟨(pre ++ l.flatMap encodeRune).toArray⟩ pre.length l (pre ++ l.flatMap encodeRune).length
  | [], pre, _ => by simp; exact .nil _
  | c :: l, pre, h => by
    have hv := h c (List.mem_cons_self ..)
    have ih := run_of_put l (pre ++ encodeRune c) (fun x hx => h x (List.mem_cons_of_mem _ hx))
    rw [List.append_assoc] at ih
    rw [List.flatMap_cons]
    generalize hS : pre ++ (encodeRune c ++ l.flatMap encodeRune) = S at ih ⊢
    have hlen : pre.length + (encodeRune c).length ≤ S.length := by rw [← hS]; simp only [List.length_append]; omega
    have hcl : (charZ c).length = (encodeRune c).length := by rw [← enc_chars hv, List.length_map]
    have hsz : (⟨S.toArray⟩ : ByteArray).size = S.length := by show S.toArray.size = _; simp
    have hb : charZ c = bytesZ ⟨S.toArray⟩ pre.length (charZ c).length := by
      rw [bytesZ_eq _ _ _ (by rw [hsz, hcl]; exact hlen), extract_data, Nat.add_sub_cancel_left, hcl]
      show charZ c = List.map _ (List.take _ (List.drop _ S))
      rw [← hS, List.drop_left, List.take_left, enc_chars hv]
    obtain ⟨hg, h1, h2⟩ := bytes_decode ⟨S.toArray⟩ pre.length c hv (by rw [hsz, hcl]; exact hlen) hb
    have hp := enc_pos c
    have := Run.cons (s := ⟨S.toArray⟩) (p := pre.length) (l := l) (q := S.length) (by rw [hsz]; omega) hg (by rw [h2, hcl]; rw [List.length_append] at ih; exact ih)
    rw [h1] at this
    exact this
theorem put_of_run {s : ByteArray} {p : Nat} {l : List Int} (h : Run s p l s.size) : (∀ x ∈ l, Lib.validRune x = true) ∧ l.flatMap encodeRune = s.data.toList.drop p := by
  have hl : s.data.toList.length = s.size := Array.length_toList
  generalize hq : s.size = q at h
  induction h with
  | nil p => exact ⟨(fun x hx => by cases hx), by rw [List.drop_of_length_le (by omega)]; rfl⟩
  | @cons p q l hp hg _ ih =>
    obtain ⟨h1, h2⟩ := ih hq
    obtain ⟨hv, hb⟩ := decode_bytes s p hp hg
    have hf := width_fits s p hp hg
    refine ⟨fun x hx => ?_, ?_⟩
    · rcases List.mem_cons.1 hx with rfl | hx
      · exact hv
      · exact h1 x hx
    · rw [List.flatMap_cons, h2]
      have e : encodeRune ((Utf8.decode s p).1 : Int) = (s.data.toList.drop p).take (Utf8.decode s p).2 := by
        have e1 := enc_chars hv
        rw [hb, bytesZ_eq s p _ hf, extract_data, Nat.add_sub_cancel_left] at e1
        refine List.map_inj_right (fun a b hab => ?_) |>.1 e1
        exact UInt8.toNat_inj.1 (by omega)
      rw [e, show List.drop (p + (Utf8.decode s p).2) s.data.toList = ((s.data.toList.drop p).drop (Utf8.decode s p).2) by rw [List.drop_drop]]
      exact List.take_append_drop _ _
end Go.Proofs.YtkojplbbliagcaaDoor.U
