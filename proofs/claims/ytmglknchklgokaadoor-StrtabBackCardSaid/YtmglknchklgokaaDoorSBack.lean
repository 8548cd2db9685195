/- StrtabBack: texts that are UTF-8 are got from the table's bytes as they were. -/
import Derived.Test.YtmglknchklgokaaDoorSGets
import Derived.Test.YtmglknchklgokaaDoorSPuts
import Derived.Deep.LoopGhost
namespace Go.Proofs.YtmglknchklgokaaDoor.Tab
open Go.RowKit Go.Lib Go.Proofs.YtmglknchklgokaaDoorW.PrintWords Go.Proofs.YtmglknchklgokaaDoorW.PrintLast Go.Proofs.YtmglknchklgokaaDoorW.PrintMore Go.Proofs.YtmglknchklgokaaDoor.B Go.Proofs.YtmglknchklgokaaDoor.Bd Go.Proofs.YtmglknchklgokaaDoor.GS
set_option linter.unusedVariables false
set_option linter.unusedSimpArgs false
theorem inAll_mem (l : List ByteArray) : ∀ s ∈ inAll l, s ∈ l := by
  have : ∀ (l L : List ByteArray), ∀ s ∈ l.foldl (fun L s => (intern L s).1) L, s ∈ L ∨ s ∈ l := by
    intro l
    induction l with
    | nil => intro L s h; exact .inl h
    | cons x l ih =>
      intro L s h
      rcases ih _ s h with h1 | h1
      · have h0 : s ∈ (intern L x).1 := h1
        unfold intern at h0
        split at h0
        · exact .inl h0
        · rcases List.mem_append.1 h0 with h2 | h2
          · exact .inl h2
          · exact .inr (by rw [List.mem_singleton.1 h2]; exact List.mem_cons_self)
      · exact .inr (List.mem_cons_of_mem _ h1)
  intro s h
  rcases this l [] s h with h1 | h1
  · cases h1
  · exact h1
section
variable (A0 : Option Addr) (c0 : Nat) (l0 : List ByteArray) (w : World)
set_option maxHeartbeats 4000000 in
set_option maxRecDepth 100000 in
theorem back_great (ht : ∀ w', Below w.heap.size w w' → Lib.Utf8Tabs 0 1 w') (hr0 : Kd.C Kd.string w A0 l0.length l0) (hc0 : l0.length ≤ c0) (hg : ¬ Tame l0) :
    Calls Tryd.prog 10 #[.slice A0 l0.length c0] w fun e w' => e = .returned (.bool true) ∧ Below w.heap.size w w' := by
  have HT := Lib.hid ht
  have HR := Lib.hid hr0
  have hgb : (!decide (Tame l0)) = true := by rw [decide_eq_false hg]; rfl
  clear ht hr0 hg
  go_enter Tryd.func10, Tryd.ntmps10
  go_wp2_with (fail)
  refine (awake_calls _ HT.out).mono ?_
  rintro e w1 ⟨rfl, hb1⟩
  have HB1 := Lib.hid hb1
  clear hb1
  go_wp2_with (fail)
  refine (great_calls A0 c0 l0 _ (Kd.C_below HR.out HB1.out) hc0).mono ?_
  rw [hgb]
  rintro e w2 ⟨rfl, hd2⟩
  have HB2 := Lib.hid (below_step HB1.out hd2.below)
  clear hd2
  go_wp2_with (fail)
  refine (awake_calls _ (fun w' hb => HT.out w' (below_step HB2.out hb))).mono ?_
  rintro e w3 ⟨rfl, hb3⟩
  have HB3 := Lib.hid (below_step HB2.out hb3)
  clear hb3
  go_wp2_with (fail)
  go_ret
  exact ⟨rfl, HB3.out⟩
set_option maxHeartbeats 8000000 in
set_option maxRecDepth 100000 in
theorem back_tame (ht : ∀ w', Below w.heap.size w w' → Lib.Utf8Tabs 0 1 w') (hr0 : Kd.C Kd.string w A0 l0.length l0) (hc0 : l0.length ≤ c0) (hg : Tame l0) :
    Calls Tryd.prog 10 #[.slice A0 l0.length c0] w fun e w' => e = .returned (.bool true) ∧ Below w.heap.size w w' := by
  have HT := Lib.hid ht
  have HR := Lib.hid hr0
  have hgb : (!decide (Tame l0)) = false := by rw [decide_eq_true hg]; rfl
  have HG := Lib.hid hg
  have hl200 := hg.1
  clear ht hr0 hg
  go_enter Tryd.func10, Tryd.ntmps10
  go_wp2_with (fail)
  refine (awake_calls _ HT.out).mono ?_
  rintro e w1 ⟨rfl, hb1⟩
  have HB1 := Lib.hid hb1
  clear hb1
  go_wp2_with (fail)
  refine (great_calls A0 c0 l0 _ (Kd.C_below HR.out HB1.out) hc0).mono ?_
  rw [hgb]
  rintro e w2 ⟨rfl, hd2⟩
  have HB2 := Lib.hid (below_step HB1.out hd2.below)
  clear hd2
  go_wp2_with (fail)
  refine (Has.new HB2.out).mono ?_
  rintro e w3 ⟨p, F, rfl, h3, _, _⟩
  have H3 := Lib.hid h3
  clear h3
  go_wp2_with (fail)
  go_loopg [5, 27] l0.length (fun kq v5 v27 wr => ∃ (i : Nat) (F : Nat → Prop) (x : Value), v5 = x ∧ v27 = .int .i64 (i : Int) ∧ i + kq = l0.length ∧ Aside0 (Has w wr F p (inAll (l0.take i))) ∧ Aside0 (∀ s ∈ l0.take i, badS s = false))
  case atStart => exact ⟨0, F, _, rfl, rfl, by omega, ⟨H3.out⟩, ⟨fun s hs => by simp at hs⟩⟩
  case round =>
    obtain ⟨i, F, x, rfl, rfl, hik, hH, hGd⟩ := hrel
    obtain ⟨wo, hwo⟩ : ∃ z, z = wr := ⟨_, rfl⟩
    subst hwo
    have hbd := inAll_len HG.out i
    by_cases hlt : (i : Int) < (l0.length : Int)
    · have t4 : decide ((i : Int) < (l0.length : Int)) = true := decide_eq_true hlt
      obtain ⟨ko, rfl⟩ : ∃ g, gk = g + 1 := ⟨gk - 1, by omega⟩
      obtain ⟨ad, e, k1⟩ := Kd.at_string (Kd.C_below HR.out hH.out.bel) (i : Int) (by omega) hlt
      subst e
      rw [Int.toNat_natCast] at k1
      have hsz : (rdOf ByteArray.empty l0 (i : Int)).size ≤ 500 := HG.out.2 _ (by
        have := text_at (l := l0) (i := i) (by omega)
        have h2 : rdOf ByteArray.empty l0 (i : Int) ∈ l0.drop i := by rw [this]; exact List.mem_cons_self
        exact List.mem_of_mem_drop h2)
      have hsc := Lib.hid (inAll_succ l0 (i := i) (by omega))
      have hgd : rdOf ByteArray.empty l0 (i : Int) = l0.getD i ⟨#[]⟩ := by unfold rdOf; rw [Int.toNat_natCast]; rfl
      rw [← hgd] at hsc
      have hgt := Lib.hid (show l0.take (i + 1) = l0.take i ++ [rdOf ByteArray.empty l0 (i : Int)] by rw [hgd, List.take_succ_eq_append_getElem (by omega), List.getD_eq_getElem?_getD, List.getElem?_eq_getElem (by omega)]; rfl)
      clear hgd
      generalize rdOf ByteArray.empty l0 (i : Int) = s at *
      generalize inAll (l0.take i) = L at *
      go_wp2_with (fail)
      refine (right_calls s _ (by omega)).mono ?_
      rintro e w4 ⟨rfl, hb4⟩
      have H4 := Lib.hid (hH.out.below hb4)
      clear hb4 k1
      by_cases hbs : badS s = true
      · have t7 : (!badS s) = false := by rw [hbs]; rfl
        rw [t7]
        have HB4 := Lib.hid H4.out.bel
        go_wp2_with (fail)
        go_ret
        exact ⟨rfl, HB4.out⟩
      · have t7 : (!badS s) = true := by simpa using hbs
        rw [t7]
        have HBS := Lib.hid (show badS s = false by simpa using hbs)
        clear hbs
        go_wp2_with (fail)
        refine (H4.out.intern s (by omega) (by omega) (by omega)).mono ?_
        rintro e w5 ⟨rfl, F5, hH5, _, _⟩
        have HH5 := Lib.hid hH5
        clear hH5
        go_wp2_with (fail)
        go_roundg ko
        case measure => omega
        case rel => exact ⟨i + 1, F5, _, rfl, rfl, by omega, ⟨by rw [hsc.out]; exact HH5.out⟩, ⟨fun x hx => by rw [hgt.out] at hx; rcases List.mem_append.1 hx with h | h; exact hGd.out x h; rw [List.mem_singleton.1 h]; exact HBS.out⟩⟩
    · have t4 : decide ((i : Int) < (l0.length : Int)) = false := decide_eq_false hlt
      have hi : l0.take i = l0 := List.take_of_length_le (by omega)
      rw [hi] at hH hGd hbd
      have hnd := Lib.hid (inAll_nodup l0)
      have hgood := Lib.hid (show ∀ s ∈ inAll l0, badS s = false ∧ s.size ≤ 16777216 from fun s hs => ⟨hGd.out s (inAll_mem l0 s hs), by have := HG.out.2 s (inAll_mem l0 s hs); omega⟩)
      clear hi
      generalize inAll l0 = L at *
      obtain ⟨b1, b2⟩ := hbd
      have hsz : (tabB L).size ≤ 1000000 := by
        have h1 := fold_size L (Cur.put L.length) (fun x hx => by have := (hgood.out x hx).2; omega)
        have h2 := Cur.put_size_le (n := L.length) (by omega)
        unfold tabB
        omega
      have HL1 := Lib.hid (fun (w2 : World) (hb : Below w.heap.size w w2) => law_get hb (tabB L) L.length (total L) HT.out hsz (by omega) (by omega) (by omega) (by omega) (tab_back badS L L.length (total L) hgood.out hnd.out (by omega) (by omega) (by omega)))
      have HL2 : L.length ≠ 0 → ∀ (w2 : World) (hb : Below w.heap.size w w2), Calls Tryd.prog 39 #[.string (tabB L), .int .i64 ((L.length : Int) - 1), .int .i64 (total L)] w2 fun e w' => Below w2.heap.size w2 w' ∧ e = .returned (.tuple #[.pointer none, .int .i64 19]) := fun h0 w2 hb => by
        have h19 := tab_less badS L ((L.length : Int) - 1) (total L) (by omega) (by omega)
        refine (law_get hb (tabB L) ((L.length : Int) - 1) (total L) HT.out hsz (by omega) (by omega) (by omega) (by omega) (Prod.ext h19 rfl)).mono ?_
        rintro e w' ⟨h1, _, h2⟩
        exact ⟨h1, h2 (by decide)⟩
      have HL3 : total L ≠ 0 → ∀ (w2 : World) (hb : Below w.heap.size w w2), Calls Tryd.prog 39 #[.string (tabB L), .int .i64 (L.length : Int), .int .i64 ((total L : Int) - 1)] w2 fun e w' => Below w2.heap.size w2 w' ∧ e = .returned (.tuple #[.pointer none, .int .i64 19]) := fun h0 w2 hb => by
        have h19 := tab_lessB badS L L.length ((total L : Int) - 1) hgood.out hnd.out (by omega) (by omega) (by omega)
        refine (law_get hb (tabB L) L.length ((total L : Int) - 1) HT.out hsz (by omega) (by omega) (by omega) (by omega) (Prod.ext h19 rfl)).mono ?_
        rintro e w' ⟨h1, _, h2⟩
        exact ⟨h1, h2 (by decide)⟩
      have HA1 : ∀ (w2 : World) (hb : Below w.heap.size w w2), Calls Tryd.prog 39 #[.string (tabB L), .int .i64 ((L.length : Int) - 1), .int .i64 (total L)] w2 fun e w' => Below w2.heap.size w2 w' ∧ ∃ u q, e = .returned (.tuple #[u, .int .i64 q]) ∧ (L.length ≠ 0 → q = 19) := fun w2 hb => by
        by_cases h0 : L.length = 0
        · refine (get_calls badS bad_calls (tabB L) _ _ w2 (fun w' h2 => HT.out w' (below_step hb h2)) hsz (by omega) (by omega) (by omega) (by omega)).mono ?_
          rintro e w' ⟨h1, h2⟩
          split at h2
          · obtain ⟨p, F, rfl, _⟩ := h2
            exact ⟨h1, _, _, rfl, fun h => absurd h0 h⟩
          · exact ⟨h1, _, _, h2, fun h => absurd h0 h⟩
        · refine (HL2 h0 w2 hb).mono ?_
          rintro e w' ⟨h1, rfl⟩
          exact ⟨h1, _, _, rfl, fun _ => rfl⟩
      have HA2 : ∀ (w2 : World) (hb : Below w.heap.size w w2), Calls Tryd.prog 39 #[.string (tabB L), .int .i64 (L.length : Int), .int .i64 ((total L : Int) - 1)] w2 fun e w' => Below w2.heap.size w2 w' ∧ ∃ u q, e = .returned (.tuple #[u, .int .i64 q]) ∧ (total L ≠ 0 → q = 19) := fun w2 hb => by
        by_cases h0 : total L = 0
        · refine (get_calls badS bad_calls (tabB L) _ _ w2 (fun w' h2 => HT.out w' (below_step hb h2)) hsz (by omega) (by omega) (by omega) (by omega)).mono ?_
          rintro e w' ⟨h1, h2⟩
          split at h2
          · obtain ⟨p, F, rfl, _⟩ := h2
            exact ⟨h1, _, _, rfl, fun h => absurd h0 h⟩
          · exact ⟨h1, _, _, h2, fun h => absurd h0 h⟩
        · refine (HL3 h0 w2 hb).mono ?_
          rintro e w' ⟨h1, rfl⟩
          exact ⟨h1, _, _, rfl, fun _ => rfl⟩
      have HK1 := Lib.hid HA1
      have HK2 := Lib.hid HA2
      clear HL2 HL3 HA1 HA2 hsz
      have s1 : IntKind.i64.wrap ((L.length : Int) - 1) = (L.length : Int) - 1 := by rw [IntKind.wrap_i64]; omega
      have s2 : IntKind.i64.wrap ((total L : Int) - 1) = (total L : Int) - 1 := by rw [IntKind.wrap_i64]; omega
      go_wp2_with (fail)
      refine (hH.out.put (by omega) (by omega)).mono ?_
      rintro e w4 ⟨rfl, hH4, _⟩
      have H4 := Lib.hid hH4
      clear hH4 hH
      go_wp2_with (fail)
      refine H4.out.len.mono ?_
      rintro e w5 ⟨rfl, rfl⟩
      go_wp2_with (fail)
      refine H4.out.bytes.mono ?_
      rintro e w5 ⟨rfl, rfl⟩
      go_wp2_with (fail)
      refine (HL1.out _ H4.out.bel).mono ?_
      rintro e w5 ⟨hb5, h5, _⟩
      obtain ⟨u, G, rfl, hU, _⟩ := h5 trivial
      have H5 := Lib.hid (H4.out.below hb5)
      have U5 := Lib.hid hU
      clear hU h5 hb5
      go_wp2_with (fail)
      refine (U5.out.all (by omega)).mono ?_
      rintro e w6 ⟨A6, c6, rfl, hc6, hC6, hb6⟩
      have H6 := Lib.hid (H5.out.below hb6)
      have HC6 := Lib.hid hC6
      clear hC6 hb6
      go_wp2_with (fail)
      refine (H6.out.all (by omega)).mono ?_
      rintro e w7 ⟨A7, c7, rfl, hc7, hC7, hb7⟩
      have H7 := Lib.hid (H6.out.below hb7)
      have HC7 := Lib.hid (Kd.C_below HC6.out hb7)
      have HD7 := Lib.hid hC7
      clear hC7 hb7
      go_wp2_with (fail)
      refine (same_calls A6 c6 A7 c7 L _ HC7.out hc6 HD7.out hc7 (by omega)).mono ?_
      rintro e w8 ⟨rfl, hd8⟩
      have HB8 := Lib.hid (below_step H7.out.bel hd8.below)
      clear hd8
      go_wp2_with (fail)
      try rw [s1]
      refine (HK1.out _ HB8.out).mono ?_
      rintro e w9 ⟨hb9, u9, q9, rfl, hq9⟩
      have HB9 := Lib.hid (below_step HB8.out hb9)
      clear hb9 s1
      go_wp2_with (fail)
      try rw [s2]
      refine (HK2.out _ HB9.out).mono ?_
      rintro e w10 ⟨hb10, u10, q10, rfl, hq10⟩
      have HB10 := Lib.hid (below_step HB9.out hb10)
      clear hb10 s2
      obtain ⟨x1, hx1⟩ : ∃ x : Nat, x = L.length := ⟨_, rfl⟩
      obtain ⟨x2, hx2⟩ : ∃ x : Nat, x = total L := ⟨_, rfl⟩
      rw [← hx1] at hq9 ⊢
      rw [← hx2] at hq10 ⊢
      clear hx1 hx2
      have e1 : ((x1 : Int) == 0) = true ∨ (((x1 : Int) == 0) = false ∧ q9 = 19) := by
        by_cases h : x1 = 0
        · left; simp [h]
        · right; exact ⟨by simp; omega, hq9 h⟩
      have e2 : ((x2 : Int) == 0) = true ∨ (((x2 : Int) == 0) = false ∧ q10 = 19) := by
        by_cases h : x2 = 0
        · left; simp [h]
        · right; exact ⟨by simp; omega, hq10 h⟩
      clear hq9 hq10
      rcases e1 with e1 | ⟨e1, rfl⟩ <;> rcases e2 with e2 | ⟨e2, rfl⟩
      all_goals
        go_wp2_with (fail)
        go_ret
        exact ⟨rfl, HB10.out⟩
end
theorem back_all (A0 : Option Addr) (c0 : Nat) (l0 : List ByteArray) (w : World) (ht : ∀ w', Below w.heap.size w w' → Lib.Utf8Tabs 0 1 w') (hr0 : Kd.C Kd.string w A0 l0.length l0) (hc0 : l0.length ≤ c0) :
    Calls Tryd.prog 10 #[.slice A0 l0.length c0] w fun e w' => e = .returned (.bool true) ∧ Below w.heap.size w w' := by
  by_cases h : Tame l0
  · exact back_tame A0 c0 l0 w ht hr0 hc0 h
  · exact back_great A0 c0 l0 w ht hr0 hc0 h
end Go.Proofs.YtmglknchklgokaaDoor.Tab
