/- StrtabPuts: in whatever order texts are interned, each has the number that the document says. -/
import Derived.Test.YtmglknchklgokaaDoorTLaw
import Derived.Test.YtmglknchklgokaaDoorRPut
import Derived.Deep.LoopGhost
namespace Go.Proofs.YtmglknchklgokaaDoor.Tab
open Go.RowKit Go.Lib Go.Proofs.YtmglknchklgokaaDoorW.PrintWords Go.Proofs.YtmglknchklgokaaDoorW.PrintLast Go.Proofs.YtmglknchklgokaaDoorW.PrintMore Go.Proofs.YtmglknchklgokaaDoor.B Go.Proofs.YtmglknchklgokaaDoor.Bd Go.Proofs.YtmglknchklgokaaDoor.GS
set_option linter.unusedVariables false
set_option linter.unusedSimpArgs false
/-- All texts, interned. -/
def inAll (l : List ByteArray) : List ByteArray := l.foldl (fun L s => (intern L s).1) []
theorem inAll_succ (l : List ByteArray) {i : Nat} (hi : i < l.length) : inAll (l.take (i + 1)) = (intern (inAll (l.take i)) (l.getD i ⟨#[]⟩)).1 := by
  unfold inAll
  rw [List.take_succ_eq_append_getElem hi, List.foldl_append, List.getD_eq_getElem?_getD, List.getElem?_eq_getElem hi]
  rfl
theorem fold_in : ∀ (l L : List ByteArray), (l.foldl (fun L s => (intern L s).1) L).length ≤ L.length + l.length ∧ total (l.foldl (fun L s => (intern L s).1) L) ≤ total L + total l
  | [], L => by simp [total]
  | s :: l, L => by
    have h1 := fold_in l (intern L s).1
    have h2 := intern_len L s
    have h3 := intern_total L s
    rw [List.foldl_cons, List.length_cons, total_cons]
    omega
theorem tame_take {l : List ByteArray} (h : Tame l) (i : Nat) : Tame (l.take i) := ⟨by have := h.1; simp; omega, fun s hs => h.2 s (List.mem_of_mem_take hs)⟩
theorem inAll_len {l : List ByteArray} (h : Tame l) (i : Nat) : (inAll (l.take i)).length ≤ 200 ∧ total (inAll (l.take i)) ≤ 100000 := by
  have h1 := fold_in (l.take i) []
  have h2 := tame_total (tame_take h i)
  have h3 := (tame_take h i).1
  have h4 : total ([] : List ByteArray) = 0 := rfl
  unfold inAll
  simp only [List.length_nil, h4] at h1
  omega
theorem inAll_nodup (l : List ByteArray) : (inAll l).Nodup := by
  have : ∀ (l L : List ByteArray), L.Nodup → (l.foldl (fun L s => (intern L s).1) L).Nodup := by
    intro l
    induction l with
    | nil => intro L h; exact h
    | cons s l ih => intro L h; exact ih _ (intern_nodup s h)
  exact this l [] List.nodup_nil
section
variable (A0 : Option Addr) (c0 : Nat) (l0 : List ByteArray) (ask : Int) (w : World)
set_option maxHeartbeats 4000000 in
set_option maxRecDepth 100000 in
theorem puts_great (ht : ∀ w', Below w.heap.size w w' → Lib.Utf8Tabs 0 1 w') (hr0 : Kd.C Kd.string w A0 l0.length l0) (hc0 : l0.length ≤ c0) (hg : ¬ Tame l0) :
    Calls Tryd.prog 8 #[.slice A0 l0.length c0, .int .i64 ask] w fun e w' => e = .returned (.bool true) ∧ Below w.heap.size w w' := by
  have HT := Lib.hid ht
  have HR := Lib.hid hr0
  have hgb : (!decide (Tame l0)) = true := by rw [decide_eq_false hg]; rfl
  clear ht hr0 hg
  go_enter Tryd.func8, Tryd.ntmps8
  go_wp2_with (fail)
  refine (awake_calls _ HT.out).mono ?_
  rintro e w1 ⟨rfl, hb1⟩
  have HB1 := Lib.hid hb1
  clear hb1
  go_wp2_with (fail)
  refine (great_calls A0 c0 l0 _ (Kd.C_below HR.out HB1.out) hc0).mono ?_
  rw [hgb]
  rintro e w2 ⟨rfl, hd2⟩
  have HB2 := Lib.hid (below_step HB1.out hd2.below)
  clear hd2
  go_wp2_with (fail)
  refine (awake_calls _ (fun w' hb => HT.out w' (below_step HB2.out hb))).mono ?_
  rintro e w3 ⟨rfl, hb3⟩
  have HB3 := Lib.hid (below_step HB2.out hb3)
  clear hb3
  go_wp2_with (fail)
  go_ret
  exact ⟨rfl, HB3.out⟩
set_option maxHeartbeats 8000000 in
set_option maxRecDepth 100000 in
theorem puts_tame (ht : ∀ w', Below w.heap.size w w' → Lib.Utf8Tabs 0 1 w') (hr0 : Kd.C Kd.string w A0 l0.length l0) (hc0 : l0.length ≤ c0) (a0 : -9223372036854775808 ≤ ask) (a1 : ask ≤ 9223372036854775807) (hg : Tame l0) :
    Calls Tryd.prog 8 #[.slice A0 l0.length c0, .int .i64 ask] w fun e w' => e = .returned (.bool true) ∧ Below w.heap.size w w' := by
  have HT := Lib.hid ht
  have HR := Lib.hid hr0
  have hgb : (!decide (Tame l0)) = false := by rw [decide_eq_true hg]; rfl
  have HG := Lib.hid hg
  have hl200 := hg.1
  clear ht hr0 hg
  go_enter Tryd.func8, Tryd.ntmps8
  go_wp2_with (fail)
  refine (awake_calls _ HT.out).mono ?_
  rintro e w1 ⟨rfl, hb1⟩
  have HB1 := Lib.hid hb1
  clear hb1
  go_wp2_with (fail)
  refine (great_calls A0 c0 l0 _ (Kd.C_below HR.out HB1.out) hc0).mono ?_
  rw [hgb]
  rintro e w2 ⟨rfl, hd2⟩
  have HB2 := Lib.hid (below_step HB1.out hd2.below)
  clear hd2
  go_wp2_with (fail)
  refine (Has.new HB2.out).mono ?_
  rintro e w3 ⟨p, F, rfl, h3, _, _⟩
  have H3 := Lib.hid h3
  clear h3
  go_wp2_with (fail)
  go_loopg [6, 8, 9, 24] l0.length (fun kq v6 v8 v9 v24 wr => ∃ (i : Nat) (F : Nat → Prop) (x y : Value), v8 = x ∧ v9 = y ∧ v24 = .int .i64 (i : Int) ∧ i + kq = l0.length ∧ Aside0 (Has w wr F p (inAll (l0.take i))) ∧ Aside0 (Texts w wr F v6 (inAll (l0.take i))))
  case atStart => exact ⟨0, F, _, _, rfl, rfl, rfl, by omega, ⟨H3.out⟩, ⟨Texts.nil _ _ _⟩⟩
  case round =>
    obtain ⟨i, F, x, y, rfl, rfl, rfl, hik, hH, hX⟩ := hrel
    obtain ⟨wo, hwo⟩ : ∃ z, z = wr := ⟨_, rfl⟩
    subst hwo
    have hbd := inAll_len HG.out i
    by_cases hlt : (i : Int) < (l0.length : Int)
    · have t4 : decide ((i : Int) < (l0.length : Int)) = true := decide_eq_true hlt
      obtain ⟨ko, rfl⟩ : ∃ g, gk = g + 1 := ⟨gk - 1, by omega⟩
      obtain ⟨ad, e, k1⟩ := Kd.at_string (Kd.C_below HR.out hH.out.bel) (i : Int) (by omega) hlt
      subst e
      rw [Int.toNat_natCast] at k1
      have hsz : (rdOf ByteArray.empty l0 (i : Int)).size ≤ 500 := HG.out.2 _ (by
        have := text_at (l := l0) (i := i) (by omega)
        have h2 : rdOf ByteArray.empty l0 (i : Int) ∈ l0.drop i := by rw [this]; exact List.mem_cons_self
        exact List.mem_of_mem_drop h2)
      have hsc := Lib.hid (inAll_succ l0 (i := i) (by omega))
      have hgd : rdOf ByteArray.empty l0 (i : Int) = l0.getD i ⟨#[]⟩ := by unfold rdOf; rw [Int.toNat_natCast]; rfl
      rw [← hgd] at hsc
      clear hgd
      generalize rdOf ByteArray.empty l0 (i : Int) = s at *
      generalize inAll (l0.take i) = L at *
      go_wp2_with (fail)
      refine (Texts.rintern hH.out hX.out s (by omega)).mono ?_
      rintro e w4 ⟨v', rfl, hX4, hH4⟩
      have HX4 := Lib.hid hX4
      have HH4 := Lib.hid hH4
      clear hX4 hH4 hX hH k1
      go_wp2_with (fail)
      refine (HH4.out.intern s (by omega) (by omega) (by omega)).mono ?_
      rintro e w5 ⟨rfl, F5, hH5, hM5, hF5⟩
      have HX5 := Lib.hid (HX4.out.interned hM5 hF5)
      have HH5 := Lib.hid hH5
      clear hH5 hM5 hF5
      have tne : (((intern L s).2 : Int) != ((intern L s).2 : Int)) = false := by simp
      go_wp2_with (fail)
      go_roundg ko
      case measure => omega
      case rel => exact ⟨i + 1, F5, _, _, rfl, rfl, rfl, by omega, ⟨by rw [hsc.out]; exact HH5.out⟩, ⟨by rw [hsc.out]; exact HX5.out⟩⟩
    · have t4 : decide ((i : Int) < (l0.length : Int)) = false := decide_eq_false hlt
      generalize inAll (l0.take i) = L at *
      obtain ⟨b1, b2⟩ := hbd
      obtain ⟨A2, c2, rfl, hc2, hR2⟩ := hX.out.reads
      have HR2 := Lib.hid hR2
      clear hR2 hX
      by_cases hin : 0 ≤ ask ∧ ask < (L.length : Int)
      · have hat : atT L ask = (L.getD ask.toNat ⟨#[]⟩, true) := if_pos hin
        go_wp2_with (fail)
        refine (hH.out.at ask).mono ?_
        rw [hat]
        rintro e w4 ⟨rfl, rfl⟩
        obtain ⟨ad, e, k1⟩ := Kd.at_string HR2.out ask hin.1 hin.2
        subst e
        have hgd : rdOf ByteArray.empty L ask = L.getD ask.toNat ⟨#[]⟩ := rfl
        rw [hgd] at k1
        clear hat hgd
        generalize L.getD ask.toNat ⟨#[]⟩ = s at *
        obtain ⟨hin0, hin1⟩ := hin
        have d1 : decide (ask ≥ 0) = true := decide_eq_true hin0
        have d2 : decide (ask < (L.length : Int)) = true := decide_eq_true hin1
        have d3 : (s != s) = false := by simp
        go_wp2_with (fail)
        refine hH.out.len.mono ?_
        rintro e w5 ⟨rfl, rfl⟩
        go_wp2_with (fail)
        refine hH.out.bytes.mono ?_
        rintro e w5 ⟨rfl, rfl⟩
        go_wp2_with (fail)
        refine (rbytes_calls _ c2 L _ HR2.out hc2 (by omega) (by omega)).mono ?_
        rintro e w6 ⟨rfl, hd6⟩
        have H6 := Lib.hid (hH.out.drawn hd6)
        have HR6 := Lib.hid (Kd.C_below HR2.out hd6.below)
        clear hd6 k1
        go_wp2_with (fail)
        refine (H6.out.all (by omega)).mono ?_
        rintro e w7 ⟨A7, c7, rfl, hc7, hC7, hb7⟩
        have H7 := Lib.hid (H6.out.below hb7)
        have HR7 := Lib.hid (Kd.C_below HR6.out hb7)
        have HA7 := Lib.hid hC7
        clear hb7 hC7
        go_wp2_with (fail)
        refine (same_calls A7 c7 _ c2 L _ HA7.out hc7 HR7.out hc2 (by omega)).mono ?_
        rintro e w8 ⟨rfl, hd8⟩
        have H8 := Lib.hid (H7.out.drawn hd8)
        have HR8 := Lib.hid (Kd.C_below HR7.out hd8.below)
        clear hd8
        go_wp2_with (fail)
        refine (H8.out.put (by omega) (by omega)).mono ?_
        rintro e w9 ⟨rfl, hH9, hb9⟩
        have H9 := Lib.hid hH9
        have HR9 := Lib.hid (Kd.C_below HR8.out hb9)
        clear hH9 hb9
        go_wp2_with (fail)
        refine (rput_calls _ c2 L _ HR9.out hc2 (by omega) (by omega)).mono ?_
        rintro e w10 ⟨rfl, hb10⟩
        have HB10 := Lib.hid (below_step H9.out.bel hb10)
        have teq : (tabB L == tabB L) = true := by simp
        clear hb10
        go_wp2_with (fail)
        go_ret
        exact ⟨rfl, HB10.out⟩
      · have hat : atT L ask = (⟨#[]⟩, false) := if_neg hin
        go_wp2_with (fail)
        refine (hH.out.at ask).mono ?_
        rw [hat]
        rintro e w4 ⟨rfl, rfl⟩
        clear hat
        by_cases h1 : 0 ≤ ask
        all_goals
          first
            | (have d1 : decide (ask ≥ 0) = true := decide_eq_true h1; have d2 : decide (ask < (L.length : Int)) = false := decide_eq_false (by omega); skip)
            | (have d1 : decide (ask ≥ 0) = false := decide_eq_false h1; skip)
          clear hin
          go_wp2_with (fail)
          refine hH.out.len.mono ?_
          rintro e w5 ⟨rfl, rfl⟩
          go_wp2_with (fail)
          refine hH.out.bytes.mono ?_
          rintro e w5 ⟨rfl, rfl⟩
          go_wp2_with (fail)
          refine (rbytes_calls _ c2 L _ HR2.out hc2 (by omega) (by omega)).mono ?_
          rintro e w6 ⟨rfl, hd6⟩
          have H6 := Lib.hid (hH.out.drawn hd6)
          have HR6 := Lib.hid (Kd.C_below HR2.out hd6.below)
          clear hd6
          go_wp2_with (fail)
          refine (H6.out.all (by omega)).mono ?_
          rintro e w7 ⟨A7, c7, rfl, hc7, hC7, hb7⟩
          have H7 := Lib.hid (H6.out.below hb7)
          have HR7 := Lib.hid (Kd.C_below HR6.out hb7)
          have HA7 := Lib.hid hC7
          clear hb7 hC7
          go_wp2_with (fail)
          refine (same_calls A7 c7 _ c2 L _ HA7.out hc7 HR7.out hc2 (by omega)).mono ?_
          rintro e w8 ⟨rfl, hd8⟩
          have H8 := Lib.hid (H7.out.drawn hd8)
          have HR8 := Lib.hid (Kd.C_below HR7.out hd8.below)
          clear hd8
          go_wp2_with (fail)
          refine (H8.out.put (by omega) (by omega)).mono ?_
          rintro e w9 ⟨rfl, hH9, hb9⟩
          have H9 := Lib.hid hH9
          have HR9 := Lib.hid (Kd.C_below HR8.out hb9)
          clear hH9 hb9
          go_wp2_with (fail)
          refine (rput_calls _ c2 L _ HR9.out hc2 (by omega) (by omega)).mono ?_
          rintro e w10 ⟨rfl, hb10⟩
          have HB10 := Lib.hid (below_step H9.out.bel hb10)
          have teq : (tabB L == tabB L) = true := by simp
          clear hb10
          go_wp2_with (fail)
          go_ret
          exact ⟨rfl, HB10.out⟩
end
theorem puts_all (A0 : Option Addr) (c0 : Nat) (l0 : List ByteArray) (ask : Int) (w : World) (ht : ∀ w', Below w.heap.size w w' → Lib.Utf8Tabs 0 1 w') (hr0 : Kd.C Kd.string w A0 l0.length l0) (hc0 : l0.length ≤ c0) (a0 : -9223372036854775808 ≤ ask) (a1 : ask ≤ 9223372036854775807) :
    Calls Tryd.prog 8 #[.slice A0 l0.length c0, .int .i64 ask] w fun e w' => e = .returned (.bool true) ∧ Below w.heap.size w w' := by
  by_cases h : Tame l0
  · exact puts_tame A0 c0 l0 ask w ht hr0 hc0 a0 a1 h
  · exact puts_great A0 c0 l0 ask w ht hr0 hc0 h
end Go.Proofs.YtmglknchklgokaaDoor.Tab
