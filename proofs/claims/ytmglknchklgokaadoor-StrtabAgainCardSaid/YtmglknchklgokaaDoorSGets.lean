/- StrtabGets: any bytes are, within any limits, the table that the document says, or none. -/
import Derived.Test.YtmglknchklgokaaDoorTLaw
import Derived.Test.YtmglknchklgokaaDoorRGet
namespace Go.Proofs.YtmglknchklgokaaDoor.Tab
open Go.RowKit Go.Lib Go.Proofs.YtmglknchklgokaaDoorW.PrintWords Go.Proofs.YtmglknchklgokaaDoorW.PrintLast Go.Proofs.YtmglknchklgokaaDoorW.PrintMore Go.Proofs.YtmglknchklgokaaDoor.B Go.Proofs.YtmglknchklgokaaDoor.Bd Go.Proofs.YtmglknchklgokaaDoor.GS
set_option linter.unusedVariables false
set_option linter.unusedSimpArgs false
theorem tabB_len (l : List ByteArray) : l.length + total l ≤ (tabB l).size := by
  have h1 : ∀ l : List ByteArray, l.length + total l ≤ (recL l).length := by
    intro l
    induction l with
    | nil => simp [total]
    | cons s l ih =>
      have := VM.enc_length_pos s.size
      rw [recL_cons, total_cons, List.length_cons]
      simp only [List.length_append, Cur.bl_length]
      omega
  have h2 := h1 l
  rw [← Cur.bl_length, tabB_bl, List.length_append]
  omega
section
variable (b : ByteArray) (texts bytes : Int) (w : World)
set_option maxHeartbeats 4000000 in
set_option maxRecDepth 100000 in
theorem gets_great (ht : ∀ w', Below w.heap.size w w' → Lib.Utf8Tabs 0 1 w') (hg : 1500 < b.size) :
    Calls Tryd.prog 9 #[.string b, .int .i64 texts, .int .i64 bytes] w fun e w' => e = .returned (.bool true) ∧ Below w.heap.size w w' := by
  have HT := Lib.hid ht
  have d1 : decide ((b.size : Int) > 1500) = true := decide_eq_true (by omega)
  clear ht
  go_enter Tryd.func9, Tryd.ntmps9
  go_wp2_with (fail)
  refine (awake_calls _ HT.out).mono ?_
  rintro e w1 ⟨rfl, hb1⟩
  have HB1 := Lib.hid hb1
  clear hb1
  go_wp2_with (fail)
  refine (awake_calls _ (fun w' hb => HT.out w' (below_step HB1.out hb))).mono ?_
  rintro e w3 ⟨rfl, hb3⟩
  have HB3 := Lib.hid (below_step HB1.out hb3)
  clear hb3
  go_wp2_with (fail)
  go_ret
  exact ⟨rfl, HB3.out⟩
set_option maxHeartbeats 8000000 in
set_option maxRecDepth 100000 in
theorem gets_walk (ht : ∀ w', Below w.heap.size w w' → Lib.Utf8Tabs 0 1 w') (hg : b.size ≤ 1500) (t0 : -9223372036854775808 ≤ texts) (t1 : texts ≤ 9223372036854775807) (b0 : -9223372036854775808 ≤ bytes) (b1 : bytes ≤ 9223372036854775807) :
    Calls Tryd.prog 9 #[.string b, .int .i64 texts, .int .i64 bytes] w fun e w' => e = .returned (.bool true) ∧ Below w.heap.size w w' := by
  have HT := Lib.hid ht
  have d1 : decide ((b.size : Int) > 1500) = false := decide_eq_false (by omega)
  have hone := Lib.hid (fun h : (getE badS b texts bytes).1 = 0 => getE_one badS h)
  have HRG := Lib.hid (fun w => rget_calls b texts bytes w (by omega) t0 t1 b0 b1)
  have HLG := Lib.hid (fun (w2 : World) (hb : Below w.heap.size w w2) q l hE => law_get (q := q) (l := l) hb b texts bytes HT.out (by omega) t0 t1 b0 b1 hE)
  unfold RGetPost at HRG
  clear ht
  obtain ⟨q, hq⟩ : ∃ q, q = (getE badS b texts bytes).1 := ⟨_, rfl⟩
  obtain ⟨l, hl⟩ : ∃ l, l = (getE badS b texts bytes).2 := ⟨_, rfl⟩
  have hE : getE badS b texts bytes = (q, l) := by rw [hq, hl]
  rw [hE] at HRG hone
  have HLG2 := Lib.hid (fun (w2 : World) (hb : Below w.heap.size w w2) => HLG.out w2 hb q l hE)
  clear HLG hE hq hl
  go_enter Tryd.func9, Tryd.ntmps9
  go_wp2_with (fail)
  refine (awake_calls _ HT.out).mono ?_
  rintro e w1 ⟨rfl, hb1⟩
  have HB1 := Lib.hid hb1
  clear hb1
  go_wp2_with (fail)
  refine (HLG2.out _ HB1.out).mono ?_
  rintro e w2 ⟨hb2, h2, k2⟩
  have HB2 := Lib.hid (below_step HB1.out hb2)
  by_cases hz : q = 0
  · subst hz
    obtain ⟨p, F, rfl, hH2, _⟩ := h2 rfl
    obtain ⟨l', hl', hone⟩ := hone.out rfl
    obtain rfl : l = l' := (Prod.mk.inj hl').2
    obtain ⟨o1, o2, o3, o4, o5, o6⟩ := hone
    have hlen : l.length ≤ 1500 ∧ total l ≤ 1500 := by have := tabB_len l; rw [o1] at this; omega
    obtain ⟨n1, n2⟩ := hlen
    have H2 := Lib.hid hH2
    clear h2 k2 hH2 hb2 hl' o1 o2 o3 o4 o5 o6
    go_wp2_with (fail)
    refine (HRG.out _).mono ?_
    rintro e w3 ⟨hb3, v, rfl, h3⟩
    rw [if_pos trivial] at h3
    obtain ⟨A3, c3, rfl, hc3, hC3⟩ := own_reads h3
    have H3 := Lib.hid (H2.out.below hb3)
    have HC3 := Lib.hid hC3
    clear h3 hC3 hb3
    go_wp2_with (fail)
    refine (H3.out.all (by omega)).mono ?_
    rintro e w4 ⟨A4, c4, rfl, hc4, hC4, hb4⟩
    have H4 := Lib.hid (H3.out.below hb4)
    have HC4 := Lib.hid (Kd.C_below HC3.out hb4)
    have HD4 := Lib.hid hC4
    clear hC4 hb4
    go_wp2_with (fail)
    refine (same_calls A4 c4 A3 c3 l _ HD4.out hc4 HC4.out hc3 (by omega)).mono ?_
    rintro e w5 ⟨rfl, hd5⟩
    have H5 := Lib.hid (H4.out.drawn hd5)
    have HC5 := Lib.hid (Kd.C_below HC4.out hd5.below)
    clear hd5
    go_wp2_with (fail)
    refine H5.out.bytes.mono ?_
    rintro e w6 ⟨rfl, rfl⟩
    go_wp2_with (fail)
    refine (rbytes_calls A3 c3 l _ HC5.out hc3 (by omega) (by omega)).mono ?_
    rintro e w7 ⟨rfl, hd7⟩
    have HB7 := Lib.hid (below_step H5.out.bel hd7.below)
    clear hd7
    go_wp2_with (fail)
    go_ret
    exact ⟨rfl, HB7.out⟩
  · obtain rfl := k2 hz
    have d2 : (q == 0) = false := by simpa using hz
    clear h2 k2 hb2 hone
    go_wp2_with (fail)
    refine (HRG.out _).mono ?_
    rintro e w3 ⟨hb3, v, rfl, h3⟩
    rw [if_neg hz] at h3
    subst h3
    have HB3 := Lib.hid (below_step HB2.out hb3)
    clear hb3
    go_wp2_with (fail)
    go_ret
    exact ⟨rfl, HB3.out⟩
end
theorem gets_all (b : ByteArray) (texts bytes : Int) (w : World) (ht : ∀ w', Below w.heap.size w w' → Lib.Utf8Tabs 0 1 w') (t0 : -9223372036854775808 ≤ texts) (t1 : texts ≤ 9223372036854775807) (b0 : -9223372036854775808 ≤ bytes) (b1 : bytes ≤ 9223372036854775807) :
    Calls Tryd.prog 9 #[.string b, .int .i64 texts, .int .i64 bytes] w fun e w' => e = .returned (.bool true) ∧ Below w.heap.size w w' := by
  by_cases h : 1500 < b.size
  · exact gets_great b texts bytes w ht h
  · exact gets_walk b texts bytes w ht (by omega) t0 t1 b0 b1
end Go.Proofs.YtmglknchklgokaaDoor.Tab
