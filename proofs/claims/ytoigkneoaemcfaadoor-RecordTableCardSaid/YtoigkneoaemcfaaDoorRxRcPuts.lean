/- RecordPuts: any node has the record that the document says. -/
import Derived.Test.YtoigkneoaemcfaaDoorRxRcAw
namespace Go.Proofs.YtoigkneoaemcfaaDoor.Rec
open Go.RowKit Go.Lib Go.Proofs.YtoigkneoaemcfaaDoorW.PrintWords Go.Proofs.YtoigkneoaemcfaaDoorW.PrintLast Go.Proofs.YtoigkneoaemcfaaDoorW.PrintMore Go.Proofs.YtoigkneoaemcfaaDoor.B Go.Proofs.YtoigkneoaemcfaaDoor.Bd Go.Proofs.YtoigkneoaemcfaaDoor.Tab Go.Proofs.YtoigkneoaemcfaaDoor.GR
set_option linter.unusedVariables false
set_option linter.unusedSimpArgs false
theorem has_away {w0 w w' : World} {F : Nat → Prop} {p : Nat} {L : List ByteArray} {v : Value} {l : List ByteArray} (h : Has w0 w F p L) (hX : Texts w0 w F v l) (m : Mv (Of v) w w') : Has w0 w' F p L :=
  h.apart m (fun k hk => (hX.1.lt k hk).1) (fun k hk hs => hX.2 k hs hk)
section
variable (k at' : Int) (A1 : Option Addr) (c1 : Nat) (l1 : List Int) (A2 : Option Addr) (c2 : Nat) (l2 : List ByteArray) (A3 : Option Addr) (c3 : Nat) (l3 : List Int) (A0 : Option Addr) (c0 : Nat) (l0 : List ByteArray) (w : World)
set_option maxHeartbeats 4000000 in
set_option maxRecDepth 100000 in
theorem puts_great (ht : ∀ w', Below w.heap.size w w' → Lib.Utf8Tabs 0 1 w') (hr : Kd.C Kd.string w A0 l0.length l0) (hc : l0.length ≤ c0) (hg : ¬ Tame l0) :
    Calls Tryd.prog 4 #[.agg #[.int .i64 k, .slice A1 l1.length c1, .slice A2 l2.length c2, .slice A3 l3.length c3], .int .i64 at', .slice A0 l0.length c0] w fun e w' => e = .returned (.bool true) ∧ Below w.heap.size w w' := by
  have HT := Lib.hid ht
  have HR := Lib.hid hr
  have HG := Lib.hid hg
  clear ht hr hg
  go_enter Tryd.func4, Tryd.ntmps4
  go_upto_region 1 with (fail)
  have hb1 : Below w.heap.size w (w.alloc (.cells #[.int .i64 k, .slice A1 l1.length c1, .slice A2 l2.length c2, .slice A3 l3.length c3] 40)) := (Below.refl _ _).alloc (Nat.le_refl _) _
  generalize w.alloc (.cells #[.int .i64 k, .slice A1 l1.length c1, .slice A2 l2.length c2, .slice A3 l3.length c3] 40) = w1 at *
  have HB1 := Lib.hid hb1
  clear hb1
  go_wp2_with (fail)
  refine (table_great A0 c0 l0 _ (Kd.C_below HR.out HB1.out) hc HG.out).mono ?_
  rintro e w2 ⟨rfl, hb2⟩
  have HB2 := Lib.hid (below_step HB1.out hb2)
  clear hb2
  go_wp2_with (fail)
  refine (awake_calls _ (fun w' hb => HT.out w' (below_step HB2.out hb))).mono ?_
  rintro e w3 ⟨rfl, hb3⟩
  have HB3 := Lib.hid (below_step HB2.out hb3)
  clear hb3
  go_wp2_with (fail)
  refine (awake_calls _ (fun w' hb => HT.out w' (below_step HB3.out hb))).mono ?_
  rintro e w4 ⟨rfl, hb4⟩
  have HB4 := Lib.hid (below_step HB3.out hb4)
  clear hb4
  go_wp2_with (fail)
  go_ret
  exact ⟨rfl, HB4.out⟩
set_option maxHeartbeats 8000000 in
set_option maxRecDepth 100000 in
theorem puts_tame (ht : ∀ w', Below w.heap.size w w' → Lib.Utf8Tabs 0 1 w') (hi : In w A1 c1 l1 A2 c2 l2 A3 c3 l3) (hr : Kd.C Kd.string w A0 l0.length l0) (hc : l0.length ≤ c0) (hg : Tame l0) (hi1 : I64 l1) (hi3 : I64 l3) (hat : -9223372036854775808 ≤ at' ∧ at' ≤ 9223372036854775807) :
    Calls Tryd.prog 4 #[.agg #[.int .i64 k, .slice A1 l1.length c1, .slice A2 l2.length c2, .slice A3 l3.length c3], .int .i64 at', .slice A0 l0.length c0] w fun e w' => e = .returned (.bool true) ∧ Below w.heap.size w w' := by
  have HT := Lib.hid ht
  have HR := Lib.hid hr
  have HG := Lib.hid hg
  have HI := Lib.hid hi
  have HI1 := Lib.hid hi1
  have HI3 := Lib.hid hi3
  have HAT := Lib.hid hat
  obtain ⟨gb, hgb, hgc⟩ := great_calls8 k l1 l2 l3
  have HGB := Lib.hid hgb
  have HGC := Lib.hid hgc
  clear ht hr hg hi hi1 hi3 hat hgb hgc
  go_enter Tryd.func4, Tryd.ntmps4
  go_upto_region 1 with (fail)
  have hb1 : Below w.heap.size w (w.alloc (.cells #[.int .i64 k, .slice A1 l1.length c1, .slice A2 l2.length c2, .slice A3 l3.length c3] 40)) := (Below.refl _ _).alloc (Nat.le_refl _) _
  have hx1 : NBox (w.alloc (.cells #[.int .i64 k, .slice A1 l1.length c1, .slice A2 l2.length c2, .slice A3 l3.length c3] 40)) w.heap.size k (.slice A1 l1.length c1) (.slice A2 l2.length c2) (.slice A3 l3.length c3) := heap_alloc_new w _
  generalize w.alloc (.cells #[.int .i64 k, .slice A1 l1.length c1, .slice A2 l2.length c2, .slice A3 l3.length c3] 40) = w1 at *
  have HB1 := Lib.hid hb1
  have HX1 := Lib.hid hx1
  clear hb1 hx1
  go_wp2_with (fail)
  refine (table_tame A0 c0 l0 _ (Kd.C_below HR.out HB1.out) hc HG.out).mono ?_
  rintro e w2 ⟨p, F, v, rfl, h2, hX2⟩
  have hbd := tab_tame HG.out 0 (tabOf [] l0) (by
    rw [List.drop_zero]
    have h5 := ids_old (L := tabOf [] l0) (tabOf_nodup l0 [] List.nodup_nil) (ids [] l0) (by have := (ids_get l0 [] []).1; rw [List.append_nil] at this; exact this)
    have h6 := (ids_get l0 [] []).2
    rw [List.append_nil] at h6
    rw [h6] at h5
    exact h5.2)
  have HX2 := Lib.hid (HX1.out.below h2.bel)
  have hwb : w.heap.size ≤ w1.heap.size := HB1.out.size
  have HFB := Lib.hid (show ∀ k, F k → w.heap.size < k from fun k hk => Nat.lt_of_lt_of_le (blk_lt HX1.out) (h2.2.2 k hk))
  have H2 := Lib.hid (has_up HB1.out h2)
  have HV2 := Lib.hid (texts_up HB1.out hX2)
  clear h2 hX2
  generalize tabOf [] l0 = L at *
  go_wp2_with (fail)
  refine (awake_calls _ (fun w' hb => HT.out w' (below_step H2.out.bel hb))).mono ?_
  rintro e w3 ⟨rfl, hb3⟩
  have H3 := Lib.hid (H2.out.below hb3)
  have HV3 := Lib.hid (HV2.out.below hb3)
  have HX3 := Lib.hid (HX2.out.below hb3)
  clear hb3
  obtain ⟨x0, x1, x2, x3⟩ := HX3.out.cells
  go_wp2_with (fail)
  refine (HGC.out _ A1 c1 A2 c2 A3 c3 (HI.out.below H3.out.bel)).mono ?_
  rintro e w4 ⟨rfl, hb4⟩
  have H4 := Lib.hid (H3.out.below hb4)
  have HV4 := Lib.hid (HV3.out.below hb4)
  have HX4 := Lib.hid (HX3.out.below hb4)
  clear hb4 x0 x1 x2 x3
  cases gb with
  | true =>
    go_wp2_with (fail)
    refine (awake_calls _ (fun w' hb => HT.out w' (below_step H4.out.bel hb))).mono ?_
    rintro e w5 ⟨rfl, hb5⟩
    have HB5 := Lib.hid (below_step H4.out.bel hb5)
    clear hb5
    go_wp2_with (fail)
    go_ret
    exact ⟨rfl, HB5.out⟩
  | false =>
    have HS := Lib.hid (HGB.out rfl)
    obtain ⟨x0, x1, x2, x3⟩ := HX4.out.cells
    go_wp2_with (fail)
    refine (copy_calls8 (k := k) _ (HI.out.below H4.out.bel) HS.out).mono ?_
    rintro e w5 ⟨u1, u2, u3, rfl, hM5, hb5⟩
    have H5 := Lib.hid (H4.out.below hb5)
    have HV5 := Lib.hid (HV4.out.below hb5)
    have HX5 := Lib.hid (HX4.out.below hb5)
    obtain ⟨B1, d1, B2, d2, B3, d3, rfl, rfl, rfl, _⟩ := hM5.reads
    have HST := Lib.hid (stays_made (F := F) (w0 := w) hM5 (hM5.away H4.out.lt))
    clear hM5 hb5 x0 x1 x2 x3
    go_wp2_with (fail)
    refine (has_rput H5.out k at' HT.out HST.out HS.out.fit HI1.out HI3.out HAT.out (by omega) (by omega)).mono ?_
    have hn2 := HS.out.n2
    have htot := HS.out.total
    rintro e w6 ⟨rfl, F6, h6, m6, f6⟩
    have H6 := Lib.hid h6
    have HV6 := Lib.hid (HV5.out.interned m6 f6)
    have HX6 := Lib.hid (show NBox w6 w.heap.size k (.slice A1 l1.length c1) (.slice A2 l2.length c2) (.slice A3 l3.length c3) from m6.keep HX5.out (fun h => by have := HFB.out _ h; omega))
    clear h6 m6 f6 HST
    obtain ⟨x0, x1, x2, x3⟩ := HX6.out.cells
    go_wp2_with (fail)
    refine (rrecput_calls w v L k at' A1 c1 l1 A2 c2 l2 A3 c3 l3 _ ⟨H6.out.bel, HV6.out.1⟩ (fun w' hb => HI.out.below hb) HS.out.fit HI1.out HI3.out HAT.out (by omega)).mono ?_
    have hlen : (putR k l1 l2 l3 at' L).2.1.length ≤ 1000 := by
      have h1 := tabOf_len l2 L
      unfold putR
      split
      · simp only; omega
      · simp only [putO_tab]; omega
    rintro e w7 ⟨v', rfl, hO7, m7, f7⟩
    have H7 := Lib.hid (has_away H6.out HV6.out m7)
    obtain ⟨A7, c7, rfl, hc7, hC7⟩ := own_reads hO7.2
    have HC7 := Lib.hid hC7
    clear hO7 m7 f7 hC7 x0 x1 x2 x3 H6 HX6 HV6
    generalize (putR k l1 l2 l3 at' L).1 = b7 at *
    generalize (putR k l1 l2 l3 at' L).2.2 = e7 at *
    generalize (putR k l1 l2 l3 at' L).2.1 = L7 at *
    have tb : (b7 == b7) = true := by simp
    have te : (e7 == e7) = true := by simp
    go_wp2_with (fail)
    refine (texts_calls A7 c7 L7 _ H7.out HC7.out hc7 (by omega)).mono ?_
    rintro e w8 ⟨rfl, hw8⟩
    subst hw8
    go_wp2_with (fail)
    go_ret
    exact ⟨rfl, H7.out.bel⟩
end
theorem puts_all (k at' : Int) (A1 : Option Addr) (c1 : Nat) (l1 : List Int) (A2 : Option Addr) (c2 : Nat) (l2 : List ByteArray) (A3 : Option Addr) (c3 : Nat) (l3 : List Int) (A0 : Option Addr) (c0 : Nat) (l0 : List ByteArray) (w : World)
    (ht : ∀ w', Below w.heap.size w w' → Lib.Utf8Tabs 0 1 w') (hi : In w A1 c1 l1 A2 c2 l2 A3 c3 l3) (hr : Kd.C Kd.string w A0 l0.length l0) (hc : l0.length ≤ c0) (hi1 : I64 l1) (hi3 : I64 l3) (hat : -9223372036854775808 ≤ at' ∧ at' ≤ 9223372036854775807) :
    Calls Tryd.prog 4 #[.agg #[.int .i64 k, .slice A1 l1.length c1, .slice A2 l2.length c2, .slice A3 l3.length c3], .int .i64 at', .slice A0 l0.length c0] w fun e w' => e = .returned (.bool true) ∧ Below w.heap.size w w' := by
  by_cases h : Tame l0
  · exact puts_tame k at' A1 c1 l1 A2 c2 l2 A3 c3 l3 A0 c0 l0 w ht hi hr hc h hi1 hi3 hat
  · exact puts_great k at' A1 c1 l1 A2 c2 l2 A3 c3 l3 A0 c0 l0 w ht hr hc h
end Go.Proofs.YtoigkneoaemcfaaDoor.Rec
