/- RecordBack: a node that is put is got as it was. -/
import Derived.Test.YtoigkneoaemcfaaDoorRxRcPuts
namespace Go.Proofs.YtoigkneoaemcfaaDoor.Rec
open Go.RowKit Go.Lib Go.Proofs.YtoigkneoaemcfaaDoorW.PrintWords Go.Proofs.YtoigkneoaemcfaaDoorW.PrintLast Go.Proofs.YtoigkneoaemcfaaDoorW.PrintMore Go.Proofs.YtoigkneoaemcfaaDoor.B Go.Proofs.YtoigkneoaemcfaaDoor.Bd Go.Proofs.YtoigkneoaemcfaaDoor.Tab Go.Proofs.YtoigkneoaemcfaaDoor.GR
set_option linter.unusedVariables false
set_option linter.unusedSimpArgs false
theorem tame_nil : Tame [] := ⟨by simp, fun s hs => by cases hs⟩
/-- A table of no texts. -/
theorem table_nil (w : World) : Calls Tryd.prog 14 #[.slice none 0 0] w fun e w' => ∃ p F v, e = .returned (.tuple #[.pointer (some ⟨p, 0, none⟩), v, .bool true]) ∧ Has w w' F p [] ∧ Texts w w' F v [] := by
  obtain ⟨A, c, e, hc, hC⟩ := Tab.own_reads (w := w) (base := 0) (v := .slice none 0 0) (l := []) (World.ownsRow_nil _ _ _ _)
  cases e
  exact table_tame none 0 [] w hC hc tame_nil
/-- A record's bytes are not many. -/
theorem putO_size {k : Int} {l1 : List Int} {l2 : List ByteArray} {l3 : List Int} {at' : Int} {L : List ByteArray} (hs : Sm l1 l2 l3) (hi : I64 l1) (hE : putE k l1 l2 l3 at' = 0) (hat : at' ≤ 9223372036854775807) (hL : L.length ≤ 100000) : (putO k l1 l2 l3 at' L).1.size ≤ 10000 := by
  obtain ⟨hN, hK⟩ := putE_zero.1 hE
  obtain ⟨k1, k8, _⟩ := newS_ok (good_of hN).1.ok
  have h0 := Cur.put_size_le (n := k.toNat) (by omega)
  have h1 := (bI_size l1 (Cur.put k.toNat) hi).1
  have h2 := (bT_size l2 (bI (Cur.put k.toNat) l1) L (by have := hs.n2; omega)).1
  have h3 := Cur.put_size_le (n := l3.length) (by have := hs.n3; omega)
  have hk : ∀ (l : List Int) (o : ByteArray), kidsE at' l = false → (bK at' o l).size ≤ o.size + 10 * l.length := by
    intro l
    induction l with
    | nil => intro o _; simp [bK]
    | cons q l ih =>
      intro o h
      unfold kidsE at h
      rw [List.any_cons, Bool.or_eq_false_iff] at h
      have hq := of_decide_eq_false h.1
      have h4 := ih (o ++ Cur.put (at' - q).toNat) h.2
      have h5 := Cur.put_size_le (n := (at' - q).toNat) (by omega)
      rw [ByteArray.size_append] at h4
      rw [bK, List.length_cons]; omega
  have h4 := hk l3 ((bT (bI (Cur.put k.toNat) l1) L l2).1 ++ Cur.put l3.length) hK
  rw [ByteArray.size_append] at h4
  have := hs.n1
  have := hs.n2
  have := hs.n3
  unfold putO
  simp only
  omega
theorem putR_err {k : Int} {l1 : List Int} {l2 : List ByteArray} {l3 : List Int} {at' : Int} {L : List ByteArray} (h : putE k l1 l2 l3 at' ≠ 0) : putR k l1 l2 l3 at' L = (⟨#[]⟩, L, putE k l1 l2 l3 at') := by unfold putR; rw [if_pos h]
theorem putR_ok {k : Int} {l1 : List Int} {l2 : List ByteArray} {l3 : List Int} {at' : Int} {L : List ByteArray} (h : putE k l1 l2 l3 at' = 0) : putR k l1 l2 l3 at' L = ((putO k l1 l2 l3 at' L).1, tabOf L l2, 0) := by unfold putR; rw [if_neg (by simpa using h), putO_tab]
section
variable (k at' : Int) (A1 : Option Addr) (c1 : Nat) (l1 : List Int) (A2 : Option Addr) (c2 : Nat) (l2 : List ByteArray) (A3 : Option Addr) (c3 : Nat) (l3 : List Int) (more : ByteArray) (w : World)
set_option maxHeartbeats 8000000 in
set_option maxRecDepth 100000 in
theorem back_all (ht : ∀ w', Below w.heap.size w w' → Lib.Utf8Tabs 0 1 w') (hi : In w A1 c1 l1 A2 c2 l2 A3 c3 l3) (hi1 : I64 l1) (hi3 : I64 l3) (hat : -9223372036854775808 ≤ at' ∧ at' ≤ 9223372036854775807) :
    Calls Tryd.prog 7 #[.agg #[.int .i64 k, .slice A1 l1.length c1, .slice A2 l2.length c2, .slice A3 l3.length c3], .int .i64 at', .string more] w fun e w' => e = .returned (.bool true) ∧ Below w.heap.size w w' := by
  have HT := Lib.hid ht
  have HI := Lib.hid hi
  have HI1 := Lib.hid hi1
  have HI3 := Lib.hid hi3
  have HAT := Lib.hid hat
  obtain ⟨gb, hgb, hgc⟩ := great_calls8 k l1 l2 l3
  have HGB := Lib.hid hgb
  have HGC := Lib.hid hgc
  clear ht hi hi1 hi3 hat hgb hgc
  go_enter Tryd.func7, Tryd.ntmps7
  go_upto_region 1 with (fail)
  have hb1 : Below w.heap.size w (w.alloc (.cells #[.int .i64 k, .slice A1 l1.length c1, .slice A2 l2.length c2, .slice A3 l3.length c3] 40)) := (Below.refl _ _).alloc (Nat.le_refl _) _
  have hx1 : NBox (w.alloc (.cells #[.int .i64 k, .slice A1 l1.length c1, .slice A2 l2.length c2, .slice A3 l3.length c3] 40)) w.heap.size k (.slice A1 l1.length c1) (.slice A2 l2.length c2) (.slice A3 l3.length c3) := heap_alloc_new w _
  generalize w.alloc (.cells #[.int .i64 k, .slice A1 l1.length c1, .slice A2 l2.length c2, .slice A3 l3.length c3] 40) = w1 at *
  have HB1 := Lib.hid hb1
  have HX1 := Lib.hid hx1
  clear hb1 hx1
  go_wp2_with (fail)
  refine (table_nil _).mono ?_
  rintro e w2 ⟨p, F, v, rfl, h2, _⟩
  have HX2 := Lib.hid (HX1.out.below h2.bel)
  have HFB := Lib.hid (show ∀ k, F k → w.heap.size < k from fun k hk => Nat.lt_of_lt_of_le (blk_lt HX1.out) (h2.2.2 k hk))
  have H2 := Lib.hid (has_up HB1.out h2)
  clear h2
  go_wp2_with (fail)
  refine (awake_calls _ (fun w' hb => HT.out w' (below_step H2.out.bel hb))).mono ?_
  rintro e w3 ⟨rfl, hb3⟩
  have H3 := Lib.hid (H2.out.below hb3)
  have HX3 := Lib.hid (HX2.out.below hb3)
  clear hb3
  obtain ⟨x0, x1, x2, x3⟩ := HX3.out.cells
  go_wp2_with (fail)
  refine (HGC.out _ A1 c1 A2 c2 A3 c3 (HI.out.below H3.out.bel)).mono ?_
  rintro e w4 ⟨rfl, hb4⟩
  have H4 := Lib.hid (H3.out.below hb4)
  have HX4 := Lib.hid (HX3.out.below hb4)
  clear hb4 x0 x1 x2 x3
  cases gb with
  | true =>
    go_wp2_with (fail)
    refine (awake_calls _ (fun w' hb => HT.out w' (below_step H4.out.bel hb))).mono ?_
    rintro e w5 ⟨rfl, hb5⟩
    have HB5 := Lib.hid (below_step H4.out.bel hb5)
    clear hb5
    go_wp2_with (fail)
    go_ret
    exact ⟨rfl, HB5.out⟩
  | false =>
  by_cases hm : (more.size : Int) > 100
  · have d1 : decide ((more.size : Int) > 100) = true := decide_eq_true hm
    go_wp2_with (fail)
    refine (awake_calls _ (fun w' hb => HT.out w' (below_step H4.out.bel hb))).mono ?_
    rintro e w5 ⟨rfl, hb5⟩
    have HB5 := Lib.hid (below_step H4.out.bel hb5)
    clear hb5
    go_wp2_with (fail)
    go_ret
    exact ⟨rfl, HB5.out⟩
  have d1 : decide ((more.size : Int) > 100) = false := decide_eq_false hm
  have HS := Lib.hid (HGB.out rfl)
  obtain ⟨x0, x1, x2, x3⟩ := HX4.out.cells
  go_wp2_with (fail)
  refine (copy_calls8 (k := k) _ (HI.out.below H4.out.bel) HS.out).mono ?_
  rintro e w5 ⟨u1, u2, u3, rfl, hM5, hb5⟩
  have H5 := Lib.hid (H4.out.below hb5)
  have HX5 := Lib.hid (HX4.out.below hb5)
  obtain ⟨B1, d1, B2, d2, B3, d3, rfl, rfl, rfl, _⟩ := hM5.reads
  have HST := Lib.hid (stays_made (F := F) (w0 := w) hM5 (hM5.away H4.out.lt))
  clear hM5 hb5 x0 x1 x2 x3
  go_wp2_with (fail)
  refine (has_rput H5.out k at' HT.out HST.out HS.out.fit HI1.out HI3.out HAT.out (by simp) (by simp [Tab.total])).mono ?_
  by_cases hE : putE k l1 l2 l3 at' = 0
  · rw [putR_ok hE]
    have hn2 := HS.out.n2
    have hn3 := HS.out.n3
    have hsz := putO_size (L := []) HS.out HI1.out hE HAT.out.2 (by simp)
    have hbs := (putO k l1 l2 l3 at' []).1
    have htl := tabOf_len l2 []
    simp only [List.length_nil] at htl
    have HGOT := Lib.hid (fun (ha : at' ≤ 16777216) => got_back ((putO k l1 l2 l3 at' []).1 ++ more) k l1 l2 l3 at' (l3.length : Int) [] [] [] (Cur.bl more) hE HI1.out ha (by rw [List.append_nil]; omega) (by omega) (Int.le_refl _) (by rw [List.nil_append, Cur.append_bl]))
    simp only [List.append_nil, List.length_nil, Nat.zero_add] at HGOT
    generalize (putO k l1 l2 l3 at' []).1 = bp at *
    generalize tabOf [] l2 = L at *
    rintro e w6 ⟨rfl, F6, h6, m6, f6⟩
    have H6 := Lib.hid h6
    have HX6 := Lib.hid (show NBox w6 w.heap.size k (.slice A1 l1.length c1) (.slice A2 l2.length c2) (.slice A3 l3.length c3) from m6.keep HX5.out (fun h => by have := HFB.out _ h; omega))
    clear h6 m6 f6 HST
    by_cases hbig : at' > 16777216
    · have d2 : decide (at' > 16777216) = true := decide_eq_true hbig
      go_wp2_with (fail)
      go_ret
      exact ⟨rfl, H6.out.bel⟩
    have d2 : decide (at' > 16777216) = false := decide_eq_false hbig
    have hsa : (bp ++ more).size = bp.size + more.size := ByteArray.size_append
    have hsb1 : decide (bp.size + more.size ≤ 9223372036854775807) = true := decide_eq_true (by omega)
    have hsb2 : (9223372036854775807 < bp.size + more.size) = False := eq_false (by omega)
    have HG := Lib.hid (HGOT.out (by omega))
    clear HGOT
    go_wp2_with (fail)
    refine (Cur.new_calls (bp ++ more) _).mono ?_
    rintro e w7 ⟨rfl, hC7, hb7⟩
    have HC7 := Lib.hid hC7
    have H7 := Lib.hid (H6.out.below hb7)
    have HX7 := Lib.hid (HX6.out.below hb7)
    have HGN := Lib.hid (show ¬ F6 w6.heap.size from fun h => absurd (H6.out.lt _ h) (Nat.lt_irrefl _))
    have HG0 := Lib.hid (show w.heap.size ≤ w6.heap.size from H6.out.bel.size)
    have hxg : w.heap.size < w6.heap.size := blk_lt HX6.out
    clear hC7 hb7
    generalize w6.heap.size = g at *
    obtain ⟨x0, x1, x2, x3⟩ := HX7.out.cells
    go_wp2_with (fail)
    refine (has_rget H7.out at' (l3.length : Int) HC7.out (Cur.new_ok (by omega)) HGN.out HG0.out (by omega) HAT.out).mono ?_
    rw [show getR at' (l3.length : Int) L (Cur.new (bp ++ more)) = (⟨bp ++ more, bp.size, 0⟩, k, l1, l2, l3) from HG.out]
    rintro e w8 ⟨v1, v2, v3, rfl, hC8, hok8, hM8, m8, h8⟩
    obtain ⟨D1, e1, D2, e2, D3, e3, rfl, rfl, rfl, hI8⟩ := hM8.reads
    have HI8 := Lib.hid hI8
    have HC8 := Lib.hid hC8
    have H8 := Lib.hid h8
    have HX8 := Lib.hid (show NBox w8 w.heap.size k (.slice A1 l1.length c1) (.slice A2 l2.length c2) (.slice A3 l3.length c3) from m8.keep HX7.out (fun e => by have e2 : w.heap.size = g := e; omega))
    clear hC8 hM8 m8 h8 hI8 x0 x1 x2 x3 HG
    go_upto_region 13 with (fail)
    have hb9 : Below w8.heap.size w8 (w8.alloc (.cells #[.int .i64 k, .slice D1 l1.length e1, .slice D2 l2.length e2, .slice D3 l3.length e3] 40)) := (Below.refl _ _).alloc (Nat.le_refl _) _
    have hx9 : NBox (w8.alloc (.cells #[.int .i64 k, .slice D1 l1.length e1, .slice D2 l2.length e2, .slice D3 l3.length e3] 40)) w8.heap.size k (.slice D1 l1.length e1) (.slice D2 l2.length e2) (.slice D3 l3.length e3) := heap_alloc_new w8 _
    obtain ⟨n9, hn9⟩ : ∃ n, n = w8.heap.size := ⟨_, rfl⟩
    rw [← hn9] at hx9 ⊢
    generalize w8.alloc (.cells #[.int .i64 k, .slice D1 l1.length e1, .slice D2 l2.length e2, .slice D3 l3.length e3] 40) = w9 at *
    have HC9 := Lib.hid (HC8.out.below hb9)
    have H9 := Lib.hid (H8.out.below hb9)
    have HI9 := Lib.hid (HI8.out.below hb9)
    obtain ⟨x0, x1, x2, x3⟩ := hx9.cells
    obtain ⟨y0, y1, y2, y3⟩ := (HX8.out.below hb9).cells
    clear hb9 hx9 hn9
    go_wp2_with (fail)
    refine (same_calls8 (k := k) _ HI9.out (HI.out.below H9.out.bel) (by have := HS.out.n1; omega) (by omega) (by omega)).mono ?_
    rintro e w10 ⟨rfl, hb10⟩
    have HC10 := Lib.hid (HC9.out.below hb10)
    have H10 := Lib.hid (H9.out.below hb10)
    clear hb10
    go_wp2_with (fail)
    refine (Cur.err_calls g _ _ HC10.out).mono ?_
    rintro e w11 ⟨rfl, hw11⟩
    subst hw11
    go_wp2_with (fail)
    refine (Cur.left_calls g _ _ HC10.out hok8).mono ?_
    rintro e w12 ⟨rfl, hd12⟩
    have HB12 := Lib.hid (below_step H10.out.bel hd12.below)
    have tl : (Cur.Cur.left ⟨bp ++ more, bp.size, 0⟩ == (more.size : Int)) = true := by unfold Cur.Cur.left; simp only [hsa]; rw [beq_iff_eq]; omega
    clear hd12
    generalize Cur.Cur.left ⟨bp ++ more, bp.size, 0⟩ = lf at *
    go_wp2_with (fail)
    go_ret
    exact ⟨rfl, HB12.out⟩
  · rw [putR_err hE]
    rintro e w6 ⟨rfl, F6, h6, m6, f6⟩
    have H6 := Lib.hid h6
    have t44 : (putE k l1 l2 l3 at' != 0) = true := bne_iff_ne.mpr hE
    clear h6 m6 f6 HST hE
    generalize putE k l1 l2 l3 at' = q at *
    go_wp2_with (fail)
    refine H6.out.len.mono ?_
    rintro e w7 ⟨rfl, hw7⟩
    subst hw7
    go_wp2_with (fail)
    go_ret
    exact ⟨rfl, H6.out.bel⟩
end
end Go.Proofs.YtoigkneoaemcfaaDoor.Rec
