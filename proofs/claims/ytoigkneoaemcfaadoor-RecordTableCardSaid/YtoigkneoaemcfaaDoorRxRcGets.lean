/- RecordGets: any bytes begin with the node that the document says, or with none. -/
import Derived.Test.YtoigkneoaemcfaaDoorRxRcBack
namespace Go.Proofs.YtoigkneoaemcfaaDoor.Rec
open Go.RowKit Go.Lib Go.Proofs.YtoigkneoaemcfaaDoorW.PrintWords Go.Proofs.YtoigkneoaemcfaaDoorW.PrintLast Go.Proofs.YtoigkneoaemcfaaDoorW.PrintMore Go.Proofs.YtoigkneoaemcfaaDoor.B Go.Proofs.YtoigkneoaemcfaaDoor.Bd Go.Proofs.YtoigkneoaemcfaaDoor.Tab Go.Proofs.YtoigkneoaemcfaaDoor.GR
set_option linter.unusedVariables false
set_option linter.unusedSimpArgs false
theorem getR_none {at' edges : Int} {L : List ByteArray} {c : Cur.Cur} (h : (getR at' edges L c).1.e ≠ 0) : (getR at' edges L c).2 = (0, [], [], []) := by
  unfold getR at h ⊢
  split
  · rename_i h1
    rw [if_pos h1] at h
    split
    · rfl
    · rename_i h2
      rw [if_neg h2] at h
      exact absurd h h2
  · rfl
theorem getR_len {at' edges : Int} {L : List ByteArray} {c : Cur.Cur} (hc : c.at' ≤ c.b.size) : (getR at' edges L c).2.2.1.length ≤ 4 ∧ (getR at' edges L c).2.2.2.1.length ≤ 2 ∧ (getR at' edges L c).2.2.2.2.length ≤ 16777216 := by
  by_cases h : (getR at' edges L c).1.e = 0
  · obtain ⟨_, k, l1, is, l3, q, h1, h2, _, _, _, _, h7, _⟩ := getR_inv hc h
    obtain ⟨_, _, t0, t1, s0, _⟩ := newS_ok h2.ok
    have h3 := h2.n1
    have h4 := h2.n2
    rw [h1]
    simp only
    exact ⟨by omega, by omega, h7⟩
  · rw [getR_none h]
    simp
section
variable (b : ByteArray) (n0 n1 : Int) (A0 : Option Addr) (c0 : Nat) (l0 : List ByteArray) (w : World)
set_option maxHeartbeats 4000000 in
set_option maxRecDepth 100000 in
theorem gets_great (ht : ∀ w', Below w.heap.size w w' → Lib.Utf8Tabs 0 1 w') (hr : Kd.C Kd.string w A0 l0.length l0) (hc : l0.length ≤ c0) (hg : ¬ Tame l0) :
    Calls Tryd.prog 6 #[.string b, .agg #[.int .i64 n0, .int .i64 n1], .slice A0 l0.length c0] w fun e w' => e = .returned (.bool true) ∧ Below w.heap.size w w' := by
  have HT := Lib.hid ht
  have HR := Lib.hid hr
  have HG := Lib.hid hg
  clear ht hr hg
  go_enter Tryd.func6, Tryd.ntmps6
  go_upto_region 1 with (fail)
  have hb1 : Below w.heap.size w (w.alloc (.cells #[.int .i64 n0, .int .i64 n1] 53)) := (Below.refl _ _).alloc (Nat.le_refl _) _
  generalize w.alloc (.cells #[.int .i64 n0, .int .i64 n1] 53) = w1 at *
  have HB1 := Lib.hid hb1
  clear hb1
  go_wp2_with (fail)
  refine (table_great A0 c0 l0 _ (Kd.C_below HR.out HB1.out) hc HG.out).mono ?_
  rintro e w2 ⟨rfl, hb2⟩
  have HB2 := Lib.hid (below_step HB1.out hb2)
  clear hb2
  go_wp2_with (fail)
  refine (Cur.new_calls b _).mono ?_
  rintro e w7 ⟨rfl, _, hb7⟩
  have HB7 := Lib.hid (below_step HB2.out hb7)
  clear hb7
  go_wp2_with (fail)
  refine (awake_calls _ (fun w' hb => HT.out w' (below_step HB7.out hb))).mono ?_
  rintro e w3 ⟨rfl, hb3⟩
  have HB3 := Lib.hid (below_step HB7.out hb3)
  clear hb3
  go_wp2_with (fail)
  refine (awake_calls _ (fun w' hb => HT.out w' (below_step HB3.out hb))).mono ?_
  rintro e w4 ⟨rfl, hb4⟩
  have HB4 := Lib.hid (below_step HB3.out hb4)
  clear hb4
  go_wp2_with (fail)
  go_ret
  exact ⟨rfl, HB4.out⟩
theorem tab_self (l : List ByteArray) : tabOf (tabOf [] l) (l.drop 0) = tabOf [] l := by
  rw [List.drop_zero]
  have h5 := ids_old (L := tabOf [] l) (tabOf_nodup l [] List.nodup_nil) (ids [] l) (by have := (ids_get l [] []).1; rw [List.append_nil] at this; exact this)
  have h6 := (ids_get l [] []).2
  rw [List.append_nil] at h6
  rw [h6] at h5
  exact h5.2
set_option maxHeartbeats 8000000 in
set_option maxRecDepth 100000 in
theorem gets_tame (ht : ∀ w', Below w.heap.size w w' → Lib.Utf8Tabs 0 1 w') (hr : Kd.C Kd.string w A0 l0.length l0) (hc : l0.length ≤ c0) (hg : Tame l0) (h0 : -9223372036854775808 ≤ n0 ∧ n0 ≤ 9223372036854775807) (h1 : n1 ≤ 9223372036854775807) (hbs : b.size ≤ 140737488355328) :
    Calls Tryd.prog 6 #[.string b, .agg #[.int .i64 n0, .int .i64 n1], .slice A0 l0.length c0] w fun e w' => e = .returned (.bool true) ∧ Below w.heap.size w w' := by
  have HT := Lib.hid ht
  have HR := Lib.hid hr
  have HG := Lib.hid hg
  have H0 := Lib.hid h0
  clear ht hr hg h0
  go_enter Tryd.func6, Tryd.ntmps6
  go_upto_region 1 with (fail)
  have hb1 : Below w.heap.size w (w.alloc (.cells #[.int .i64 n0, .int .i64 n1] 53)) := (Below.refl _ _).alloc (Nat.le_refl _) _
  have hx1 := heap_alloc_new w (.cells #[.int .i64 n0, .int .i64 n1] 53)
  generalize w.alloc (.cells #[.int .i64 n0, .int .i64 n1] 53) = w1 at *
  have HB1 := Lib.hid hb1
  have HX1 := Lib.hid hx1
  clear hb1 hx1
  go_wp2_with (fail)
  refine (table_tame A0 c0 l0 _ (Kd.C_below HR.out HB1.out) hc HG.out).mono ?_
  rintro e w2 ⟨p, F, v, rfl, h2, hX2⟩
  have hbd := tab_tame HG.out 0 (tabOf [] l0) (tab_self l0)
  have HX2 := Lib.hid (blk_below HX1.out h2.bel)
  have H2 := Lib.hid (has_up HB1.out h2)
  have HV2 := Lib.hid (texts_up HB1.out hX2)
  clear h2 hX2
  generalize tabOf [] l0 = L at *
  go_wp2_with (fail)
  refine (Cur.new_calls b _).mono ?_
  rintro e w3 ⟨rfl, hC3, hb3⟩
  have HC3 := Lib.hid hC3
  have H3 := Lib.hid (H2.out.below hb3)
  have HV3 := Lib.hid (HV2.out.below hb3)
  have HX3 := Lib.hid (blk_below HX2.out hb3)
  have HGN := Lib.hid (show ¬ F w2.heap.size from fun h => absurd (H2.out.lt _ h) (Nat.lt_irrefl _))
  have HG0 := Lib.hid (show w.heap.size ≤ w2.heap.size from H2.out.bel.size)
  have hwg : w.heap.size < w2.heap.size := blk_lt HX2.out
  clear hC3 hb3
  generalize w2.heap.size = g at *
  go_wp2_with (fail)
  refine (awake_calls _ (fun w' hb => HT.out w' (below_step H3.out.bel hb))).mono ?_
  rintro e w4 ⟨rfl, hb4⟩
  have HC4 := Lib.hid (HC3.out.below hb4)
  have H4 := Lib.hid (H3.out.below hb4)
  have HV4 := Lib.hid (HV3.out.below hb4)
  have HX4 := Lib.hid (blk_below HX3.out hb4)
  clear hb4
  by_cases hm : (b.size : Int) > 1000
  · have d1 : decide ((b.size : Int) > 1000) = true := decide_eq_true hm
    go_wp2_with (fail)
    refine (awake_calls _ (fun w' hb => HT.out w' (below_step H4.out.bel hb))).mono ?_
    rintro e w5 ⟨rfl, hb5⟩
    have HB5 := Lib.hid (below_step H4.out.bel hb5)
    clear hb5
    go_wp2_with (fail)
    go_ret
    exact ⟨rfl, HB5.out⟩
  have d1 : decide ((b.size : Int) > 1000) = false := decide_eq_false hm
  go_upto_region 6 with (fail)
  obtain ⟨gm, hgm⟩ : ∃ n, n = w4.heap.size := ⟨_, rfl⟩
  have hb5 : Below w4.heap.size w4 (w4.alloc (.cells #[.string b, .int .i64 0, .int .i64 0] 58)) := (Below.refl _ _).alloc (Nat.le_refl _) _
  have hm5 := Cur.IsM.new w4 b 0
  have hgg : g < gm := by rw [hgm]; exact HC4.out.lt
  have HFM := Lib.hid (show ∀ k, F k → k < gm from fun k hk => by rw [hgm]; exact H4.out.lt k hk)
  have hwm : w.heap.size ≤ gm := by omega
  have hg5 : gm < (w4.alloc (.cells #[.string b, .int .i64 0, .int .i64 0] 58)).heap.size := by rw [hgm]; simp
  rw [← hgm] at hm5 ⊢
  generalize w4.alloc (.cells #[.string b, .int .i64 0, .int .i64 0] 58) = w5 at *
  have HC5 := Lib.hid (HC4.out.below hb5)
  have H5 := Lib.hid (H4.out.below hb5)
  have HV5 := Lib.hid (HV4.out.below hb5)
  have HX5 := Lib.hid (blk_below HX4.out hb5)
  have HM5 := Lib.hid (show Cur.IsM w5 gm (Cur.new b) from hm5)
  have y0 : w5.cell? ⟨w.heap.size, 0, none⟩ = some (.int .i64 n0) := (blk_cell HX5.out 0).trans rfl
  have y1 : w5.cell? ⟨w.heap.size, 1, none⟩ = some (.int .i64 n1) := (blk_cell HX5.out 1).trans rfl
  clear hb5 hm5 hgm
  have hlen := getR_len (at' := n0) (edges := n1) (L := L) (c := Cur.new b) (Nat.zero_le _)
  have hRb : (getR n0 n1 L (Cur.new b)).1.b = b := getR_b n0 n1 L (Cur.new b)
  go_wp2_with (fail)
  refine (has_rget H5.out n0 n1 HC5.out (Cur.new_ok (by omega)) HGN.out HG0.out h1 H0.out).mono ?_
  obtain ⟨⟨cF, k, l1, l2, l3⟩, hR⟩ : ∃ x, x = getR n0 n1 L (Cur.new b) := ⟨_, rfl⟩
  rw [← hR] at hlen hRb ⊢
  have HRR := Lib.hid hR
  simp only at hlen hRb
  obtain ⟨hn1, hn2, hn3⟩ := hlen
  rintro e w6 ⟨v1, v2, v3, rfl, hC6, hok6, hM6, m6, h6⟩
  obtain ⟨D1, e1, D2, e2, D3, e3, rfl, rfl, rfl, hI6⟩ := hM6.reads
  have hok6' : cF.ok := hok6
  have HMd6 := Lib.hid hM6
  have HC6 := Lib.hid (show Cur.IsC w6 g cF from hC6)
  have H6 := Lib.hid h6
  have HX6 := Lib.hid (m6.keep HX5.out (fun e => by have e2 : w.heap.size = g := e; omega))
  have HM6 := Lib.hid (HM5.out.mv m6 (fun e => by have e2 : gm = g := e; omega))
  have HV6 := Lib.hid (show Texts w w6 F v L from ⟨row_mv HV5.out.1 m6 (fun j hj e => by
    have e2 : j = g := e
    subst e2
    exact Lib.ownBlock_ne HV5.out.1 HC5.out (by decide) hj), HV5.out.2⟩)
  clear hC6 hM6 m6 h6 hI6 y0 y1 hR
  go_upto_region 7 with (fail)
  have hb7 : Below w6.heap.size w6 (w6.alloc (.cells #[.int .i64 k, .slice D1 l1.length e1, .slice D2 l2.length e2, .slice D3 l3.length e3] 40)) := (Below.refl _ _).alloc (Nat.le_refl _) _
  have hx7 : NBox (w6.alloc (.cells #[.int .i64 k, .slice D1 l1.length e1, .slice D2 l2.length e2, .slice D3 l3.length e3] 40)) w6.heap.size k (.slice D1 l1.length e1) (.slice D2 l2.length e2) (.slice D3 l3.length e3) := heap_alloc_new w6 _
  obtain ⟨n7, hn7⟩ : ∃ n, n = w6.heap.size := ⟨_, rfl⟩
  have hgn : gm < n7 := by rw [hn7]; exact HM6.out.lt
  rw [← hn7] at hx7 ⊢
  generalize w6.alloc (.cells #[.int .i64 k, .slice D1 l1.length e1, .slice D2 l2.length e2, .slice D3 l3.length e3] 40) = w7 at *
  have HC7 := Lib.hid (HC6.out.below hb7)
  have H7 := Lib.hid (H6.out.below hb7)
  have HV7 := Lib.hid (HV6.out.below hb7)
  have HX7 := Lib.hid (blk_below HX6.out hb7)
  have HM7 := Lib.hid (HM6.out.below hb7)
  have HMd7 := Lib.hid (HMd6.out.below hb7)
  have HN7 := Lib.hid hx7
  have y0 : w7.cell? ⟨w.heap.size, 0, none⟩ = some (.int .i64 n0) := (blk_cell HX7.out 0).trans rfl
  have y1 : w7.cell? ⟨w.heap.size, 1, none⟩ = some (.int .i64 n1) := (blk_cell HX7.out 1).trans rfl
  obtain ⟨Av, cv, hv, hcv, _⟩ := HV7.out.reads
  subst hv
  have HVR := Lib.hid (show ∀ w', Mv (one gm) w7 w' → Kd.C Kd.string w' Av L.length L from fun w' m => by
    have ho := row_mv HV7.out.1 m (fun j hj e => by
      have e2 : j = gm := e
      subst e2
      exact Lib.ownBlock_ne HV7.out.1 HM7.out (by decide) hj)
    obtain ⟨A', c', e', _, hC'⟩ := Tab.own_reads ho
    cases e'
    exact hC')
  clear hb7 hx7 hn7
  go_wp2_with (fail)
  refine (rrecget_calls gm Av cv L (Cur.new b) n0 n1 _ HM7.out (Cur.new_ok (by omega)) HVR.out hcv (by omega) h1 H0.out).mono ?_
  rintro e w8 ⟨u1, u2, u3, rfl, hC8, hok8, hM8, m8⟩
  rw [← HRR.out] at hC8 hM8 ⊢
  obtain ⟨E1, f1, E2, f2, E3, f3, rfl, rfl, rfl, hJ8⟩ := hM8.reads
  have HJ8 := Lib.hid hJ8
  have HM8 := Lib.hid (show Cur.IsM w8 gm cF from hC8)
  have H8 := Lib.hid (H7.out.apart m8 (fun k hk => by obtain rfl : k = gm := hk; exact hwm) (fun k hk e => by have := HFM.out k hk; have e2 : k = gm := e; omega))
  have HC8 := Lib.hid (HC7.out.mv m8 (fun e => by have e2 : g = gm := e; omega))
  have HN8 := Lib.hid (show NBox w8 n7 k (.slice D1 l1.length e1) (.slice D2 l2.length e2) (.slice D3 l3.length e3) from m8.keep HN7.out (fun e => by have e2 : n7 = gm := e; omega))
  have HI8 := Lib.hid ((HMd7.out.mv m8 (HMd7.out.away (fun k hk => by obtain rfl : k = gm := hk; exact hg5))).reads')
  have HV8 := Lib.hid (HVR.out w8 m8)
  clear hC8 hM8 m8 hJ8 y0 y1 HVR HRR
  go_upto_region 8 with (fail)
  have hb9 : Below w8.heap.size w8 (w8.alloc (.cells #[.int .i64 k, .slice E1 l1.length f1, .slice E2 l2.length f2, .slice E3 l3.length f3] 40)) := (Below.refl _ _).alloc (Nat.le_refl _) _
  have hx9 : NBox (w8.alloc (.cells #[.int .i64 k, .slice E1 l1.length f1, .slice E2 l2.length f2, .slice E3 l3.length f3] 40)) w8.heap.size k (.slice E1 l1.length f1) (.slice E2 l2.length f2) (.slice E3 l3.length f3) := heap_alloc_new w8 _
  obtain ⟨n9, hn9⟩ : ∃ n, n = w8.heap.size := ⟨_, rfl⟩
  rw [← hn9] at hx9 ⊢
  generalize w8.alloc (.cells #[.int .i64 k, .slice E1 l1.length f1, .slice E2 l2.length f2, .slice E3 l3.length f3] 40) = w9 at *
  have HC9 := Lib.hid (HC8.out.below hb9)
  have H9 := Lib.hid (H8.out.below hb9)
  have HM9 := Lib.hid (HM8.out.below hb9)
  have HI9 := Lib.hid (HI8.out.below hb9)
  have HJ9 := Lib.hid (HJ8.out.below hb9)
  have HN9 := Lib.hid (HN8.out.below hb9)
  have HK9 := Lib.hid hx9
  have HV9 := Lib.hid (Kd.C_below HV8.out hb9)
  have HSA := Lib.hid (show ∀ w', Below w9.heap.size w9 w' → (w'.cell? ⟨n7, 0, none⟩ = some (.int .i64 k) ∧ w'.cell? ⟨n7, 1, none⟩ = some (.slice D1 l1.length e1) ∧ w'.cell? ⟨n7, 2, none⟩ = some (.slice D2 l2.length e2) ∧ w'.cell? ⟨n7, 3, none⟩ = some (.slice D3 l3.length e3)) ∧ (w'.cell? ⟨n9, 0, none⟩ = some (.int .i64 k) ∧ w'.cell? ⟨n9, 1, none⟩ = some (.slice E1 l1.length f1) ∧ w'.cell? ⟨n9, 2, none⟩ = some (.slice E2 l2.length f2) ∧ w'.cell? ⟨n9, 3, none⟩ = some (.slice E3 l3.length f3)) ∧ w'.cell? ⟨gm, 1, none⟩ = some (.int .i64 cF.at') ∧ w'.cell? ⟨gm, 2, none⟩ = some (.int .i64 cF.e) from fun w' hb => ⟨(HN9.out.below hb).cells, (HK9.out.below hb).cells, (HM9.out.below hb).c1, (HM9.out.below hb).c2⟩)
  have hle : cF.at' ≤ b.size := by have := hok6'.1; rw [hRb] at this; exact this
  have hleft : Cur.Cur.left cF = (b.size : Int) - (cF.at' : Int) := by unfold Cur.Cur.left; rw [hRb]
  have HOK := Lib.hid hok6'
  have hsub : IntKind.i64.wrap ((b.size : Int) - (cF.at' : Int)) = (b.size : Int) - (cF.at' : Int) := by rw [IntKind.wrap_i64]; omega
  have te : (cF.e == cF.e) = true := by simp
  have tl : ((b.size : Int) - (cF.at' : Int) == (b.size : Int) - (cF.at' : Int)) = true := by simp
  have B9 := Lib.hid (show Below w9.heap.size w9 w9.drew from below_drew1 (Below.refl _ w9))
  clear hb9 hx9 hn9 hok6 hok8 hok6'
  refine start_ (n := 30) (S := fun w' => w'.cell? ⟨n7, 0, none⟩ = some (.int .i64 k) ∧ w'.cell? ⟨n7, 1, none⟩ = some (.slice D1 l1.length e1) ∧ w'.cell? ⟨n7, 2, none⟩ = some (.slice D2 l2.length e2) ∧ w'.cell? ⟨n7, 3, none⟩ = some (.slice D3 l3.length e3) ∧ w'.cell? ⟨n9, 0, none⟩ = some (.int .i64 k) ∧ w'.cell? ⟨n9, 1, none⟩ = some (.slice E1 l1.length f1) ∧ w'.cell? ⟨n9, 2, none⟩ = some (.slice E2 l2.length f2) ∧ w'.cell? ⟨n9, 3, none⟩ = some (.slice E3 l3.length f3) ∧ w'.cell? ⟨gm, 1, none⟩ = some (.int .i64 cF.at') ∧ w'.cell? ⟨gm, 2, none⟩ = some (.int .i64 cF.e)) (ds := []) #[false, false, false, false, false, false, false, false, false, false, false, false, false, false, false, false, false, false, false, false, false, false, false, false, false, false, false, false, false, false] (by kernel_rfl) rfl rfl ⟨(HSA.out _ B9.out).1.1, (HSA.out _ B9.out).1.2.1, (HSA.out _ B9.out).1.2.2.1, (HSA.out _ B9.out).1.2.2.2, (HSA.out _ B9.out).2.1.1, (HSA.out _ B9.out).2.1.2.1, (HSA.out _ B9.out).2.1.2.2.1, (HSA.out _ B9.out).2.1.2.2.2, (HSA.out _ B9.out).2.2.1, (HSA.out _ B9.out).2.2.2⟩ (fun hHeld => ?_)
  refine take_ (i := 0) (N := some 55) (v := ?_) (a' := ?_) #[true, false, false, false, false, false, false, false, false, false, false, false, false, false, false, false, false, false, false, false, false, false, false, false, false, false, false, false, false, false] rfl rfl (by kernel_rfl) (fun _ _ _ h => h) (Or.inl ⟨by rfl, ?_⟩) hHeld ?_ ?_
  rotate_left
  · rintro w' ⟨s0, s1, s2, s3, s4, s5, s6, s7, s8, s9⟩
    go_simp
    with_reducible rfl
  rotate_left
  · simp only [Act.put, List.setIfInBounds_toArray, List.set_cons_zero, List.set_cons_succ, i64_w, i32_w]
    rfl
  refine take_ (i := 1) (N := some 56) (v := ?_) (a' := ?_) #[true, true, false, false, false, false, false, false, false, false, false, false, false, false, false, false, false, false, false, false, false, false, false, false, false, false, false, false, false, false] rfl rfl (by kernel_rfl) (fun _ _ _ h => h) (Or.inl ⟨by rfl, ?_⟩) hHeld ?_ ?_
  rotate_left
  · rintro w' ⟨s0, s1, s2, s3, s4, s5, s6, s7, s8, s9⟩
    go_simp
    with_reducible rfl
  rotate_left
  · simp only [Act.put, List.setIfInBounds_toArray, List.set_cons_zero, List.set_cons_succ, i64_w, i32_w]
    rfl
  refine one_ (i := 2) (N := some 57) #[true, true, true, false, false, false, false, false, false, false, false, false, false, false, false, false, false, false, false, false, false, false, false, false, false, false, false, false, false, false] rfl rfl (by kernel_rfl) (by decide) (fun K hK => ?_)
  refine goes_ Tryd.func24 (by kernel_rfl) rfl #[.agg #[.int .i64 k, .slice D1 l1.length e1, .slice D2 l2.length e2, .slice D3 l3.length e3], .agg #[.int .i64 k, .slice E1 l1.length f1, .slice E2 l2.length f2, .slice E3 l3.length f3]] (by rfl) rfl rfl (by (try simp only [List.map_toArray, List.map_cons, List.map_nil]); first | done | rfl) ?_
  with_reducible refine (same_calls8 (k := k) w9.drew (HI9.out.below B9.out) (HJ9.out.below B9.out) (by omega) (by omega) (by omega)).mono ?_
  rintro e w10 ⟨rfl, hb10⟩
  refine ⟨_, rfl, ?_⟩
  have B10 := Lib.hid (below_step B9.out hb10)
  clear hb10
  refine hK.out _ _ ⟨(HSA.out _ B10.out).1.1, (HSA.out _ B10.out).1.2.1, (HSA.out _ B10.out).1.2.2.1, (HSA.out _ B10.out).1.2.2.2, (HSA.out _ B10.out).2.1.1, (HSA.out _ B10.out).2.1.2.1, (HSA.out _ B10.out).2.1.2.2.1, (HSA.out _ B10.out).2.1.2.2.2, (HSA.out _ B10.out).2.2.1, (HSA.out _ B10.out).2.2.2⟩ (fun hHeld => ?_)
  clear hK K
  refine norm_ (a' := ?_) ?_ ?_
  rotate_left
  · show Act.put _ (some 57) _ = _
    simp only [Act.put, List.setIfInBounds_toArray, List.set_cons_zero, List.set_cons_succ, i64_w, i32_w]
    rfl
  refine pure_ (i := 3) (N := some 58) (v := ?_) (a' := ?_) #[true, true, true, true, false, false, false, false, false, false, false, false, false, false, false, false, false, false, false, false, false, false, false, false, false, false, false, false, false, false] rfl rfl (by kernel_rfl) (fun _ _ _ h => h) (Or.inl ⟨by rfl, ?_⟩) ?_ ?_
  rotate_left
  · intro w'
    go_simp
    with_reducible rfl
  rotate_left
  · simp only [Act.put, List.setIfInBounds_toArray, List.set_cons_zero, List.set_cons_succ, i64_w, i32_w]
    rfl
  refine pure_ (i := 4) (N := some 59) (v := ?_) (a' := ?_) #[true, true, true, true, true, false, false, false, false, false, false, false, false, false, false, false, false, false, false, false, false, false, false, false, false, false, false, false, false, false] rfl rfl (by kernel_rfl) (fun _ _ _ h => h) (Or.inl ⟨by rfl, ?_⟩) ?_ ?_
  rotate_left
  · intro w'
    go_simp
    with_reducible rfl
  rotate_left
  · simp only [Act.put, List.setIfInBounds_toArray, List.set_cons_zero, List.set_cons_succ, i64_w, i32_w]
    rfl
  refine pure_ (i := 6) (N := some 61) (v := ?_) (a' := ?_) #[true, true, true, true, true, false, true, false, false, false, false, false, false, false, false, false, false, false, false, false, false, false, false, false, false, false, false, false, false, false] rfl rfl (by kernel_rfl) (fun _ _ _ h => h) (Or.inl ⟨by rfl, ?_⟩) ?_ ?_
  rotate_left
  · intro w'
    go_simp
    with_reducible rfl
  rotate_left
  · simp only [Act.put, List.setIfInBounds_toArray, List.set_cons_zero, List.set_cons_succ, i64_w, i32_w]
    rfl
  refine pure_ (i := 7) (N := some 62) (v := ?_) (a' := ?_) #[true, true, true, true, true, false, true, true, false, false, false, false, false, false, false, false, false, false, false, false, false, false, false, false, false, false, false, false, false, false] rfl rfl (by kernel_rfl) (fun _ _ _ h => h) (Or.inl ⟨by rfl, ?_⟩) ?_ ?_
  rotate_left
  · intro w'
    go_simp
    with_reducible rfl
  rotate_left
  · simp only [Act.put, List.setIfInBounds_toArray, List.set_cons_zero, List.set_cons_succ, i64_w, i32_w]
    rfl
  refine pure_ (i := 8) (N := some 63) (v := ?_) (a' := ?_) #[true, true, true, true, true, false, true, true, true, false, false, false, false, false, false, false, false, false, false, false, false, false, false, false, false, false, false, false, false, false] rfl rfl (by kernel_rfl) (fun _ _ _ h => h) (Or.inl ⟨by rfl, ?_⟩) ?_ ?_
  rotate_left
  · intro w'
    go_simp
    with_reducible rfl
  rotate_left
  · simp only [Act.put, List.setIfInBounds_toArray, List.set_cons_zero, List.set_cons_succ, i64_w, i32_w]
    rfl
  refine take_ (i := 9) (N := some 64) (v := ?_) (a' := ?_) #[true, true, true, true, true, false, true, true, true, true, false, false, false, false, false, false, false, false, false, false, false, false, false, false, false, false, false, false, false, false] rfl rfl (by kernel_rfl) (fun _ _ _ h => h) (Or.inl ⟨by rfl, ?_⟩) hHeld ?_ ?_
  rotate_left
  · rintro w' ⟨s0, s1, s2, s3, s4, s5, s6, s7, s8, s9⟩
    go_simp
    with_reducible rfl
  rotate_left
  · simp only [Act.put, List.setIfInBounds_toArray, List.set_cons_zero, List.set_cons_succ, i64_w, i32_w]
    rfl
  refine one_ (i := 5) (N := some 60) #[true, true, true, true, true, true, true, true, true, true, false, false, false, false, false, false, false, false, false, false, false, false, false, false, false, false, false, false, false, false] rfl rfl (by kernel_rfl) (by decide) (fun K hK => ?_)
  refine goes_ Tryd.func25 (by kernel_rfl) rfl #[.pointer (some ⟨g, 0, none⟩)] (by rfl) rfl rfl (by (try simp only [List.map_toArray, List.map_cons, List.map_nil]); first | done | rfl) ?_
  with_reducible refine (Cur.err_calls g cF w10 (HC9.out.below B10.out)).mono ?_
  rintro e w11 ⟨rfl, hw11⟩
  refine ⟨_, rfl, ?_⟩
  subst hw11
  refine hK.out _ _ ⟨(HSA.out _ B10.out).1.1, (HSA.out _ B10.out).1.2.1, (HSA.out _ B10.out).1.2.2.1, (HSA.out _ B10.out).1.2.2.2, (HSA.out _ B10.out).2.1.1, (HSA.out _ B10.out).2.1.2.1, (HSA.out _ B10.out).2.1.2.2.1, (HSA.out _ B10.out).2.1.2.2.2, (HSA.out _ B10.out).2.2.1, (HSA.out _ B10.out).2.2.2⟩ (fun hHeld => ?_)
  clear hK K
  refine norm_ (a' := ?_) ?_ ?_
  rotate_left
  · show Act.put _ (some 60) _ = _
    simp only [Act.put, List.setIfInBounds_toArray, List.set_cons_zero, List.set_cons_succ, i64_w, i32_w]
    rfl
  refine pure_ (i := 10) (N := some 65) (v := ?_) (a' := ?_) #[true, true, true, true, true, true, true, true, true, true, true, false, false, false, false, false, false, false, false, false, false, false, false, false, false, false, false, false, false, false] rfl rfl (by kernel_rfl) (fun _ _ _ h => h) (Or.inl ⟨by rfl, ?_⟩) ?_ ?_
  rotate_left
  · intro w'
    go_simp
    with_reducible rfl
  rotate_left
  · simp only [Act.put, List.setIfInBounds_toArray, List.set_cons_zero, List.set_cons_succ, i64_w, i32_w]
    rfl
  refine pure_ (i := 11) (N := some 66) (v := ?_) (a' := ?_) #[true, true, true, true, true, true, true, true, true, true, true, true, false, false, false, false, false, false, false, false, false, false, false, false, false, false, false, false, false, false] rfl rfl (by kernel_rfl) (fun _ _ _ h => h) (Or.inl ⟨by rfl, ?_⟩) ?_ ?_
  rotate_left
  · intro w'
    go_simp
    with_reducible rfl
  rotate_left
  · simp only [Act.put, List.setIfInBounds_toArray, List.set_cons_zero, List.set_cons_succ, i64_w, i32_w]
    rfl
  refine pure_ (i := 12) (N := some 67) (v := ?_) (a' := ?_) #[true, true, true, true, true, true, true, true, true, true, true, true, true, false, false, false, false, false, false, false, false, false, false, false, false, false, false, false, false, false] rfl rfl (by kernel_rfl) (fun _ _ _ h => h) (Or.inl ⟨by rfl, ?_⟩) ?_ ?_
  rotate_left
  · intro w'
    go_simp
    with_reducible rfl
  rotate_left
  · simp only [Act.put, List.setIfInBounds_toArray, List.set_cons_zero, List.set_cons_succ, i64_w, i32_w]
    rfl
  refine pure_ (i := 13) (N := some 68) (v := ?_) (a' := ?_) #[true, true, true, true, true, true, true, true, true, true, true, true, true, true, false, false, false, false, false, false, false, false, false, false, false, false, false, false, false, false] rfl rfl (by kernel_rfl) (fun _ _ _ h => h) (Or.inl ⟨by rfl, ?_⟩) ?_ ?_
  rotate_left
  · intro w'
    go_simp
    with_reducible rfl
  rotate_left
  · simp only [Act.put, List.setIfInBounds_toArray, List.set_cons_zero, List.set_cons_succ, i64_w, i32_w]
    rfl
  refine pure_ (i := 15) (N := some 70) (v := ?_) (a' := ?_) #[true, true, true, true, true, true, true, true, true, true, true, true, true, true, false, true, false, false, false, false, false, false, false, false, false, false, false, false, false, false] rfl rfl (by kernel_rfl) (fun _ _ _ h => h) (Or.inl ⟨by rfl, ?_⟩) ?_ ?_
  rotate_left
  · intro w'
    go_simp
    with_reducible rfl
  rotate_left
  · simp only [Act.put, List.setIfInBounds_toArray, List.set_cons_zero, List.set_cons_succ, i64_w, i32_w]
    rfl
  refine pure_ (i := 16) (N := some 71) (v := ?_) (a' := ?_) #[true, true, true, true, true, true, true, true, true, true, true, true, true, true, false, true, true, false, false, false, false, false, false, false, false, false, false, false, false, false] rfl rfl (by kernel_rfl) (fun _ _ _ h => h) (Or.inl ⟨by rfl, ?_⟩) ?_ ?_
  rotate_left
  · intro w'
    go_simp
    with_reducible rfl
  rotate_left
  · simp only [Act.put, List.setIfInBounds_toArray, List.set_cons_zero, List.set_cons_succ, i64_w, i32_w]
    rfl
  refine pure_ (i := 17) (N := some 72) (v := ?_) (a' := ?_) #[true, true, true, true, true, true, true, true, true, true, true, true, true, true, false, true, true, true, false, false, false, false, false, false, false, false, false, false, false, false] rfl rfl (by kernel_rfl) (fun _ _ _ h => h) (Or.inl ⟨by rfl, ?_⟩) ?_ ?_
  rotate_left
  · intro w'
    go_simp
    with_reducible rfl
  rotate_left
  · simp only [Act.put, List.setIfInBounds_toArray, List.set_cons_zero, List.set_cons_succ, i64_w, i32_w]
    rfl
  refine pure_ (i := 18) (N := some 73) (v := ?_) (a' := ?_) #[true, true, true, true, true, true, true, true, true, true, true, true, true, true, false, true, true, true, true, false, false, false, false, false, false, false, false, false, false, false] rfl rfl (by kernel_rfl) (fun _ _ _ h => h) (Or.inl ⟨by rfl, ?_⟩) ?_ ?_
  rotate_left
  · intro w'
    go_simp
    with_reducible rfl
  rotate_left
  · simp only [Act.put, List.setIfInBounds_toArray, List.set_cons_zero, List.set_cons_succ, i64_w, i32_w]
    rfl
  refine pure_ (i := 19) (N := some 74) (v := ?_) (a' := ?_) #[true, true, true, true, true, true, true, true, true, true, true, true, true, true, false, true, true, true, true, true, false, false, false, false, false, false, false, false, false, false] rfl rfl (by kernel_rfl) (fun _ _ _ h => h) (Or.inl ⟨by rfl, ?_⟩) ?_ ?_
  rotate_left
  · intro w'
    go_simp
    with_reducible rfl
  rotate_left
  · simp only [Act.put, List.setIfInBounds_toArray, List.set_cons_zero, List.set_cons_succ, i64_w, i32_w]
    rfl
  refine take_ (i := 20) (N := some 75) (v := ?_) (a' := ?_) #[true, true, true, true, true, true, true, true, true, true, true, true, true, true, false, true, true, true, true, true, true, false, false, false, false, false, false, false, false, false] rfl rfl (by kernel_rfl) (fun _ _ _ h => h) (Or.inl ⟨by rfl, ?_⟩) hHeld ?_ ?_
  rotate_left
  · rintro w' ⟨s0, s1, s2, s3, s4, s5, s6, s7, s8, s9⟩
    go_simp
    with_reducible rfl
  rotate_left
  · simp only [Act.put, List.setIfInBounds_toArray, List.set_cons_zero, List.set_cons_succ, i64_w, i32_w]
    rfl
  refine pure_ (i := 21) (N := some 76) (v := ?_) (a' := ?_) #[true, true, true, true, true, true, true, true, true, true, true, true, true, true, false, true, true, true, true, true, true, true, false, false, false, false, false, false, false, false] rfl rfl (by kernel_rfl) (fun _ _ _ h => h) (Or.inl ⟨by rfl, ?_⟩) ?_ ?_
  rotate_left
  · intro w'
    go_simp
    with_reducible rfl
  rotate_left
  · simp only [Act.put, List.setIfInBounds_toArray, List.set_cons_zero, List.set_cons_succ, i64_w, i32_w]
    rfl
  refine one_ (i := 14) (N := some 69) #[true, true, true, true, true, true, true, true, true, true, true, true, true, true, true, true, true, true, true, true, true, true, false, false, false, false, false, false, false, false] rfl rfl (by kernel_rfl) (by decide) (fun K hK => ?_)
  refine goes_ Tryd.func26 (by kernel_rfl) rfl #[.pointer (some ⟨g, 0, none⟩)] (by rfl) rfl rfl (by (try simp only [List.map_toArray, List.map_cons, List.map_nil]); first | done | rfl) ?_
  with_reducible refine (Cur.left_calls g cF w10 (HC9.out.below B10.out) HOK.out).mono ?_
  rintro e w12 ⟨rfl, hd12⟩
  refine ⟨_, rfl, ?_⟩
  have B12 := Lib.hid (below_step B10.out hd12.below)
  clear hd12
  rw [hleft]
  refine hK.out _ _ ⟨(HSA.out _ B12.out).1.1, (HSA.out _ B12.out).1.2.1, (HSA.out _ B12.out).1.2.2.1, (HSA.out _ B12.out).1.2.2.2, (HSA.out _ B12.out).2.1.1, (HSA.out _ B12.out).2.1.2.1, (HSA.out _ B12.out).2.1.2.2.1, (HSA.out _ B12.out).2.1.2.2.2, (HSA.out _ B12.out).2.2.1, (HSA.out _ B12.out).2.2.2⟩ (fun hHeld => ?_)
  clear hK K
  refine norm_ (a' := ?_) ?_ ?_
  rotate_left
  · show Act.put _ (some 69) _ = _
    simp only [Act.put, List.setIfInBounds_toArray, List.set_cons_zero, List.set_cons_succ, i64_w, i32_w]
    rfl
  refine pure_ (i := 22) (N := some 77) (v := ?_) (a' := ?_) #[true, true, true, true, true, true, true, true, true, true, true, true, true, true, true, true, true, true, true, true, true, true, true, false, false, false, false, false, false, false] rfl rfl (by kernel_rfl) (fun _ _ _ h => h) (Or.inl ⟨by rfl, ?_⟩) ?_ ?_
  rotate_left
  · intro w'
    go_simp
    with_reducible rfl
  rotate_left
  · simp only [Act.put, List.setIfInBounds_toArray, List.set_cons_zero, List.set_cons_succ, i64_w, i32_w]
    rfl
  refine pure_ (i := 23) (N := some 78) (v := ?_) (a' := ?_) #[true, true, true, true, true, true, true, true, true, true, true, true, true, true, true, true, true, true, true, true, true, true, true, true, false, false, false, false, false, false] rfl rfl (by kernel_rfl) (fun _ _ _ h => h) (Or.inl ⟨by rfl, ?_⟩) ?_ ?_
  rotate_left
  · intro w'
    go_simp
    with_reducible rfl
  rotate_left
  · simp only [Act.put, List.setIfInBounds_toArray, List.set_cons_zero, List.set_cons_succ, i64_w, i32_w]
    rfl
  refine pure_ (i := 24) (N := some 79) (v := ?_) (a' := ?_) #[true, true, true, true, true, true, true, true, true, true, true, true, true, true, true, true, true, true, true, true, true, true, true, true, true, false, false, false, false, false] rfl rfl (by kernel_rfl) (fun _ _ _ h => h) (Or.inl ⟨by rfl, ?_⟩) ?_ ?_
  rotate_left
  · intro w'
    go_simp
    with_reducible rfl
  rotate_left
  · simp only [Act.put, List.setIfInBounds_toArray, List.set_cons_zero, List.set_cons_succ, i64_w, i32_w]
    rfl
  refine pure_ (i := 25) (N := some 80) (v := ?_) (a' := ?_) #[true, true, true, true, true, true, true, true, true, true, true, true, true, true, true, true, true, true, true, true, true, true, true, true, true, true, false, false, false, false] rfl rfl (by kernel_rfl) (fun _ _ _ h => h) (Or.inl ⟨by rfl, ?_⟩) ?_ ?_
  rotate_left
  · intro w'
    go_simp
    with_reducible rfl
  rotate_left
  · simp only [Act.put, List.setIfInBounds_toArray, List.set_cons_zero, List.set_cons_succ, i64_w, i32_w]
    rfl
  refine pure_ (i := 26) (N := some 81) (v := ?_) (a' := ?_) #[true, true, true, true, true, true, true, true, true, true, true, true, true, true, true, true, true, true, true, true, true, true, true, true, true, true, true, false, false, false] rfl rfl (by kernel_rfl) (fun _ _ _ h => h) (Or.inl ⟨by rfl, ?_⟩) ?_ ?_
  rotate_left
  · intro w'
    go_simp
    with_reducible rfl
  rotate_left
  · simp only [Act.put, List.setIfInBounds_toArray, List.set_cons_zero, List.set_cons_succ, i64_w, i32_w]
    rfl
  refine one_ (i := 27) (N := some 82) #[true, true, true, true, true, true, true, true, true, true, true, true, true, true, true, true, true, true, true, true, true, true, true, true, true, true, true, true, false, false] rfl rfl (by kernel_rfl) (by decide) (fun K hK => ?_)
  refine goes_ Tryd.func20 (by kernel_rfl) rfl #[.pointer (some ⟨p, 0, none⟩), .slice Av L.length cv] (by rfl) rfl rfl (by (try simp only [List.map_toArray, List.map_cons, List.map_nil]); first | done | rfl) ?_
  with_reducible refine (texts_calls Av cv L w12 (H9.out.below B12.out) (Kd.C_below HV9.out B12.out) hcv (by omega)).mono ?_
  rintro e w13 ⟨rfl, hw13⟩
  refine ⟨_, rfl, ?_⟩
  subst hw13
  refine hK.out _ _ ⟨(HSA.out _ B12.out).1.1, (HSA.out _ B12.out).1.2.1, (HSA.out _ B12.out).1.2.2.1, (HSA.out _ B12.out).1.2.2.2, (HSA.out _ B12.out).2.1.1, (HSA.out _ B12.out).2.1.2.1, (HSA.out _ B12.out).2.1.2.2.1, (HSA.out _ B12.out).2.1.2.2.2, (HSA.out _ B12.out).2.2.1, (HSA.out _ B12.out).2.2.2⟩ (fun hHeld => ?_)
  clear hK K
  refine norm_ (a' := ?_) ?_ ?_
  rotate_left
  · show Act.put _ (some 82) _ = _
    simp only [Act.put, List.setIfInBounds_toArray, List.set_cons_zero, List.set_cons_succ, i64_w, i32_w]
    rfl
  refine pure_ (i := 28) (N := some 83) (v := ?_) (a' := ?_) #[true, true, true, true, true, true, true, true, true, true, true, true, true, true, true, true, true, true, true, true, true, true, true, true, true, true, true, true, true, false] rfl rfl (by kernel_rfl) (fun _ _ _ h => h) (Or.inl ⟨by rfl, ?_⟩) ?_ ?_
  rotate_left
  · intro w'
    go_simp
    with_reducible rfl
  rotate_left
  · simp only [Act.put, List.setIfInBounds_toArray, List.set_cons_zero, List.set_cons_succ, i64_w, i32_w]
    rfl
  refine pure_ (i := 29) (N := some 6) (v := ?_) (a' := ?_) #[true, true, true, true, true, true, true, true, true, true, true, true, true, true, true, true, true, true, true, true, true, true, true, true, true, true, true, true, true, true] rfl rfl (by kernel_rfl) (fun _ _ _ h => h) (Or.inl ⟨by rfl, ?_⟩) ?_ ?_
  rotate_left
  · intro w'
    go_simp
    with_reducible rfl
  rotate_left
  · simp only [Act.put, List.setIfInBounds_toArray, List.set_cons_zero, List.set_cons_succ, i64_w, i32_w]
    rfl
  refine done_ (by kernel_rfl) ?_
  go_wp2_with (fail)
  go_ret
  exact ⟨rfl, (H9.out.below B12.out).bel⟩
end
theorem gets_all (b : ByteArray) (n0 n1 : Int) (A0 : Option Addr) (c0 : Nat) (l0 : List ByteArray) (w : World) (ht : ∀ w', Below w.heap.size w w' → Lib.Utf8Tabs 0 1 w') (hr : Kd.C Kd.string w A0 l0.length l0) (hc : l0.length ≤ c0) (h0 : -9223372036854775808 ≤ n0 ∧ n0 ≤ 9223372036854775807) (h1 : n1 ≤ 9223372036854775807) (hbs : b.size ≤ 140737488355328) :
    Calls Tryd.prog 6 #[.string b, .agg #[.int .i64 n0, .int .i64 n1], .slice A0 l0.length c0] w fun e w' => e = .returned (.bool true) ∧ Below w.heap.size w w' := by
  by_cases h : Tame l0
  · exact gets_tame b n0 n1 A0 c0 l0 w ht hr hc h h0 h1 hbs
  · exact gets_great b n0 n1 A0 c0 l0 w ht hr hc h
end Go.Proofs.YtoigkneoaemcfaaDoor.Rec
