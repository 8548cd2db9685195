/- RecordMoved: a node whose kids stand as far ahead has the same record at each place. -/
import Derived.Test.YtoigkneoaemcfaaDoorRxRcBack
namespace Go.Proofs.YtoigkneoaemcfaaDoor.Rec
open Go.RowKit Go.Lib Go.Proofs.YtoigkneoaemcfaaDoorW.PrintWords Go.Proofs.YtoigkneoaemcfaaDoorW.PrintLast Go.Proofs.YtoigkneoaemcfaaDoorW.PrintMore Go.Proofs.YtoigkneoaemcfaaDoor.B Go.Proofs.YtoigkneoaemcfaaDoor.Bd Go.Proofs.YtoigkneoaemcfaaDoor.Tab Go.Proofs.YtoigkneoaemcfaaDoor.GR
set_option linter.unusedVariables false
set_option linter.unusedSimpArgs false
/-- The kids that were moved, and those that weren't yet. -/
def mvd (by' : Int) (l : List Int) (i : Nat) : List Int := (l.take i).map (· + by') ++ l.drop i
theorem mvd_len (by' : Int) (l : List Int) (i : Nat) : (mvd by' l i).length = l.length := by unfold mvd; simp; omega
theorem mvd_zero (by' : Int) (l : List Int) : mvd by' l 0 = l := by simp [mvd]
theorem mvd_all (by' : Int) (l : List Int) {i : Nat} (h : l.length ≤ i) : mvd by' l i = l.map (· + by') := by unfold mvd; rw [List.take_of_length_le h, List.drop_of_length_le h, List.append_nil]
theorem mvd_get (by' : Int) (l : List Int) {i : Nat} (h : i < l.length) : (mvd by' l i)[i]? = some (rd l i) := by
  unfold mvd
  rw [List.getElem?_append_right (by simp; omega), num_at h]
  simp
  rw [Nat.min_eq_left (by omega), Nat.sub_self]
  rfl
theorem mvd_set (by' : Int) (l : List Int) {i : Nat} (h : i < l.length) : (mvd by' l i).set i (rd l i + by') = mvd by' l (i + 1) := by
  unfold mvd
  have e1 : ((l.take i).map (· + by')).length = i := by simp; omega
  have e2 : l.take (i + 1) = l.take i ++ [rd l i] := by
    rw [List.take_succ_eq_append_getElem h, rd_nat, List.getD_eq_getElem?_getD, List.getElem?_eq_getElem h]
    rfl
  rw [List.set_append_right _ _ (by omega), e1, Nat.sub_self, num_at h, List.set_cons_zero, e2, List.map_append, List.append_assoc]
  rfl
theorem own_unfrozen {w : World} {base e g n cap : Nat} {xs : List Value} (h : w.ownsRow base e 1 (.slice (some ⟨g, 0, none⟩) n cap) n xs) (i : Nat) : w.frozen? ⟨g, i, none⟩ = false := by
  rcases h.2 with ⟨h', _⟩ | ⟨g', cap', cur, h', _, hh, _⟩
  · cases h'
  · have : g = g' := by injection h' with h'; injection h' with h'; injection h' with h'
    subst this
    simp [World.frozen?, hh]
section
variable (k at' by' : Int) (A1 : Option Addr) (c1 : Nat) (l1 : List Int) (A2 : Option Addr) (c2 : Nat) (l2 : List ByteArray) (A3 : Option Addr) (c3 : Nat) (l3 : List Int) (w : World)
set_option maxHeartbeats 8000000 in
set_option maxRecDepth 100000 in
theorem moved_all (ht : ∀ w', Below w.heap.size w w' → Lib.Utf8Tabs 0 1 w') (hi : In w A1 c1 l1 A2 c2 l2 A3 c3 l3) (hi1 : I64 l1) (hi3 : I64 l3) :
    Calls Tryd.prog 5 #[.agg #[.int .i64 k, .slice A1 l1.length c1, .slice A2 l2.length c2, .slice A3 l3.length c3], .int .i64 at', .int .i64 by'] w fun e w' => e = .returned (.bool true) ∧ Below w.heap.size w w' := by
  have HT := Lib.hid ht
  have HI := Lib.hid hi
  have HI1 := Lib.hid hi1
  have HI3 := Lib.hid hi3
  obtain ⟨gb, hgb, hgc⟩ := great_calls8 k l1 l2 l3
  have HGB := Lib.hid hgb
  have HGC := Lib.hid hgc
  clear ht hi hi1 hi3 hgb hgc
  go_enter Tryd.func5, Tryd.ntmps5
  go_upto_region 1 with (fail)
  have hb1 : Below w.heap.size w (w.alloc (.cells #[.int .i64 k, .slice A1 l1.length c1, .slice A2 l2.length c2, .slice A3 l3.length c3] 40)) := (Below.refl _ _).alloc (Nat.le_refl _) _
  have hx1 : NBox (w.alloc (.cells #[.int .i64 k, .slice A1 l1.length c1, .slice A2 l2.length c2, .slice A3 l3.length c3] 40)) w.heap.size k (.slice A1 l1.length c1) (.slice A2 l2.length c2) (.slice A3 l3.length c3) := heap_alloc_new w _
  generalize w.alloc (.cells #[.int .i64 k, .slice A1 l1.length c1, .slice A2 l2.length c2, .slice A3 l3.length c3] 40) = w1 at *
  have HB1 := Lib.hid hb1
  have HX1 := Lib.hid hx1
  clear hb1 hx1
  go_wp2_with (fail)
  refine (table_nil _).mono ?_
  rintro e w2 ⟨p, F, v, rfl, h2, _⟩
  have HX2 := Lib.hid (HX1.out.below h2.bel)
  have HFB := Lib.hid (show ∀ k, F k → w.heap.size < k from fun k hk => Nat.lt_of_lt_of_le (blk_lt HX1.out) (h2.2.2 k hk))
  have H2 := Lib.hid (has_up HB1.out h2)
  clear h2
  go_wp2_with (fail)
  refine (table_nil _).mono ?_
  rintro e w2b ⟨q, G, vb, rfl, h2b, _⟩
  have HX2b := Lib.hid (HX2.out.below h2b.bel)
  have HGB2 := Lib.hid (show ∀ k, G k → w.heap.size < k from fun k hk => Nat.lt_of_lt_of_le (blk_lt HX2.out) (h2b.2.2 k hk))
  have HFG := Lib.hid (show ∀ k, G k → ¬ F k from fun k hk hf => by have := h2b.2.2 k hk; have := H2.out.lt k hf; omega)
  have H2b := Lib.hid (H2.out.below h2b.bel)
  have K2b := Lib.hid (has_up H2.out.bel h2b)
  clear h2b H2
  go_wp2_with (fail)
  refine (awake_calls _ (fun w' hb => HT.out w' (below_step H2b.out.bel hb))).mono ?_
  rintro e w3 ⟨rfl, hb3⟩
  have H3 := Lib.hid (H2b.out.below hb3)
  have K3 := Lib.hid (K2b.out.below hb3)
  have HX3 := Lib.hid (HX2b.out.below hb3)
  clear hb3
  obtain ⟨x0, x1, x2, x3⟩ := HX3.out.cells
  go_wp2_with (fail)
  refine (HGC.out _ A1 c1 A2 c2 A3 c3 (HI.out.below H3.out.bel)).mono ?_
  rintro e w4 ⟨rfl, hb4⟩
  have H4 := Lib.hid (H3.out.below hb4)
  have K4 := Lib.hid (K3.out.below hb4)
  have HX4 := Lib.hid (HX3.out.below hb4)
  clear hb4 x0 x1 x2 x3
  cases gb with
  | true =>
    go_wp2_with (fail)
    refine (awake_calls _ (fun w' hb => HT.out w' (below_step H4.out.bel hb))).mono ?_
    rintro e w5 ⟨rfl, hb5⟩
    have HB5 := Lib.hid (below_step H4.out.bel hb5)
    clear hb5
    go_wp2_with (fail)
    go_ret
    exact ⟨rfl, HB5.out⟩
  | false =>
  by_cases q0 : by' < 0
  · have d0 : decide (by' < 0) = true := decide_eq_true q0
    go_wp2_with (fail)
    refine (awake_calls _ (fun w' hb => HT.out w' (below_step H4.out.bel hb))).mono ?_
    rintro e w5 ⟨rfl, hb5⟩
    have HB5 := Lib.hid (below_step H4.out.bel hb5)
    clear hb5
    go_wp2_with (fail)
    go_ret
    exact ⟨rfl, HB5.out⟩
  have d0 : decide (by' < 0) = false := decide_eq_false q0
  by_cases q1 : by' > 1048576
  · have d1 : decide (by' > 1048576) = true := decide_eq_true q1
    go_wp2_with (fail)
    refine (awake_calls _ (fun w' hb => HT.out w' (below_step H4.out.bel hb))).mono ?_
    rintro e w5 ⟨rfl, hb5⟩
    have HB5 := Lib.hid (below_step H4.out.bel hb5)
    clear hb5
    go_wp2_with (fail)
    go_ret
    exact ⟨rfl, HB5.out⟩
  have d1 : decide (by' > 1048576) = false := decide_eq_false q1
  by_cases q2 : at' < 0
  · have d2 : decide (at' < 0) = true := decide_eq_true q2
    go_wp2_with (fail)
    refine (awake_calls _ (fun w' hb => HT.out w' (below_step H4.out.bel hb))).mono ?_
    rintro e w5 ⟨rfl, hb5⟩
    have HB5 := Lib.hid (below_step H4.out.bel hb5)
    clear hb5
    go_wp2_with (fail)
    go_ret
    exact ⟨rfl, HB5.out⟩
  have d2 : decide (at' < 0) = false := decide_eq_false q2
  by_cases q3 : at' > 1048576
  · have d3 : decide (at' > 1048576) = true := decide_eq_true q3
    go_wp2_with (fail)
    refine (awake_calls _ (fun w' hb => HT.out w' (below_step H4.out.bel hb))).mono ?_
    rintro e w5 ⟨rfl, hb5⟩
    have HB5 := Lib.hid (below_step H4.out.bel hb5)
    clear hb5
    go_wp2_with (fail)
    go_ret
    exact ⟨rfl, HB5.out⟩
  have d3 : decide (at' > 1048576) = false := decide_eq_false q3
  have HS := Lib.hid (HGB.out rfl)
  have hn3 := HS.out.n3
  obtain ⟨x0, x1, x2, x3⟩ := HX4.out.cells
  go_wp2_with (fail)
  refine (copy_calls8 (k := k) _ (HI.out.below H4.out.bel) HS.out).mono ?_
  rintro e w5 ⟨u1, u2, u3, rfl, hM5, hb5⟩
  obtain ⟨B1, e1, B2, e2, B3, e3, rfl, rfl, rfl, _⟩ := hM5.reads
  obtain ⟨base, hbase⟩ : ∃ n, n = w4.heap.size := ⟨_, rfl⟩
  have HFb := Lib.hid (show ∀ k, F k → k < base from fun k hk => by rw [hbase]; exact H4.out.lt k hk)
  have HGb := Lib.hid (show ∀ k, G k → k < base from fun k hk => by rw [hbase]; exact K4.out.lt k hk)
  have hxb : w.heap.size < base := by rw [hbase]; exact blk_lt HX4.out
  rw [← hbase] at hM5
  have H5 := Lib.hid (H4.out.below hb5)
  have K5 := Lib.hid (K4.out.below hb5)
  have HX5 := Lib.hid (HX4.out.below hb5)
  have HM5 := Lib.hid hM5
  clear hM5 hb5 x0 x1 x2 x3 hbase
  go_upto_region 6 with (fail)
  have hb6 : Below w5.heap.size w5 (w5.alloc (.cells #[.int .i64 k, .slice B1 l1.length e1, .slice B2 l2.length e2, .slice B3 l3.length e3] 40)) := (Below.refl _ _).alloc (Nat.le_refl _) _
  have hx6 : NBox (w5.alloc (.cells #[.int .i64 k, .slice B1 l1.length e1, .slice B2 l2.length e2, .slice B3 l3.length e3] 40)) w5.heap.size k (.slice B1 l1.length e1) (.slice B2 l2.length e2) (.slice B3 l3.length e3) := heap_alloc_new w5 _
  obtain ⟨n6, hn6⟩ : ∃ n, n = w5.heap.size := ⟨_, rfl⟩
  have HF6 := Lib.hid (show ∀ k, F k → k < n6 from fun k hk => by rw [hn6]; exact H5.out.lt k hk)
  have HG6 := Lib.hid (show ∀ k, G k → k < n6 from fun k hk => by rw [hn6]; exact K5.out.lt k hk)
  rw [← hn6] at hx6 ⊢
  generalize w5.alloc (.cells #[.int .i64 k, .slice B1 l1.length e1, .slice B2 l2.length e2, .slice B3 l3.length e3] 40) = w6 at *
  have H6 := Lib.hid (H5.out.below hb6)
  have K6 := Lib.hid (K5.out.below hb6)
  have HX6 := Lib.hid (HX5.out.below hb6)
  have HM6 := Lib.hid (HM5.out.below hb6)
  have HN6 := Lib.hid hx6
  obtain ⟨z0, z1, z2, z3⟩ := hx6.cells
  clear hb6 hx6 hn6
  go_wp2_with (fail)
  clear z0 z1 z2 z3
  go_loopg [14, 65] l3.length (fun kq v14 v65 wr => ∃ (i : Nat) (x : Value), v14 = x ∧ v65 = .int .i64 (i : Int) ∧ i + kq = l3.length ∧ Aside0 (∀ j : Nat, j < i → rd l3 j ≤ 1048576) ∧ Aside0 (Has w wr F p []) ∧ Aside0 (Has w wr G q []) ∧ Aside0 (NBox wr w.heap.size k (.slice A1 l1.length c1) (.slice A2 l2.length c2) (.slice A3 l3.length c3)) ∧ Aside0 (NBox wr n6 k (.slice B1 l1.length e1) (.slice B2 l2.length e2) (.slice B3 l3.length e3)) ∧ Aside0 (Made wr base (.slice B1 l1.length e1) (.slice B2 l2.length e2) (.slice B3 l3.length e3) l1 l2 (mvd by' l3 i)))
  case atStart => exact ⟨0, _, rfl, rfl, by omega, ⟨fun j hj => by omega⟩, ⟨H6.out⟩, ⟨K6.out⟩, ⟨HX6.out⟩, ⟨HN6.out⟩, ⟨by rw [mvd_zero]; exact HM6.out⟩⟩
  case round =>
    clear H6 K6 HX6 HN6 HM6 H5 K5 HX5 HM5
    obtain ⟨i, x, rfl, rfl, hik, hsm, hH, hK, hX, hN, hM⟩ := hrel
    obtain ⟨wo, hwo⟩ : ∃ z, z = wr := ⟨_, rfl⟩
    subst hwo
    obtain ⟨z0, z1, z2, z3⟩ := hN.out.cells
    by_cases hlt : (i : Int) < (l3.length : Int)
    · have t4 : decide ((i : Int) < (l3.length : Int)) = true := decide_eq_true hlt
      obtain ⟨ko, rfl⟩ : ∃ g, gk = g + 1 := ⟨gk - 1, by omega⟩
      have ho3 : wo.ownsRow base 3 1 (.slice B3 l3.length e3) l3.length ((mvd by' l3 i).map i64V) := by have := hM.out.2.2; rwa [mvd_len] at this
      obtain ⟨g3, cap, hv, hg3, _⟩ := ho3.form (by omega)
      cases hv
      have u1 : wo.cell? ⟨g3, i, none⟩ = some (.int .i64 (rd l3 i)) := by
        rw [ho3.cellAt i (by omega), List.getElem?_map, mvd_get by' l3 (by omega)]
        rfl
      have hf3 : wo.frozen? ⟨g3, i, none⟩ = false := own_unfrozen ho3 i
      have hst := (own_store_of (enc := i64V) (xs := mvd by' l3 i) (by simpa [encs] using ho3) (i : Int) (rd l3 i + by')).1
      rw [Int.toNat_natCast, mvd_set by' l3 (by omega)] at hst
      have HST := Lib.hid hst
      have hyr := HI3.out.drop i (rd l3 (i : Int)) (by rw [num_at (by omega)]; exact List.mem_cons_self)
      have hbg : base ≤ g3 := (ho3.lt g3 rfl).1
      have HSM := Lib.hid (show rd l3 (i : Int) ≤ 1048576 → ∀ j : Nat, j < i + 1 → rd l3 j ≤ 1048576 from fun h j hj => by
        by_cases hji : j = i
        · subst hji; exact h
        · exact hsm.out j (by omega))
      have HO := Lib.hid ho3
      clear ho3 hst hsm
      generalize rd l3 (i : Int) = y at *
      by_cases hbig : y > 1048576
      · have eb1 : decide (y > 1048576) = true := decide_eq_true hbig
        go_wp2_with (fail)
        go_ret
        exact ⟨rfl, hH.out.bel⟩
      have eb1 : decide (y > 1048576) = false := decide_eq_false hbig
      have hw80 : IntKind.i64.wrap (y + by') = y + by' := by rw [IntKind.wrap_i64]; omega
      go_wp2_with (fail)
      have HMV := Lib.hid (show Mv (one g3) wo (wo.setCell ⟨g3, i, none⟩ (.int .i64 (y + by'))) from (Mv.refl (one g3) wo).setCell (p := ⟨g3, i, none⟩) (.inl rfl) _)
      have hn63 : n6 ≠ g3 := fun e => Lib.ownBlock_ne HO.out hN.out (by decide) (by simp [Value.ownBlock, e])
      have HMD := Lib.hid (show Made (wo.setCell ⟨g3, i, none⟩ (.int .i64 (y + by'))) base (.slice B1 l1.length e1) (.slice B2 l2.length e2) (.slice (some ⟨g3, 0, none⟩) l3.length e3) l1 l2 (mvd by' l3 (i + 1)) from
        ⟨row_mv hM.out.1 HMV.out (fun j hj e => row_apart hM.out.1 HO.out (by decide) j hj (by simp [Value.ownBlock, show j = g3 from e])),
         row_mv hM.out.2.1 HMV.out (fun j hj e => row_apart hM.out.2.1 HO.out (by decide) j hj (by simp [Value.ownBlock, show j = g3 from e])),
         by have := HST.out; rw [mvd_len]; simpa [encs, i64V] using this⟩)
      go_roundg ko
      case measure => omega
      case rel => exact ⟨i + 1, _, rfl, rfl, by omega, ⟨HSM.out (by omega)⟩, ⟨hH.out.apart HMV.out (fun k hk => by obtain rfl : k = g3 := hk; omega) (fun k hk e => by have := HFb.out k hk; have e2 : k = g3 := e; omega)⟩, ⟨hK.out.apart HMV.out (fun k hk => by obtain rfl : k = g3 := hk; omega) (fun k hk e => by have := HGb.out k hk; have e2 : k = g3 := e; omega)⟩, ⟨HMV.out.keep hX.out (fun e => by have e2 : w.heap.size = g3 := e; omega)⟩, ⟨HMV.out.keep hN.out hn63⟩, ⟨HMD.out⟩⟩
    · have t4 : decide ((i : Int) < (l3.length : Int)) = false := decide_eq_false hlt
      have hM2 := hM.out
      rw [mvd_all by' l3 (by omega)] at hM2
      have HM := Lib.hid hM2
      have hsm2 : ∀ x ∈ l3, x ≤ 1048576 := fun x hx => by
        obtain ⟨j, hj, rfl⟩ := List.getElem_of_mem hx
        have := hsm.out j (by omega)
        rw [rd_nat, List.getD_eq_getElem?_getD, List.getElem?_eq_getElem hj] at this
        exact this
      have HI3m := Lib.hid (show I64 (l3.map (· + by')) from fun x hx => by
        obtain ⟨y, hy, rfl⟩ := List.mem_map.1 hx
        have h1 := HI3.out y hy
        have h2 := hsm2 y hy
        exact ⟨by show _ ≤ y + by'; omega, by show y + by' ≤ _; omega⟩)
      have hlm : (l3.map (· + by')).length = l3.length := by simp
      have HFm := Lib.hid (show Fit l1 l2 (l3.map (· + by')) from ⟨HS.out.fit.n1, HS.out.fit.n2, by rw [hlm]; omega, HS.out.fit.s2⟩)
      obtain ⟨x0, x1, x2, x3⟩ := hX.out.cells
      clear hM2 hM hsm hsm2
      go_wp2_with (fail)
      refine (copy_calls8 (k := k) _ (HI.out.below hH.out.bel) HS.out).mono ?_
      rintro e w7 ⟨y1, y2, y3, rfl, hM7, hb7⟩
      obtain ⟨D1, f1, D2, f2, D3, f3, rfl, rfl, rfl, _⟩ := hM7.reads
      have HF7 := Lib.hid (show Away F (.slice D1 l1.length f1) (.slice D2 l2.length f2) (.slice D3 l3.length f3) from hM7.away hH.out.lt)
      have HM7 := Lib.hid hM7
      have H7 := Lib.hid (hH.out.below hb7)
      have K7 := Lib.hid (hK.out.below hb7)
      have HN7 := Lib.hid (hN.out.below hb7)
      have HMm7 := Lib.hid (HM.out.below hb7)
      clear hM7 hb7 x0 x1 x2 x3 z0 z1 z2 z3
      go_wp2_with (fail)
      refine (has_rput H7.out k at' HT.out (stays_made HM7.out HF7.out) HS.out.fit HI1.out HI3.out (by omega) (by simp) (by simp [Tab.total])).mono ?_
      rintro e w8 ⟨rfl, F8, h8, m8, f8⟩
      have hmv := Lib.hid m8
      have K8 := Lib.hid (K7.out.apart m8 (fun k hk => H7.out.2.2 k hk) HFG.out)
      have HN8 := Lib.hid (show NBox w8 n6 k (.slice B1 l1.length e1) (.slice B2 l2.length e2) (.slice B3 l3.length e3) from m8.keep HN7.out (fun h => by have := HF6.out _ h; omega))
      have HMm8 := Lib.hid (HMm7.out.mv m8 (HMm7.out.away HFb.out))
      have HAm := Lib.hid (HMm8.out.away HGb.out)
      clear h8 m8 f8
      obtain ⟨z0, z1, z2, z3⟩ := HN8.out.cells
      have hwa : IntKind.i64.wrap (at' + by') = at' + by' := by rw [IntKind.wrap_i64]; omega
      go_wp2_with (fail)
      try rw [hwa]
      have HST := Lib.hid (show Stays w w8 G B1 e1 l1 B2 e2 l2 B3 e3 (l3.map (· + by')) from stays_made (by rw [hlm]; exact HMm8.out) (by rw [hlm]; exact HAm.out))
      have hcall := has_rput K8.out k (at' + by') HT.out HST.out HFm.out HI1.out HI3m.out (by omega) (by simp) (by simp [Tab.total])
      rw [hlm] at hcall
      refine hcall.mono ?_
      clear hcall
      by_cases hE : putE k l1 l2 l3 at' = 0
      · obtain ⟨h1, h2⟩ := putR_moved k l1 l2 l3 at' by' [] (by omega) hE
        rw [putR_ok hE, putR_ok h1, h2]
        rintro e w9 ⟨rfl, F9, h9, m9, f9⟩
        have H9 := Lib.hid h9.bel
        generalize (putO k l1 l2 l3 at' []).1 = bb at *
        have tb : (bb == bb) = true := by simp
        clear h9 m9 f9 h1 h2
        go_wp2_with (fail)
        go_ret
        exact ⟨rfl, H9.out⟩
      · rw [putR_err hE]
        rintro e w9 ⟨rfl, F9, h9, m9, f9⟩
        have H9 := Lib.hid h9.bel
        have te : (putE k l1 l2 l3 at' != 0) = true := bne_iff_ne.mpr hE
        clear h9 m9 f9 hE
        generalize putE k l1 l2 l3 at' = q1 at *
        generalize (putR k l1 l2 (l3.map (· + by')) (at' + by') []).2.2 = q2 at *
        generalize (putR k l1 l2 (l3.map (· + by')) (at' + by') []).1 = q3 at *
        go_wp2_with (fail)
        go_ret
        exact ⟨rfl, H9.out⟩
end
end Go.Proofs.YtoigkneoaemcfaaDoor.Rec
