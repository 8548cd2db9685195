/- RecordTable: records that are put into one table are got from it so. -/
import Derived.Test.YtoigkneoaemcfaaDoorRxRcOne
namespace Go.Proofs.YtoigkneoaemcfaaDoor.Rec
open Go.RowKit Go.Lib Go.Proofs.YtoigkneoaemcfaaDoorW.PrintWords Go.Proofs.YtoigkneoaemcfaaDoorW.PrintLast Go.Proofs.YtoigkneoaemcfaaDoorW.PrintMore Go.Proofs.YtoigkneoaemcfaaDoor.B Go.Proofs.YtoigkneoaemcfaaDoor.Bd Go.Proofs.YtoigkneoaemcfaaDoor.Tab Go.Proofs.YtoigkneoaemcfaaDoor.GR
set_option linter.unusedVariables false
set_option linter.unusedSimpArgs false
/-- A node in a row, with its rows. -/
structure Nv where
  n : S40
  A1 : Option Addr
  c1 : Nat
  A2 : Option Addr
  c2 : Nat
  A3 : Option Addr
  c3 : Nat
def Nv.vals (x : Nv) : List Value := [.int .i64 x.n.f0, .slice x.A1 x.n.f1.length x.c1, .slice x.A2 x.n.f2.length x.c2, .slice x.A3 x.n.f3.length x.c3]
def valsOf : List Nv → List Value
  | [] => []
  | x :: l => x.vals ++ valsOf l
theorem valsOf_len : ∀ l : List Nv, (valsOf l).length = l.length * 4
  | [] => rfl
  | x :: l => by rw [valsOf, List.length_append, valsOf_len l, List.length_cons]; simp [Nv.vals]; omega
theorem valsOf_snoc : ∀ (l : List Nv) (x : Nv), valsOf (l ++ [x]) = valsOf l ++ x.vals
  | [], x => by simp [valsOf]
  | y :: l, x => by rw [List.cons_append, valsOf, valsOf, valsOf_snoc l, List.append_assoc]
theorem valsOf_get : ∀ (l : List Nv) (i j : Nat) (x : Nv), l[i]? = some x → j < 4 → (valsOf l)[i * 4 + j]? = x.vals[j]?
  | [], i, j, x, h, _ => by simp at h
  | y :: l, 0, j, x, h, hj => by
    simp at h
    subst h
    rw [valsOf, Nat.zero_mul, Nat.zero_add, List.getElem?_append_left (by simp [Nv.vals]; omega)]
  | y :: l, i + 1, j, x, h, hj => by
    rw [List.getElem?_cons_succ] at h
    rw [valsOf, List.getElem?_append_right (by simp [Nv.vals]; omega), show (i + 1) * 4 + j - y.vals.length = i * 4 + j by simp [Nv.vals]; omega]
    exact valsOf_get l i j x h hj
theorem add_zero_addr (g j : Nat) : (⟨g, 0, none⟩ : Addr).add j = ⟨g, j, none⟩ := by
  simp only [Addr.add, Nat.zero_add]
  split <;> simp_all
theorem cells_new (w : World) (cs : List Value) (T : TypeId) : ∀ (j : Nat) (u : Value), cs[j]? = some u → (w.alloc (.cells cs.toArray T)).cell? ((⟨w.heap.size, 0, none⟩ : Addr).add j) = some u := fun j u h => by
  rw [add_zero_addr]
  exact (blk_cell (heap_alloc_new w _) j).trans (by simpa using h)
theorem recs_sm {at' : Int} {T : List ByteArray} {n : S40} {l : List (S40)} {B : List Nat} (h : recs at' T (n :: l) B) : n.f1.length ≤ 4 ∧ n.f2.length ≤ 2 ∧ n.f3.length ≤ 300 := by
  obtain ⟨is, B2, _, _, _, ⟨h4, _, _, h7⟩, _⟩ := h
  obtain ⟨_, _, t0, t1, s0, _⟩ := newS_ok h4.ok
  have h3 := h4.n1
  have h5 := h4.n2
  exact ⟨by omega, by omega, h7⟩
theorem ownBlock_ne4 {w : World} {base e n p T s : Nat} {v : Value} {xs : List Value} {cs : Array Value} {fz : Nat × Nat} (h : w.ownsRow base e s v n xs) (hp : w.heap[p]? = some (.cells cs T fz)) (hT : T ≠ e) : v.ownBlock ≠ some p := by
  intro hk
  rcases h.2 with ⟨hv, _⟩ | ⟨g, cap, cur, hv, _, hg, _⟩
  · rw [hv] at hk; cases hk
  · rw [hv] at hk
    simp only [Value.ownBlock, Option.some.injEq] at hk
    subst hk
    rw [hg] at hp
    injection hp with hp
    injection hp with _ h2 _
    exact hT h2.symm
def Nv.good (w : World) (x : Nv) : Prop := In w x.A1 x.c1 x.n.f1 x.A2 x.c2 x.n.f2 x.A3 x.c3 x.n.f3
section
variable (at' : Int) (A0 : Option Addr) (c0 : Nat) (l0 : List (S40)) (w : World)
set_option maxHeartbeats 8000000 in
set_option maxRecDepth 100000 in
theorem table_all (ht : ∀ w', Below w.heap.size w w' → Lib.Utf8Tabs 0 1 w') (hr : Kd.C k40 w A0 l0.length l0) (hc : l0.length ≤ c0) (hI : ∀ y ∈ l0, I64 y.f1 ∧ I64 y.f3) :
    Calls Tryd.prog 9 #[.slice A0 l0.length c0, .int .i64 at'] w fun e w' => e = .returned (.bool true) ∧ Below w.heap.size w w' := by
  obtain ⟨i0, hi0, hz0, hz1, hz2⟩ := info_parts (show (Tryd.prog.info? 40).map (fun i => (i.zero, i.size, i.bytes)) = some (some (.agg #[.int .i64 0, .slice none 0 0, .slice none 0 0, .slice none 0 0]), 4, 80) from by kernel_rfl)
  have HT := Lib.hid ht
  have HR := Lib.hid hr
  have HI := Lib.hid hI
  clear ht hr hI
  go_enter Tryd.func9, Tryd.ntmps9
  go_wp2_with (fail)
  refine (table_nil _).mono ?_
  rintro e w2 ⟨p, F, v, rfl, h2, _⟩
  have H2 := Lib.hid h2
  clear h2
  go_wp2_with (fail)
  refine (awake_calls _ (fun w' hb => HT.out w' (below_step H2.out.bel hb))).mono ?_
  rintro e w4 ⟨rfl, hb4⟩
  have H4 := Lib.hid (H2.out.below hb4)
  clear hb4
  by_cases q0 : (l0.length : Int) > 30
  · have d0 : decide ((l0.length : Int) > 30) = true := decide_eq_true q0
    go_wp2_with (fail)
    refine (awake_calls _ (fun w' hb => HT.out w' (below_step H4.out.bel hb))).mono ?_
    rintro e w5 ⟨rfl, hb5⟩
    have HB5 := Lib.hid (below_step H4.out.bel hb5)
    clear hb5
    go_wp2_with (fail)
    go_ret
    exact ⟨rfl, HB5.out⟩
  have d0 : decide ((l0.length : Int) > 30) = false := decide_eq_false q0
  by_cases q1 : at' < 0
  · have d1 : decide (at' < 0) = true := decide_eq_true q1
    go_wp2_with (fail)
    refine (awake_calls _ (fun w' hb => HT.out w' (below_step H4.out.bel hb))).mono ?_
    rintro e w5 ⟨rfl, hb5⟩
    have HB5 := Lib.hid (below_step H4.out.bel hb5)
    clear hb5
    go_wp2_with (fail)
    go_ret
    exact ⟨rfl, HB5.out⟩
  have d1 : decide (at' < 0) = false := decide_eq_false q1
  by_cases q2 : at' > 1048576
  · have d2 : decide (at' > 1048576) = true := decide_eq_true q2
    go_wp2_with (fail)
    refine (awake_calls _ (fun w' hb => HT.out w' (below_step H4.out.bel hb))).mono ?_
    rintro e w5 ⟨rfl, hb5⟩
    have HB5 := Lib.hid (below_step H4.out.bel hb5)
    clear hb5
    go_wp2_with (fail)
    go_ret
    exact ⟨rfl, HB5.out⟩
  have d2 : decide (at' > 1048576) = false := decide_eq_false q2
  go_wp2_with (fail)
  go_loopg [8, 9, 11, 12, 13, 45] l0.length (fun kq v8 v9 v11 v12 v13 v45 wr => ∃ (i : Nat) (o : ByteArray) (vp x y z : Value) (F : Nat → Prop) (L : List ByteArray) (P : List Nv), v8 = .string o ∧ vp = v9 ∧ v11 = x ∧ v12 = y ∧ v13 = z ∧ v45 = .int .i64 (i : Int) ∧ i + kq = l0.length ∧ o.size ≤ 10000 * i ∧ L.length ≤ 100 * i ∧ total L ≤ 50000 * i ∧ P.length ≤ i ∧ Aside0 (Has w wr F p L) ∧ Aside0 (wr.ownsRow w.heap.size 40 4 vp P.length (valsOf P)) ∧ Aside0 (∀ k, vp.ownBlock = some k → ¬ F k) ∧ Aside0 (∀ x ∈ P, x.good w) ∧ Aside0 (recs at' L (P.map Nv.n) (Cur.bl o)))
  case atStart => exact ⟨0, ⟨#[]⟩, _, _, _, _, F, [], [], rfl, rfl, rfl, rfl, rfl, rfl, by omega, by have e_ : (⟨#[]⟩ : ByteArray).size = 0 := rfl; omega, by simp, by simp [Tab.total], by simp, ⟨H4.out⟩, ⟨World.ownsRow_nil _ _ _ _⟩, ⟨fun k hk => by simp [Value.ownBlock] at hk⟩, ⟨fun x hx => by cases hx⟩, ⟨rfl⟩⟩
  case round =>
    clear H4 H2
    obtain ⟨i, o, vp, x, y, z, F, L, P, rfl, rfl, rfl, rfl, rfl, rfl, hik, ho1, hL1, hL2, hP1, hH, hV, hA, hP, hRc⟩ := hrel
    obtain ⟨wo, hwo⟩ : ∃ z, z = wr := ⟨_, rfl⟩
    subst hwo
    by_cases hlt : (i : Int) < (l0.length : Int)
    · have t4 : decide ((i : Int) < (l0.length : Int)) = true := decide_eq_true hlt
      obtain ⟨ko, rfl⟩ : ∃ g, gk = g + 1 := ⟨gk - 1, by omega⟩
      obtain ⟨ad, B1, d1, B2, d2, B3, d3, e, hx0, hx1, hx2, hx3, hl1, hi1, hl2, hi2, hl3, hi3⟩ := at_T40 (Kd.C_below HR.out hH.out.bel) (i : Int) (by omega) hlt
      obtain ⟨ad', B1', d1', B2', d2', B3', d3', e', gx0, gx1, gx2, gx3, hl1', hi1', hl2', hi2', hl3', hi3'⟩ := at_T40 HR.out (i : Int) (by omega) hlt
      subst e
      cases e'
      rw [Int.toNat_natCast] at hx0 hx1 hx2 hx3 gx0 gx1 gx2 gx3
      have q1 := (hH.out.bel.cell (World.block_lt_of_cell? _ _ gx1)).trans gx1
      have q2 := (hH.out.bel.cell (World.block_lt_of_cell? _ _ gx2)).trans gx2
      have q3 := (hH.out.bel.cell (World.block_lt_of_cell? _ _ gx3)).trans gx3
      rw [hx1] at q1
      rw [hx2] at q2
      rw [hx3] at q3
      injection q1 with q1; injection q1 with q11 q12 q13
      injection q2 with q2; injection q2 with q21 q22 q23
      injection q3 with q3; injection q3 with q31 q32 q33
      subst q11 q13 q21 q23 q31 q33
      have hin : In w B1 d1 (rd_T40 l0 (i : Int)).f1 B2 d2 (rd_T40 l0 (i : Int)).f2 B3 d3 (rd_T40 l0 (i : Int)).f3 := ⟨hi1', hl1', hi2', hl2', hi3', hl3'⟩
      have HIN := Lib.hid hin
      have hI2 := HI.out (rd_T40 l0 (i : Int)) (by
        unfold rd_T40
        rw [Int.toNat_natCast, List.getD_eq_getElem?_getD, List.getElem?_eq_getElem (by omega)]
        exact List.getElem_mem _)
      have HI2 := Lib.hid hI2
      clear gx0 gx1 gx2 gx3 hl1' hi1' hl2' hi2' hl3' hi3' hl1 hi1 hl2 hi2 hl3 hi3 hin hI2
      generalize rd_T40 l0 (i : Int) = nd at *
      obtain ⟨k, l1, l2, l3⟩ := nd
      simp only at hx0 hx1 hx2 hx3 HIN HI2
      obtain ⟨gb, hgb, hgc⟩ := great_calls8 k l1 l2 l3
      have HGB := Lib.hid hgb
      have HGC := Lib.hid hgc
      clear hgb hgc
      go_upto_region 9 with (fail)
      have hb5 : Below wo.heap.size wo (wo.alloc (.cells #[.int .i64 k, .slice B1 l1.length d1, .slice B2 l2.length d2, .slice B3 l3.length d3] 40)) := (Below.refl _ _).alloc (Nat.le_refl _) _
      have hx5 : NBox (wo.alloc (.cells #[.int .i64 k, .slice B1 l1.length d1, .slice B2 l2.length d2, .slice B3 l3.length d3] 40)) wo.heap.size k (.slice B1 l1.length d1) (.slice B2 l2.length d2) (.slice B3 l3.length d3) := heap_alloc_new wo _
      obtain ⟨n5, hn5⟩ : ∃ n, n = wo.heap.size := ⟨_, rfl⟩
      have HF5 := Lib.hid (show ∀ k, F k → k < n5 from fun k hk => by rw [hn5]; exact hH.out.lt k hk)
      have HV5 := Lib.hid (show ∀ k, vp.ownBlock = some k → k < n5 from fun k hk => by rw [hn5]; exact (hV.out.lt k hk).2)
      rw [← hn5] at hx5 ⊢
      clear hx0 hx1 hx2 hx3
      generalize wo.alloc (.cells #[.int .i64 k, .slice B1 l1.length d1, .slice B2 l2.length d2, .slice B3 l3.length d3] 40) = w5 at *
      have H5 := Lib.hid (hH.out.below hb5)
      have HO5 := Lib.hid (row_mv hV.out (Mv.of_below (S := nil) hb5) (fun _ _ h => h))
      have HX5 := Lib.hid hx5
      obtain ⟨z0, z1, z2, z3⟩ := hx5.cells
      clear hb5 hx5 hn5 hH hV
      go_wp2_with (fail)
      refine (HGC.out _ B1 d1 B2 d2 B3 d3 (HIN.out.below H5.out.bel)).mono ?_
      rintro e w6 ⟨rfl, hb6⟩
      have H6 := Lib.hid (H5.out.below hb6)
      have HO6 := Lib.hid (row_mv HO5.out (Mv.of_below (S := nil) hb6) (fun _ _ h => h))
      have HX6 := Lib.hid (HX5.out.below hb6)
      clear hb6 z0 z1 z2 z3
      cases gb with
      | true =>
        go_wp2_with (fail)
        go_ret
        exact ⟨rfl, H6.out.bel⟩
      | false =>
      have HS := Lib.hid (HGB.out rfl)
      obtain ⟨z0, z1, z2, z3⟩ := HX6.out.cells
      go_wp2_with (fail)
      refine (copy_calls8 (k := k) _ (HIN.out.below H6.out.bel) HS.out).mono ?_
      rintro e w7 ⟨u1, u2, u3, rfl, hM7, hb7⟩
      obtain ⟨D1, f1, D2, f2, D3, f3, rfl, rfl, rfl, _⟩ := hM7.reads
      have HST := Lib.hid (stays_made (F := F) (w0 := w) hM7 (hM7.away H6.out.lt))
      have H7 := Lib.hid (H6.out.below hb7)
      have HO7 := Lib.hid (row_mv HO6.out (Mv.of_below (S := nil) hb7) (fun _ _ h => h))
      have HX7 := Lib.hid (HX6.out.below hb7)
      clear hM7 hb7 z0 z1 z2 z3
      have hn2 := HS.out.n2
      have htt := HS.out.total
      go_wp2_with (fail)
      refine (has_rput H7.out k at' HT.out HST.out HS.out.fit HI2.out.1 HI2.out.2 (by omega) (by omega) (by omega)).mono ?_
      by_cases hE : putE k l1 l2 l3 at' = 0
      · rw [putR_ok hE]
        have hsz := putO_size (L := L) HS.out HI2.out.1 hE (by omega) (by omega)
        have htl := tabOf_len l2 L
        have htl2 := tabOf_total l2 L
        have HRC := Lib.hid (recs_put (n := ⟨k, l1, l2, l3⟩) hRc.out hE HI2.out.1 HS.out.n3)
        simp only at HRC
        generalize (putO k l1 l2 l3 at' L).1 = bp at *
        generalize tabOf L l2 = L8 at *
        rintro e w8 ⟨rfl, F8, h8, m8, f8⟩
        have H8 := Lib.hid h8
        have HO8 := Lib.hid (row_mv HO7.out m8 hA.out)
        have HX8 := Lib.hid (show NBox w8 n5 k (.slice B1 l1.length d1) (.slice B2 l2.length d2) (.slice B3 l3.length d3) from m8.keep HX7.out (fun h => by have := HF5.out _ h; omega))
        have HA8 := Lib.hid (show ∀ k, vp.ownBlock = some k → ¬ F8 k from fun k hk hf => by
          rcases f8 k hf with h | h
          · exact hA.out k hk h
          · have := HV5.out k hk; have := blk_lt HX7.out; omega)
        clear h8 m8 f8 HST
        have hsa : (o ++ bp).size = o.size + bp.size := ByteArray.size_append
        have hsb1 : decide (o.size + bp.size ≤ 9223372036854775807) = true := decide_eq_true (by omega)
        have hsb2 : (9223372036854775807 < o.size + bp.size) = False := eq_false (by omega)
        obtain ⟨z0, z1, z2, z3⟩ := HX8.out.cells
        obtain ⟨Ap, cp, hvp⟩ := row_slice HO8.out
        subst hvp
        go_wp2_with (first
          | (at_builtin; refine wpList_append_own_at _ rfl _ _ 25 rfl w.heap.size 40 i0 (.agg #[.int .i64 0, .slice none 0 0, .slice none 0 0, .slice none 0 0]) 4 80 Tryd.underlying25 hi0 hz0 hz1 hz2 rfl (by decide) (.slice Ap P.length cp) P.length (valsOf P) rfl (HO8.out.alloc _) ⟨w8.heap.size, 0, none⟩ 1 1 [.int .i64 k, .slice B1 l1.length d1, .slice B2 l2.length d2, .slice B3 l3.length d3] rfl rfl ?news (fun u hu => by simp at hu; rcases hu with rfl | rfl | rfl | rfl <;> rfl) (by unfold maxLen; omega) (by omega) (by have := H8.out.bel.size; simp; omega) ?_; (case news => exact cells_new _ [.int .i64 k, .slice B1 l1.length d1, .slice B2 l2.length d2, .slice B3 l3.length d3] _); intro v9 w9 ho9 hg9 _ hl9; obtain ⟨Aq, cq, rfl⟩ := row_slice ho9; have HO9 := Lib.hid ho9; have HG9 := Lib.hid hg9; have HL9 := Lib.hid hl9; clear ho9 hg9 hl9))
        have H9 := Lib.hid (H8.out.apart (mv_grow HG9.out) (fun k hk => (HO8.out.lt k hk).1) (fun k hk hs => HA8.out k hs hk))
        have HA9 := Lib.hid (show ∀ j, (Value.slice Aq (P.length + 1) cq).ownBlock = some j → ¬ F8 j from fun j hj hf => by
          rcases HL9.out with h | h
          · rw [h] at hj; exact HA8.out j hj hf
          · rw [h] at hj
            injection hj with hj
            have := H8.out.lt j hf
            simp at hj
            omega)
        go_roundg ko
        case measure => omega
        case rel => exact ⟨i + 1, o ++ bp, _, _, _, _, F8, L8, P ++ [⟨⟨k, l1, l2, l3⟩, B1, d1, B2, d2, B3, d3⟩], rfl, rfl, rfl, rfl, rfl, rfl, by omega, by omega, by omega, by omega, by rw [List.length_append, List.length_singleton]; omega, ⟨H9.out⟩, ⟨by rw [List.length_append, List.length_singleton, valsOf_snoc]; exact HO9.out⟩, ⟨HA9.out⟩, ⟨fun x hx => by
          rcases List.mem_append.1 hx with h | h
          · exact hP.out x h
          · rw [List.mem_singleton.1 h]; exact HIN.out⟩, ⟨by rw [List.map_append]; exact HRC.out⟩⟩
      · rw [putR_err hE]
        have te : (putE k l1 l2 l3 at' == 0) = false := by simpa using hE
        clear hE
        generalize putE k l1 l2 l3 at' = qe at *
        rintro e w8 ⟨rfl, F8, h8, m8, f8⟩
        have H8 := Lib.hid h8
        have HO8 := Lib.hid (row_mv HO7.out m8 hA.out)
        have HA8 := Lib.hid (show ∀ k, vp.ownBlock = some k → ¬ F8 k from fun k hk hf => by
          rcases f8 k hf with h | h
          · exact hA.out k hk h
          · have := HV5.out k hk; have := blk_lt HX7.out; omega)
        clear h8 m8 f8 HST
        go_wp2_with (fail)
        go_roundg ko
        case measure => omega
        case rel => exact ⟨i + 1, o, _, _, _, _, F8, L, P, rfl, rfl, rfl, rfl, rfl, rfl, by omega, by omega, by omega, by omega, by omega, ⟨H8.out⟩, ⟨HO8.out⟩, ⟨HA8.out⟩, ⟨hP.out⟩, ⟨hRc.out⟩⟩
    · have t4 : decide ((i : Int) < (l0.length : Int)) = false := decide_eq_false hlt
      have hL16 : L.length ≤ 100000 := by omega
      have ho16 : o.size ≤ 1000000 := by omega
      have hP16 : P.length ≤ 1000 := by omega
      obtain ⟨Ap, cp, hvp⟩ := row_slice hV.out
      subst hvp
      have HVL := Lib.hid (show ∀ k, (Value.slice Ap P.length cp).ownBlock = some k → k < wo.heap.size from fun k hk => (hV.out.lt k hk).2)
      go_wp2_with (fail)
      refine (Cur.new_calls o _).mono ?_
      rintro e w3 ⟨rfl, hC3, hb3⟩
      have HC3 := Lib.hid hC3
      have H3 := Lib.hid (hH.out.below hb3)
      have HO3 := Lib.hid (row_mv hV.out (Mv.of_below (S := nil) hb3) (fun _ _ h => h))
      have HGN := Lib.hid (show ¬ F wo.heap.size from fun h => absurd (hH.out.lt _ h) (Nat.lt_irrefl _))
      have HG0 := Lib.hid (show w.heap.size ≤ wo.heap.size from hH.out.bel.size)
      clear hC3 hb3 hH hV
      generalize wo.heap.size = g at *
      go_wp2_with (fail)
      go_loopg [16, 17, 75] P.length (fun kq v16 v17 v75 wr => ∃ (i : Nat) (x y : Value) (pre B : List Nat), v16 = x ∧ v17 = y ∧ v75 = .int .i64 (i : Int) ∧ i + kq = P.length ∧ Aside0 (Has w wr F p L) ∧ Aside0 (wr.ownsRow w.heap.size 40 4 (.slice Ap P.length cp) P.length (valsOf P)) ∧ Aside0 (Cur.IsC wr g ⟨o, pre.length, 0⟩) ∧ Aside0 (pre.length ≤ o.size) ∧ Aside0 (recs at' L ((P.drop i).map Nv.n) B) ∧ Aside0 (Cur.bl o = pre ++ B))
      case atStart => exact ⟨0, _, _, [], Cur.bl o, rfl, rfl, rfl, by omega, ⟨H3.out⟩, ⟨HO3.out⟩, ⟨HC3.out⟩, ⟨Nat.zero_le _⟩, ⟨hRc.out⟩, ⟨rfl⟩⟩
      case round =>
        clear H3 HO3 HC3 hRc hik hlt ho1 hL1 hL2 hP1
        obtain ⟨j, x, y, pre, B, rfl, rfl, rfl, hik, hH, hV, hC, hle, hRs, hB⟩ := hrel
        obtain ⟨wo, hwo⟩ : ∃ z, z = wr := ⟨_, rfl⟩
        subst hwo
        by_cases hlt : (j : Int) < (P.length : Int)
        · have t5 : decide ((j : Int) < (P.length : Int)) = true := decide_eq_true hlt
          obtain ⟨ko, rfl⟩ : ∃ g, gk = g + 1 := ⟨gk - 1, by omega⟩
          obtain ⟨nv, hnv⟩ : ∃ nv, P[j]? = some nv := ⟨P[j], List.getElem?_eq_getElem (by omega)⟩
          have hdr : P.drop j = nv :: P.drop (j + 1) := by
            rw [List.drop_eq_getElem_cons (by omega)]
            rw [List.getElem?_eq_getElem (by omega)] at hnv
            injection hnv with hnv
            rw [hnv]
          have hgd := hP.out nv (List.mem_of_mem_drop (show nv ∈ P.drop j by rw [hdr]; exact List.mem_cons_self))
          have hrs := hRs.out
          rw [hdr, List.map_cons] at hrs
          obtain ⟨pre', B', hB', hget, hrs'⟩ := recs_get (b := o) (by omega) (by omega) hrs hB.out
          have HB' := Lib.hid hB'
          have HGET := Lib.hid hget
          have HRS' := Lib.hid hrs'
          have hsm := recs_sm hrs
          have hle' : pre'.length ≤ o.size := by rw [← Cur.bl_length, hB', List.length_append]; omega
          obtain ⟨gp, cap, hv, _, _⟩ := hV.out.form (by omega)
          have hv0 := hv
          cases hv
          have hvg : ∀ q u, q < 4 → nv.vals[q]? = some u → wo.cell? ⟨gp, j * 4 + q, none⟩ = some u := fun q u hq hu => by
            rw [hV.out.cellAt (j * 4 + q) (by omega), valsOf_get P j q nv hnv hq]
            exact hu
          obtain ⟨⟨k, l1, l2, l3⟩, B1, d1, B2, d2, B3, d3⟩ := nv
          simp only at hsm
          obtain ⟨hs1, hs2, hs3⟩ := hsm
          have HIN := Lib.hid (show In w B1 d1 l1 B2 d2 l2 B3 d3 l3 from hgd)
          obtain ⟨ad, had⟩ : ∃ ad, ad = (⟨gp, 0, none⟩ : Addr) := ⟨_, rfl⟩
          have hx0 : wo.cell? (ad.add (j * 4)) = some (.int .i64 k) := by rw [had, add_zero_addr]; exact hvg 0 _ (by omega) rfl
          have hx1 : wo.cell? ⟨(ad.add (j * 4)).block, (ad.add (j * 4)).off + 1, none⟩ = some (.slice B1 l1.length d1) := by rw [had, add_zero_addr]; exact hvg 1 _ (by omega) rfl
          have hx2 : wo.cell? ⟨(ad.add (j * 4)).block, (ad.add (j * 4)).off + 2, none⟩ = some (.slice B2 l2.length d2) := by rw [had, add_zero_addr]; exact hvg 2 _ (by omega) rfl
          have hx3 : wo.cell? ⟨(ad.add (j * 4)).block, (ad.add (j * 4)).off + 3, none⟩ = some (.slice B3 l3.length d3) := by rw [had, add_zero_addr]; exact hvg 3 _ (by omega) rfl
          have HAD := Lib.hid had
          rw [← had] at hV ⊢
          clear hvg hgd hrs hB' hget hrs' hdr hnv hv0 had hRs
          go_upto_region 22 with (fail)
          have hb5 : Below wo.heap.size wo (wo.alloc (.cells #[.int .i64 k, .slice B1 l1.length d1, .slice B2 l2.length d2, .slice B3 l3.length d3] 40)) := (Below.refl _ _).alloc (Nat.le_refl _) _
          have hx5 : NBox (wo.alloc (.cells #[.int .i64 k, .slice B1 l1.length d1, .slice B2 l2.length d2, .slice B3 l3.length d3] 40)) wo.heap.size k (.slice B1 l1.length d1) (.slice B2 l2.length d2) (.slice B3 l3.length d3) := heap_alloc_new wo _
          obtain ⟨n5, hn5⟩ : ∃ n, n = wo.heap.size := ⟨_, rfl⟩
          have hgn : g < n5 := by rw [hn5]; exact hC.out.lt
          rw [← hn5] at hx5 ⊢
          clear hx0 hx1 hx2 hx3
          generalize wo.alloc (.cells #[.int .i64 k, .slice B1 l1.length d1, .slice B2 l2.length d2, .slice B3 l3.length d3] 40) = w5 at *
          have H5 := Lib.hid (hH.out.below hb5)
          have HO5 := Lib.hid (row_mv hV.out (Mv.of_below (S := nil) hb5) (fun _ _ h => h))
          have HC5 := Lib.hid (hC.out.below hb5)
          have HX5 := Lib.hid hx5
          have hok5 : Cur.Cur.ok ⟨o, pre.length, 0⟩ := ⟨hle.out, by show o.size ≤ _; omega⟩
          clear hb5 hx5 hn5 hH hV hC
          go_wp2_with (fail)
          refine (has_rget H5.out at' 1000 HC5.out hok5 HGN.out HG0.out (by omega) (by omega)).mono ?_
          rw [HGET.out]
          rintro e w6 ⟨v1, v2, v3, rfl, hC6, hok6, hM6, m6, h6⟩
          obtain ⟨D1, e1, D2, e2, D3, e3, rfl, rfl, rfl, hI6⟩ := hM6.reads
          have HI6 := Lib.hid hI6
          have H6 := Lib.hid h6
          have HC6 := Lib.hid (show Cur.IsC w6 g ⟨o, pre'.length, 0⟩ from hC6)
          have HX6 := Lib.hid (show NBox w6 n5 k (.slice B1 l1.length d1) (.slice B2 l2.length d2) (.slice B3 l3.length d3) from m6.keep HX5.out (fun e => by have e2 : n5 = g := e; omega))
          have HO6 := Lib.hid (row_mv HO5.out m6 (fun q hq e => by
            have e2 : q = g := e
            subst e2
            exact ownBlock_ne4 HO5.out HC5.out (by decide) hq))
          clear hM6 m6 h6 hI6 hC6 hok6
          go_upto_region 23 with (fail)
          have hb7 : Below w6.heap.size w6 (w6.alloc (.cells #[.int .i64 k, .slice D1 l1.length e1, .slice D2 l2.length e2, .slice D3 l3.length e3] 40)) := (Below.refl _ _).alloc (Nat.le_refl _) _
          have hx7 : NBox (w6.alloc (.cells #[.int .i64 k, .slice D1 l1.length e1, .slice D2 l2.length e2, .slice D3 l3.length e3] 40)) w6.heap.size k (.slice D1 l1.length e1) (.slice D2 l2.length e2) (.slice D3 l3.length e3) := heap_alloc_new w6 _
          obtain ⟨n7, hn7⟩ : ∃ n, n = w6.heap.size := ⟨_, rfl⟩
          rw [← hn7] at hx7 ⊢
          generalize w6.alloc (.cells #[.int .i64 k, .slice D1 l1.length e1, .slice D2 l2.length e2, .slice D3 l3.length e3] 40) = w7 at *
          have H7 := Lib.hid (H6.out.below hb7)
          have HO7 := Lib.hid (row_mv HO6.out (Mv.of_below (S := nil) hb7) (fun _ _ h => h))
          have HC7 := Lib.hid (HC6.out.below hb7)
          have HI7 := Lib.hid (HI6.out.below hb7)
          obtain ⟨z0, z1, z2, z3⟩ := hx7.cells
          obtain ⟨y0, y1, y2, y3⟩ := (HX6.out.below hb7).cells
          clear hb7 hx7 hn7
          go_wp2_with (fail)
          refine (same_calls8 (k := k) _ HI7.out (HIN.out.below H7.out.bel) (by omega) (by omega) (by omega)).mono ?_
          rintro e w8 ⟨rfl, hb8⟩
          have H8 := Lib.hid (H7.out.below hb8)
          have HO8 := Lib.hid (row_mv HO7.out (Mv.of_below (S := nil) hb8) (fun _ _ h => h))
          have HC8 := Lib.hid (HC7.out.below hb8)
          clear hb8
          go_wp2_with (fail)
          have had := HAD.out
          subst had
          go_roundg ko
          case measure => omega
          case rel => exact ⟨j + 1, _, _, pre', B', rfl, rfl, rfl, by omega, ⟨H8.out⟩, ⟨HO8.out⟩, ⟨HC8.out⟩, ⟨hle'⟩, ⟨HRS'.out⟩, ⟨HB'.out⟩⟩
        · have t5 : decide ((j : Int) < (P.length : Int)) = false := decide_eq_false hlt
          have hrs := hRs.out
          rw [List.drop_of_length_le (by omega)] at hrs
          have hB0 : B = [] := hrs
          have hpl : pre.length = o.size := by have := congrArg List.length hB.out; rw [hB0, List.append_nil, Cur.bl_length] at this; exact this.symm
          have hok5 : Cur.Cur.ok ⟨o, pre.length, 0⟩ := ⟨hle.out, by show o.size ≤ _; omega⟩
          have hlf : Cur.Cur.left ⟨o, pre.length, 0⟩ = 0 := by unfold Cur.Cur.left; simp only; omega
          clear hrs hB0 hpl
          go_wp2_with (fail)
          refine (Cur.left_calls g _ _ hC.out hok5).mono ?_
          rw [hlf]
          rintro e w8 ⟨rfl, hd8⟩
          have HC8 := Lib.hid (hC.out.drawn hd8)
          have H8 := Lib.hid (hH.out.drawn hd8)
          clear hd8
          go_wp2_with (fail)
          refine (Cur.err_calls g _ _ HC8.out).mono ?_
          rintro e w9 ⟨rfl, hw9⟩
          subst hw9
          go_wp2_with (fail)
          go_ret
          exact ⟨rfl, H8.out.bel⟩
end
end Go.Proofs.YtoigkneoaemcfaaDoor.Rec
