/- RecordOne: a record that is got is put as it was. -/
import Derived.Test.YtoigkneoaemcfaaDoorRxRcGets
namespace Go.Proofs.YtoigkneoaemcfaaDoor.Rec
open Go.RowKit Go.Lib Go.Proofs.YtoigkneoaemcfaaDoorW.PrintWords Go.Proofs.YtoigkneoaemcfaaDoorW.PrintLast Go.Proofs.YtoigkneoaemcfaaDoorW.PrintMore Go.Proofs.YtoigkneoaemcfaaDoor.B Go.Proofs.YtoigkneoaemcfaaDoor.Bd Go.Proofs.YtoigkneoaemcfaaDoor.Tab Go.Proofs.YtoigkneoaemcfaaDoor.GR
set_option linter.unusedVariables false
set_option linter.unusedSimpArgs false
theorem right8 (s : ByteArray) (w : World) (hs : s.size ≤ 1000000) :
    Calls Tryd.prog 28 #[.string s] w fun e w' => e = .returned (.bool (!badT s)) ∧ Below w.heap.size w w' :=
  dioramaref05_Right.calls _ s _ w (U.right_f s hs (s.size + 43) (Nat.le_refl _))
theorem putR_zero {k : Int} {l1 : List Int} {l2 : List ByteArray} {l3 : List Int} {at' : Int} {L : List ByteArray} (h : (putR k l1 l2 l3 at' L).2.2 = 0) : putE k l1 l2 l3 at' = 0 := by
  by_cases hE : putE k l1 l2 l3 at' = 0
  · exact hE
  · rw [putR_err hE] at h; exact absurd h hE
theorem kids_I64 {at' : Int} {l : List Int} (h : kidsE at' l = false) (hat : at' ≤ 9223372036854775807) : I64 l := fun x hx => by
  unfold kidsE at h
  rw [List.any_eq_false] at h
  have := h x hx
  simp only [decide_eq_true_eq] at this
  omega
section
variable (b : ByteArray) (at' : Int) (A0 : Option Addr) (c0 : Nat) (l0 : List ByteArray) (w : World)
set_option maxHeartbeats 4000000 in
set_option maxRecDepth 100000 in
theorem one_great (ht : ∀ w', Below w.heap.size w w' → Lib.Utf8Tabs 0 1 w') (hr : Kd.C Kd.string w A0 l0.length l0) (hc : l0.length ≤ c0) (hg : ¬ Tame l0) :
    Calls Tryd.prog 8 #[.string b, .int .i64 at', .slice A0 l0.length c0] w fun e w' => e = .returned (.bool true) ∧ Below w.heap.size w w' := by
  have HT := Lib.hid ht
  have HR := Lib.hid hr
  have HG := Lib.hid hg
  clear ht hr hg
  go_enter Tryd.func8, Tryd.ntmps8
  go_wp2_with (fail)
  refine (table_great A0 c0 l0 _ HR.out hc HG.out).mono ?_
  rintro e w2 ⟨rfl, hb2⟩
  have HB2 := Lib.hid hb2
  clear hb2
  go_wp2_with (fail)
  refine (Cur.new_calls b _).mono ?_
  rintro e w7 ⟨rfl, _, hb7⟩
  have HB7 := Lib.hid (below_step HB2.out hb7)
  clear hb7
  go_wp2_with (fail)
  refine (awake_calls _ (fun w' hb => HT.out w' (below_step HB7.out hb))).mono ?_
  rintro e w3 ⟨rfl, hb3⟩
  have HB3 := Lib.hid (below_step HB7.out hb3)
  clear hb3
  go_wp2_with (fail)
  refine (awake_calls _ (fun w' hb => HT.out w' (below_step HB3.out hb))).mono ?_
  rintro e w4 ⟨rfl, hb4⟩
  have HB4 := Lib.hid (below_step HB3.out hb4)
  clear hb4
  go_wp2_with (fail)
  go_ret
  exact ⟨rfl, HB4.out⟩
set_option maxHeartbeats 8000000 in
set_option maxRecDepth 100000 in
theorem one_tame (ht : ∀ w', Below w.heap.size w w' → Lib.Utf8Tabs 0 1 w') (hr : Kd.C Kd.string w A0 l0.length l0) (hc : l0.length ≤ c0) (hg : Tame l0) (hat : -9223372036854775808 ≤ at' ∧ at' ≤ 9223372036854775807) (hbs : b.size ≤ 140737488355328) :
    Calls Tryd.prog 8 #[.string b, .int .i64 at', .slice A0 l0.length c0] w fun e w' => e = .returned (.bool true) ∧ Below w.heap.size w w' := by
  have HT := Lib.hid ht
  have HR := Lib.hid hr
  have HG := Lib.hid hg
  have HAT := Lib.hid hat
  clear ht hr hg hat
  go_enter Tryd.func8, Tryd.ntmps8
  go_wp2_with (fail)
  refine (table_tame A0 c0 l0 _ HR.out hc HG.out).mono ?_
  rintro e w2 ⟨p, F, v, rfl, h2, hX2⟩
  have hbd := tab_tame HG.out 0 (tabOf [] l0) (tab_self l0)
  have HND := Lib.hid (tabOf_nodup l0 [] List.nodup_nil)
  have hmem : ∀ s ∈ tabOf [] l0, s.size ≤ 500 := by
    have : ∀ (l L : List ByteArray), ∀ s ∈ tabOf L l, s ∈ L ∨ s ∈ l := by
      intro l
      induction l with
      | nil => intro L s h; exact .inl h
      | cons x l ih =>
        intro L s h
        rcases ih _ s h with h1 | h1
        · unfold intern at h1
          split at h1
          · exact .inl h1
          · rcases List.mem_append.1 h1 with h2 | h2
            · exact .inl h2
            · exact .inr (by rw [List.mem_singleton.1 h2]; exact List.mem_cons_self)
        · exact .inr (List.mem_cons_of_mem _ h1)
    intro s hs
    rcases this l0 [] s hs with h | h
    · cases h
    · exact HG.out.2 s h
  have HME := Lib.hid hmem
  have H2 := Lib.hid h2
  have HV2 := Lib.hid hX2
  clear h2 hX2 hmem
  generalize tabOf [] l0 = L at *
  go_wp2_with (fail)
  refine (Cur.new_calls b _).mono ?_
  rintro e w3 ⟨rfl, hC3, hb3⟩
  have HC3 := Lib.hid hC3
  have H3 := Lib.hid (H2.out.below hb3)
  have HV3 := Lib.hid (HV2.out.below hb3)
  have HGN := Lib.hid (show ¬ F w2.heap.size from fun h => absurd (H2.out.lt _ h) (Nat.lt_irrefl _))
  have HG0 := Lib.hid (show w.heap.size ≤ w2.heap.size from H2.out.bel.size)
  clear hC3 hb3
  generalize w2.heap.size = g at *
  go_wp2_with (fail)
  refine (awake_calls _ (fun w' hb => HT.out w' (below_step H3.out.bel hb))).mono ?_
  rintro e w4 ⟨rfl, hb4⟩
  have HC4 := Lib.hid (HC3.out.below hb4)
  have H4 := Lib.hid (H3.out.below hb4)
  have HV4 := Lib.hid (HV3.out.below hb4)
  clear hb4
  by_cases hm : (b.size : Int) > 1000
  · have d1 : decide ((b.size : Int) > 1000) = true := decide_eq_true hm
    go_wp2_with (fail)
    refine (awake_calls _ (fun w' hb => HT.out w' (below_step H4.out.bel hb))).mono ?_
    rintro e w5 ⟨rfl, hb5⟩
    have HB5 := Lib.hid (below_step H4.out.bel hb5)
    clear hb5
    go_wp2_with (fail)
    go_ret
    exact ⟨rfl, HB5.out⟩
  have d1 : decide ((b.size : Int) > 1000) = false := decide_eq_false hm
  obtain ⟨Av, cv, hv, hcv, _⟩ := HV4.out.reads
  subst hv
  go_wp2_with (fail)
  go_loopg [12, 42] L.length (fun kq v12 v42 wr => ∃ (i : Nat) (x : Value), v12 = x ∧ v42 = .int .i64 (i : Int) ∧ i + kq = L.length ∧ Aside0 (∀ s ∈ L.take i, badT s = false) ∧ Aside0 (Has w wr F p L) ∧ Aside0 (Texts w wr F (.slice Av L.length cv) L) ∧ Aside0 (Cur.IsC wr g (Cur.new b)))
  case atStart => exact ⟨0, _, rfl, rfl, by omega, ⟨fun s hs => by simp at hs⟩, ⟨H4.out⟩, ⟨HV4.out⟩, ⟨HC4.out⟩⟩
  case round =>
    clear H4 HV4 HC4 H3 HV3 HC3
    obtain ⟨i, x, rfl, rfl, hik, hGd, hH, hV, hC⟩ := hrel
    obtain ⟨wo, hwo⟩ : ∃ z, z = wr := ⟨_, rfl⟩
    subst hwo
    obtain ⟨Av', cv', hv', _, hCv⟩ := hV.out.reads
    cases hv'
    have HCV := Lib.hid hCv
    clear hCv
    by_cases hlt : (i : Int) < (L.length : Int)
    · have t4 : decide ((i : Int) < (L.length : Int)) = true := decide_eq_true hlt
      obtain ⟨ko, rfl⟩ : ∃ g, gk = g + 1 := ⟨gk - 1, by omega⟩
      obtain ⟨ad, e, u1⟩ := Kd.at_string HCV.out (i : Int) (by omega) hlt
      subst e
      rw [Int.toNat_natCast] at u1
      have hdr := txt_at (l := L) (i := i) (by omega)
      have hsz := HME.out (rdOf ByteArray.empty L (i : Int)) (List.mem_of_mem_drop (show _ ∈ L.drop i by rw [hdr]; exact List.mem_cons_self))
      have HGT := Lib.hid (show L.take (i + 1) = L.take i ++ [rdOf ByteArray.empty L (i : Int)] by
        have h1 : L.drop i = L[i] :: L.drop (i + 1) := List.drop_eq_getElem_cons (by omega)
        rw [h1] at hdr
        injection hdr with h2 _
        rw [List.take_succ_eq_append_getElem (by omega), h2])
      clear hdr
      generalize rdOf ByteArray.empty L (i : Int) = s at *
      go_wp2_with (fail)
      refine (right8 s _ (by omega)).mono ?_
      rintro e w5 ⟨rfl, hb5⟩
      have H5 := Lib.hid (hH.out.below hb5)
      have HV5 := Lib.hid (hV.out.below hb5)
      have HC5 := Lib.hid (hC.out.below hb5)
      clear hb5 u1
      by_cases hbs2 : badT s = true
      · have t7 : (!badT s) = false := by rw [hbs2]; rfl
        rw [t7]
        go_wp2_with (fail)
        go_ret
        exact ⟨rfl, H5.out.bel⟩
      · have t7 : (!badT s) = true := by simpa using hbs2
        rw [t7]
        have HBS := Lib.hid (show badT s = false by simpa using hbs2)
        clear hbs2
        go_wp2_with (fail)
        go_roundg ko
        case measure => omega
        case rel => exact ⟨i + 1, _, rfl, rfl, by omega, ⟨fun y hy => by rw [HGT.out] at hy; rcases List.mem_append.1 hy with h | h; exact hGd.out y h; rw [List.mem_singleton.1 h]; exact HBS.out⟩, ⟨H5.out⟩, ⟨HV5.out⟩, ⟨HC5.out⟩⟩
    · have t4 : decide ((i : Int) < (L.length : Int)) = false := decide_eq_false hlt
      have hgood : ∀ s ∈ L, badT s = false := by have := hGd.out; rwa [List.take_of_length_le (by omega)] at this
      have HGOOD := Lib.hid hgood
      have hlen := getR_len (at' := at') (edges := 1000) (L := L) (c := Cur.new b) (Nat.zero_le _)
      have hRb : (getR at' 1000 L (Cur.new b)).1.b = b := getR_b at' 1000 L (Cur.new b)
      have hFw := Lib.hid hH.out.lt
      clear hgood hGd
      go_wp2_with (fail)
      refine (has_rget hH.out at' 1000 hC.out (Cur.new_ok (by omega)) HGN.out HG0.out (by omega) HAT.out).mono ?_
      obtain ⟨⟨cF, k, l1, l2, l3⟩, hR⟩ : ∃ x, x = getR at' 1000 L (Cur.new b) := ⟨_, rfl⟩
      rw [← hR] at hlen hRb ⊢
      have HRR := Lib.hid hR
      simp only at hlen hRb
      obtain ⟨hn1, hn2, hn3⟩ := hlen
      rintro e w6 ⟨v1, v2, v3, rfl, hC6, hok6, hM6, m6, h6⟩
      obtain ⟨D1, e1, D2, e2, D3, e3, rfl, rfl, rfl, hI6⟩ := hM6.reads
      have hok6' : cF.ok := hok6
      have HC6 := Lib.hid (show Cur.IsC w6 g cF from hC6)
      have H6 := Lib.hid h6
      have HAW := Lib.hid (hM6.away hFw.out)
      have HM6 := Lib.hid hM6
      have HV6 := Lib.hid (show Texts w w6 F (.slice Av L.length cv) L from ⟨row_mv hV.out.1 m6 (fun j hj e => by
        have e2 : j = g := e
        subst e2
        exact Lib.ownBlock_ne hV.out.1 hC.out (by decide) hj), hV.out.2⟩)
      clear hC6 hM6 m6 h6 hI6 hR hH hV hC HCV
      go_upto_region 12 with (fail)
      have hb7 : Below w6.heap.size w6 (w6.alloc (.cells #[.int .i64 k, .slice D1 l1.length e1, .slice D2 l2.length e2, .slice D3 l3.length e3] 40)) := (Below.refl _ _).alloc (Nat.le_refl _) _
      have hx7 : NBox (w6.alloc (.cells #[.int .i64 k, .slice D1 l1.length e1, .slice D2 l2.length e2, .slice D3 l3.length e3] 40)) w6.heap.size k (.slice D1 l1.length e1) (.slice D2 l2.length e2) (.slice D3 l3.length e3) := heap_alloc_new w6 _
      obtain ⟨n7, hn7⟩ : ∃ n, n = w6.heap.size := ⟨_, rfl⟩
      rw [← hn7] at hx7 ⊢
      generalize w6.alloc (.cells #[.int .i64 k, .slice D1 l1.length e1, .slice D2 l2.length e2, .slice D3 l3.length e3] 40) = w7 at *
      have HC7 := Lib.hid (HC6.out.below hb7)
      have H7 := Lib.hid (H6.out.below hb7)
      have HV7 := Lib.hid (HV6.out.below hb7)
      have HM7 := Lib.hid (HM6.out.below hb7)
      obtain ⟨z0, z1, z2, z3⟩ := hx7.cells
      clear hb7 hx7 hn7
      go_wp2_with (fail)
      refine (Cur.err_calls g cF _ HC7.out).mono ?_
      rintro e w8 ⟨rfl, hw8⟩
      subst hw8
      by_cases hE : cF.e = 0
      · have te : (cF.e != 0) = false := by simpa using hE
        obtain ⟨hp, hpb, hp0, hp1, hpi, _, _, hp3, _, hpm⟩ := put_back HND.out HGOOD.out HRR.out.symm hE
        have hPE := putR_zero (by rw [hp])
        have HI3 := Lib.hid (kids_I64 (putE_zero.1 hPE).2 HAT.out.2)
        have HIp := Lib.hid hpi
        have HFit := Lib.hid (show Fit l1 l2 l3 from ⟨by omega, by omega, by omega, fun s hs => by have := HME.out s (hpm s hs); omega⟩)
        have HP := Lib.hid hp
        clear hp hpi hpm hPE
        go_wp2_with (fail)
        refine (has_rput H7.out k at' HT.out (stays_made HM7.out HAW.out) HFit.out HIp.out HI3.out HAT.out (by omega) (by omega)).mono ?_
        rw [HP.out]
        rintro e w9 ⟨rfl, F9, h9, m9, f9⟩
        have H9 := Lib.hid h9
        have HV9 := Lib.hid (HV7.out.interned m9 f9)
        have HC9 := Lib.hid (HC7.out.mv m9 HGN.out)
        clear h9 m9 f9 z0 z1 z2 z3
        have hleft : Cur.Cur.left cF = (b.size : Int) - (cF.at' : Int) := by unfold Cur.Cur.left; rw [hRb]
        go_wp2_with (fail)
        refine (Cur.left_calls g cF _ HC9.out hok6').mono ?_
        obtain ⟨lf, hlf⟩ : ∃ lf, lf = Cur.Cur.left cF := ⟨_, rfl⟩
        rw [← hlf]
        rw [hleft] at hlf
        rintro e w10 ⟨rfl, hd10⟩
        have H10 := Lib.hid (H9.out.drawn hd10)
        have HV10 := Lib.hid (HV9.out.below hd10.below)
        have HC10 := Lib.hid (HC9.out.drawn hd10)
        have g1 : decide (lf ≥ 0) = true := decide_eq_true (by omega)
        have g2 : decide (lf ≤ (b.size : Int)) = true := decide_eq_true (by omega)
        clear hd10
        go_wp2_with (fail)
        refine (Cur.left_calls g cF _ HC10.out hok6').mono ?_
        rw [hleft, ← hlf]
        rintro e w11 ⟨rfl, hd11⟩
        have H11 := Lib.hid (H10.out.drawn hd11)
        have HV11 := Lib.hid (HV10.out.below hd11.below)
        have HC11 := Lib.hid (HC10.out.drawn hd11)
        clear hd11
        go_wp2_with (fail)
        refine (Cur.left_calls g cF _ HC11.out hok6').mono ?_
        rw [hleft, ← hlf]
        rintro e w12 ⟨rfl, hd12⟩
        have H12 := Lib.hid (H11.out.drawn hd12)
        have HV12 := Lib.hid (HV11.out.below hd12.below)
        clear hd12
        have hsub : IntKind.i64.wrap ((b.size : Int) - lf) = (cF.at' : Int) := by rw [IntKind.wrap_i64]; omega
        have hcut : ∀ W : World, (Instr.slice 9 (.string b) none (some (.int .i64 (cF.at' : Int))) none).run Tryd.prog W = .ok (.string (b.extract 0 cF.at')) W := fun W => by
          have := run_slice_string_h (P := Tryd.prog) W 9 b rfl .i64 (cF.at' : Int) (by omega) (by omega); rwa [Int.toNat_natCast] at this
        have tb : (b.extract 0 cF.at' == b.extract 0 cF.at') = true := by simp
        obtain ⟨Av2, cv2, hv2, hcv2, hCv2⟩ := HV12.out.reads
        cases hv2
        have HCV2 := Lib.hid hCv2
        clear hCv2 hleft hlf
        generalize b.extract 0 cF.at' = bx at *
        go_wp2_with (fail)
        refine (texts_calls Av cv L _ H12.out HCV2.out hcv (by omega)).mono ?_
        rintro e w13 ⟨rfl, hw13⟩
        subst hw13
        go_wp2_with (fail)
        go_ret
        exact ⟨rfl, H12.out.bel⟩
      · have te : (cF.e != 0) = true := bne_iff_ne.mpr hE
        clear hE
        go_wp2_with (fail)
        go_ret
        exact ⟨rfl, H7.out.bel⟩
end
theorem one_all (b : ByteArray) (at' : Int) (A0 : Option Addr) (c0 : Nat) (l0 : List ByteArray) (w : World) (ht : ∀ w', Below w.heap.size w w' → Lib.Utf8Tabs 0 1 w') (hr : Kd.C Kd.string w A0 l0.length l0) (hc : l0.length ≤ c0) (hat : -9223372036854775808 ≤ at' ∧ at' ≤ 9223372036854775807) (hbs : b.size ≤ 140737488355328) :
    Calls Tryd.prog 8 #[.string b, .int .i64 at', .slice A0 l0.length c0] w fun e w' => e = .returned (.bool true) ∧ Below w.heap.size w w' := by
  by_cases h : Tame l0
  · exact one_tame b at' A0 c0 l0 w ht hr hc h hat hbs
  · exact one_great b at' A0 c0 l0 w ht hr hc h
end Go.Proofs.YtoigkneoaemcfaaDoor.Rec
