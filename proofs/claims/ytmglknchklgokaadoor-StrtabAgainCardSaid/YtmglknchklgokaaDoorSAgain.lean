/- StrtabAgain: interned again, in any order, texts have the numbers that they had. -/
import Derived.Test.YtmglknchklgokaaDoorSGets
import Derived.Test.YtmglknchklgokaaDoorSPuts
import Derived.Deep.LoopGhost
import Derived.IntWalk
namespace Go.Proofs.YtmglknchklgokaaDoor.MapS
open Go.Lib Go.Maps
/-- 'm[s]': the place; 0 if it isn't there. -/
theorem IsIdx.look1 {w : World} {b n : Nat} {l : List ByteArray} (h : IsIdx w b n l) {s : ByteArray} (hs : s.size ≤ maxLen) : (Instr.lookup 70 (.map (some b)) (.string s) false).run Tryd.prog w = .ok (.int .i64 (at0 l s : Int)) w := by
  obtain ⟨D, h, h1, h2, h3⟩ := h
  obtain ⟨v, ps, hrun, hv⟩ := h.lookup law Tryd.underlying70 (zeroI w) (plainElem_int Tryd.underlying3 (q := .i64) (a := 0) (by decide)) (key_of hs)
  obtain ⟨c, rfl, hc, _⟩ := plainElem_int_inv Tryd.underlying3 hv
  simp only [Prod.mk.injEq] at hc
  rw [hrun]
  have e : c = (at0 l s : Int) := by
    unfold at0
    by_cases hm : s ∈ l
    · rw [if_pos hm]
      exact (Lit.int.inj (DataW.lit.inj (hc.1.symm.trans (h2 s hm)))).2
    · rw [if_neg hm]
      have h5 := atKey_of_not_has (D := D) (k := .string s.data.toList) (by rw [h1]; exact decide_eq_false hm) (.lit (.int .i64 0))
      exact (Lit.int.inj (DataW.lit.inj (hc.1.symm.trans h5))).2
  rw [e]
theorem wpList_idx1 {ops : Array Oper} {rest : List Oper} {o : Oper} {a : Act} {Q : Exit → Act → World → Prop} (w : World)
    (hg : o.guard = none) (m x : Operand) (hop : o.op = Op.lookup 70 m x false) (b n : Nat) (l : List ByteArray) (hown : IsIdx w b n l) (s : ByteArray) (hs : s.size ≤ maxLen)
    (hm : a.eval m = .map (some b)) (hx : a.eval x = .string s) (hK : wpList Tryd.prog ops Q rest (a.put o.dst (.int .i64 (at0 l s : Int))) w) :
    wpList Tryd.prog ops Q (o :: rest) a w := by
  refine wpList_plain hg fun K' hK' => ?_
  unfold Oper.wp
  simp [execOp, hop, hm, hx, hown.look1 hs, Result.andThen]
  exact hK' _ _ hK
end Go.Proofs.YtmglknchklgokaaDoor.MapS
namespace Go.Proofs.YtmglknchklgokaaDoor.Tab
open Go.RowKit Go.Lib Go.Proofs.YtmglknchklgokaaDoorW.PrintWords Go.Proofs.YtmglknchklgokaaDoorW.PrintLast Go.Proofs.YtmglknchklgokaaDoorW.PrintMore Go.Proofs.YtmglknchklgokaaDoor.B Go.Proofs.YtmglknchklgokaaDoor.Bd Go.Proofs.YtmglknchklgokaaDoor.GS
set_option linter.unusedVariables false
set_option linter.unusedSimpArgs false
theorem intern_idx (L : List ByteArray) (s : ByteArray) : ((intern L s).1.idxOf s) = (intern L s).2 := by
  unfold intern
  split
  · rfl
  · rename_i h
    simp only
    rw [List.idxOf_append, if_neg h]
    simp
set_option maxHeartbeats 4000000 in
set_option maxRecDepth 100000 in
/-- Interning a text that is there turns nothing. -/
theorem intern_there (F : Nat → Prop) (p : Nat) (l : List ByteArray) (s : ByteArray) (w : World) (h : IsTab w F p l) (hs : s.size ≤ 1000000000) (hm : s ∈ l) :
    Calls Tryd.prog 30 #[.pointer (some ⟨p, 0, none⟩), .string s] w fun e w' => e = .returned (.int .i64 ((l.idxOf s : Nat) : Int)) ∧ w = w' := by
  obtain ⟨b, v, hp, ho, hi, hF⟩ := h
  have c1 : w.cell? ⟨p, 1, none⟩ = some (.map (some b)) := (blk_cell hp 1).trans rfl
  have hsm : s.size ≤ maxLen := by unfold maxLen; omega
  have t0 : decide (s ∈ l) = true := decide_eq_true hm
  have he : (MapS.at0 l s : Int) = ((l.idxOf s : Nat) : Int) := by unfold MapS.at0; rw [if_pos hm]
  have HE := Lib.hid he
  have HI := Lib.hid hi
  clear hp ho hF he hi
  go_enter Tryd.func30, Tryd.ntmps30
  go_wp2_with (at_lookup; refine MapS.wpList_idx _ rfl _ _ rfl b _ l HI.out s hsm rfl rfl ?_; rw [t0])
  go_ret
  exact ⟨by rw [HE.out]; rfl, rfl⟩
/-- Each text is there, behind all. -/
theorem all_in (l : List ByteArray) : ∀ s ∈ l, s ∈ inAll l := by
  have h0 : ∀ (l L : List ByteArray), ∀ s ∈ L, s ∈ l.foldl (fun L s => (intern L s).1) L := by
    intro l
    induction l with
    | nil => intro L s h; exact h
    | cons x l ih =>
      intro L s h
      refine ih _ s ?_
      show s ∈ (intern L x).1
      unfold intern
      split
      · exact h
      · exact List.mem_append_left _ h
  have : ∀ (l L : List ByteArray), ∀ s ∈ l, s ∈ l.foldl (fun L s => (intern L s).1) L := by
    intro l
    induction l with
    | nil => intro L s h; cases h
    | cons x l ih =>
      intro L s h
      rcases List.mem_cons.1 h with rfl | h1
      · refine h0 l _ s ?_
        show s ∈ (intern L s).1
        unfold intern
        split
        · assumption
        · exact List.mem_append_right _ (List.mem_singleton.2 rfl)
      · exact ih _ s h1
  exact this l []
section
variable (A0 : Option Addr) (c0 : Nat) (l0 : List ByteArray) (by' : Int) (w : World)
set_option maxHeartbeats 4000000 in
set_option maxRecDepth 100000 in
theorem again_great (ht : ∀ w', Below w.heap.size w w' → Lib.Utf8Tabs 0 1 w') (hr0 : Kd.C Kd.string w A0 l0.length l0) (hc0 : l0.length ≤ c0) (hg : ¬ Tame l0) :
    Calls Tryd.prog 12 #[.slice A0 l0.length c0, .int .i64 by'] w fun e w' => e = .returned (.bool true) ∧ Below w.heap.size w w' := by
  have HT := Lib.hid ht
  have HR := Lib.hid hr0
  have hgb : (!decide (Tame l0)) = true := by rw [decide_eq_false hg]; rfl
  clear ht hr0 hg
  go_enter Tryd.func12, Tryd.ntmps12
  go_wp2_with (fail)
  refine (awake_calls _ HT.out).mono ?_
  rintro e w1 ⟨rfl, hb1⟩
  have HB1 := Lib.hid hb1
  clear hb1
  go_wp2_with (fail)
  refine (great_calls A0 c0 l0 _ (Kd.C_below HR.out HB1.out) hc0).mono ?_
  rw [hgb]
  rintro e w2 ⟨rfl, hd2⟩
  have HB2 := Lib.hid (below_step HB1.out hd2.below)
  clear hd2
  go_wp2_with (fail)
  refine (awake_calls _ (fun w' hb => HT.out w' (below_step HB2.out hb))).mono ?_
  rintro e w3 ⟨rfl, hb3⟩
  have HB3 := Lib.hid (below_step HB2.out hb3)
  clear hb3
  go_wp2_with (fail)
  go_ret
  exact ⟨rfl, HB3.out⟩
set_option maxHeartbeats 4000000 in
set_option maxRecDepth 100000 in
theorem again_none (ht : ∀ w', Below w.heap.size w w' → Lib.Utf8Tabs 0 1 w') (hr0 : Kd.C Kd.string w A0 l0.length l0) (hc0 : l0.length ≤ c0) (hg : Tame l0) (h0 : l0.length = 0) :
    Calls Tryd.prog 12 #[.slice A0 l0.length c0, .int .i64 by'] w fun e w' => e = .returned (.bool true) ∧ Below w.heap.size w w' := by
  have HT := Lib.hid ht
  have HR := Lib.hid hr0
  have hgb : (!decide (Tame l0)) = false := by rw [decide_eq_true hg]; rfl
  have hz : ((l0.length : Int) == 0) = true := by simp [h0]
  obtain ⟨n0, hn0⟩ : ∃ n0, n0 = l0.length := ⟨_, rfl⟩
  clear ht hr0 hg h0
  go_enter Tryd.func12, Tryd.ntmps12
  go_wp2_with (fail)
  refine (awake_calls _ HT.out).mono ?_
  rintro e w1 ⟨rfl, hb1⟩
  have HB1 := Lib.hid hb1
  clear hb1
  go_wp2_with (fail)
  refine (great_calls A0 c0 l0 _ (Kd.C_below HR.out HB1.out) hc0).mono ?_
  rw [hgb]
  rintro e w2 ⟨rfl, hd2⟩
  have HB2 := Lib.hid (below_step HB1.out hd2.below)
  clear hd2
  go_wp2_with (fail)
  refine (awake_calls _ (fun w' hb => HT.out w' (below_step HB2.out hb))).mono ?_
  rintro e w3 ⟨rfl, hb3⟩
  have HB3 := Lib.hid (below_step HB2.out hb3)
  clear hb3
  go_wp2_with (fail)
  go_ret
  exact ⟨rfl, HB3.out⟩
set_option maxHeartbeats 8000000 in
set_option maxRecDepth 100000 in
theorem again_walk (ht : ∀ w', Below w.heap.size w w' → Lib.Utf8Tabs 0 1 w') (hr0 : Kd.C Kd.string w A0 l0.length l0) (hc0 : l0.length ≤ c0) (hb0 : -9223372036854775808 ≤ by') (hb1 : by' ≤ 9223372036854775807) (hg : Tame l0) (h0 : l0.length ≠ 0) :
    Calls Tryd.prog 12 #[.slice A0 l0.length c0, .int .i64 by'] w fun e w' => e = .returned (.bool true) ∧ Below w.heap.size w w' := by
  have HT := Lib.hid ht
  have HR := Lib.hid hr0
  have hgb : (!decide (Tame l0)) = false := by rw [decide_eq_true hg]; rfl
  have HG := Lib.hid hg
  have hl200 := hg.1
  have hz : ((l0.length : Int) == 0) = false := by simpa using h0
  have hmm := @run_makeMap Tryd.prog
  clear ht hr0 hg
  go_enter Tryd.func12, Tryd.ntmps12
  go_wp2_with (fail)
  refine (awake_calls _ HT.out).mono ?_
  rintro e w1 ⟨rfl, hb1⟩
  have HB1 := Lib.hid hb1
  clear hb1
  go_wp2_with (fail)
  refine (great_calls A0 c0 l0 _ (Kd.C_below HR.out HB1.out) hc0).mono ?_
  rw [hgb]
  rintro e w2 ⟨rfl, hd2⟩
  have HB2 := Lib.hid (below_step HB1.out hd2.below)
  clear hd2
  go_wp2_with (fail)
  refine (Has.new HB2.out).mono ?_
  rintro e w3 ⟨p, F, rfl, h3, _, _⟩
  have H3 := Lib.hid h3
  clear h3
  go_wp2_with (fail)
  have H4 := Lib.hid (H3.out.below ((Below.refl _ w3).alloc (Nat.le_refl _) (.map #[] 0)))
  have HI4 := Lib.hid (MapS.idx_made w3)
  have hFn : ¬ F w3.heap.size := fun h => by have := H3.out.lt _ h; omega
  have hwn := H3.out.bel.size
  have hmd : w3.heap.size < (w3.alloc (.map #[] 0)).heap.size := by simp
  clear hmm
  generalize w3.alloc (.map #[] 0) = w4 at *
  generalize w3.heap.size = mb at *
  go_loopg [8, 33] l0.length (fun kq v8 v33 wr => ∃ (i : Nat) (F : Nat → Prop) (x : Value), v8 = x ∧ v33 = .int .i64 (i : Int) ∧ i + kq = l0.length ∧ Aside0 (Has w wr F p (inAll (l0.take i))) ∧ Aside0 (MapS.IsIdx wr mb i (inAll (l0.take i))) ∧ Aside0 (¬ F mb))
  case atStart => exact ⟨0, F, _, rfl, rfl, by omega, ⟨H4.out⟩, ⟨HI4.out⟩, ⟨hFn⟩⟩
  case round =>
    obtain ⟨i, F, x, rfl, rfl, hik, hH, hI, hN⟩ := hrel
    obtain ⟨wo, hwo⟩ : ∃ z, z = wr := ⟨_, rfl⟩
    subst hwo
    have hbd := inAll_len HG.out i
    by_cases hlt : (i : Int) < (l0.length : Int)
    · have t4 : decide ((i : Int) < (l0.length : Int)) = true := decide_eq_true hlt
      obtain ⟨ko, rfl⟩ : ∃ g, gk = g + 1 := ⟨gk - 1, by omega⟩
      obtain ⟨ad, e, k1⟩ := Kd.at_string (Kd.C_below HR.out hH.out.bel) (i : Int) (by omega) hlt
      subst e
      rw [Int.toNat_natCast] at k1
      have hsz : (rdOf ByteArray.empty l0 (i : Int)).size ≤ 500 := HG.out.2 _ (by
        have := text_at (l := l0) (i := i) (by omega)
        have h2 : rdOf ByteArray.empty l0 (i : Int) ∈ l0.drop i := by rw [this]; exact List.mem_cons_self
        exact List.mem_of_mem_drop h2)
      have hsc := Lib.hid (inAll_succ l0 (i := i) (by omega))
      have hgd : rdOf ByteArray.empty l0 (i : Int) = l0.getD i ⟨#[]⟩ := by unfold rdOf; rw [Int.toNat_natCast]; rfl
      rw [← hgd] at hsc
      clear hgd
      generalize rdOf ByteArray.empty l0 (i : Int) = s at *
      generalize inAll (l0.take i) = L at *
      go_wp2_with (fail)
      refine (hH.out.intern s (by omega) (by omega) (by omega)).mono ?_
      rintro e w5 ⟨rfl, F5, hH5, hM5, hF5⟩
      have HI5 := Lib.hid (hI.out.of_block (hM5.block mb hI.out.lt hN.out))
      have HN5 : Hid (¬ F5 mb) := Lib.hid (fun h => by rcases hF5 mb h with h1 | h1; exact hN.out h1; have := hI.out.lt; omega)
      have HH5 := Lib.hid hH5
      have hsm : s.size ≤ maxLen := by unfold maxLen; omega
      have hll : (s ∈ L ∧ (intern L s).1 = L) ∨ (s ∉ L ∧ (intern L s).1 = L ++ [s]) := by
        by_cases h : s ∈ L
        · exact .inl ⟨h, by rw [intern_old h]⟩
        · exact .inr ⟨h, by rw [intern_new h]⟩
      have HLL := Lib.hid hll
      have HIX := Lib.hid (show ((intern L s).2 : Int) = ((intern L s).1.idxOf s : Int) by rw [intern_idx])
      clear hH5 hM5 hF5 hll k1
      go_wp2_with (at_mapUpdate; refine MapS.wpList_put _ rfl _ _ _ rfl mb i L HI5.out s hsm (by unfold maxLen; omega) (intern L s).1 HLL.out ((intern L s).2 : Int) HIX.out (by omega) rfl rfl rfl ?_; intro w6 hi6 hg6; have HI6 := Lib.hid hi6; have HG6 := Lib.hid hg6; clear hi6 hg6)
      have HH6 := Lib.hid (HH5.out.apart (S := one mb) ((mv_grown HG6.out).mono (fun k hk => by injection hk with hk; exact hk.symm)) (fun k hk => by obtain rfl : k = mb := hk; exact hwn) (fun k hk hs => by obtain rfl : k = mb := hs; exact HN5.out hk))
      go_roundg ko
      case measure => omega
      case rel => exact ⟨i + 1, F5, _, rfl, rfl, by omega, ⟨by rw [hsc.out]; exact HH6.out⟩, ⟨by rw [hsc.out]; exact HI6.out⟩, ⟨HN5.out⟩⟩
    · have t4 : decide ((i : Int) < (l0.length : Int)) = false := decide_eq_false hlt
      have hi : i = l0.length := by omega
      have hi2 : l0.take i = l0 := List.take_of_length_le (by omega)
      rw [hi2] at hH hI hbd
      rw [hi] at hI
      have hnd := Lib.hid (inAll_nodup l0)
      have hall := Lib.hid (all_in l0)
      clear hi hi2
      generalize inAll l0 = L at *
      obtain ⟨b1, b2⟩ := hbd
      go_wp2_with (fail)
      refine (hH.out.put (by omega) (by omega)).mono ?_
      rintro e w5 ⟨rfl, hH5, hb5⟩
      have H5 := Lib.hid hH5
      have HI5 := Lib.hid (hI.out.of_block (hb5.block mb hI.out.lt))
      clear hH5 hb5
      obtain ⟨kk, hkk, hkl⟩ : ∃ kk : Nat, wrap64 ((IntKind.u64.wrap by').tmod (l0.length : Int)) = (kk : Int) ∧ kk < l0.length := by
        have hu : 0 ≤ IntKind.u64.wrap by' := by rw [VM.u64_wrap]; omega
        have h1 := Int.tmod_nonneg (l0.length : Int) hu
        have h2 := Int.tmod_lt_of_pos (IntKind.u64.wrap by') (show (0 : Int) < l0.length by omega)
        refine ⟨((IntKind.u64.wrap by').tmod (l0.length : Int)).toNat, ?_, by omega⟩
        rw [wr64 (by omega) (by omega)]
        omega
      have hne : ¬ (l0.length : Int) = 0 := by omega
      have hlw : IntKind.u64.wrap (l0.length : Int) = (l0.length : Int) := by rw [VM.u64_wrap]; omega
      go_wp2_with (fail)
      rw [hkk]
      clear hkk hlw
      go_loopg [11, 12, 13, 14, 54] l0.length (fun kq v11 v12 v13 v14 v54 wr => ∃ (i : Nat) (x y z u : Value), v11 = x ∧ v12 = y ∧ v13 = z ∧ v14 = u ∧ v54 = .int .i64 (i : Int) ∧ i + kq = l0.length ∧ Aside0 (Has w wr F p L) ∧ Aside0 (MapS.IsIdx wr mb l0.length L))
      case atStart => exact ⟨0, _, _, _, _, rfl, rfl, rfl, rfl, rfl, by omega, ⟨H5.out⟩, ⟨HI5.out⟩⟩
      case round =>
        obtain ⟨i, x, y, z, u, rfl, rfl, rfl, rfl, rfl, hik, hH, hI⟩ := hrel
        obtain ⟨wq, hwq⟩ : ∃ z, z = wr := ⟨_, rfl⟩
        subst hwq
        by_cases hlt : (i : Int) < (l0.length : Int)
        · have t4 : decide ((i : Int) < (l0.length : Int)) = true := decide_eq_true hlt
          obtain ⟨ko, rfl⟩ : ∃ g, gk = g + 1 := ⟨gk - 1, by omega⟩
          obtain ⟨j, hj, hjl⟩ : ∃ j : Nat, Int.tmod ((i : Int) + (kk : Int)) (l0.length : Int) = (j : Int) ∧ j < l0.length := ⟨(i + kk) % l0.length, by rw [← Int.natCast_add]; exact (Int.ofNat_tmod _ _).symm, Nat.mod_lt _ (by omega)⟩
          obtain ⟨ad, e, k1⟩ := Kd.at_string (Kd.C_below HR.out hH.out.bel) (j : Int) (by omega) (by omega)
          subst e
          rw [Int.toNat_natCast] at k1
          have hmem : rdOf ByteArray.empty l0 (j : Int) ∈ l0 := by
            have := text_at (l := l0) (i := j) (by omega)
            have h2 : rdOf ByteArray.empty l0 (j : Int) ∈ l0.drop j := by rw [this]; exact List.mem_cons_self
            exact List.mem_of_mem_drop h2
          have hsz := HG.out.2 _ hmem
          have hsL := hall.out _ hmem
          clear hmem
          generalize rdOf ByteArray.empty l0 (j : Int) = s at *
          have hat : atT L ((L.idxOf s : Nat) : Int) = (s, true) := by
            have h1 := List.idxOf_lt_length_iff.2 hsL
            unfold atT
            rw [if_pos (by omega), Int.toNat_natCast, List.getD_eq_getElem?_getD, List.getElem?_eq_getElem h1]
            simp
          have hl0 : MapS.at0 L s = L.idxOf s := by unfold MapS.at0; rw [if_pos hsL]
          have HAT := Lib.hid hat
          have HL0 := Lib.hid hl0
          have HSL := Lib.hid hsL
          have hsm : s.size ≤ maxLen := by unfold maxLen; omega
          have hji : (0 : Int) ≤ (j : Int) ∧ (j : Int) < (l0.length : Int) := by omega
          obtain ⟨j0, j1⟩ := hji
          clear hat hl0 hsL
          go_wp2_with (at_lookup; refine MapS.wpList_idx1 _ rfl _ _ rfl mb l0.length L hI.out s hsm rfl rfl ?_; rw [HL0.out])
          refine (hH.out.at _).mono ?_
          rw [HAT.out]
          rintro e w6 ⟨rfl, rfl⟩
          have hne1 : (s != s) = false := by simp
          have hlk : ∀ n, (Instr.lookup 70 (.map (some mb)) (.string s) false).run Tryd.prog (wq.drewN n) = .ok (.int .i64 ((L.idxOf s : Nat) : Int)) (wq.drewN n) := fun n => by rw [← HL0.out]; exact (hI.out.of_block (w' := wq.drewN n) rfl).look1 hsm
          have HLK := Lib.hid hlk
          clear hlk
          have HCA : ∀ n, Calls Tryd.prog 30 #[.pointer (some ⟨p, 0, none⟩), .string s] (wq.drewN n) fun e w' => e = .returned (.int .i64 ((L.idxOf s : Nat) : Int)) ∧ wq.drewN n = w' := fun n => intern_there F p L s _ (hH.out.2.1.below (Drawn0.below ⟨⟨n, rfl⟩⟩)) (by omega) HSL.out
          have HCAh := Lib.hid HCA
          clear HCA
          generalize ((L.idxOf s : Nat) : Int) = ix at *
          have hne2 : (ix != ix) = false := by simp
          go_upto_region 19 with (fail)
          go_region_held3 (fun w' => (Instr.lookup 70 (.map (some mb)) (.string s) false).run Tryd.prog w' = .ok (.int .i64 ix) w') (first | exact HLK.out 1 | exact HLK.out _ | go_keep)
            ((go_at_call 30; refine (HCAh.out _).mono ?_; rintro e w8 ⟨rfl, rfl⟩))
          all_goals
            go_wp2_with (fail)
            go_roundg ko
            case measure => omega
            case rel => exact ⟨i + 1, _, _, _, _, rfl, rfl, rfl, rfl, by first | rfl | (congr 1; omega), by omega, ⟨hH.out.below (Drawn0.below ⟨⟨_, rfl⟩⟩)⟩, ⟨hI.out.of_block rfl⟩⟩
        · have t4 : decide ((i : Int) < (l0.length : Int)) = false := decide_eq_false hlt
          have hnl := Lib.hid (fun ty => hI.out.len ty)
          go_wp2_with (fail)
          refine (hH.out.put (by omega) (by omega)).mono ?_
          rintro e w6 ⟨rfl, hH6, hb6⟩
          have H6 := Lib.hid hH6
          have HI6 := Lib.hid (hI.out.of_block (hb6.block mb hI.out.lt))
          have teq : (tabB L == tabB L) = true := by simp
          clear hH6 hb6
          go_wp2_with (fail)
          refine H6.out.len.mono ?_
          rintro e w7 ⟨rfl, rfl⟩
          have hlen := fun ty => HI6.out.len ty
          have HB6 := Lib.hid H6.out.bel
          go_wp2_with (fail)
          go_ret
          exact ⟨rfl, HB6.out⟩
end
theorem again_all (A0 : Option Addr) (c0 : Nat) (l0 : List ByteArray) (by' : Int) (w : World) (ht : ∀ w', Below w.heap.size w w' → Lib.Utf8Tabs 0 1 w') (hr0 : Kd.C Kd.string w A0 l0.length l0) (hc0 : l0.length ≤ c0) (hb0 : -9223372036854775808 ≤ by') (hb1 : by' ≤ 9223372036854775807) :
    Calls Tryd.prog 12 #[.slice A0 l0.length c0, .int .i64 by'] w fun e w' => e = .returned (.bool true) ∧ Below w.heap.size w w' := by
  by_cases h : Tame l0
  · by_cases h0 : l0.length = 0
    · exact again_none A0 c0 l0 by' w ht hr0 hc0 h h0
    · exact again_walk A0 c0 l0 by' w ht hr0 hc0 hb0 hb1 h h0
  · exact again_great A0 c0 l0 by' w ht hr0 hc0 h
end Go.Proofs.YtmglknchklgokaaDoor.Tab
