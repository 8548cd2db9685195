/- StrtabOne: bytes that are got are put as they were; and their texts have their places as numbers. -/
import Derived.Test.YtmglknchklgokaaDoorSGets
import Derived.Deep.LoopGhost
namespace Go.Proofs.YtmglknchklgokaaDoor.Tab
open Go.RowKit Go.Lib Go.Proofs.YtmglknchklgokaaDoorW.PrintWords Go.Proofs.YtmglknchklgokaaDoorW.PrintLast Go.Proofs.YtmglknchklgokaaDoorW.PrintMore Go.Proofs.YtmglknchklgokaaDoor.B Go.Proofs.YtmglknchklgokaaDoor.Bd Go.Proofs.YtmglknchklgokaaDoor.GS
set_option linter.unusedVariables false
set_option linter.unusedSimpArgs false
section
variable (b s : ByteArray) (w : World)
set_option maxHeartbeats 4000000 in
set_option maxRecDepth 100000 in
theorem one_great (ht : ∀ w', Below w.heap.size w w' → Lib.Utf8Tabs 0 1 w') (hg : 1500 < b.size ∨ (b.size ≤ 1500 ∧ 500 < s.size)) :
    Calls Tryd.prog 11 #[.string b, .string s] w fun e w' => e = .returned (.bool true) ∧ Below w.heap.size w w' := by
  have HT := Lib.hid ht
  clear ht
  rcases hg with h | ⟨h0, h⟩
  all_goals
    first
      | (have d1 : decide ((b.size : Int) > 1500) = true := decide_eq_true (by omega); skip)
      | (have d1 : decide ((b.size : Int) > 1500) = false := decide_eq_false (by omega); have d2 : decide ((s.size : Int) > 500) = true := decide_eq_true (by omega); skip)
    go_enter Tryd.func11, Tryd.ntmps11
    go_wp2_with (fail)
    refine (awake_calls _ HT.out).mono ?_
    rintro e w1 ⟨rfl, hb1⟩
    have HB1 := Lib.hid hb1
    clear hb1
    go_wp2_with (fail)
    refine (awake_calls _ (fun w' hb => HT.out w' (below_step HB1.out hb))).mono ?_
    rintro e w3 ⟨rfl, hb3⟩
    have HB3 := Lib.hid (below_step HB1.out hb3)
    clear hb3
    go_wp2_with (fail)
    go_ret
    exact ⟨rfl, HB3.out⟩
theorem nodup_place {l : List ByteArray} (h : l.Nodup) {i : Nat} (hi : i < l.length) : intern l (l.getD i ⟨#[]⟩) = (l, i) := by
  have hm : l.getD i ⟨#[]⟩ ∈ l := by
    rw [List.getD_eq_getElem?_getD, List.getElem?_eq_getElem hi]
    exact List.getElem_mem _
  rw [intern_old hm, List.getD_eq_getElem?_getD, List.getElem?_eq_getElem hi]
  simp only [Option.getD_some]
  rw [h.idxOf_getElem i hi]
theorem intern_find (l : List ByteArray) (s : ByteArray) : ((intern l s).2 : Int) = if findT l s < 0 then (l.length : Int) else findT l s := by
  unfold intern findT
  by_cases h : s ∈ l
  · rw [if_pos h, if_pos h, if_neg (by omega)]
  · rw [if_neg h, if_neg h, if_pos (by omega)]
set_option maxHeartbeats 8000000 in
set_option maxRecDepth 100000 in
theorem one_walk (ht : ∀ w', Below w.heap.size w w' → Lib.Utf8Tabs 0 1 w') (hg : b.size ≤ 1500) (hs : s.size ≤ 500) :
    Calls Tryd.prog 11 #[.string b, .string s] w fun e w' => e = .returned (.bool true) ∧ Below w.heap.size w w' := by
  have HT := Lib.hid ht
  have d1 : decide ((b.size : Int) > 1500) = false := decide_eq_false (by omega)
  have d2 : decide ((s.size : Int) > 500) = false := decide_eq_false (by omega)
  have hone := Lib.hid (fun h : (getE badS b 1048576 1048576).1 = 0 => getE_one badS h)
  have HLG := Lib.hid (fun (w2 : World) (hb : Below w.heap.size w w2) q l hE => law_get (q := q) (l := l) hb b 1048576 1048576 HT.out (by omega) (by omega) (by omega) (by omega) (by omega) hE)
  clear ht
  obtain ⟨q, hq⟩ : ∃ q, q = (getE badS b 1048576 1048576).1 := ⟨_, rfl⟩
  obtain ⟨l, hl⟩ : ∃ l, l = (getE badS b 1048576 1048576).2 := ⟨_, rfl⟩
  have hE : getE badS b 1048576 1048576 = (q, l) := by rw [hq, hl]
  rw [hE] at hone
  have HLG2 := Lib.hid (fun (w2 : World) (hb : Below w.heap.size w w2) => HLG.out w2 hb q l hE)
  clear HLG hE hq hl
  go_enter Tryd.func11, Tryd.ntmps11
  go_wp2_with (fail)
  refine (awake_calls _ HT.out).mono ?_
  rintro e w1 ⟨rfl, hb1⟩
  have HB1 := Lib.hid hb1
  clear hb1
  go_wp2_with (fail)
  refine (HLG2.out _ HB1.out).mono ?_
  rintro e w2 ⟨hb2, h2, k2⟩
  have HB2 := Lib.hid (below_step HB1.out hb2)
  by_cases hz : q = 0
  · subst hz
    obtain ⟨p, F, rfl, hH2, _⟩ := h2 rfl
    obtain ⟨l', hl', hone⟩ := hone.out rfl
    obtain rfl : l = l' := (Prod.mk.inj hl').2
    obtain ⟨o1, o2, o3, o4, o5, o6⟩ := hone
    have hlen : l.length ≤ 1500 ∧ total l ≤ 1500 := by have := tabB_len l; rw [o1] at this; omega
    obtain ⟨n1, n2⟩ := hlen
    have H2 := Lib.hid hH2
    have HND := Lib.hid o2
    have hne : (b != b) = false := by simp
    have O1 := Lib.hid o1
    clear h2 k2 hH2 hb2 hl' o1 o2 o3 o4 o5 o6
    go_wp2_with (fail)
    refine (H2.out.put (by omega) (by omega)).mono ?_
    rw [O1.out]
    rintro e w3 ⟨rfl, hH3, _⟩
    have H3 := Lib.hid hH3
    clear hH3
    go_wp2_with (fail)
    refine (all_calls F p l _ H3.out.2.1 (by omega)).mono ?_
    rintro e w4 ⟨v4, rfl, ho4, hb4⟩
    obtain ⟨a4, c4, rfl⟩ := row_slice ho4
    have H4 := Lib.hid (H3.out.below hb4)
    have HX4 : Hid (Texts w3 w4 F (.slice a4 l.length c4) l) := Lib.hid ⟨ho4, fun k hk hf => by have := (ho4.lt k hk).1; have := H3.out.lt k hf; omega⟩
    clear ho4 hb4
    go_wp2_with (fail)
    go_loopg [8, 9, 49] l.length (fun kq v8 v9 v49 wr => ∃ (i : Nat) (F : Nat → Prop) (x y : Value), v8 = x ∧ v9 = y ∧ v49 = .int .i64 (i : Int) ∧ i + kq = l.length ∧ Aside0 (Has w wr F p l) ∧ Aside0 (Texts w3 wr F (.slice a4 l.length c4) l))
    case atStart => exact ⟨0, F, _, _, rfl, rfl, rfl, by omega, ⟨H4.out⟩, ⟨HX4.out⟩⟩
    case round =>
      obtain ⟨i, F, x, y, rfl, rfl, rfl, hik, hH, hX⟩ := hrel
      obtain ⟨wo, hwo⟩ : ∃ z, z = wr := ⟨_, rfl⟩
      subst hwo
      by_cases hlt : (i : Int) < (l.length : Int)
      · have t4 : decide ((i : Int) < (l.length : Int)) = true := decide_eq_true hlt
        obtain ⟨ko, rfl⟩ : ∃ g, gk = g + 1 := ⟨gk - 1, by omega⟩
        obtain ⟨A, c, hv, _, hC⟩ := hX.out.reads
        cases hv
        obtain ⟨ad, e, k1⟩ := Kd.at_string hC (i : Int) (by omega) hlt
        subst e
        rw [Int.toNat_natCast] at k1
        have hgd : rdOf ByteArray.empty l (i : Int) = l.getD i ⟨#[]⟩ := by unfold rdOf; rw [Int.toNat_natCast]; rfl
        have hpl := nodup_place HND.out (i := i) (by omega)
        have hsz := size_le_total l i
        rw [← hgd] at hpl hsz
        clear hgd hC
        generalize rdOf ByteArray.empty l (i : Int) = x at *
        go_wp2_with (fail)
        refine (hH.out.intern x (by omega) (by omega) (by omega)).mono ?_
        rw [hpl]
        rintro e w5 ⟨rfl, F5, hH5, hM5, hF5⟩
        have HX5 := Lib.hid (hX.out.interned hM5 hF5)
        have HH5 := Lib.hid hH5
        have tne : ((i : Int) != (i : Int)) = false := by simp
        clear hH5 hM5 hF5 hpl
        go_wp2_with (fail)
        go_roundg ko
        case measure => omega
        case rel => exact ⟨i + 1, F5, _, _, rfl, rfl, rfl, by omega, ⟨HH5.out⟩, ⟨HX5.out⟩⟩
      · have t4 : decide ((i : Int) < (l.length : Int)) = false := decide_eq_false hlt
        obtain ⟨A, c, hv, hc, hC⟩ := hX.out.reads
        cases hv
        have HC := Lib.hid hC
        have hif := intern_find l s
        clear hC
        go_wp2_with (fail)
        refine (find_calls _ _ l s _ HC.out hc (by omega)).mono ?_
        rintro e w5 ⟨rfl, hd5⟩
        have H5 := Lib.hid (hH.out.drawn hd5)
        clear hd5
        by_cases hf : findT l s < 0
        · have t5 : decide (findT l s < 0) = true := decide_eq_true hf
          rw [if_pos hf] at hif
          have teq : ((l.length : Int) == (l.length : Int)) = true := by simp
          go_wp2_with (fail)
          refine (H5.out.intern s (by omega) (by omega) (by omega)).mono ?_
          rw [hif]
          rintro e w6 ⟨rfl, F6, hH6, _, _⟩
          have HB6 := Lib.hid hH6.bel
          clear hH6
          go_wp2_with (fail)
          go_ret
          exact ⟨rfl, HB6.out⟩
        · have t5 : decide (findT l s < 0) = false := decide_eq_false hf
          rw [if_neg hf] at hif
          generalize findT l s = fq at *
          have teq : (fq == fq) = true := by simp
          go_wp2_with (fail)
          refine (H5.out.intern s (by omega) (by omega) (by omega)).mono ?_
          rw [hif]
          rintro e w6 ⟨rfl, F6, hH6, _, _⟩
          have HB6 := Lib.hid hH6.bel
          clear hH6
          go_wp2_with (fail)
          go_ret
          exact ⟨rfl, HB6.out⟩
  · obtain rfl := k2 hz
    have d2 : (q == 0) = false := by simpa using hz
    have d3 : (q != 0) = true := by simpa using hz
    clear h2 k2 hb2 hone
    go_wp2_with (fail)
    go_ret
    exact ⟨rfl, HB2.out⟩
end
theorem one_all (b s : ByteArray) (w : World) (ht : ∀ w', Below w.heap.size w w' → Lib.Utf8Tabs 0 1 w') :
    Calls Tryd.prog 11 #[.string b, .string s] w fun e w' => e = .returned (.bool true) ∧ Below w.heap.size w w' := by
  by_cases h : 1500 < b.size ∨ (b.size ≤ 1500 ∧ 500 < s.size)
  · exact one_great b s w ht h
  · exact one_walk b s w ht (by omega) (by omega)
end Go.Proofs.YtmglknchklgokaaDoor.Tab
