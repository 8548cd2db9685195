/- dioramalaw13's table, texts, awake, called. -/
import Derived.Test.YtoigkneoaemcfaaDoorRxRcLaw
import Derived.Deep.CutBlock
namespace Go.Proofs.YtoigkneoaemcfaaDoor.Rec
open Go.RowKit Go.Lib Go.Proofs.YtoigkneoaemcfaaDoorW.PrintWords Go.Proofs.YtoigkneoaemcfaaDoorW.PrintLast Go.Proofs.YtoigkneoaemcfaaDoorW.PrintMore Go.Proofs.YtoigkneoaemcfaaDoor.B Go.Proofs.YtoigkneoaemcfaaDoor.Bd Go.Proofs.YtoigkneoaemcfaaDoor.Tab Go.Proofs.YtoigkneoaemcfaaDoor.GR
set_option linter.unusedVariables false
set_option linter.unusedSimpArgs false
theorem has_up {w0 w w' : World} {F : Nat → Prop} {p : Nat} {L : List ByteArray} (hb : Below w0.heap.size w0 w) (h : Has w w' F p L) : Has w0 w' F p L := ⟨below_step hb h.1, h.2.1, fun k hk => Nat.le_trans hb.size (h.2.2 k hk)⟩
theorem ownsRow_lower {w : World} {b b' e s n : Nat} {v : Value} {xs : List Value} (h : w.ownsRow b e s v n xs) (hb : b' ≤ b) : w.ownsRow b' e s v n xs := by
  refine ⟨h.1, ?_⟩
  rcases h.2 with h1 | ⟨g, cap, cur, h1, h2, h3⟩
  · exact .inl h1
  · exact .inr ⟨g, cap, cur, h1, Nat.le_trans hb h2, h3⟩
theorem texts_up {w0 w w' : World} {F : Nat → Prop} {v : Value} {L : List ByteArray} (hb : Below w0.heap.size w0 w) (h : Texts w w' F v L) : Texts w0 w' F v L := ⟨ownsRow_lower h.1 hb.size, h.2⟩
theorem tab_tame {l : List ByteArray} (h : Tame l) (i : Nat) (L : List ByteArray) (hL : tabOf L (l.drop i) = tabOf [] l) : L.length ≤ 200 ∧ total L ≤ 100000 := by
  have h1 := tabOf_len l []
  have h2 := tabOf_total l []
  have h3 := tame_total h
  have h4 := h.1
  obtain ⟨suf, hs⟩ := tabOf_pre (l.drop i) L
  rw [hL] at hs
  rw [hs, List.length_append] at h1
  rw [hs, total_append] at h2
  have h5 : total ([] : List ByteArray) = 0 := rfl
  simp only [List.length_nil] at h1
  omega
section
variable (A0 : Option Addr) (c0 : Nat) (l0 : List ByteArray) (w : World)
set_option maxHeartbeats 4000000 in
set_option maxRecDepth 100000 in
theorem table_great (hr : Kd.C Kd.string w A0 l0.length l0) (hc : l0.length ≤ c0) (hg : ¬ Tame l0) :
    Calls Tryd.prog 14 #[.slice A0 l0.length c0] w fun e w' => e = .returned (.tuple #[.pointer none, .slice none 0 0, .bool false]) ∧ Below w.heap.size w w' := by
  have HR := Lib.hid hr
  have hgb : (!decide (Tame l0)) = true := by rw [decide_eq_false hg]; rfl
  clear hr hg
  go_enter Tryd.func14, Tryd.ntmps14
  go_wp2_with (fail)
  refine (Has.new (Below.refl _ w)).mono ?_
  rintro e w1 ⟨p, F, rfl, h1, _, hb1⟩
  have HB1 := Lib.hid hb1
  clear h1 hb1
  go_wp2_with (fail)
  refine (great_calls A0 c0 l0 _ (Kd.C_below HR.out HB1.out) hc).mono ?_
  rw [hgb]
  rintro e w2 ⟨rfl, hd2⟩
  have HB2 := Lib.hid (below_step HB1.out hd2.below)
  clear hd2
  go_wp2_with (fail)
  go_ret3
  exact ⟨rfl, HB2.out⟩
set_option maxHeartbeats 4000000 in
set_option maxRecDepth 100000 in
theorem table_tame (hr : Kd.C Kd.string w A0 l0.length l0) (hc : l0.length ≤ c0) (hg : Tame l0) :
    Calls Tryd.prog 14 #[.slice A0 l0.length c0] w fun e w' => ∃ p F v, e = .returned (.tuple #[.pointer (some ⟨p, 0, none⟩), v, .bool true]) ∧ Has w w' F p (tabOf [] l0) ∧ Texts w w' F v (tabOf [] l0) := by
  have HR := Lib.hid hr
  have hgb : (!decide (Tame l0)) = false := by rw [decide_eq_true hg]; rfl
  have HG := Lib.hid hg
  have hl200 := hg.1
  clear hr hg
  go_enter Tryd.func14, Tryd.ntmps14
  go_wp2_with (fail)
  refine (Has.new (Below.refl _ w)).mono ?_
  rintro e w1 ⟨p, F, rfl, h1, _, hb1⟩
  have H1 := Lib.hid h1
  clear h1 hb1
  go_wp2_with (fail)
  refine (great_calls A0 c0 l0 _ (Kd.C_below HR.out H1.out.bel) hc).mono ?_
  rw [hgb]
  rintro e w2 ⟨rfl, hd2⟩
  have H2 := Lib.hid (H1.out.drawn hd2)
  clear hd2
  go_wp2_with (fail)
  go_loopg [6, 8, 18] l0.length (fun kq v6 v8 v18 wr => ∃ (v : Value) (i : Nat) (F : Nat → Prop) (L : List ByteArray) (x : Value), v = v6 ∧ v8 = x ∧ v18 = .int .i64 (i : Int) ∧ i + kq = l0.length ∧ Aside0 (tabOf L (l0.drop i) = tabOf [] l0) ∧ Aside0 (Has w wr F p L) ∧ Aside0 (Texts w wr F v L))
  case atStart => exact ⟨_, 0, F, [], _, rfl, rfl, rfl, by omega, ⟨rfl⟩, ⟨H2.out⟩, ⟨Texts.nil _ _ _⟩⟩
  case round =>
    obtain ⟨v, i, F, L, x, rfl, rfl, rfl, hik, hL, hH, hX⟩ := hrel
    obtain ⟨wo, hwo⟩ : ∃ z, z = wr := ⟨_, rfl⟩
    subst hwo
    have hbd := tab_tame HG.out i L hL.out
    by_cases hlt : (i : Int) < (l0.length : Int)
    · have t4 : decide ((i : Int) < (l0.length : Int)) = true := decide_eq_true hlt
      obtain ⟨ko, rfl⟩ : ∃ g, gk = g + 1 := ⟨gk - 1, by omega⟩
      obtain ⟨ad, e, k1⟩ := Kd.at_string (Kd.C_below HR.out hH.out.bel) (i : Int) (by omega) hlt
      subst e
      rw [Int.toNat_natCast] at k1
      have hdr := txt_at (l := l0) (i := i) (by omega)
      have hsz : (rdOf ByteArray.empty l0 (i : Int)).size ≤ 500 := HG.out.2 _ (List.mem_of_mem_drop (show _ ∈ l0.drop i by rw [hdr]; exact List.mem_cons_self))
      have HN := Lib.hid (show tabOf (intern L (rdOf ByteArray.empty l0 (i : Int))).1 (l0.drop (i + 1)) = tabOf [] l0 by rw [← hL.out, hdr]; rfl)
      clear hdr hL
      generalize rdOf ByteArray.empty l0 (i : Int) = s at *
      go_wp2_with (fail)
      refine (hH.out.intern s (by omega) (by omega) (by omega)).mono ?_
      rintro e w5 ⟨rfl, F5, hH5, hM5, hF5⟩
      have HX5 := Lib.hid (hX.out.interned hM5 hF5)
      have HH5 := Lib.hid hH5
      clear hH5 hM5 hF5 hH hX k1
      go_wp2_with (fail)
      refine (Texts.rintern HH5.out HX5.out s (by omega)).mono ?_
      rintro e w4 ⟨v', rfl, hX4, hH4⟩
      have HX4 := Lib.hid hX4
      have HH4 := Lib.hid hH4
      clear hX4 hH4 HX5 HH5
      go_wp2_with (fail)
      go_roundg ko
      case measure => omega
      case rel => exact ⟨v', i + 1, F5, _, _, rfl, rfl, rfl, by omega, ⟨HN.out⟩, ⟨HH4.out⟩, ⟨HX4.out⟩⟩
    · have t4 : decide ((i : Int) < (l0.length : Int)) = false := decide_eq_false hlt
      have HE := Lib.hid (show L = tabOf [] l0 by rw [← hL.out, List.drop_of_length_le (by omega)]; rfl)
      go_wp2_with (fail)
      go_ret3
      exact ⟨p, F, v, rfl, by rw [← HE.out]; exact hH.out, by rw [← HE.out]; exact hX.out⟩
set_option maxHeartbeats 4000000 in
set_option maxRecDepth 100000 in
theorem texts_calls {F : Nat → Prop} {p : Nat} {w0 : World} (h : Has w0 w F p l0) (hr : Kd.C Kd.string w A0 l0.length l0) (hc : l0.length ≤ c0) (hl : l0.length ≤ 1000000) :
    Calls Tryd.prog 20 #[.pointer (some ⟨p, 0, none⟩), .slice A0 l0.length c0] w fun e w' => e = .returned (.bool true) ∧ w = w' := by
  have HR := Lib.hid hr
  have H := Lib.hid h
  clear hr h
  have t13 : ((l0.length : Int) != (l0.length : Int)) = false := by simp
  go_enter Tryd.func20, Tryd.ntmps20
  go_wp2_with (fail)
  refine H.out.len.mono ?_
  rintro e w1 ⟨rfl, hw1⟩
  subst hw1
  go_wp2_with (fail)
  go_loopg [5, 6, 7, 8, 16] l0.length (fun kq v5 v6 v7 v8 v16 wr => ∃ (i : Nat) (x y z u : Value), v5 = x ∧ v6 = y ∧ v7 = z ∧ v8 = u ∧ v16 = .int .i64 (i : Int) ∧ i + kq = l0.length ∧ w = wr)
  case atStart => exact ⟨0, _, _, _, _, rfl, rfl, rfl, rfl, rfl, by omega, rfl⟩
  case round =>
    obtain ⟨i, x, y, z, u, rfl, rfl, rfl, rfl, rfl, hik, hww⟩ := hrel
    subst hww
    by_cases hlt : (i : Int) < (l0.length : Int)
    · have t4 : decide ((i : Int) < (l0.length : Int)) = true := decide_eq_true hlt
      obtain ⟨ko, rfl⟩ : ∃ g, gk = g + 1 := ⟨gk - 1, by omega⟩
      obtain ⟨ad, e, k1⟩ := Kd.at_string HR.out (i : Int) (by omega) hlt
      subst e
      rw [Int.toNat_natCast] at k1
      have hat : atT l0 (i : Int) = (rdOf ByteArray.empty l0 (i : Int), true) := by rw [atT_in (by omega)]; rfl
      generalize rdOf ByteArray.empty l0 (i : Int) = s at *
      go_wp2_with (fail)
      refine (H.out.at (i : Int)).mono ?_
      rw [hat]
      rintro e w5 ⟨rfl, hw5⟩
      subst hw5
      have tne : (s != s) = false := by simp
      go_wp2_with (fail)
      go_roundg ko
      case measure => omega
      case rel => exact ⟨i + 1, _, _, _, _, rfl, rfl, rfl, rfl, rfl, by omega, rfl⟩
    · have t4 : decide ((i : Int) < (l0.length : Int)) = false := decide_eq_false hlt
      go_wp2_with (fail)
      go_ret
      exact ⟨rfl, rfl⟩
end
theorem row_lit {w : World} {base g e : Nat} {cur : Array Value} (hg : base ≤ g) (h : w.heap[g]? = some (.cells cur e (0, 0))) (hs : cur.size ≤ 1000) : w.ownsRow base e 1 (.slice (some ⟨g, 0, none⟩) cur.size cur.size) cur.size cur.toList :=
  ⟨by simp, .inr ⟨g, cur.size, cur, rfl, hg, h, Nat.le_refl _, by unfold maxLen; omega, by simp, List.take_of_length_le (by simp)⟩⟩
/-! ### awake -/
def sA : ByteArray := ⟨#[97]⟩
def bA : ByteArray := ⟨#[1, 0, 3, 1, 1, 2]⟩
theorem aw_put : putR 1 [] [sA] [1, 1, 0] 2 [] = (bA, [sA], 0) := by decide +kernel
theorem aw_ref : putR 1 [] [sA] [1, 1, 0] 1 [sA] = (⟨#[]⟩, [sA], 13) := by decide +kernel
theorem aw_get : (getR 2 9 [sA] (Cur.new bA)).2 = (1, [], [sA], [1, 1, 0]) := by decide +kernel
theorem aw_err : (getR 2 9 [sA] (Cur.new bA)).1.e = 0 := by decide +kernel
theorem aw_fit : Fit [] [sA] [1, 1, 0] := ⟨by decide, by decide, by decide, by decide⟩
set_option maxHeartbeats 4000000 in
set_option maxRecDepth 100000 in
theorem awake_calls (w : World) (ht : ∀ w', Below w.heap.size w w' → Lib.Utf8Tabs 0 1 w') :
    Calls Tryd.prog 15 #[] w fun e w' => e = .returned (.bool true) ∧ Below w.heap.size w w' := by
  have HT := Lib.hid ht
  clear ht
  go_enter Tryd.func15, Tryd.ntmps15
  go_wp2_with (fail)
  refine (Has.new (Below.refl _ w)).mono ?_
  rintro e w1 ⟨p, F1, rfl, h1, _, _⟩
  have H1 := Lib.hid h1
  have hF1 := Lib.hid h1.lt
  clear h1
  go_upto_region 5 with (fail)
  obtain ⟨n1, hn1⟩ : ∃ n, n = w1.heap.size := ⟨_, rfl⟩
  have z1 : (w1.alloc (.cells #[.string ⟨#[97]⟩] 9)).heap.size = n1 + 1 := by rw [hn1]; simp
  have b1 := heap_alloc_new w1 (.cells #[.string ⟨#[97]⟩] 9)
  have b2 := heap_alloc_new (w1.alloc (.cells #[.string ⟨#[97]⟩] 9)) (.cells #[.int .i64 1, .int .i64 1, .int .i64 0] 3)
  have b3 := heap_alloc_new ((w1.alloc (.cells #[.string ⟨#[97]⟩] 9)).alloc (.cells #[.int .i64 1, .int .i64 1, .int .i64 0] 3)) (.cells #[.int .i64 1, .slice none 0 0, .slice (some ⟨n1, 0, none⟩) 1 1, .slice (some ⟨n1 + 1, 0, none⟩) 3 3] 40)
  have z2 : ((w1.alloc (.cells #[.string ⟨#[97]⟩] 9)).alloc (.cells #[.int .i64 1, .int .i64 1, .int .i64 0] 3)).heap.size = n1 + 1 + 1 := by rw [hn1]; simp
  have hb4 : Below w1.heap.size w1 (((w1.alloc (.cells #[.string ⟨#[97]⟩] 9)).alloc (.cells #[.int .i64 1, .int .i64 1, .int .i64 0] 3)).alloc (.cells #[.int .i64 1, .slice none 0 0, .slice (some ⟨n1, 0, none⟩) 1 1, .slice (some ⟨n1 + 1, 0, none⟩) 3 3] 40)) := (((Below.refl _ w1).alloc (Nat.le_refl _) _).alloc (by simp) _).alloc (by simp; omega) _
  rw [z1] at b2
  rw [z2] at b3
  rw [← hn1] at b1 ⊢
  have b1' := blk_alloc (blk_alloc b1 (.cells #[.int .i64 1, .int .i64 1, .int .i64 0] 3)) (.cells #[.int .i64 1, .slice none 0 0, .slice (some ⟨n1, 0, none⟩) 1 1, .slice (some ⟨n1 + 1, 0, none⟩) 3 3] 40)
  have b2' := blk_alloc b2 (.cells #[.int .i64 1, .slice none 0 0, .slice (some ⟨n1, 0, none⟩) 1 1, .slice (some ⟨n1 + 1, 0, none⟩) 3 3] 40)
  clear b1 b2 z1 z2
  generalize ((w1.alloc (.cells #[.string ⟨#[97]⟩] 9)).alloc (.cells #[.int .i64 1, .int .i64 1, .int .i64 0] 3)).alloc (.cells #[.int .i64 1, .slice none 0 0, .slice (some ⟨n1, 0, none⟩) 1 1, .slice (some ⟨n1 + 1, 0, none⟩) 3 3] 40) = w4 at *
  have HM4 := Lib.hid (show Made w4 n1 (.slice none 0 0) (.slice (some ⟨n1, 0, none⟩) 1 1) (.slice (some ⟨n1 + 1, 0, none⟩) 3 3) [] [sA] [1, 1, 0] from ⟨World.ownsRow_nil _ _ _ _, row_lit (Nat.le_refl _) b1' (by decide), row_lit (Nat.le_succ _) b2' (by decide)⟩)
  have HX4 := Lib.hid (show NBox w4 (n1 + 1 + 1) 1 (.slice none 0 0) (.slice (some ⟨n1, 0, none⟩) 1 1) (.slice (some ⟨n1 + 1, 0, none⟩) 3 3) from b3)
  have H4 := Lib.hid (H1.out.below hb4)
  have HF4 := Lib.hid (show ∀ k, F1 k → k < n1 from fun k hk => by rw [hn1]; exact hF1.out k hk)
  obtain ⟨x0, x1, x2, x3⟩ := HX4.out.cells
  clear b1' b2' b3 hb4 hF1 hn1
  have HA4 := Lib.hid (HM4.out.away HF4.out)
  have hI : Hid (I64 ([1, 1, 0] : List Int)) := Lib.hid (fun x hx => by simp at hx; omega)
  go_wp2_with (fail)
  refine (has_rput H4.out 1 2 HT.out (stays_made (l1 := []) (l2 := [sA]) (l3 := [1, 1, 0]) HM4.out HA4.out) aw_fit (fun x hx => by cases hx) hI.out (by omega) (by decide) (by decide)).mono ?_
  rw [aw_put]
  rintro e w5 ⟨rfl, F5, h5, m5, f5⟩
  have H5 := Lib.hid h5
  have HA5 := Lib.hid (HM4.out.fresh HA4.out f5)
  have HM5 := Lib.hid (HM4.out.mv m5 HA4.out)
  have HX5 := Lib.hid (show NBox w5 (n1 + 1 + 1) 1 (.slice none 0 0) (.slice (some ⟨n1, 0, none⟩) 1 1) (.slice (some ⟨n1 + 1, 0, none⟩) 3 3) from m5.keep HX4.out (fun h => by have := HF4.out _ h; omega))
  have HB5 := Lib.hid (show ¬ F5 (n1 + 1 + 1) from fun h => by
    rcases f5 _ h with h1 | h1
    · have := HF4.out _ h1; omega
    · have := blk_lt HX4.out; omega)
  clear h5 m5 f5 x0 x1 x2 x3
  obtain ⟨x0, x1, x2, x3⟩ := HX5.out.cells
  go_wp2_with (fail)
  refine (has_rput H5.out 1 1 HT.out (stays_made (l1 := []) (l2 := [sA]) (l3 := [1, 1, 0]) HM5.out HA5.out) aw_fit (fun x hx => by cases hx) hI.out (by omega) (by decide) (by decide)).mono ?_
  rw [aw_ref]
  rintro e w6 ⟨rfl, F6, h6, m6, f6⟩
  have H6 := Lib.hid h6
  have HM6 := Lib.hid (HM5.out.mv m6 HA5.out)
  have HX6 := Lib.hid (show NBox w6 (n1 + 1 + 1) 1 (.slice none 0 0) (.slice (some ⟨n1, 0, none⟩) 1 1) (.slice (some ⟨n1 + 1, 0, none⟩) 3 3) from m6.keep HX5.out HB5.out)
  clear h6 m6 f6 x0 x1 x2 x3
  go_wp2_with (fail)
  refine (Cur.new_calls bA _).mono ?_
  rintro e w7 ⟨rfl, hC7, hb7⟩
  have HC7 := Lib.hid hC7
  have H7 := Lib.hid (H6.out.below hb7)
  have HM7 := Lib.hid (HM6.out.below hb7)
  have HX7 := Lib.hid (HX6.out.below hb7)
  have HG := Lib.hid (show ¬ F6 w6.heap.size from fun h => absurd (H6.out.lt _ h) (Nat.lt_irrefl _))
  have HG0 := Lib.hid (show w.heap.size ≤ w6.heap.size from H6.out.bel.size)
  have hxg : n1 + 1 + 1 < w6.heap.size := blk_lt HX6.out
  clear hC7 hb7
  generalize w6.heap.size = g at *
  go_wp2_with (fail)
  refine (has_rget H7.out 2 9 HC7.out (Cur.new_ok (by decide)) HG.out HG0.out (by omega) (by omega)).mono ?_
  have hs7 : n1 + 1 + 1 < w7.heap.size := blk_lt HX7.out
  rw [aw_get]
  have HAE := aw_err
  generalize (getR 2 9 [sA] (Cur.new bA)).1 = cf at *
  rintro e w8 ⟨v1, v2, v3, rfl, hC8, _, hM8, m8, h8⟩
  obtain ⟨A1, c1, A2, c2, A3, c3, rfl, rfl, rfl, hI8⟩ := hM8.reads
  have HI8 := Lib.hid hI8
  have HC8 := Lib.hid hC8
  have H8 := Lib.hid h8
  have HX8 := Lib.hid (show NBox w8 (n1 + 1 + 1) 1 (.slice none 0 0) (.slice (some ⟨n1, 0, none⟩) 1 1) (.slice (some ⟨n1 + 1, 0, none⟩) 3 3) from m8.keep HX7.out (fun e => by have e2 : n1 + 1 + 1 = g := e; omega))
  have HM8 := Lib.hid (HM7.out.mv m8 (fun k hk => by
    obtain rfl : k = g := hk
    exact ⟨by simp [Value.ownBlock], by simp [Value.ownBlock]; omega, by simp [Value.ownBlock]; omega⟩))
  clear hC8 hM8 m8 h8 hI8
  go_upto_region 11 with (fail)
  have hb9 : Below w8.heap.size w8 (w8.alloc (.cells #[.int .i64 1, .slice A1 0 c1, .slice A2 1 c2, .slice A3 3 c3] 40)) := (Below.refl _ _).alloc (Nat.le_refl _) _
  have hx9 : NBox (w8.alloc (.cells #[.int .i64 1, .slice A1 0 c1, .slice A2 1 c2, .slice A3 3 c3] 40)) w8.heap.size 1 (.slice A1 0 c1) (.slice A2 1 c2) (.slice A3 3 c3) := heap_alloc_new w8 _
  obtain ⟨n9, hn9⟩ : ∃ n, n = w8.heap.size := ⟨_, rfl⟩
  rw [← hn9] at hx9 ⊢
  generalize w8.alloc (.cells #[.int .i64 1, .slice A1 0 c1, .slice A2 1 c2, .slice A3 3 c3] 40) = w9 at *
  have HC9 := Lib.hid (HC8.out.below hb9)
  have H9 := Lib.hid (H8.out.below hb9)
  have HM9 := Lib.hid (HM8.out.below hb9)
  have HI9 := Lib.hid (HI8.out.below hb9)
  obtain ⟨x0, x1, x2, x3⟩ := hx9.cells
  obtain ⟨y0, y1, y2, y3⟩ := (HX8.out.below hb9).cells
  have tb : (bA.toList == ([1, 0, 3, 1, 1, 2] : List UInt8)) = true := by decide +kernel
  clear hb9 hx9 hn9
  go_wp2_with (fail)
  refine (same_calls8 (l1 := []) (l2 := [sA]) (l3 := [1, 1, 0]) _ HI9.out HM9.out.reads' (by decide) (by decide) (by decide)).mono ?_
  rintro e w10 ⟨rfl, hb10⟩
  have HC10 := Lib.hid (HC9.out.below hb10)
  have H10 := Lib.hid (H9.out.below hb10)
  clear hb10
  go_wp2_with (fail)
  refine (Cur.err_calls g cf _ HC10.out).mono ?_
  rintro e w11 ⟨rfl, hw11⟩
  subst hw11
  have te : (cf.e == 0) = true := by simpa using HAE
  go_wp2_with (fail)
  refine H10.out.len.mono ?_
  rintro e w12 ⟨rfl, hw12⟩
  subst hw12
  have tl : ((([sA] : List ByteArray).length : Int) == 1) = true := by decide
  go_wp2_with (fail)
  go_ret
  exact ⟨rfl, H10.out.bel⟩
end Go.Proofs.YtoigkneoaemcfaaDoor.Rec
