/- dioramaref06.Get, called: it tells what strtab.Get tells. -/
import Derived.Test.YtmglknchklgokaaDoorTRef
import Derived.Test.YtmglknchklgokaaDoorDCurR
import Derived.Test.YtmglknchklgokaaDoorFU
namespace Go.Proofs.YtmglknchklgokaaDoor.Tab
open Go.RowKit Go.Lib Go.Proofs.YtmglknchklgokaaDoorW.PrintWords Go.Proofs.YtmglknchklgokaaDoorW.PrintLast Go.Proofs.YtmglknchklgokaaDoorW.PrintMore Go.Proofs.YtmglknchklgokaaDoor.B Go.Proofs.YtmglknchklgokaaDoor.Bd Go.Proofs.YtmglknchklgokaaDoor.GS
set_option linter.unusedVariables false
set_option linter.unusedSimpArgs false
theorem right_calls (s : ByteArray) (w : World) (hs : s.size ≤ 1000000) :
    Calls Tryd.prog 41 #[.string s] w fun e w' => e = .returned (.bool (!badS s)) ∧ Below w.heap.size w w' :=
  dioramaref05_Right.calls _ s _ w (U.right_f s hs (s.size + 43) (Nat.le_refl _))
/-- What the reference's Get ends with. -/
def RGetPost (b : ByteArray) (texts bytes : Int) (w : World) (e : Ending) (w' : World) : Prop := Below w.heap.size w w' ∧
  ∃ v, e = .returned (.tuple #[v, .int .i64 (getE badS b texts bytes).1]) ∧
    (if (getE badS b texts bytes).1 = 0 then w'.ownsRow w.heap.size 9 1 v (getE badS b texts bytes).2.length ((getE badS b texts bytes).2.map Value.string) else v = .slice none 0 0)
theorem post_err {b : ByteArray} {texts bytes : Int} {w w' : World} {q : Int} {l : List ByteArray} (hE : getE badS b texts bytes = (q, l)) (hq : q ≠ 0) (hb : Below w.heap.size w w') : RGetPost b texts bytes w (.returned (.tuple #[.slice none 0 0, .int .i64 q])) w' := by
  refine ⟨hb, .slice none 0 0, by rw [hE], ?_⟩
  rw [hE]
  rw [if_neg hq]
theorem post_ok {b : ByteArray} {texts bytes : Int} {w w' : World} {l : List ByteArray} {v : Value} (hE : getE badS b texts bytes = (0, l)) (ho : w'.ownsRow w.heap.size 9 1 v l.length (l.map Value.string)) (hb : Below w.heap.size w w') : RGetPost b texts bytes w (.returned (.tuple #[v, .int .i64 0])) w' := by
  refine ⟨hb, v, by rw [hE], ?_⟩
  rw [hE]
  simpa using ho
set_option maxHeartbeats 4000000 in
set_option maxRecDepth 100000 in
theorem rget_calls (b : ByteArray) (texts bytes : Int) (w : World) (hb : b.size ≤ 1000000) (t0 : -9223372036854775808 ≤ texts) (t1 : texts ≤ 9223372036854775807) (b0 : -9223372036854775808 ≤ bytes) (b1 : bytes ≤ 9223372036854775807) :
    Calls Tryd.prog 40 #[.string b, .int .i64 texts, .int .i64 bytes] w fun e w' => RGetPost b texts bytes w e w' := by
  obtain ⟨i0, hi0, hz0, hz1, hz2⟩ := info_parts (show (Tryd.prog.info? 9).map (fun i => (i.zero, i.size, i.bytes)) = some (some (.string ⟨#[]⟩), 1, 16) from by kernel_rfl)
  have hu1 : IntKind.u64.wrap (max texts 0) = max texts 0 := by rw [VM.u64_wrap]; omega
  go_enter Tryd.func40, Tryd.ntmps40
  go_upto_if 14 with (fail)
  go_cut [1] (fun v1 wx => v1 = .int .i64 (max texts 0) ∧ w = wx)
  case first =>
    by_cases h : texts < 0
    · have d1 : decide (texts < 0) = true := decide_eq_true h
      have e1 : max texts 0 = 0 := by omega
      rw [d1]
      go_wp2_with (fail)
      go_meet
      exact ⟨by rw [e1], rfl⟩
    · have d1 : decide (texts < 0) = false := decide_eq_false h
      have e1 : max texts 0 = texts := by omega
      rw [d1]
      go_wp2_with (fail)
      go_meet
      exact ⟨by rw [e1], rfl⟩
  case rest =>
  obtain ⟨rfl, rfl⟩ := hcut
  go_upto_if 16 with (fail)
  go_cut [2] (fun v1 wx => v1 = .int .i64 (max bytes 0) ∧ w = wx)
  case first =>
    by_cases h : bytes < 0
    · have d1 : decide (bytes < 0) = true := decide_eq_true h
      have e1 : max bytes 0 = 0 := by omega
      rw [d1]
      go_wp2_with (fail)
      go_meet
      exact ⟨by rw [e1], rfl⟩
    · have d1 : decide (bytes < 0) = false := decide_eq_false h
      have e1 : max bytes 0 = bytes := by omega
      rw [d1]
      go_wp2_with (fail)
      go_meet
      exact ⟨by rw [e1], rfl⟩
  case rest =>
  obtain ⟨rfl, rfl⟩ := hcut
  have hm0 : 0 ≤ max texts 0 ∧ 0 ≤ max bytes 0 ∧ max texts 0 ≤ 9223372036854775807 ∧ max bytes 0 ≤ 9223372036854775807 := by omega
  obtain ⟨m0, m1, m2, m3⟩ := hm0
  have HG := Lib.hid (show getL badS (max bytes 0) ((Cur.new b).uint (max texts 0)).1.toNat ((Cur.new b).uint (max texts 0)).2 [] = getC badS b texts bytes from rfl)
  generalize max texts 0 = mt at *
  generalize max bytes 0 = mb at *
  have hnew : ∀ W : World, Cur.IsM (W.alloc (.cells #[.string b, .int .i64 0, .int .i64 0] 103)) W.heap.size (Cur.new b) := fun W => Cur.IsM.new W b 0
  go_wp2_with (fail)
  try rw [hu1]
  refine (Cur.muint_calls w.heap.size (Cur.new b) mt _ (hnew w) (Cur.new_ok (by omega)) m0).mono ?_
  rintro e w3 ⟨rfl, hC3, hM3⟩
  have HB3 := Lib.hid ((((Mv.of_below (S := one w.heap.size) ((Below.refl _ w).alloc (Nat.le_refl _) _)).trans hM3 (fun k hk => .inl hk)).below (fun k hk => by obtain rfl : k = w.heap.size := hk; exact Nat.le_refl _)))
  have hr := Cur.uint_range (c := Cur.new b) mt
  have hok3 := Cur.uint_ok (c := Cur.new b) (Cur.new_ok (by omega)) mt
  have hbb3 : ((Cur.new b).uint mt).2.b = b := Cur.uint_b mt
  obtain ⟨n0, hn0⟩ := Int.eq_ofNat_of_zero_le hr.1
  have HC3 := Lib.hid hC3
  clear hC3 hM3 hnew hu1
  generalize ((Cur.new b).uint mt).2 = c3 at *
  rw [hn0] at HG hr ⊢
  rw [Int.toNat_natCast] at HG
  clear hn0
  go_wp2_with (fail)
  have hz3 := HB3.out.size
  have HO3 := Lib.hid (World.ownsRow_made (base := w.heap.size) (e := 9) (size := 1) w3 #[] 0 hz3 (Nat.zero_le _) rfl)
  have HC4 := Lib.hid (HC3.out.below ((Below.refl _ w3).alloc (Nat.le_refl _) (.cells #[] 9)))
  have HB4 := Lib.hid (HB3.out.alloc hz3 (.cells #[] 9))
  generalize w3.alloc (.cells #[] 9) = w4 at *
  go_loopg [10, 11, 12] n0 (fun kq v10 v11 v12 wr => ∃ (c : Cur.Cur) (l : List ByteArray) (x : Value), v11 = .int .i64 (l.length : Int) ∧ v12 = x ∧ l.length + kq = n0 ∧ total l ≤ l.length * 1000000 ∧ c.ok ∧ c.b = b ∧ Aside0 (Cur.IsM wr w.heap.size c) ∧ Aside0 (wr.ownsRow w.heap.size 9 1 v10 l.length (l.map Value.string)) ∧ Aside0 (v10.ownBlock ≠ some w.heap.size) ∧ Aside0 (Below w.heap.size w wr) ∧ Aside0 (getL badS mb kq c l = getC badS b texts bytes))
  case atStart => exact ⟨c3, [], _, rfl, rfl, by simp, by simp [total], hok3, hbb3, ⟨HC4.out⟩, ⟨HO3.out⟩, ⟨by simp only [Value.ownBlock, ne_eq, Option.some.injEq]; have := HC3.out.lt; omega⟩, ⟨HB4.out⟩, ⟨HG.out⟩⟩
  case round =>
    obtain ⟨c, l, x, rfl, rfl, hik, htl, hok, hcb, hC, hO, hNe, hW, hG⟩ := hrel
    obtain ⟨wo, hwo⟩ : ∃ z, z = wr := ⟨_, rfl⟩
    subst hwo
    have k2 := hC.out.c2
    have k1 := hC.out.c1
    obtain ⟨A, cap, hv, hcap, hCl⟩ := own_reads hO.out
    subst hv
    have HCl := Lib.hid hCl
    clear hCl
    by_cases hdone : gk = 0 ∨ c.e ≠ 0
    · have hgc : getC badS b texts bytes = (c, l) := by
        rcases hdone with h | h
        · subst h; exact hG.out.symm
        · rw [← hG.out, getL_err _ _ _ _ _ h]
      have HGC := Lib.hid hgc
      have hlt2 : (¬ (l.length : Int) < (n0 : Int)) ∨ ((l.length : Int) < (n0 : Int) ∧ (c.e == 0) = false) := by
        rcases hdone with h | h
        · exact .inl (by omega)
        · by_cases h2 : (l.length : Int) < (n0 : Int)
          · exact .inr ⟨h2, by simpa using h⟩
          · exact .inl h2
      clear hgc hdone
      rcases hlt2 with h4 | ⟨h4, t5⟩
      all_goals
        first
          | (have t4 : decide ((l.length : Int) < (n0 : Int)) = false := decide_eq_false h4; skip)
          | (have t4 : decide ((l.length : Int) < (n0 : Int)) = true := decide_eq_true h4; skip)
        by_cases he : c.e = 0
        · have te : (c.e != 0) = false := by simpa using he
          by_cases hl : c.left > 0
          · have hl1 : (c.at' : Int) < (b.size : Int) := by unfold Cur.Cur.left at hl; rw [hcb] at hl; omega
            have tl : decide ((c.at' : Int) < (b.size : Int)) = true := decide_eq_true hl1
            have HE := Lib.hid (getE_more HGC.out he hl)
            clear hl
            first
              | (exact absurd he (by simpa using t5))
              | (go_wp2_with (fail)
                 go_ret2
                 exact post_err HE.out (by decide) hW.out)
          · have hl1 : ¬ (c.at' : Int) < (b.size : Int) := by unfold Cur.Cur.left at hl; rw [hcb] at hl; omega
            have tl : decide ((c.at' : Int) < (b.size : Int)) = false := decide_eq_false hl1
            have HE := Lib.hid (getE_ok HGC.out he hl)
            clear hl
            first
              | (exact absurd he (by simpa using t5))
              | (go_wp2_with (fail)
                 go_ret2
                 exact post_ok HE.out hO.out hW.out)
        · have te : (c.e != 0) = true := bne_iff_ne.mpr he
          have HE := Lib.hid (getE_err HGC.out he)
          have HN := Lib.hid he
          clear he
          go_wp2_with (fail)
          go_region
          go_wp2_with (fail)
          go_ret2
          exact post_err HE.out HN.out hW.out.drew
    · have hk1 : ∃ ko, gk = ko + 1 := ⟨gk - 1, by omega⟩
      obtain ⟨ko, rfl⟩ := hk1
      have he : c.e = 0 := by omega
      have t4 : decide ((l.length : Int) < (n0 : Int)) = true := decide_eq_true (by omega)
      have t5 : (c.e == 0) = true := by simpa using he
      have hn16 : n0 ≤ 16777216 := by omega
      have htl2 : total l ≤ 1000000000000000 := by omega
      have hsub : IntKind.i64.wrap (mb - (total l : Int)) = mb - (total l : Int) := by rw [IntKind.wrap_i64]; omega
      clear hdone
      go_wp2_with (fail)
      refine (rbytes_calls _ cap l _ HCl.out hcap (by omega) htl2).mono ?_
      rintro e w5 ⟨rfl, hd5⟩
      have HM5 := Lib.hid (hC.out.drawn hd5)
      have HO5 := Lib.hid (row_mv hO.out (Mv.of_drawn (S := nil) hd5) (fun _ _ h => h))
      have HB5 := Lib.hid (below_step hW.out hd5.below)
      clear hd5 k2 k1
      go_wp2_with (fail)
      try rw [hsub]
      refine (Cur.mtext_calls w.heap.size c (mb - (total l : Int)) _ HM5.out hok (by omega) (by omega)).mono ?_
      rintro e w6 ⟨rfl, hC6, hM6⟩
      have HC6 := Lib.hid hC6
      have HO6 := Lib.hid (row_mv HO5.out hM6 (fun k hk hk2 => hNe.out (by rw [hk, show k = w.heap.size from hk2])))
      have HB6 := Lib.hid (((Mv.of_below (S := one w.heap.size) HB5.out).trans hM6 (fun k hk => .inl hk)).below (fun k hk => by obtain rfl : k = w.heap.size := hk; exact Nat.le_refl _))
      have hok6 := Cur.text_ok hok (mb - (total l : Int))
      have hb6 : (c.text (mb - (total l : Int))).2.b = b := (Cur.text_b _).trans hcb
      have hs6 := text_size c (mb - (total l : Int))
      rw [hcb] at hs6
      have HS := Lib.hid (show getL badS mb ko (getStep badS mb c l).1 (getStep badS mb c l).2 = getC badS b texts bytes from by rw [← hG.out, getL, if_neg (by simpa using he)])
      have HQ : Hid (getStep badS mb c l = if (c.text (mb - (total l : Int))).2.e ≠ 0 then ((c.text (mb - (total l : Int))).2, l) else if badS (c.text (mb - (total l : Int))).1 = true then ((c.text (mb - (total l : Int))).2.fail 11, l) else if (c.text (mb - (total l : Int))).1 ∈ l then ((c.text (mb - (total l : Int))).2.fail 17, l) else ((c.text (mb - (total l : Int))).2, l ++ [(c.text (mb - (total l : Int))).1])) := Lib.hid rfl
      clear hC6 hM6 hsub
      generalize (c.text (mb - (total l : Int))).2 = c6 at *
      generalize (c.text (mb - (total l : Int))).1 = s at *
      have k2 := HC6.out.c2
      by_cases he6 : c6.e = 0
      · have t6 : (c6.e != 0) = false := by simpa using he6
        go_wp2_with (fail)
        refine (right_calls s _ (by omega)).mono ?_
        rintro e w7 ⟨rfl, hb7⟩
        have HC7 := Lib.hid (HC6.out.below hb7)
        have HO7 := Lib.hid (row_mv HO6.out (Mv.of_below (S := nil) hb7) (fun _ _ h => h))
        have HB7 := Lib.hid (below_step HB6.out hb7)
        clear hb7 k2
        by_cases hbs : badS s = true
        · have t7 : (!badS s) = false := by rw [hbs]; rfl
          have HE := Lib.hid (getE_err (bad := badS) (b := b) (texts := texts) (bytes := bytes) (c := c6.fail 11) (l := l) (by have := HS.out; rw [HQ.out, if_neg (by simpa using he6), if_pos hbs] at this; rw [getL_err _ _ _ _ _ (by unfold Cur.Cur.fail; rw [if_pos he6]; simp)] at this; exact this.symm) (by unfold Cur.Cur.fail; rw [if_pos he6]; simp))
          have e11 : (c6.fail 11).e = 11 := by unfold Cur.Cur.fail; rw [if_pos he6]
          rw [t7]
          go_wp2_with (fail)
          go_ret2
          rw [e11] at HE
          exact post_err HE.out (by decide) HB7.out
        · have t7 : (!badS s) = true := by simpa using hbs
          rw [t7]
          obtain ⟨A7, cap7, hv7, hcap7, hC7⟩ := own_reads HO7.out
          cases hv7
          go_wp2_with (fail)
          refine (find_calls _ _ l s _ hC7 hcap (by omega)).mono ?_
          rintro e w8 ⟨rfl, hd8⟩
          have HC8 := Lib.hid (HC7.out.drawn hd8)
          have HO8 := Lib.hid (row_mv HO7.out (Mv.of_drawn (S := nil) hd8) (fun _ _ h => h))
          have HB8 := Lib.hid (below_step HB7.out hd8.below)
          have tf := findT_lt l s
          clear hd8 hC7
          by_cases hsl : s ∈ l
          · rw [decide_eq_true hsl] at tf
            have HE := Lib.hid (getE_err (bad := badS) (b := b) (texts := texts) (bytes := bytes) (c := c6.fail 17) (l := l) (by have := HS.out; rw [HQ.out, if_neg (by simpa using he6), if_neg hbs, if_pos hsl] at this; rw [getL_err _ _ _ _ _ (by unfold Cur.Cur.fail; rw [if_pos he6]; simp)] at this; exact this.symm) (by unfold Cur.Cur.fail; rw [if_pos he6]; simp))
            have e17 : (c6.fail 17).e = 17 := by unfold Cur.Cur.fail; rw [if_pos he6]
            go_wp2_with (fail)
            go_ret2
            rw [e17] at HE
            exact post_err HE.out (by decide) HB8.out
          · rw [decide_eq_false hsl] at tf
            have HNX := Lib.hid (show getL badS mb ko c6 (l ++ [s]) = getC badS b texts bytes from by have := HS.out; rw [HQ.out, if_neg (by simpa using he6), if_neg hbs, if_neg hsl] at this; exact this)
            go_wp2_with (first
              | (at_builtin; refine wpList_append_own_at _ rfl _ _ 23 rfl w.heap.size 9 i0 (.string ⟨#[]⟩) 1 16 Tryd.underlying23 hi0 hz0 hz1 hz2 rfl (by decide) (.slice A l.length cap) l.length (l.map Value.string) rfl (HO8.out.alloc _) ⟨w8.heap.size, 0, none⟩ 1 1 [.string s] rfl rfl (cell_one_new w8 _ _) (fun u hu => by rw [List.mem_singleton] at hu; subst hu; rfl) (by unfold maxLen; omega) (by omega) (by have := HB8.out.size; simp; omega) ?_; intro v2 w9 ho2 hg2 _ hl2; obtain ⟨a2, c2, rfl⟩ := row_slice ho2; have HO2 := Lib.hid ho2; have HG2 := Lib.hid hg2; have HL2 := Lib.hid hl2; clear ho2 hg2 hl2))
            go_roundg ko
            case measure => omega
            case rel => exact ⟨c6, l ++ [s], _, by rw [List.length_append, List.length_singleton]; first | rfl | (congr 1; omega), rfl, by rw [List.length_append, List.length_singleton]; omega, by rw [total_snoc, List.length_append, List.length_singleton]; omega, hok6, hb6, ⟨(HC8.out.below ((Below.refl _ w8).alloc (Nat.le_refl _) _)).mv (mv_grown HG2.out) (fun h => hNe.out h)⟩, ⟨by rw [List.length_append, List.length_singleton, List.map_append]; exact HO2.out⟩, ⟨by
              rcases HL2.out with h1 | h1
              · rw [h1]; exact hNe.out
              · rw [h1]; simp only [ne_eq, Option.some.injEq, World.size_alloc]; have := HC8.out.lt; omega⟩, ⟨Kw.grown_below (below_alloc HB8.out _) HG2.out (fun g hg => (hO.out.lt g hg).1)⟩, ⟨HNX.out⟩⟩
      · have t6 : (c6.e != 0) = true := bne_iff_ne.mpr he6
        have HE := Lib.hid (getE_err (bad := badS) (b := b) (texts := texts) (bytes := bytes) (c := c6) (l := l) (by have := HS.out; rw [HQ.out, if_pos (by simpa using he6), getL_err _ _ _ _ _ he6] at this; exact this.symm) he6)
        have HN := Lib.hid he6
        clear he6
        go_wp2_with (fail)
        go_region
        go_wp2_with (fail)
        go_ret2
        exact post_err HE.out HN.out HB6.out.drew
end Go.Proofs.YtmglknchklgokaaDoor.Tab
