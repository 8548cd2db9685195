/- FieldLeast: all roads. -/
import Derived.Test.YtmglknchklgokaaDoorFLeastW
namespace Go.Proofs.YtmglknchklgokaaDoor.GY
open Go.RowKit Go.Lib Go.Proofs.YtmglknchklgokaaDoorW.PrintWords Go.Proofs.YtmglknchklgokaaDoorW.PrintLast Go.Proofs.YtmglknchklgokaaDoorW.PrintMore
set_option linter.unusedVariables false
set_option linter.unusedSimpArgs false
theorem setsF_len : ∀ (l : Sets) (I : List Int) (T : List ByteArray) {I2 : List Int} {T2 : List ByteArray}, setsF l I T = some (I2, T2) → I2.length = I.length ∧ T2.length = T.length
  | [], I, T, I2, T2, h => by
    rw [setsF] at h
    cases h
    exact ⟨rfl, rfl⟩
  | x :: l, I, T, I2, T2, h => by
    rw [setsF] at h
    split at h
    · split at h
      · have := setsF_len l _ _ h
        rwa [List.length_set] at this
      · cases h
    · split at h
      · have := setsF_len l _ _ h
        rwa [List.length_set] at this
      · cases h
section
variable (a0 : Int) (A1 : Option Addr) (c1 : Nat) (l1 : List Int) (A2 : Option Addr) (c2 : Nat) (l2 : List ByteArray) (A3 : Option Addr) (c3 : Nat) (l3 : List Int)
variable (b0 : Int) (B1 : Option Addr) (d1 : Nat) (m1 : List Int) (B2 : Option Addr) (d2 : Nat) (m2 : List ByteArray) (B3 : Option Addr) (d3 : Nat) (m3 : List Int) (q : Int) (w : World)
set_option maxHeartbeats 8000000 in
set_option maxRecDepth 100000 in
theorem least_great (k : Nat) (ht : ∀ w', Below w.heap.size w w' → Go.Lib.Utf8Tabs 0 1 w') (ha : In w A1 c1 l1 A2 c2 l2 A3 c3 l3) (hb : In w B1 d1 m1 B2 d2 m2 B3 d3 m3)
    (ga gb : Bool) (hga : dioramaref08_Great.f k a0 l1 l2 l3 = some ga) (hgb : dioramaref08_Great.f k b0 m1 m2 m3 = some gb) (haw : dioramalaw08_awake.f k = some true) (hg : ga = true ∨ gb = true) :
    Calls Tryd.prog 6 #[.agg #[.int .i64 a0, .slice A1 l1.length c1, .slice A2 l2.length c2, .slice A3 l3.length c3], .agg #[.int .i64 b0, .slice B1 m1.length d1, .slice B2 m2.length d2, .slice B3 m3.length d3], .int .i64 q] w fun e w' => e = .returned (.bool true) ∧ Below w.heap.size w w' := by
  have HT := Lib.hid ht
  have HA := Lib.hid ha
  have HB := Lib.hid hb
  have HG := Lib.hid hg
  clear ht ha hb hg
  go_enter Tryd.func6, Tryd.ntmps6
  go_wp2_with (fail)
  generalize hw1 : (w.alloc (.cells #[.int .i64 a0, .slice A1 l1.length c1, .slice A2 l2.length c2, .slice A3 l3.length c3] 26)).alloc (.cells #[.int .i64 b0, .slice B1 m1.length d1, .slice B2 m2.length d2, .slice B3 m3.length d3] 26) = w1
  have X1 : Hid (NBox w1 w.heap.size a0 A1 l1.length c1 A2 l2.length c2 A3 l3.length c3) := Lib.hid (by rw [← hw1]; exact blk_alloc (heap_alloc_new w _) _)
  have Y1 : Hid (NBox w1 (w.heap.size + 1) b0 B1 m1.length d1 B2 m2.length d2 B3 m3.length d3) := Lib.hid (by
    have := heap_alloc_new (w.alloc (.cells #[.int .i64 a0, .slice A1 l1.length c1, .slice A2 l2.length c2, .slice A3 l3.length c3] 26)) (.cells #[.int .i64 b0, .slice B1 m1.length d1, .slice B2 m2.length d2, .slice B3 m3.length d3] 26)
    rw [hw1, asize] at this
    exact this)
  have D1 : Hid (Below w.heap.size w w1) := Lib.hid (by rw [← hw1]; exact ((Below.refl _ w).alloc (Nat.le_refl _) _).alloc (by rw [asize]; omega) _)
  clear hw1
  generalize w.heap.size + 1 = g4 at Y1 ⊢
  refine (dioramalaw08_awake.calls k true _ (fun w' hb => HT.out w' (below_step D1.out hb)) haw).mono ?_
  rintro e w2 ⟨rfl, hb2⟩
  have X2 := Lib.hid (X1.out.below hb2)
  have Y2 := Lib.hid (Y1.out.below hb2)
  have D2 := Lib.hid (below_step D1.out hb2)
  obtain ⟨x0, x1, x2, x3⟩ := X2.out.cells
  clear hb2 X1 Y1 D1
  go_wp2_with (fail)
  have HA2 := HA.out.below D2.out
  refine (dioramaref08_Great.calls k a0 A1 c1 l1 A2 c2 l2 A3 c3 l3 ga w2 HA2.r1 HA2.e1 HA2.r2 HA2.e2 HA2.r3 HA2.e3 hga).mono ?_
  rintro e w3 ⟨rfl, hb3⟩
  have X3 := Lib.hid (X2.out.below hb3)
  have Y3 := Lib.hid (Y2.out.below hb3)
  have D3 := Lib.hid (below_step D2.out hb3)
  obtain ⟨y0, y1, y2, y3⟩ := Y3.out.cells
  clear hb3 X2 Y2 D2 HA2 x0 x1 x2 x3
  cases ga with
  | true =>
    go_wp2_with (fail)
    refine (dioramalaw08_awake.calls k true _ (fun w' hb => HT.out w' (below_step D3.out hb)) haw).mono ?_
    rintro e w4 ⟨rfl, hb4⟩
    have D4 := Lib.hid (below_step D3.out hb4)
    clear hb4
    go_wp2_with (fail)
    go_ret
    exact ⟨rfl, D4.out⟩
  | false =>
    have hgb1 : gb = true := HG.out.elim (fun h => by cases h) id
    subst hgb1
    go_wp2_with (fail)
    have HB3 := HB.out.below D3.out
    refine (dioramaref08_Great.calls k b0 B1 d1 m1 B2 d2 m2 B3 d3 m3 true w3 HB3.r1 HB3.e1 HB3.r2 HB3.e2 HB3.r3 HB3.e3 hgb).mono ?_
    rintro e w4 ⟨rfl, hb4⟩
    have D4 := Lib.hid (below_step D3.out hb4)
    clear hb4 HB3
    go_wp2_with (fail)
    refine (dioramalaw08_awake.calls k true _ (fun w' hb => HT.out w' (below_step D4.out hb)) haw).mono ?_
    rintro e w5 ⟨rfl, hb5⟩
    have D5 := Lib.hid (below_step D4.out hb5)
    clear hb5
    go_wp2_with (fail)
    go_ret
    exact ⟨rfl, D5.out⟩
theorem least_all (ht : ∀ w', Below w.heap.size w w' → Go.Lib.Utf8Tabs 0 1 w') (ha : In w A1 c1 l1 A2 c2 l2 A3 c3 l3) (hb : In w B1 d1 m1 B2 d2 m2 B3 d3 m3) :
    Calls Tryd.prog 6 #[.agg #[.int .i64 a0, .slice A1 l1.length c1, .slice A2 l2.length c2, .slice A3 l3.length c3], .agg #[.int .i64 b0, .slice B1 m1.length d1, .slice B2 m2.length d2, .slice B3 m3.length d3], .int .i64 q] w fun e w' => e = .returned (.bool true) ∧ Below w.heap.size w w' := by
  obtain ⟨ga, hga, hfa⟩ := great8 a0 l1 l2 l3
  obtain ⟨gb, hgb, hfb⟩ := great8 b0 m1 m2 m3
  have haw : dioramalaw08_awake.f 3000 = some true := awake_at 2940
  have hga' : dioramaref08_Great.f 3000 a0 l1 l2 l3 = some ga := hga 2897
  have hgb' : dioramaref08_Great.f 3000 b0 m1 m2 m3 = some gb := hgb 2897
  by_cases hg : ga = true ∨ gb = true
  · exact least_great a0 A1 c1 l1 A2 c2 l2 A3 c3 l3 b0 B1 d1 m1 B2 d2 m2 B3 d3 m3 q w 3000 ht ha hb ga gb hga' hgb' haw hg
  · obtain ⟨rfl, rfl⟩ : ga = false ∧ gb = false := by cases ga <;> cases gb <;> simp at hg ⊢
    have Fa := hfa rfl
    have Fb := hfb rfl
    have f1 := Fa.n1
    have f2 := Fa.n2
    by_cases hc : canB a0 l1 l2 b0 m1 m2 = true
    · obtain ⟨h0, h1, h2⟩ := of_decide_eq_true hc
      have hlen := diffs_len l1 l2 m1 m2
      refine least_walk a0 A1 c1 l1 A2 c2 l2 A3 c3 l3 b0 B1 d1 m1 B2 d2 m2 B3 d3 m3 q w 3000 ht ha hb hga' hgb' haw (diffs l1 l2 m1 m2) true (by rw [code_diff 3000 (by omega) a0 l1 l2 l3 b0 m1 m2 m3 f1 f2, if_pos hc]) (by omega) ?_
      intro n _ hn _
      obtain ⟨I, T, h3, h4⟩ := erase_diffs h1 h2 n hn
      have hl := setsF_len _ _ _ h3
      rw [List.eraseIdx_eq_take_drop_succ] at h3
      refine ⟨I, T, ?_, ?_⟩
      · rw [fset 3000 _ (by rw [List.length_append, List.length_take, List.length_drop]; omega) (by omega) a0 Fa, h3]
        rfl
      · rw [own8 3000 (by omega) a0 I T l3 b0 m1 m2 m3 (by omega) (by omega)]
        exact congrArg some (decide_eq_false (fun h => h4 ⟨h.2.1, h.2.2⟩))
    · refine least_walk a0 A1 c1 l1 A2 c2 l2 A3 c3 l3 b0 B1 d1 m1 B2 d2 m2 B3 d3 m3 q w 3000 ht ha hb hga' hgb' haw ([] : Sets) false (by rw [code_diff 3000 (by omega) a0 l1 l2 l3 b0 m1 m2 m3 f1 f2, if_neg hc]) (by simp) ?_
      intro n _ hn
      exact absurd hn (by simp)
end
end Go.Proofs.YtmglknchklgokaaDoor.GY
