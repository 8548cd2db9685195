-- Printed by a program of the session (wip/gen/tprint.py, over a turned copy of the kit's print): Lean checks it.
import Derived.Test.YtlfjjapndlkamaaCtGHx0
namespace Go.Proofs.Ytlfjjapndlkamaa.GH
open Go.RowKit Go.Proofs.YtlfjjapndlkamaaW.PrintWords Go.Proofs.YtlfjjapndlkamaaW.PrintLast Go.Proofs.YtlfjjapndlkamaaW.PrintMore
attribute [local go_sem] max2_int min2_int max_two min_two max_three min_three max_four min_four   -- for this text's walks alone
set_option linter.unusedVariables false
set_option linter.unusedSimpArgs false

/-! ### dioramaref08_Diff: function 47 -/
mutual
def dioramaref08_Diff.j0 : Nat → Bool → Int → List Int → List ByteArray → List Int → Int → List Int → List ByteArray → List Int → Option ((List (S73)) × Bool)
 | 0, _, _, _, _, _, _, _, _, _ => none
 | k + 1, x31, x180000, x180001, x180002, x180003, x181000, x181001, x181002, x181003 => if x31 = true then (some (([] : List (S73)), false)) else (dioramaref08_Diff.l0 k (([] : List (S73))) 0 x180000 x180001 x180002 x180003 x181000 x181001 x181002 x181003)
def dioramaref08_Diff.l0 : Nat → List (S73) → Int → Int → List Int → List ByteArray → List Int → Int → List Int → List ByteArray → List Int → Option ((List (S73)) × Bool)
 | 0, _, _, _, _, _, _, _, _, _, _ => none
 | k + 1, x6, x7, x180000, x180001, x180002, x180003, x181000, x181001, x181002, x181003 => if x7 < (x180001.length : Int) then (if 0 ≤ x7 then (if x7 < (x181001.length : Int) then (if (rd x180001 x7) = (rd x181001 x7) then (dioramaref08_Diff.l0 k x6 (wrap64 (x7 + 1)) x180000 x180001 x180002 x180003 x181000 x181001 x181002 x181003) else (if x6.length < 3518437208883 then (dioramaref08_Diff.l0 k (x6 ++ [(⟨false, x7, rd x181001 x7, (⟨#[]⟩ : ByteArray)⟩ : S73)]) (wrap64 (x7 + 1)) x180000 x180001 x180002 x180003 x181000 x181001 x181002 x181003) else (none))) else (none)) else (none)) else (dioramaref08_Diff.l1 k x6 0 x180000 x180001 x180002 x180003 x181000 x181001 x181002 x181003)
def dioramaref08_Diff.l1 : Nat → List (S73) → Int → Int → List Int → List ByteArray → List Int → Int → List Int → List ByteArray → List Int → Option ((List (S73)) × Bool)
 | 0, _, _, _, _, _, _, _, _, _, _ => none
 | k + 1, x6, x8, x180000, x180001, x180002, x180003, x181000, x181001, x181002, x181003 => if x8 < (x180002.length : Int) then (if 0 ≤ x8 then (if x8 < (x181002.length : Int) then (if (rdOf ByteArray.empty x180002 x8).toList = (rdOf ByteArray.empty x181002 x8).toList then (dioramaref08_Diff.l1 k x6 (wrap64 (x8 + 1)) x180000 x180001 x180002 x180003 x181000 x181001 x181002 x181003) else (if x6.length < 3518437208883 then (dioramaref08_Diff.l1 k (x6 ++ [(⟨true, x8, 0, rdOf ByteArray.empty x181002 x8⟩ : S73)]) (wrap64 (x8 + 1)) x180000 x180001 x180002 x180003 x181000 x181001 x181002 x181003) else (none))) else (none)) else (none)) else (some (x6, true))
end
def dioramaref08_Diff.f (k : Nat) (a0_0 : Int) (l0_1 : List Int) (l0_2 : List ByteArray) (l0_3 : List Int) (a1_0 : Int) (l1_1 : List Int) (l1_2 : List ByteArray) (l1_3 : List Int) : Option ((List (S73)) × Bool) := if a0_0 = a1_0 then (if (l0_1.length : Int) = (l1_1.length : Int) then (dioramaref08_Diff.j0 k ((l0_2.length : Int) != (l1_2.length : Int)) a0_0 l0_1 l0_2 l0_3 a1_0 l1_1 l1_2 l1_3) else (dioramaref08_Diff.j0 k true a0_0 l0_1 l0_2 l0_3 a1_0 l1_1 l1_2 l1_3)) else (dioramaref08_Diff.j0 k true a0_0 l0_1 l0_2 l0_3 a1_0 l1_1 l1_2 l1_3)
set_option maxHeartbeats 8000000 in
set_option maxRecDepth 100000 in
theorem dioramaref08_Diff.calls (k : Nat) (a0_0 : Int) (A0_1 : Option Addr) (c0_1 : Nat) (l0_1 : List Int) (A0_2 : Option Addr) (c0_2 : Nat) (l0_2 : List ByteArray) (A0_3 : Option Addr) (c0_3 : Nat) (l0_3 : List Int) (a1_0 : Int) (A1_1 : Option Addr) (c1_1 : Nat) (l1_1 : List Int) (A1_2 : Option Addr) (c1_2 : Nat) (l1_2 : List ByteArray) (A1_3 : Option Addr) (c1_3 : Nat) (l1_3 : List Int) (r1 : List (S73)) (r2 : Bool) (w : World) (hr0_1 : Kd.C (Kd.int .i64) w A0_1 l0_1.length l0_1) (hc0_1 : l0_1.length ≤ c0_1) (hr0_2 : Kd.C Kd.string w A0_2 l0_2.length l0_2) (hc0_2 : l0_2.length ≤ c0_2) (hr0_3 : Kd.C (Kd.int .i64) w A0_3 l0_3.length l0_3) (hc0_3 : l0_3.length ≤ c0_3) (hr1_1 : Kd.C (Kd.int .i64) w A1_1 l1_1.length l1_1) (hc1_1 : l1_1.length ≤ c1_1) (hr1_2 : Kd.C Kd.string w A1_2 l1_2.length l1_2) (hc1_2 : l1_2.length ≤ c1_2) (hr1_3 : Kd.C (Kd.int .i64) w A1_3 l1_3.length l1_3) (hc1_3 : l1_3.length ≤ c1_3) (h : dioramaref08_Diff.f k a0_0 l0_1 l0_2 l0_3 a1_0 l1_1 l1_2 l1_3 = some (r1, r2)) :
  Calls Try.prog 47 #[.agg #[.int .i64 a0_0, .slice A0_1 l0_1.length c0_1, .slice A0_2 l0_2.length c0_2, .slice A0_3 l0_3.length c0_3], .agg #[.int .i64 a1_0, .slice A1_1 l1_1.length c1_1, .slice A1_2 l1_2.length c1_2, .slice A1_3 l1_3.length c1_3]] w fun e w' => ∃ v0_ : Value, e = .returned (.tuple #[v0_, .bool r2]) ∧ Kd.R k73 73 w' w.heap.size (fun _ => True) v0_ r1 ∧ Below w.heap.size w w' := by
 have hu40 := Try.underlying40; have hu73 := Try.underlying73; have HR0_1 := AM hr0_1; have HC0_1 := AM hc0_1; clear hr0_1 hc0_1; have HR0_2 := AM hr0_2; have HC0_2 := AM hc0_2; clear hr0_2 hc0_2; have HR0_3 := AM hr0_3; have HC0_3 := AM hc0_3; clear hr0_3 hc0_3; have HR1_1 := AM hr1_1; have HC1_1 := AM hc1_1; clear hr1_1 hc1_1; have HR1_2 := AM hr1_2; have HC1_2 := AM hc1_2; clear hr1_2 hc1_2; have HR1_3 := AM hr1_3; have HC1_3 := AM hc1_3; clear hr1_3 hc1_3; have HB := AM (Below.refl w.heap.size w); have H : (if a0_0 = a1_0 then (if (l0_1.length : Int) = (l1_1.length : Int) then (dioramaref08_Diff.j0 k ((l0_2.length : Int) != (l1_2.length : Int)) a0_0 l0_1 l0_2 l0_3 a1_0 l1_1 l1_2 l1_3) else (dioramaref08_Diff.j0 k true a0_0 l0_1 l0_2 l0_3 a1_0 l1_1 l1_2 l1_3)) else (dioramaref08_Diff.j0 k true a0_0 l0_1 l0_2 l0_3 a1_0 l1_1 l1_2 l1_3)) = some (r1, r2) := h; clear h; have HC3 := AM H; clear H; go_enter Try.func47, Try.ntmps47
 go_upto_region 1 with (first | ((with_reducible refine gate_dst (N := 2) rfl ?_); refine box_event ?hg (N := 2) ?hd (cs := #[.int .i64 a0_0, .slice A0_1 l0_1.length c0_1, .slice A0_2 l0_2.length c0_2, .slice A0_3 l0_3.length c0_3]) (t := 40) ?hr ?_; (case hd => rfl); (case hg => rfl); (case hr => first | (go_simp; done) | (go_simp; rfl)); intro gb179 hg w4 hbox hb; have BK179 := AM (hbox); have GW179 := GW HB hg; have GE179 := GW HB hg; replace HB := BS HB hb; clear hb hbox hg) | ((with_reducible refine gate_dst (N := 3) rfl ?_); refine box_event ?hg (N := 3) ?hd (cs := #[.int .i64 a1_0, .slice A1_1 l1_1.length c1_1, .slice A1_2 l1_2.length c1_2, .slice A1_3 l1_3.length c1_3]) (t := 40) ?hr ?_; (case hd => rfl); (case hg => rfl); (case hr => first | (go_simp; done) | (go_simp; rfl)); intro gb180 hg w5 hbox hb; have BK180 := AM (hbox); have GW180 := GW HB hg; have GE180 := GW HB hg; replace HB := BS HB hb; have NB179_180 := NL BK179 hg; have NB180_179 := NG BK179 hg; replace BK179 := BE BK179 hb; clear hb hbox hg))
 repeat (go_quiet (first | ((with_reducible refine gate_dst (N := 2) rfl ?_); refine box_event ?hg (N := 2) ?hd (cs := #[.int .i64 a0_0, .slice A0_1 l0_1.length c0_1, .slice A0_2 l0_2.length c0_2, .slice A0_3 l0_3.length c0_3]) (t := 40) ?hr ?_; (case hd => rfl); (case hg => rfl); (case hr => first | (go_simp; done) | (go_simp; rfl)); intro gb179 hg w4 hbox hb; have BK179 := AM (hbox); have GW179 := GW HB hg; have GE179 := GW HB hg; replace HB := BS HB hb; clear hb hbox hg) | ((with_reducible refine gate_dst (N := 3) rfl ?_); refine box_event ?hg (N := 3) ?hd (cs := #[.int .i64 a1_0, .slice A1_1 l1_1.length c1_1, .slice A1_2 l1_2.length c1_2, .slice A1_3 l1_3.length c1_3]) (t := 40) ?hr ?_; (case hd => rfl); (case hg => rfl); (case hr => first | (go_simp; done) | (go_simp; rfl)); intro gb180 hg w5 hbox hb; have BK180 := AM (hbox); have GW180 := GW HB hg; have GE180 := GW HB hg; replace HB := BS HB hb; have NB179_180 := NL BK179 hg; have NB180_179 := NG BK179 hg; replace BK179 := BE BK179 hb; clear hb hbox hg)); go_upto_region 1 with (first | ((with_reducible refine gate_dst (N := 2) rfl ?_); refine box_event ?hg (N := 2) ?hd (cs := #[.int .i64 a0_0, .slice A0_1 l0_1.length c0_1, .slice A0_2 l0_2.length c0_2, .slice A0_3 l0_3.length c0_3]) (t := 40) ?hr ?_; (case hd => rfl); (case hg => rfl); (case hr => first | (go_simp; done) | (go_simp; rfl)); intro gb179 hg w4 hbox hb; have BK179 := AM (hbox); have GW179 := GW HB hg; have GE179 := GW HB hg; replace HB := BS HB hb; clear hb hbox hg) | ((with_reducible refine gate_dst (N := 3) rfl ?_); refine box_event ?hg (N := 3) ?hd (cs := #[.int .i64 a1_0, .slice A1_1 l1_1.length c1_1, .slice A1_2 l1_2.length c1_2, .slice A1_3 l1_3.length c1_3]) (t := 40) ?hr ?_; (case hd => rfl); (case hg => rfl); (case hr => first | (go_simp; done) | (go_simp; rfl)); intro gb180 hg w5 hbox hb; have BK180 := AM (hbox); have GW180 := GW HB hg; have GE180 := GW HB hg; replace HB := BS HB hb; have NB179_180 := NL BK179 hg; have NB180_179 := NG BK179 hg; replace BK179 := BE BK179 hb; clear hb hbox hg)))
 (try simp only [Act.put, List.setIfInBounds_toArray, List.set_cons_zero, List.set_cons_succ])
 go_cut [31] (fun v31 wc => ∃ (kq : Nat) (x31_2 : Bool), v31 = .bool x31_2 ∧ Aside0 (dioramaref08_Diff.j0 kq x31_2 a0_0 l0_1 l0_2 l0_3 a1_0 l1_1 l1_2 l1_3 = some (r1, r2)) ∧ Aside0 (kq ≤ k) ∧ Aside0 (wc.heap[gb179]? = some (.cells #[.int .i64 a0_0, (.slice A0_1 l0_1.length c0_1), (.slice A0_2 l0_2.length c0_2), (.slice A0_3 l0_3.length c0_3)] 40 (0, 0))) ∧ Aside0 (wc.heap[gb180]? = some (.cells #[.int .i64 a1_0, (.slice A1_1 l1_1.length c1_1), (.slice A1_2 l1_2.length c1_2), (.slice A1_3 l1_3.length c1_3)] 40 (0, 0))) ∧ Aside0 (Below w.heap.size w wc))
 case first =>
  have H := HC3.out; clear HC3; by_cases c6 : a0_0 = a1_0
  ·rw [if_pos c6] at H; have c6b0 : (a0_0 == a1_0) = true := beq_iff_eq.mpr c6; have c6b1 : (a0_0 != a1_0) = false := bne_eq_false_iff_eq.mpr c6; clear c6; (first | rw [c6b0] | (simp only [i64_w, i32_w]; rw [c6b0]) | skip)
   by_cases c7 : (l0_1.length : Int) = (l1_1.length : Int)
   ·rw [if_pos c7] at H; have c7b0 : ((l0_1.length : Int) == (l1_1.length : Int)) = true := beq_iff_eq.mpr c7; have c7b1 : ((l0_1.length : Int) != (l1_1.length : Int)) = false := bne_eq_false_iff_eq.mpr c7; have c7b2 : (l0_1.length == l1_1.length) = true := by first | simpa using c7 | (simp at c7 ⊢; omega)
    clear c7; have H' := AM H; clear H; have hnb8 := NB179_180.out; have hnc8 := NB180_179.out; have hcz9_0 := BC BK179 0 (.int .i64 a0_0) rfl; have hcz9_1 := BC BK179 1 (.slice A0_1 l0_1.length c0_1) rfl; have hcz9_2 := BC BK179 2 (.slice A0_2 l0_2.length c0_2) rfl; have hcz9_3 := BC BK179 3 (.slice A0_3 l0_3.length c0_3) rfl; have hfz9_0 := BF BK179 0; have hfz9_1 := BF BK179 1; have hfz9_2 := BF BK179 2; have hfz9_3 := BF BK179 3; have hcz10_0 := BC BK180 0 (.int .i64 a1_0) rfl; have hcz10_1 := BC BK180 1 (.slice A1_1 l1_1.length c1_1) rfl; have hcz10_2 := BC BK180 2 (.slice A1_2 l1_2.length c1_2) rfl; have hcz10_3 := BC BK180 3 (.slice A1_3 l1_3.length c1_3) rfl; have hfz10_0 := BF BK180 0; have hfz10_1 := BF BK180 1; have hfz10_2 := BF BK180 2; have hfz10_3 := BF BK180 3; go_wp2
    repeat (go_quiet (fail); try go_wp2)
    go_meet
    case rel => exact ⟨_, (((l0_2.length : Int) != (l1_2.length : Int))), (by first | rfl | (simp; done) | (simp [*]; done)), H', ⟨by first | omega | exact Nat.le_refl _⟩, ⟨BL BK179⟩, ⟨BL BK180⟩, ⟨BB HB⟩⟩
   ·rw [if_neg c7] at H; have c7b0 : ((l0_1.length : Int) == (l1_1.length : Int)) = false := beq_eq_false_iff_ne.mpr c7; have c7b1 : ((l0_1.length : Int) != (l1_1.length : Int)) = true := bne_iff_ne.mpr c7; have c7b2 : (l0_1.length == l1_1.length) = false := by first | simpa using c7 | (simp at c7 ⊢; omega)
    have H' := AM H; clear H; have hnb11 := NB179_180.out; have hnc11 := NB180_179.out; have hcz12_0 := BC BK179 0 (.int .i64 a0_0) rfl; have hcz12_1 := BC BK179 1 (.slice A0_1 l0_1.length c0_1) rfl; have hcz12_2 := BC BK179 2 (.slice A0_2 l0_2.length c0_2) rfl; have hcz12_3 := BC BK179 3 (.slice A0_3 l0_3.length c0_3) rfl; have hfz12_0 := BF BK179 0; have hfz12_1 := BF BK179 1; have hfz12_2 := BF BK179 2; have hfz12_3 := BF BK179 3; have hcz13_0 := BC BK180 0 (.int .i64 a1_0) rfl; have hcz13_1 := BC BK180 1 (.slice A1_1 l1_1.length c1_1) rfl; have hcz13_2 := BC BK180 2 (.slice A1_2 l1_2.length c1_2) rfl; have hcz13_3 := BC BK180 3 (.slice A1_3 l1_3.length c1_3) rfl; have hfz13_0 := BF BK180 0; have hfz13_1 := BF BK180 1; have hfz13_2 := BF BK180 2; have hfz13_3 := BF BK180 3; go_wp2
    repeat (go_quiet (fail); try go_wp2)
    go_meet
    case rel => exact ⟨_, (true), (by first | rfl | (simp; done) | (simp [*]; done)), H', ⟨by first | omega | exact Nat.le_refl _⟩, ⟨BL BK179⟩, ⟨BL BK180⟩, ⟨BB HB⟩⟩
  ·rw [if_neg c6] at H; have c6b0 : (a0_0 == a1_0) = false := beq_eq_false_iff_ne.mpr c6; have c6b1 : (a0_0 != a1_0) = true := bne_iff_ne.mpr c6; (first | rw [c6b0] | (simp only [i64_w, i32_w]; rw [c6b0]) | skip)
   have H' := AM H; clear H; have hnb14 := NB179_180.out; have hnc14 := NB180_179.out; have hcz15_0 := BC BK179 0 (.int .i64 a0_0) rfl; have hcz15_1 := BC BK179 1 (.slice A0_1 l0_1.length c0_1) rfl; have hcz15_2 := BC BK179 2 (.slice A0_2 l0_2.length c0_2) rfl; have hcz15_3 := BC BK179 3 (.slice A0_3 l0_3.length c0_3) rfl; have hfz15_0 := BF BK179 0; have hfz15_1 := BF BK179 1; have hfz15_2 := BF BK179 2; have hfz15_3 := BF BK179 3; have hcz16_0 := BC BK180 0 (.int .i64 a1_0) rfl; have hcz16_1 := BC BK180 1 (.slice A1_1 l1_1.length c1_1) rfl; have hcz16_2 := BC BK180 2 (.slice A1_2 l1_2.length c1_2) rfl; have hcz16_3 := BC BK180 3 (.slice A1_3 l1_3.length c1_3) rfl; have hfz16_0 := BF BK180 0; have hfz16_1 := BF BK180 1; have hfz16_2 := BF BK180 2; have hfz16_3 := BF BK180 3; go_wp2
   repeat (go_quiet (fail); try go_wp2)
   go_meet
   case rel => exact ⟨_, (true), (by first | rfl | (simp; done) | (simp [*]; done)), H', ⟨by first | omega | exact Nat.le_refl _⟩, ⟨BL BK179⟩, ⟨BL BK180⟩, ⟨BB HB⟩⟩
 case rest =>
  clear HC3; try clear c1
  try clear p2
  try clear c4
  try clear c6
  try clear c6b0
  try clear c6b1
  try clear c7
  try clear c7b0
  try clear c7b1
  try clear c7b2
  try clear c8
  try clear c11
  try clear c14
  try clear hcz10_0
  try clear hcz10_1
  try clear hcz10_2
  try clear hcz10_3
  try clear hcz12_0
  try clear hcz12_1
  try clear hcz12_2
  try clear hcz12_3
  try clear hcz13_0
  try clear hcz13_1
  try clear hcz13_2
  try clear hcz13_3
  try clear hcz15_0
  try clear hcz15_1
  try clear hcz15_2
  try clear hcz15_3
  try clear hcz16_0
  try clear hcz16_1
  try clear hcz16_2
  try clear hcz16_3
  try clear hcz9_0
  try clear hcz9_1
  try clear hcz9_2
  try clear hcz9_3
  try clear hfz10_0
  try clear hfz10_1
  try clear hfz10_2
  try clear hfz10_3
  try clear hfz12_0
  try clear hfz12_1
  try clear hfz12_2
  try clear hfz12_3
  try clear hfz13_0
  try clear hfz13_1
  try clear hfz13_2
  try clear hfz13_3
  try clear hfz15_0
  try clear hfz15_1
  try clear hfz15_2
  try clear hfz15_3
  try clear hfz16_0
  try clear hfz16_1
  try clear hfz16_2
  try clear hfz16_3
  try clear hfz9_0
  try clear hfz9_1
  try clear hfz9_2
  try clear hfz9_3
  obtain ⟨kq, x31_2, rfl, HA, HJ2, BK179, BK180, HB⟩ := hcut; cases kq with
  | zero => exact absurd HA.out (by simp [dioramaref08_Diff.j0])
  | succ kj2 =>
   have H := HA.out; clear HA; simp only [dioramaref08_Diff.j0] at H
   by_cases c17 : x31_2 = true
   ·subst c17; have H1 : (some (([] : List (S73)), false)) = some (r1, r2) := by rw [if_pos rfl] at H; exact H
    clear H; have H := H1; clear H1; simp only [Option.some.injEq, Prod.mk.injEq] at H
    obtain ⟨rfl, rfl⟩ := H; go_wp2
    repeat (go_quiet (fail); try go_wp2)
    go_ret2
    exact ⟨_, by first | rfl | (simp [errW_none, errW_some] <;> rfl) | (simp [*, errW_none, errW_some] <;> rfl), by first | exact Kd.R_nil _ _ _ _ _ | exact Kd.N_nil _ _ _ _ _ | exact Kd.V_nil _ _ _ _ _ | exact Kd.Q_nil _ _ _ _ _ | exact Kd.S_nil _ _ _ _ _, BB HB⟩
   ·replace c17 := Bool.eq_false_iff.mpr c17; subst c17; have H1 : (dioramaref08_Diff.l0 kj2 (([] : List (S73))) 0 a0_0 l0_1 l0_2 l0_3 a1_0 l1_1 l1_2 l1_3) = some (r1, r2) := by rw [if_neg (show ¬ (false = true) by decide)] at H; exact H
    clear H; have H := H1; clear H1; obtain ⟨y181, hy181⟩ : ∃ y_ : List (S73), y_ = (([] : List (S73))) := ⟨_, rfl⟩; replace H : (dioramaref08_Diff.l0 kj2 y181 0 a0_0 l0_1 l0_2 l0_3 a1_0 l1_1 l1_2 l1_3) = some (r1, r2) := by first | (rw [hy181]; with_reducible exact H) | (have H2_ := (Option.bind_some _ _).symm.trans H; rw [hy181]; with_reducible exact H2_) | (have H2_ := (Option.bind_some _ _).symm.trans H; with_reducible exact H2_) | with_reducible exact H | (rw [hy181]; exact H) | exact H
    have Ny181 := AM hy181; clear hy181; have H' := AM H; clear H; go_wp2_with (first | ((with_reducible refine gate_dst (N := 32) rfl ?_); refine Kd.R_lit k73 _ 73 ?hg (N := 32) ?hd (xs := ([] : List (S73))) (inner := []) (ok := fun _ => True) (okp := fun _ => True) ?hr ?hp (fun _ hk => hk) trivial (Below.refl _ _) (Nat.le_refl _) (by simp) ?_; (case hd => rfl); (case hg => rfl); (case hr => first | (go_simp; done) | (go_simp; rfl)); (case hp => exact (Reps.none _ _)); intro v182 w18 ho19 hb hg_ hnew_; clear hg_ hnew_; (first | rw [← Ny181.out] at ho19 | (simp only [Int.reduceToNat] at ho19; rw [← Ny181.out] at ho19)); have HO183 := AM (Kd.R_lower ho19 (below_size (BB HB))); replace BK179 := BE BK179 hb; replace BK180 := BE BK180 hb; replace HB := BS HB hb; clear hb ho19))
    repeat (go_quiet (first | ((with_reducible refine gate_dst (N := 32) rfl ?_); refine Kd.R_lit k73 _ 73 ?hg (N := 32) ?hd (xs := ([] : List (S73))) (inner := []) (ok := fun _ => True) (okp := fun _ => True) ?hr ?hp (fun _ hk => hk) trivial (Below.refl _ _) (Nat.le_refl _) (by simp) ?_; (case hd => rfl); (case hg => rfl); (case hr => first | (go_simp; done) | (go_simp; rfl)); (case hp => exact (Reps.none _ _)); intro v182 w18 ho19 hb hg_ hnew_; clear hg_ hnew_; (first | rw [← Ny181.out] at ho19 | (simp only [Int.reduceToNat] at ho19; rw [← Ny181.out] at ho19)); have HO183 := AM (Kd.R_lower ho19 (below_size (BB HB))); replace BK179 := BE BK179 hb; replace BK180 := BE BK180 hb; replace HB := BS HB hb; clear hb ho19)); try go_wp2_with (first | ((with_reducible refine gate_dst (N := 32) rfl ?_); refine Kd.R_lit k73 _ 73 ?hg (N := 32) ?hd (xs := ([] : List (S73))) (inner := []) (ok := fun _ => True) (okp := fun _ => True) ?hr ?hp (fun _ hk => hk) trivial (Below.refl _ _) (Nat.le_refl _) (by simp) ?_; (case hd => rfl); (case hg => rfl); (case hr => first | (go_simp; done) | (go_simp; rfl)); (case hp => exact (Reps.none _ _)); intro v182 w18 ho19 hb hg_ hnew_; clear hg_ hnew_; (first | rw [← Ny181.out] at ho19 | (simp only [Int.reduceToNat] at ho19; rw [← Ny181.out] at ho19)); have HO183 := AM (Kd.R_lower ho19 (below_size (BB HB))); replace BK179 := BE BK179 hb; replace BK180 := BE BK180 hb; replace HB := BS HB hb; clear hb ho19)))
    go_loopg [6, 7] kj2 (fun kq v6 v7 w' => ∃ (x6_2 : List (S73)) (x7_2 : Int), v7 = .int .i64 x7_2 ∧ Aside0 (dioramaref08_Diff.l0 kq x6_2 x7_2 a0_0 l0_1 l0_2 l0_3 a1_0 l1_1 l1_2 l1_3 = some (r1, r2)) ∧ Aside0 (kq ≤ kj2) ∧ Aside0 (Kd.R k73 73 w' w.heap.size (fun _ => True) v6 x6_2) ∧ Aside0 (w'.heap[gb179]? = some (.cells #[.int .i64 a0_0, (.slice A0_1 l0_1.length c0_1), (.slice A0_2 l0_2.length c0_2), (.slice A0_3 l0_3.length c0_3)] 40 (0, 0))) ∧ Aside0 (w'.heap[gb180]? = some (.cells #[.int .i64 a1_0, (.slice A1_1 l1_1.length c1_1), (.slice A1_2 l1_2.length c1_2), (.slice A1_3 l1_3.length c1_3)] 40 (0, 0))) ∧ Aside0 (Below w.heap.size w w'))
    case atStart => exact ⟨(y181), (0), (by first | rfl | (simp; done) | (simp [*]; done)), H', ⟨Nat.le_refl _⟩, ⟨by (with_reducible repeat (first | apply Kd.R_alloc | apply Kd.R_drewN | apply Kd.R_drew)); exact HO183.out⟩, ⟨BL BK179⟩, ⟨BL BK180⟩, ⟨BB HB⟩⟩
    case round =>
     clear H'; try clear c1
     try clear p2
     try clear c4
     try clear c6
     try clear c6b0
     try clear c6b1
     try clear c7
     try clear c7b0
     try clear c7b1
     try clear c7b2
     try clear c8
     try clear c11
     try clear c14
     try clear c17
     try clear hcz10_0
     try clear hcz10_1
     try clear hcz10_2
     try clear hcz10_3
     try clear hcz12_0
     try clear hcz12_1
     try clear hcz12_2
     try clear hcz12_3
     try clear hcz13_0
     try clear hcz13_1
     try clear hcz13_2
     try clear hcz13_3
     try clear hcz15_0
     try clear hcz15_1
     try clear hcz15_2
     try clear hcz15_3
     try clear hcz16_0
     try clear hcz16_1
     try clear hcz16_2
     try clear hcz16_3
     try clear hcz9_0
     try clear hcz9_1
     try clear hcz9_2
     try clear hcz9_3
     try clear hfz10_0
     try clear hfz10_1
     try clear hfz10_2
     try clear hfz10_3
     try clear hfz12_0
     try clear hfz12_1
     try clear hfz12_2
     try clear hfz12_3
     try clear hfz13_0
     try clear hfz13_1
     try clear hfz13_2
     try clear hfz13_3
     try clear hfz15_0
     try clear hfz15_1
     try clear hfz15_2
     try clear hfz15_3
     try clear hfz16_0
     try clear hfz16_1
     try clear hfz16_2
     try clear hfz16_3
     try clear hfz9_0
     try clear hfz9_1
     try clear hfz9_2
     try clear hfz9_3
     try clear p2
     obtain ⟨x6_2, x7_2, rfl, HA, HK2, HO_6, BK179, BK180, HB⟩ := hrel; cases gk with
     | zero => exact absurd HA.out (by simp [dioramaref08_Diff.l0])
     | succ k2 =>
      have H := HA.out; clear HA; simp only [dioramaref08_Diff.l0] at H
      by_cases c20 : x7_2 < (l0_1.length : Int)
      ·rw [if_pos c20] at H; have c20b0 : decide (x7_2 < (l0_1.length : Int)) = true := decide_eq_true c20; clear c20; by_cases c21 : 0 ≤ x7_2
       ·rw [if_pos c21] at H; have c21b0 : decide (0 ≤ x7_2) = true := decide_eq_true c21; clear c21; by_cases c22 : x7_2 < (l1_1.length : Int)
        ·rw [if_pos c22] at H; have c22b0 : decide (x7_2 < (l1_1.length : Int)) = true := decide_eq_true c22; clear c22; by_cases c23 : (rd l0_1 x7_2) = (rd l1_1 x7_2)
         ·rw [if_pos c23] at H; have c23b0 : ((rd l0_1 x7_2) == (rd l1_1 x7_2)) = true := beq_iff_eq.mpr c23; have c23b1 : ((rd l0_1 x7_2) != (rd l1_1 x7_2)) = false := bne_eq_false_iff_eq.mpr c23; clear c23; have H' := AM H; clear H; have hnb24 := NB179_180.out; have hnc24 := NB180_179.out; have hcz25_0 := BC BK179 0 (.int .i64 a0_0) rfl; have hcz25_1 := BC BK179 1 (.slice A0_1 l0_1.length c0_1) rfl; have hcz25_2 := BC BK179 2 (.slice A0_2 l0_2.length c0_2) rfl; have hcz25_3 := BC BK179 3 (.slice A0_3 l0_3.length c0_3) rfl; have hfz25_0 := BF BK179 0; have hfz25_1 := BF BK179 1; have hfz25_2 := BF BK179 2; have hfz25_3 := BF BK179 3; have p184 : 0 ≤ (x7_2 : Int) := of_decide_eq_true (by first | (with_reducible assumption) | assumption)
          have q184 : x7_2 < (l0_1.length : Int) := of_decide_eq_true (by first | (with_reducible assumption) | assumption)
          obtain ⟨ad184, e184, hx184_0⟩ := Kd.at_int HR0_1.out x7_2 p184 q184; cases e184
          replace hx184_0 := (HB.out.cell (World.block_lt_of_cell? w _ hx184_0)).trans hx184_0; replace p184 := eq_true p184; replace q184 := eq_true q184; have hcz26_0 := BC BK180 0 (.int .i64 a1_0) rfl; have hcz26_1 := BC BK180 1 (.slice A1_1 l1_1.length c1_1) rfl; have hcz26_2 := BC BK180 2 (.slice A1_2 l1_2.length c1_2) rfl; have hcz26_3 := BC BK180 3 (.slice A1_3 l1_3.length c1_3) rfl; have hfz26_0 := BF BK180 0; have hfz26_1 := BF BK180 1; have hfz26_2 := BF BK180 2; have hfz26_3 := BF BK180 3; have p185 : 0 ≤ (x7_2 : Int) := of_decide_eq_true (by first | (with_reducible assumption) | assumption)
          have q185 : x7_2 < (l1_1.length : Int) := of_decide_eq_true (by first | (with_reducible assumption) | assumption)
          obtain ⟨ad185, e185, hx185_0⟩ := Kd.at_int HR1_1.out x7_2 p185 q185; cases e185
          replace hx185_0 := (HB.out.cell (World.block_lt_of_cell? w _ hx185_0)).trans hx185_0; replace p185 := eq_true p185; replace q185 := eq_true q185; go_wp2
          repeat (go_quiet (fail); try go_wp2)
          go_roundg k2
          case measure => have := HJ2.out; have := HK2.out; omega
          case rel => exact ⟨(x6_2), (wrap64 (x7_2 + 1)), (by first | rfl | (simp; done) | (simp [*]; done)), H', ⟨by have := HJ2.out; have := HK2.out; omega⟩, ⟨by (with_reducible repeat (first | apply Kd.R_alloc | apply Kd.R_drewN | apply Kd.R_drew)); exact HO_6.out⟩, ⟨BL BK179⟩, ⟨BL BK180⟩, ⟨BB HB⟩⟩
         ·rw [if_neg c23] at H; have c23b0 : ((rd l0_1 x7_2) == (rd l1_1 x7_2)) = false := beq_eq_false_iff_ne.mpr c23; have c23b1 : ((rd l0_1 x7_2) != (rd l1_1 x7_2)) = true := bne_iff_ne.mpr c23; by_cases c27 : x6_2.length < 3518437208883
          ·rw [if_pos c27] at H; have LMc27 := AM c27; clear c27; obtain ⟨y187, hy187⟩ : ∃ y_ : List (S73), y_ = (x6_2 ++ [(⟨false, x7_2, rd l1_1 x7_2, (⟨#[]⟩ : ByteArray)⟩ : S73)]) := ⟨_, rfl⟩; replace H : (dioramaref08_Diff.l0 k2 y187 (wrap64 (x7_2 + 1)) a0_0 l0_1 l0_2 l0_3 a1_0 l1_1 l1_2 l1_3) = some (r1, r2) := by first | (rw [hy187]; with_reducible exact H) | (have H2_ := (Option.bind_some _ _).symm.trans H; rw [hy187]; with_reducible exact H2_) | (have H2_ := (Option.bind_some _ _).symm.trans H; with_reducible exact H2_) | with_reducible exact H | (rw [hy187]; exact H) | exact H
           have Ny187 := AM hy187; clear hy187; have H' := AM H; clear H; have hnb28 := NB179_180.out; have hnc28 := NB180_179.out; have hcz29_0 := BC BK179 0 (.int .i64 a0_0) rfl; have hcz29_1 := BC BK179 1 (.slice A0_1 l0_1.length c0_1) rfl; have hcz29_2 := BC BK179 2 (.slice A0_2 l0_2.length c0_2) rfl; have hcz29_3 := BC BK179 3 (.slice A0_3 l0_3.length c0_3) rfl; have hfz29_0 := BF BK179 0; have hfz29_1 := BF BK179 1; have hfz29_2 := BF BK179 2; have hfz29_3 := BF BK179 3; have p184 : 0 ≤ (x7_2 : Int) := of_decide_eq_true (by first | (with_reducible assumption) | assumption)
           have q184 : x7_2 < (l0_1.length : Int) := of_decide_eq_true (by first | (with_reducible assumption) | assumption)
           obtain ⟨ad184, e184, hx184_0⟩ := Kd.at_int HR0_1.out x7_2 p184 q184; cases e184
           replace hx184_0 := (HB.out.cell (World.block_lt_of_cell? w _ hx184_0)).trans hx184_0; replace p184 := eq_true p184; replace q184 := eq_true q184; have hcz30_0 := BC BK180 0 (.int .i64 a1_0) rfl; have hcz30_1 := BC BK180 1 (.slice A1_1 l1_1.length c1_1) rfl; have hcz30_2 := BC BK180 2 (.slice A1_2 l1_2.length c1_2) rfl; have hcz30_3 := BC BK180 3 (.slice A1_3 l1_3.length c1_3) rfl; have hfz30_0 := BF BK180 0; have hfz30_1 := BF BK180 1; have hfz30_2 := BF BK180 2; have hfz30_3 := BF BK180 3; have p185 : 0 ≤ (x7_2 : Int) := of_decide_eq_true (by first | (with_reducible assumption) | assumption)
           have q185 : x7_2 < (l1_1.length : Int) := of_decide_eq_true (by first | (with_reducible assumption) | assumption)
           obtain ⟨ad185, e185, hx185_0⟩ := Kd.at_int HR1_1.out x7_2 p185 q185; cases e185
           replace hx185_0 := (HB.out.cell (World.block_lt_of_cell? w _ hx185_0)).trans hx185_0; replace p185 := eq_true p185; replace q185 := eq_true q185; have p186 : 0 ≤ (x7_2 : Int) := of_decide_eq_true (by first | (with_reducible assumption) | assumption)
           have q186 : x7_2 < (l1_1.length : Int) := of_decide_eq_true (by first | (with_reducible assumption) | assumption)
           obtain ⟨ad186, e186, hx186_0⟩ := Kd.at_int HR1_1.out x7_2 p186 q186; obtain rfl : ad185 = ad186 := (by injection e186)
           replace hx186_0 := (HB.out.cell (World.block_lt_of_cell? w _ hx186_0)).trans hx186_0; replace p186 := eq_true p186; replace q186 := eq_true q186; go_wp2_with (first | ((with_reducible refine gate_builtin (b := .append) (xs := #[.tmp 51, .tmp 59]) rfl ?_); at_builtin; refine Kd.R_append k73 (w0 := w) w.heap.size rfl (.tmp 51) (.tmp 59) 55 73 (.agg #[(.bool false), (.int .i64 0), (.int .i64 0), (.string ⟨#[]⟩)]) 40 rfl Try.underlying55 info73 rfl (by decide) (by omega) u6 x6_2 (⟨false, x7_2, rd l1_1 x7_2, (⟨#[]⟩ : ByteArray)⟩ : S73) [.bool false, .int .i64 x7_2, .int .i64 (rd l1_1 x7_2), .string (⟨#[]⟩ : ByteArray)] (fun _ => True) (fun _ => False) rfl rfl ?aP (fun _ hk => hk.elim) ?aF ?aO ?aB ?aS ?aL ?_; (case aP => exact k73_mkM _ _ _ (⟨false, x7_2, rd l1_1 x7_2, (⟨#[]⟩ : ByteArray)⟩ : S73)); (case aB => exact (BB HB)); (case aF => exact (fun _ _ => trivial)); (case aO => exact (RL HO_6)); (case aS => exact (below_size (BB HB))); (case aL => have := LMc27.out; omega); intro v188 w31 ho hb hg hat; rw [← Ny187.out] at ho; replace BK179 := AM (blk_grown (g := gb179) (o := .cells #[.int .i64 a0_0, .slice (some ad184) l0_1.length c0_1, .slice A0_2 l0_2.length c0_2, .slice A0_3 l0_3.length c0_3] 40 (0, 0)) (BL BK179) hg (Kd.R_ne HO_6.out BK179.out (by decide))); replace BK180 := AM (blk_grown (g := gb180) (o := .cells #[.int .i64 a1_0, .slice (some ad185) l1_1.length c1_1, .slice A1_2 l1_2.length c1_2, .slice A1_3 l1_3.length c1_3] 40 (0, 0)) (BL BK180) hg (Kd.R_ne HO_6.out BK180.out (by decide))); replace HB := AM (hb); have HO189 := AM (ho); clear HO_6; clear ho hb hg hat))
           repeat (go_quiet (first | ((with_reducible refine gate_builtin (b := .append) (xs := #[.tmp 51, .tmp 59]) rfl ?_); at_builtin; refine Kd.R_append k73 (w0 := w) w.heap.size rfl (.tmp 51) (.tmp 59) 55 73 (.agg #[(.bool false), (.int .i64 0), (.int .i64 0), (.string ⟨#[]⟩)]) 40 rfl Try.underlying55 info73 rfl (by decide) (by omega) u6 x6_2 (⟨false, x7_2, rd l1_1 x7_2, (⟨#[]⟩ : ByteArray)⟩ : S73) [.bool false, .int .i64 x7_2, .int .i64 (rd l1_1 x7_2), .string (⟨#[]⟩ : ByteArray)] (fun _ => True) (fun _ => False) rfl rfl ?aP (fun _ hk => hk.elim) ?aF ?aO ?aB ?aS ?aL ?_; (case aP => exact k73_mkM _ _ _ (⟨false, x7_2, rd l1_1 x7_2, (⟨#[]⟩ : ByteArray)⟩ : S73)); (case aB => exact (BB HB)); (case aF => exact (fun _ _ => trivial)); (case aO => exact (RL HO_6)); (case aS => exact (below_size (BB HB))); (case aL => have := LMc27.out; omega); intro v188 w31 ho hb hg hat; rw [← Ny187.out] at ho; replace BK179 := AM (blk_grown (g := gb179) (o := .cells #[.int .i64 a0_0, .slice (some ad184) l0_1.length c0_1, .slice A0_2 l0_2.length c0_2, .slice A0_3 l0_3.length c0_3] 40 (0, 0)) (BL BK179) hg (Kd.R_ne HO_6.out BK179.out (by decide))); replace BK180 := AM (blk_grown (g := gb180) (o := .cells #[.int .i64 a1_0, .slice (some ad185) l1_1.length c1_1, .slice A1_2 l1_2.length c1_2, .slice A1_3 l1_3.length c1_3] 40 (0, 0)) (BL BK180) hg (Kd.R_ne HO_6.out BK180.out (by decide))); replace HB := AM (hb); have HO189 := AM (ho); clear HO_6; clear ho hb hg hat)); try go_wp2_with (first | ((with_reducible refine gate_builtin (b := .append) (xs := #[.tmp 51, .tmp 59]) rfl ?_); at_builtin; refine Kd.R_append k73 (w0 := w) w.heap.size rfl (.tmp 51) (.tmp 59) 55 73 (.agg #[(.bool false), (.int .i64 0), (.int .i64 0), (.string ⟨#[]⟩)]) 40 rfl Try.underlying55 info73 rfl (by decide) (by omega) u6 x6_2 (⟨false, x7_2, rd l1_1 x7_2, (⟨#[]⟩ : ByteArray)⟩ : S73) [.bool false, .int .i64 x7_2, .int .i64 (rd l1_1 x7_2), .string (⟨#[]⟩ : ByteArray)] (fun _ => True) (fun _ => False) rfl rfl ?aP (fun _ hk => hk.elim) ?aF ?aO ?aB ?aS ?aL ?_; (case aP => exact k73_mkM _ _ _ (⟨false, x7_2, rd l1_1 x7_2, (⟨#[]⟩ : ByteArray)⟩ : S73)); (case aB => exact (BB HB)); (case aF => exact (fun _ _ => trivial)); (case aO => exact (RL HO_6)); (case aS => exact (below_size (BB HB))); (case aL => have := LMc27.out; omega); intro v188 w31 ho hb hg hat; rw [← Ny187.out] at ho; replace BK179 := AM (blk_grown (g := gb179) (o := .cells #[.int .i64 a0_0, .slice (some ad184) l0_1.length c0_1, .slice A0_2 l0_2.length c0_2, .slice A0_3 l0_3.length c0_3] 40 (0, 0)) (BL BK179) hg (Kd.R_ne HO_6.out BK179.out (by decide))); replace BK180 := AM (blk_grown (g := gb180) (o := .cells #[.int .i64 a1_0, .slice (some ad185) l1_1.length c1_1, .slice A1_2 l1_2.length c1_2, .slice A1_3 l1_3.length c1_3] 40 (0, 0)) (BL BK180) hg (Kd.R_ne HO_6.out BK180.out (by decide))); replace HB := AM (hb); have HO189 := AM (ho); clear HO_6; clear ho hb hg hat)))
           go_roundg k2
           case measure => have := HJ2.out; have := HK2.out; omega
           case rel => exact ⟨(y187), (wrap64 (x7_2 + 1)), (by first | rfl | (simp; done) | (simp [*]; done)), H', ⟨by have := HJ2.out; have := HK2.out; omega⟩, ⟨by (with_reducible repeat (first | apply Kd.R_alloc | apply Kd.R_drewN | apply Kd.R_drew)); exact HO189.out⟩, ⟨BL BK179⟩, ⟨BL BK180⟩, ⟨BB HB⟩⟩
          ·rw [if_neg c27] at H; exact absurd H (by simp)
        ·rw [if_neg c22] at H; exact absurd H (by simp)
       ·rw [if_neg c21] at H; exact absurd H (by simp)
      ·rw [if_neg c20] at H; have c20b0 : decide (x7_2 < (l0_1.length : Int)) = false := decide_eq_false c20; clear c20; have H' := AM H; clear H; have hnb32 := NB179_180.out; have hnc32 := NB180_179.out; have hcz33_0 := BC BK179 0 (.int .i64 a0_0) rfl; have hcz33_1 := BC BK179 1 (.slice A0_1 l0_1.length c0_1) rfl; have hcz33_2 := BC BK179 2 (.slice A0_2 l0_2.length c0_2) rfl; have hcz33_3 := BC BK179 3 (.slice A0_3 l0_3.length c0_3) rfl; have hfz33_0 := BF BK179 0; have hfz33_1 := BF BK179 1; have hfz33_2 := BF BK179 2; have hfz33_3 := BF BK179 3; go_wp2
       repeat (go_quiet (fail); try go_wp2)
       go_loopg [6, 8] k2 (fun kq v6 v8 w' => ∃ (x6_3 : List (S73)) (x8_3 : Int), v8 = .int .i64 x8_3 ∧ Aside0 (dioramaref08_Diff.l1 kq x6_3 x8_3 a0_0 l0_1 l0_2 l0_3 a1_0 l1_1 l1_2 l1_3 = some (r1, r2)) ∧ Aside0 (kq ≤ k2) ∧ Aside0 (Kd.R k73 73 w' w.heap.size (fun _ => True) v6 x6_3) ∧ Aside0 (w'.heap[gb179]? = some (.cells #[.int .i64 a0_0, (.slice A0_1 l0_1.length c0_1), (.slice A0_2 l0_2.length c0_2), (.slice A0_3 l0_3.length c0_3)] 40 (0, 0))) ∧ Aside0 (w'.heap[gb180]? = some (.cells #[.int .i64 a1_0, (.slice A1_1 l1_1.length c1_1), (.slice A1_2 l1_2.length c1_2), (.slice A1_3 l1_3.length c1_3)] 40 (0, 0))) ∧ Aside0 (Below w.heap.size w w'))
       case atStart => exact ⟨(x6_2), (0), (by first | rfl | (simp; done) | (simp [*]; done)), H', ⟨Nat.le_refl _⟩, ⟨by (with_reducible repeat (first | apply Kd.R_alloc | apply Kd.R_drewN | apply Kd.R_drew)); exact HO_6.out⟩, ⟨BL BK179⟩, ⟨BL BK180⟩, ⟨BB HB⟩⟩
       case round =>
        clear H'; try clear c1
        try clear p1
        try clear q1
        try clear hx1
        try clear c2
        try clear p2
        try clear c3
        try clear c4
        try clear c6
        try clear c6b0
        try clear c6b1
        try clear p6
        try clear c7
        try clear c7b0
        try clear c7b1
        try clear c7b2
        try clear c8
        try clear c11
        try clear c14
        try clear c17
        try clear p18
        try clear q18
        try clear hx18
        try clear c20
        try clear c20b0
        try clear c21
        try clear c21b0
        try clear c22
        try clear c22b0
        try clear c23
        try clear c23b0
        try clear c23b1
        try clear c24
        try clear c27
        try clear c28
        try clear c32
        try clear hcz10_0
        try clear hcz10_1
        try clear hcz10_2
        try clear hcz10_3
        try clear hcz12_0
        try clear hcz12_1
        try clear hcz12_2
        try clear hcz12_3
        try clear hcz13_0
        try clear hcz13_1
        try clear hcz13_2
        try clear hcz13_3
        try clear hcz15_0
        try clear hcz15_1
        try clear hcz15_2
        try clear hcz15_3
        try clear hcz16_0
        try clear hcz16_1
        try clear hcz16_2
        try clear hcz16_3
        try clear hcz25_0
        try clear hcz25_1
        try clear hcz25_2
        try clear hcz25_3
        try clear hcz26_0
        try clear hcz26_1
        try clear hcz26_2
        try clear hcz26_3
        try clear hcz29_0
        try clear hcz29_1
        try clear hcz29_2
        try clear hcz29_3
        try clear hcz30_0
        try clear hcz30_1
        try clear hcz30_2
        try clear hcz30_3
        try clear hcz33_0
        try clear hcz33_1
        try clear hcz33_2
        try clear hcz33_3
        try clear hcz9_0
        try clear hcz9_1
        try clear hcz9_2
        try clear hcz9_3
        try clear hfz10_0
        try clear hfz10_1
        try clear hfz10_2
        try clear hfz10_3
        try clear hfz12_0
        try clear hfz12_1
        try clear hfz12_2
        try clear hfz12_3
        try clear hfz13_0
        try clear hfz13_1
        try clear hfz13_2
        try clear hfz13_3
        try clear hfz15_0
        try clear hfz15_1
        try clear hfz15_2
        try clear hfz15_3
        try clear hfz16_0
        try clear hfz16_1
        try clear hfz16_2
        try clear hfz16_3
        try clear hfz25_0
        try clear hfz25_1
        try clear hfz25_2
        try clear hfz25_3
        try clear hfz26_0
        try clear hfz26_1
        try clear hfz26_2
        try clear hfz26_3
        try clear hfz29_0
        try clear hfz29_1
        try clear hfz29_2
        try clear hfz29_3
        try clear hfz30_0
        try clear hfz30_1
        try clear hfz30_2
        try clear hfz30_3
        try clear hfz33_0
        try clear hfz33_1
        try clear hfz33_2
        try clear hfz33_3
        try clear hfz9_0
        try clear hfz9_1
        try clear hfz9_2
        try clear hfz9_3
        try clear hx184_0
        try clear hx185_0
        try clear hx186_0
        try clear p184
        try clear p185
        try clear p186
        try clear p2
        try clear q184
        try clear q185
        try clear q186
        obtain ⟨x6_3, x8_3, rfl, HA, HK3, HO_6, BK179, BK180, HB⟩ := hrel; cases gk with
        | zero => exact absurd HA.out (by simp [dioramaref08_Diff.l1])
        | succ k3 =>
         have H := HA.out; clear HA; simp only [dioramaref08_Diff.l1] at H
         by_cases c34 : x8_3 < (l0_2.length : Int)
         ·rw [if_pos c34] at H; have c34b0 : decide (x8_3 < (l0_2.length : Int)) = true := decide_eq_true c34; clear c34; by_cases c35 : 0 ≤ x8_3
          ·rw [if_pos c35] at H; have c35b0 : decide (0 ≤ x8_3) = true := decide_eq_true c35; clear c35; by_cases c36 : x8_3 < (l1_2.length : Int)
           ·rw [if_pos c36] at H; have c36b0 : decide (x8_3 < (l1_2.length : Int)) = true := decide_eq_true c36; clear c36; by_cases c37 : (rdOf ByteArray.empty l0_2 x8_3).toList = (rdOf ByteArray.empty l1_2 x8_3).toList
            ·rw [if_pos c37] at H; have c37b0 : ((rdOf ByteArray.empty l0_2 x8_3).toList == (rdOf ByteArray.empty l1_2 x8_3).toList) = true := beq_iff_eq.mpr c37; have c37b1 : ((rdOf ByteArray.empty l0_2 x8_3).toList != (rdOf ByteArray.empty l1_2 x8_3).toList) = false := bne_eq_false_iff_eq.mpr c37; clear c37; have H' := AM H; clear H; have hnb38 := NB179_180.out; have hnc38 := NB180_179.out; have hcz39_0 := BC BK179 0 (.int .i64 a0_0) rfl; have hcz39_1 := BC BK179 1 (.slice A0_1 l0_1.length c0_1) rfl; have hcz39_2 := BC BK179 2 (.slice A0_2 l0_2.length c0_2) rfl; have hcz39_3 := BC BK179 3 (.slice A0_3 l0_3.length c0_3) rfl; have hfz39_0 := BF BK179 0; have hfz39_1 := BF BK179 1; have hfz39_2 := BF BK179 2; have hfz39_3 := BF BK179 3; have p190 : 0 ≤ (x8_3 : Int) := of_decide_eq_true (by first | (with_reducible assumption) | assumption)
             have q190 : x8_3 < (l0_2.length : Int) := of_decide_eq_true (by first | (with_reducible assumption) | assumption)
             obtain ⟨ad190, e190, hx190_0⟩ := Kd.at_string HR0_2.out x8_3 p190 q190; cases e190
             replace hx190_0 := (HB.out.cell (World.block_lt_of_cell? w _ hx190_0)).trans hx190_0; replace p190 := eq_true p190; replace q190 := eq_true q190; have hcz40_0 := BC BK180 0 (.int .i64 a1_0) rfl; have hcz40_1 := BC BK180 1 (.slice A1_1 l1_1.length c1_1) rfl; have hcz40_2 := BC BK180 2 (.slice A1_2 l1_2.length c1_2) rfl; have hcz40_3 := BC BK180 3 (.slice A1_3 l1_3.length c1_3) rfl; have hfz40_0 := BF BK180 0; have hfz40_1 := BF BK180 1; have hfz40_2 := BF BK180 2; have hfz40_3 := BF BK180 3; have p191 : 0 ≤ (x8_3 : Int) := of_decide_eq_true (by first | (with_reducible assumption) | assumption)
             have q191 : x8_3 < (l1_2.length : Int) := of_decide_eq_true (by first | (with_reducible assumption) | assumption)
             obtain ⟨ad191, e191, hx191_0⟩ := Kd.at_string HR1_2.out x8_3 p191 q191; cases e191
             replace hx191_0 := (HB.out.cell (World.block_lt_of_cell? w _ hx191_0)).trans hx191_0; replace p191 := eq_true p191; replace q191 := eq_true q191; go_wp2
             repeat (go_quiet (fail); try go_wp2)
             go_roundg k3
             case measure => have := HJ2.out; have := HK2.out; have := HK3.out; omega
             case rel => exact ⟨(x6_3), (wrap64 (x8_3 + 1)), (by first | rfl | (simp; done) | (simp [*]; done)), H', ⟨by have := HJ2.out; have := HK2.out; have := HK3.out; omega⟩, ⟨by (with_reducible repeat (first | apply Kd.R_alloc | apply Kd.R_drewN | apply Kd.R_drew)); exact HO_6.out⟩, ⟨BL BK179⟩, ⟨BL BK180⟩, ⟨BB HB⟩⟩
            ·rw [if_neg c37] at H; have c37b0 : ((rdOf ByteArray.empty l0_2 x8_3).toList == (rdOf ByteArray.empty l1_2 x8_3).toList) = false := beq_eq_false_iff_ne.mpr c37; have c37b1 : ((rdOf ByteArray.empty l0_2 x8_3).toList != (rdOf ByteArray.empty l1_2 x8_3).toList) = true := bne_iff_ne.mpr c37; by_cases c41 : x6_3.length < 3518437208883
             ·rw [if_pos c41] at H; have LMc41 := AM c41; clear c41; obtain ⟨y193, hy193⟩ : ∃ y_ : List (S73), y_ = (x6_3 ++ [(⟨true, x8_3, 0, rdOf ByteArray.empty l1_2 x8_3⟩ : S73)]) := ⟨_, rfl⟩; replace H : (dioramaref08_Diff.l1 k3 y193 (wrap64 (x8_3 + 1)) a0_0 l0_1 l0_2 l0_3 a1_0 l1_1 l1_2 l1_3) = some (r1, r2) := by first | (rw [hy193]; with_reducible exact H) | (have H2_ := (Option.bind_some _ _).symm.trans H; rw [hy193]; with_reducible exact H2_) | (have H2_ := (Option.bind_some _ _).symm.trans H; with_reducible exact H2_) | with_reducible exact H | (rw [hy193]; exact H) | exact H
              have Ny193 := AM hy193; clear hy193; have H' := AM H; clear H; have hnb42 := NB179_180.out; have hnc42 := NB180_179.out; have hcz43_0 := BC BK179 0 (.int .i64 a0_0) rfl; have hcz43_1 := BC BK179 1 (.slice A0_1 l0_1.length c0_1) rfl; have hcz43_2 := BC BK179 2 (.slice A0_2 l0_2.length c0_2) rfl; have hcz43_3 := BC BK179 3 (.slice A0_3 l0_3.length c0_3) rfl; have hfz43_0 := BF BK179 0; have hfz43_1 := BF BK179 1; have hfz43_2 := BF BK179 2; have hfz43_3 := BF BK179 3; have p190 : 0 ≤ (x8_3 : Int) := of_decide_eq_true (by first | (with_reducible assumption) | assumption)
              have q190 : x8_3 < (l0_2.length : Int) := of_decide_eq_true (by first | (with_reducible assumption) | assumption)
              obtain ⟨ad190, e190, hx190_0⟩ := Kd.at_string HR0_2.out x8_3 p190 q190; cases e190
              replace hx190_0 := (HB.out.cell (World.block_lt_of_cell? w _ hx190_0)).trans hx190_0; replace p190 := eq_true p190; replace q190 := eq_true q190; have hcz44_0 := BC BK180 0 (.int .i64 a1_0) rfl; have hcz44_1 := BC BK180 1 (.slice A1_1 l1_1.length c1_1) rfl; have hcz44_2 := BC BK180 2 (.slice A1_2 l1_2.length c1_2) rfl; have hcz44_3 := BC BK180 3 (.slice A1_3 l1_3.length c1_3) rfl; have hfz44_0 := BF BK180 0; have hfz44_1 := BF BK180 1; have hfz44_2 := BF BK180 2; have hfz44_3 := BF BK180 3; have p191 : 0 ≤ (x8_3 : Int) := of_decide_eq_true (by first | (with_reducible assumption) | assumption)
              have q191 : x8_3 < (l1_2.length : Int) := of_decide_eq_true (by first | (with_reducible assumption) | assumption)
              obtain ⟨ad191, e191, hx191_0⟩ := Kd.at_string HR1_2.out x8_3 p191 q191; cases e191
              replace hx191_0 := (HB.out.cell (World.block_lt_of_cell? w _ hx191_0)).trans hx191_0; replace p191 := eq_true p191; replace q191 := eq_true q191; have p192 : 0 ≤ (x8_3 : Int) := of_decide_eq_true (by first | (with_reducible assumption) | assumption)
              have q192 : x8_3 < (l1_2.length : Int) := of_decide_eq_true (by first | (with_reducible assumption) | assumption)
              obtain ⟨ad192, e192, hx192_0⟩ := Kd.at_string HR1_2.out x8_3 p192 q192; obtain rfl : ad191 = ad192 := (by injection e192)
              replace hx192_0 := (HB.out.cell (World.block_lt_of_cell? w _ hx192_0)).trans hx192_0; replace p192 := eq_true p192; replace q192 := eq_true q192; go_wp2_with (first | ((with_reducible refine gate_builtin (b := .append) (xs := #[.tmp 79, .tmp 87]) rfl ?_); at_builtin; refine Kd.R_append k73 (w0 := w) w.heap.size rfl (.tmp 79) (.tmp 87) 55 73 (.agg #[(.bool false), (.int .i64 0), (.int .i64 0), (.string ⟨#[]⟩)]) 40 rfl Try.underlying55 info73 rfl (by decide) (by omega) u6 x6_3 (⟨true, x8_3, 0, rdOf ByteArray.empty l1_2 x8_3⟩ : S73) [.bool true, .int .i64 x8_3, .int .i64 0, .string (rdOf ByteArray.empty l1_2 x8_3)] (fun _ => True) (fun _ => False) rfl rfl ?aP (fun _ hk => hk.elim) ?aF ?aO ?aB ?aS ?aL ?_; (case aP => exact k73_mkM _ _ _ (⟨true, x8_3, 0, rdOf ByteArray.empty l1_2 x8_3⟩ : S73)); (case aB => exact (BB HB)); (case aF => exact (fun _ _ => trivial)); (case aO => exact (RL HO_6)); (case aS => exact (below_size (BB HB))); (case aL => have := LMc41.out; omega); intro v194 w45 ho hb hg hat; rw [← Ny193.out] at ho; replace BK179 := AM (blk_grown (g := gb179) (o := .cells #[.int .i64 a0_0, .slice A0_1 l0_1.length c0_1, .slice (some ad190) l0_2.length c0_2, .slice A0_3 l0_3.length c0_3] 40 (0, 0)) (BL BK179) hg (Kd.R_ne HO_6.out BK179.out (by decide))); replace BK180 := AM (blk_grown (g := gb180) (o := .cells #[.int .i64 a1_0, .slice A1_1 l1_1.length c1_1, .slice (some ad191) l1_2.length c1_2, .slice A1_3 l1_3.length c1_3] 40 (0, 0)) (BL BK180) hg (Kd.R_ne HO_6.out BK180.out (by decide))); replace HB := AM (hb); have HO195 := AM (ho); clear HO_6; clear ho hb hg hat))
              repeat (go_quiet (first | ((with_reducible refine gate_builtin (b := .append) (xs := #[.tmp 79, .tmp 87]) rfl ?_); at_builtin; refine Kd.R_append k73 (w0 := w) w.heap.size rfl (.tmp 79) (.tmp 87) 55 73 (.agg #[(.bool false), (.int .i64 0), (.int .i64 0), (.string ⟨#[]⟩)]) 40 rfl Try.underlying55 info73 rfl (by decide) (by omega) u6 x6_3 (⟨true, x8_3, 0, rdOf ByteArray.empty l1_2 x8_3⟩ : S73) [.bool true, .int .i64 x8_3, .int .i64 0, .string (rdOf ByteArray.empty l1_2 x8_3)] (fun _ => True) (fun _ => False) rfl rfl ?aP (fun _ hk => hk.elim) ?aF ?aO ?aB ?aS ?aL ?_; (case aP => exact k73_mkM _ _ _ (⟨true, x8_3, 0, rdOf ByteArray.empty l1_2 x8_3⟩ : S73)); (case aB => exact (BB HB)); (case aF => exact (fun _ _ => trivial)); (case aO => exact (RL HO_6)); (case aS => exact (below_size (BB HB))); (case aL => have := LMc41.out; omega); intro v194 w45 ho hb hg hat; rw [← Ny193.out] at ho; replace BK179 := AM (blk_grown (g := gb179) (o := .cells #[.int .i64 a0_0, .slice A0_1 l0_1.length c0_1, .slice (some ad190) l0_2.length c0_2, .slice A0_3 l0_3.length c0_3] 40 (0, 0)) (BL BK179) hg (Kd.R_ne HO_6.out BK179.out (by decide))); replace BK180 := AM (blk_grown (g := gb180) (o := .cells #[.int .i64 a1_0, .slice A1_1 l1_1.length c1_1, .slice (some ad191) l1_2.length c1_2, .slice A1_3 l1_3.length c1_3] 40 (0, 0)) (BL BK180) hg (Kd.R_ne HO_6.out BK180.out (by decide))); replace HB := AM (hb); have HO195 := AM (ho); clear HO_6; clear ho hb hg hat)); try go_wp2_with (first | ((with_reducible refine gate_builtin (b := .append) (xs := #[.tmp 79, .tmp 87]) rfl ?_); at_builtin; refine Kd.R_append k73 (w0 := w) w.heap.size rfl (.tmp 79) (.tmp 87) 55 73 (.agg #[(.bool false), (.int .i64 0), (.int .i64 0), (.string ⟨#[]⟩)]) 40 rfl Try.underlying55 info73 rfl (by decide) (by omega) u6 x6_3 (⟨true, x8_3, 0, rdOf ByteArray.empty l1_2 x8_3⟩ : S73) [.bool true, .int .i64 x8_3, .int .i64 0, .string (rdOf ByteArray.empty l1_2 x8_3)] (fun _ => True) (fun _ => False) rfl rfl ?aP (fun _ hk => hk.elim) ?aF ?aO ?aB ?aS ?aL ?_; (case aP => exact k73_mkM _ _ _ (⟨true, x8_3, 0, rdOf ByteArray.empty l1_2 x8_3⟩ : S73)); (case aB => exact (BB HB)); (case aF => exact (fun _ _ => trivial)); (case aO => exact (RL HO_6)); (case aS => exact (below_size (BB HB))); (case aL => have := LMc41.out; omega); intro v194 w45 ho hb hg hat; rw [← Ny193.out] at ho; replace BK179 := AM (blk_grown (g := gb179) (o := .cells #[.int .i64 a0_0, .slice A0_1 l0_1.length c0_1, .slice (some ad190) l0_2.length c0_2, .slice A0_3 l0_3.length c0_3] 40 (0, 0)) (BL BK179) hg (Kd.R_ne HO_6.out BK179.out (by decide))); replace BK180 := AM (blk_grown (g := gb180) (o := .cells #[.int .i64 a1_0, .slice A1_1 l1_1.length c1_1, .slice (some ad191) l1_2.length c1_2, .slice A1_3 l1_3.length c1_3] 40 (0, 0)) (BL BK180) hg (Kd.R_ne HO_6.out BK180.out (by decide))); replace HB := AM (hb); have HO195 := AM (ho); clear HO_6; clear ho hb hg hat)))
              go_roundg k3
              case measure => have := HJ2.out; have := HK2.out; have := HK3.out; omega
              case rel => exact ⟨(y193), (wrap64 (x8_3 + 1)), (by first | rfl | (simp; done) | (simp [*]; done)), H', ⟨by have := HJ2.out; have := HK2.out; have := HK3.out; omega⟩, ⟨by (with_reducible repeat (first | apply Kd.R_alloc | apply Kd.R_drewN | apply Kd.R_drew)); exact HO195.out⟩, ⟨BL BK179⟩, ⟨BL BK180⟩, ⟨BB HB⟩⟩
             ·rw [if_neg c41] at H; exact absurd H (by simp)
           ·rw [if_neg c36] at H; exact absurd H (by simp)
          ·rw [if_neg c35] at H; exact absurd H (by simp)
         ·rw [if_neg c34] at H; have c34b0 : decide (x8_3 < (l0_2.length : Int)) = false := decide_eq_false c34; clear c34; simp only [Option.some.injEq, Prod.mk.injEq] at H
          obtain ⟨rfl, rfl⟩ := H; have hnb46 := NB179_180.out; have hnc46 := NB180_179.out; have hcz47_0 := BC BK179 0 (.int .i64 a0_0) rfl; have hcz47_1 := BC BK179 1 (.slice A0_1 l0_1.length c0_1) rfl; have hcz47_2 := BC BK179 2 (.slice A0_2 l0_2.length c0_2) rfl; have hcz47_3 := BC BK179 3 (.slice A0_3 l0_3.length c0_3) rfl; have hfz47_0 := BF BK179 0; have hfz47_1 := BF BK179 1; have hfz47_2 := BF BK179 2; have hfz47_3 := BF BK179 3; go_wp2
          repeat (go_quiet (fail); try go_wp2)
          go_ret2
          exact ⟨_, by first | rfl | (simp [errW_none, errW_some] <;> rfl) | (simp [*, errW_none, errW_some] <;> rfl), by (with_reducible repeat (first | apply Kd.R_alloc | apply Kd.R_drewN | apply Kd.R_drew)); exact HO_6.out, BB HB⟩

/-! ### dioramaref08_Own: function 30 -/
def dioramaref08_Own.f (k : Nat) (a0_0 : Int) (l0_1 : List Int) (l0_2 : List ByteArray) (l0_3 : List Int) (a1_0 : Int) (l1_1 : List Int) (l1_2 : List ByteArray) (l1_3 : List Int) : Option (Bool) := (dioramaref08_Diff.f k a0_0 l0_1 l0_2 l0_3 a1_0 l1_1 l1_2 l1_3).bind fun bt198 => (if bt198.2 = true then (some ((bt198.1.length : Int) == 0)) else (some false))
set_option maxHeartbeats 8000000 in
set_option maxRecDepth 100000 in
theorem dioramaref08_Own.calls (k : Nat) (a0_0 : Int) (A0_1 : Option Addr) (c0_1 : Nat) (l0_1 : List Int) (A0_2 : Option Addr) (c0_2 : Nat) (l0_2 : List ByteArray) (A0_3 : Option Addr) (c0_3 : Nat) (l0_3 : List Int) (a1_0 : Int) (A1_1 : Option Addr) (c1_1 : Nat) (l1_1 : List Int) (A1_2 : Option Addr) (c1_2 : Nat) (l1_2 : List ByteArray) (A1_3 : Option Addr) (c1_3 : Nat) (l1_3 : List Int) (r : Bool) (w : World) (hr0_1 : Kd.C (Kd.int .i64) w A0_1 l0_1.length l0_1) (hc0_1 : l0_1.length ≤ c0_1) (hr0_2 : Kd.C Kd.string w A0_2 l0_2.length l0_2) (hc0_2 : l0_2.length ≤ c0_2) (hr0_3 : Kd.C (Kd.int .i64) w A0_3 l0_3.length l0_3) (hc0_3 : l0_3.length ≤ c0_3) (hr1_1 : Kd.C (Kd.int .i64) w A1_1 l1_1.length l1_1) (hc1_1 : l1_1.length ≤ c1_1) (hr1_2 : Kd.C Kd.string w A1_2 l1_2.length l1_2) (hc1_2 : l1_2.length ≤ c1_2) (hr1_3 : Kd.C (Kd.int .i64) w A1_3 l1_3.length l1_3) (hc1_3 : l1_3.length ≤ c1_3) (h : dioramaref08_Own.f k a0_0 l0_1 l0_2 l0_3 a1_0 l1_1 l1_2 l1_3 = some r) :
  Calls Try.prog 30 #[.agg #[.int .i64 a0_0, .slice A0_1 l0_1.length c0_1, .slice A0_2 l0_2.length c0_2, .slice A0_3 l0_3.length c0_3], .agg #[.int .i64 a1_0, .slice A1_1 l1_1.length c1_1, .slice A1_2 l1_2.length c1_2, .slice A1_3 l1_3.length c1_3]] w fun e w' => e = .returned (.bool r) ∧ Below w.heap.size w w' := by
 have hu40 := Try.underlying40; have HR0_1 := AM hr0_1; have HC0_1 := AM hc0_1; clear hr0_1 hc0_1; have HR0_2 := AM hr0_2; have HC0_2 := AM hc0_2; clear hr0_2 hc0_2; have HR0_3 := AM hr0_3; have HC0_3 := AM hc0_3; clear hr0_3 hc0_3; have HR1_1 := AM hr1_1; have HC1_1 := AM hc1_1; clear hr1_1 hc1_1; have HR1_2 := AM hr1_2; have HC1_2 := AM hc1_2; clear hr1_2 hc1_2; have HR1_3 := AM hr1_3; have HC1_3 := AM hc1_3; clear hr1_3 hc1_3; have HB := AM (Below.refl w.heap.size w); have H : ((dioramaref08_Diff.f k a0_0 l0_1 l0_2 l0_3 a1_0 l1_1 l1_2 l1_3).bind fun bt198 => (if bt198.2 = true then (some ((bt198.1.length : Int) == 0)) else (some false))) = some r := h
 clear h; replace H := Option.bind_eq_some_iff.mp H; obtain ⟨⟨t198, t201⟩, A30, H⟩ := H; replace H : (if t201 = true then (some ((t198.length : Int) == 0)) else (some false)) = some r := H; have A3 := AM A30; clear A30; by_cases c4 : t201 = true
 ·subst c4; have H1 : (some ((t198.length : Int) == 0)) = some r := by rw [if_pos rfl] at H; exact H
  clear H; have H := H1; clear H1; obtain rfl := Option.some.inj H; go_enter Try.func30, Try.ntmps30
  go_wp2_with (first | ((with_reducible refine gate_dst (N := 2) rfl ?_); refine box_event ?hg (N := 2) ?hd (cs := #[.int .i64 a0_0, .slice A0_1 l0_1.length c0_1, .slice A0_2 l0_2.length c0_2, .slice A0_3 l0_3.length c0_3]) (t := 40) ?hr ?_; (case hd => rfl); (case hg => rfl); (case hr => first | (go_simp; done) | (go_simp; rfl)); intro gb196 hg w5 hbox hb; have BK196 := AM (hbox); have GW196 := GW HB hg; have GE196 := GW HB hg; replace HB := BS HB hb; clear hb hbox hg) | ((with_reducible refine gate_dst (N := 3) rfl ?_); refine box_event ?hg (N := 3) ?hd (cs := #[.int .i64 a1_0, .slice A1_1 l1_1.length c1_1, .slice A1_2 l1_2.length c1_2, .slice A1_3 l1_3.length c1_3]) (t := 40) ?hr ?_; (case hd => rfl); (case hg => rfl); (case hr => first | (go_simp; done) | (go_simp; rfl)); intro gb197 hg w6 hbox hb; have BK197 := AM (hbox); have GW197 := GW HB hg; have GE197 := GW HB hg; replace HB := BS HB hb; have NB196_197 := NL BK196 hg; have NB197_196 := NG BK196 hg; replace BK196 := BE BK196 hb; clear hb hbox hg; have hnb7 := NB196_197.out; have hnc7 := NB197_196.out; have hcz8_0 := BC BK196 0 (.int .i64 a0_0) rfl; have hcz8_1 := BC BK196 1 (.slice A0_1 l0_1.length c0_1) rfl; have hcz8_2 := BC BK196 2 (.slice A0_2 l0_2.length c0_2) rfl; have hcz8_3 := BC BK196 3 (.slice A0_3 l0_3.length c0_3) rfl; have hfz8_0 := BF BK196 0; have hfz8_1 := BF BK196 1; have hfz8_2 := BF BK196 2; have hfz8_3 := BF BK196 3; have hcz9_0 := BC BK197 0 (.int .i64 a1_0) rfl; have hcz9_1 := BC BK197 1 (.slice A1_1 l1_1.length c1_1) rfl; have hcz9_2 := BC BK197 2 (.slice A1_2 l1_2.length c1_2) rfl; have hcz9_3 := BC BK197 3 (.slice A1_3 l1_3.length c1_3) rfl; have hfz9_0 := BF BK197 0; have hfz9_1 := BF BK197 1; have hfz9_2 := BF BK197 2; have hfz9_3 := BF BK197 3) | ((with_reducible refine gate_callee (f := 47) rfl ?_); refine goesM_ (some 10) rfl rfl Try.func47 #[.agg #[.int .i64 a0_0, .slice A0_1 l0_1.length c0_1, .slice A0_2 l0_2.length c0_2, .slice A0_3 l0_3.length c0_3], .agg #[.int .i64 a1_0, .slice A1_1 l1_1.length c1_1, .slice A1_2 l1_2.length c1_2, .slice A1_3 l1_3.length c1_3]] rfl ?_; (with_reducible refine (dioramaref08_Diff.calls k a0_0 _ _ l0_1 _ _ l0_2 _ _ l0_3 a1_0 _ _ l1_1 _ _ l1_2 _ _ l1_3 t198 true _ ?side1 ?side2 ?side3 ?side4 ?side5 ?side6 ?side7 ?side8 ?side9 ?side10 ?side11 ?side12 A3.out).mono ?_); (case side1 => exact Kd.C_below HR0_1.out (BB HB)); (case side2 => exact HC0_1.out); (case side3 => exact Kd.C_below HR0_2.out (BB HB)); (case side4 => exact HC0_2.out); (case side5 => exact Kd.C_below HR0_3.out (BB HB)); (case side6 => exact HC0_3.out); (case side7 => exact Kd.C_below HR1_1.out (BB HB)); (case side8 => exact HC1_1.out); (case side9 => exact Kd.C_below HR1_2.out (BB HB)); (case side10 => exact HC1_2.out); (case side11 => exact Kd.C_below HR1_3.out (BB HB)); (case side12 => exact HC1_3.out); rintro e w10 ⟨v199, rfl, ho0, hb⟩; refine ⟨_, rfl, ?_⟩; have HO200 := AM (Kd.R_lower ho0 (below_size (BB HB))); replace BK196 := BE BK196 hb; replace BK197 := BE BK197 hb; replace HB := BS HB hb; (try clear hb); (try clear hb2); (try clear hk); (try clear hi); (try clear ho0); obtain ⟨Ao11, co11, eo11⟩ := Kd.R_slice HO200.out; subst eo11))
  go_ret
  exact ⟨by first | rfl | (simp [errW_none, errW_some] <;> rfl) | (simp [*, errW_none, errW_some] <;> rfl), BB HB⟩
 ·replace c4 := Bool.eq_false_iff.mpr c4; subst c4; have H1 : (some false) = some r := by rw [if_neg (show ¬ (false = true) by decide)] at H; exact H
  clear H; have H := H1; clear H1; obtain rfl := Option.some.inj H; go_enter Try.func30, Try.ntmps30
  go_wp2_with (first | ((with_reducible refine gate_dst (N := 2) rfl ?_); refine box_event ?hg (N := 2) ?hd (cs := #[.int .i64 a0_0, .slice A0_1 l0_1.length c0_1, .slice A0_2 l0_2.length c0_2, .slice A0_3 l0_3.length c0_3]) (t := 40) ?hr ?_; (case hd => rfl); (case hg => rfl); (case hr => first | (go_simp; done) | (go_simp; rfl)); intro gb196 hg w12 hbox hb; have BK196 := AM (hbox); have GW196 := GW HB hg; have GE196 := GW HB hg; replace HB := BS HB hb; clear hb hbox hg) | ((with_reducible refine gate_dst (N := 3) rfl ?_); refine box_event ?hg (N := 3) ?hd (cs := #[.int .i64 a1_0, .slice A1_1 l1_1.length c1_1, .slice A1_2 l1_2.length c1_2, .slice A1_3 l1_3.length c1_3]) (t := 40) ?hr ?_; (case hd => rfl); (case hg => rfl); (case hr => first | (go_simp; done) | (go_simp; rfl)); intro gb197 hg w13 hbox hb; have BK197 := AM (hbox); have GW197 := GW HB hg; have GE197 := GW HB hg; replace HB := BS HB hb; have NB196_197 := NL BK196 hg; have NB197_196 := NG BK196 hg; replace BK196 := BE BK196 hb; clear hb hbox hg; have hnb14 := NB196_197.out; have hnc14 := NB197_196.out; have hcz15_0 := BC BK196 0 (.int .i64 a0_0) rfl; have hcz15_1 := BC BK196 1 (.slice A0_1 l0_1.length c0_1) rfl; have hcz15_2 := BC BK196 2 (.slice A0_2 l0_2.length c0_2) rfl; have hcz15_3 := BC BK196 3 (.slice A0_3 l0_3.length c0_3) rfl; have hfz15_0 := BF BK196 0; have hfz15_1 := BF BK196 1; have hfz15_2 := BF BK196 2; have hfz15_3 := BF BK196 3; have hcz16_0 := BC BK197 0 (.int .i64 a1_0) rfl; have hcz16_1 := BC BK197 1 (.slice A1_1 l1_1.length c1_1) rfl; have hcz16_2 := BC BK197 2 (.slice A1_2 l1_2.length c1_2) rfl; have hcz16_3 := BC BK197 3 (.slice A1_3 l1_3.length c1_3) rfl; have hfz16_0 := BF BK197 0; have hfz16_1 := BF BK197 1; have hfz16_2 := BF BK197 2; have hfz16_3 := BF BK197 3) | ((with_reducible refine gate_callee (f := 47) rfl ?_); refine goesM_ (some 10) rfl rfl Try.func47 #[.agg #[.int .i64 a0_0, .slice A0_1 l0_1.length c0_1, .slice A0_2 l0_2.length c0_2, .slice A0_3 l0_3.length c0_3], .agg #[.int .i64 a1_0, .slice A1_1 l1_1.length c1_1, .slice A1_2 l1_2.length c1_2, .slice A1_3 l1_3.length c1_3]] rfl ?_; (with_reducible refine (dioramaref08_Diff.calls k a0_0 _ _ l0_1 _ _ l0_2 _ _ l0_3 a1_0 _ _ l1_1 _ _ l1_2 _ _ l1_3 t198 false _ ?side1 ?side2 ?side3 ?side4 ?side5 ?side6 ?side7 ?side8 ?side9 ?side10 ?side11 ?side12 A3.out).mono ?_); (case side1 => exact Kd.C_below HR0_1.out (BB HB)); (case side2 => exact HC0_1.out); (case side3 => exact Kd.C_below HR0_2.out (BB HB)); (case side4 => exact HC0_2.out); (case side5 => exact Kd.C_below HR0_3.out (BB HB)); (case side6 => exact HC0_3.out); (case side7 => exact Kd.C_below HR1_1.out (BB HB)); (case side8 => exact HC1_1.out); (case side9 => exact Kd.C_below HR1_2.out (BB HB)); (case side10 => exact HC1_2.out); (case side11 => exact Kd.C_below HR1_3.out (BB HB)); (case side12 => exact HC1_3.out); rintro e w17 ⟨v199, rfl, ho0, hb⟩; refine ⟨_, rfl, ?_⟩; have HO200 := AM (Kd.R_lower ho0 (below_size (BB HB))); replace BK196 := BE BK196 hb; replace BK197 := BE BK197 hb; replace HB := BS HB hb; (try clear hb); (try clear hb2); (try clear hk); (try clear hi); (try clear ho0)))
  go_ret
  exact ⟨by first | rfl | (simp [errW_none, errW_some] <;> rfl) | (simp [*, errW_none, errW_some] <;> rfl), BB HB⟩

end Go.Proofs.Ytlfjjapndlkamaa.GH
