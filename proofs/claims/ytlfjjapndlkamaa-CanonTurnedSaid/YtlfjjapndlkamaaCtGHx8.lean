-- Printed by a program of the session (wip/gen/tprint.py, over a turned copy of the kit's print): Lean checks it.
import Derived.Test.YtlfjjapndlkamaaCtGHx0
import Derived.Test.YtlfjjapndlkamaaCtGHx7
namespace Go.Proofs.Ytlfjjapndlkamaa.GH
open Go.RowKit Go.Proofs.YtlfjjapndlkamaaW.PrintWords Go.Proofs.YtlfjjapndlkamaaW.PrintLast Go.Proofs.YtlfjjapndlkamaaW.PrintMore
attribute [local go_sem] max2_int min2_int max_two min_two max_three min_three max_four min_four   -- for this text's walks alone
set_option linter.unusedVariables false
set_option linter.unusedSimpArgs false

/-! ### dioramaref08_Same: function 43 -/
mutual
def dioramaref08_Same.j0 : Nat → Bool → Int → List Int → List ByteArray → List Int → Int → List Int → List ByteArray → List Int → Option (Bool)
 | 0, _, _, _, _, _, _, _, _, _ => none
 | k + 1, x18, x203000, x203001, x203002, x203003, x204000, x204001, x204002, x204003 => if x18 = true then (some false) else (dioramaref08_Same.l0 k 0 x203000 x203001 x203002 x203003 x204000 x204001 x204002 x204003)
def dioramaref08_Same.l0 : Nat → Int → Int → List Int → List ByteArray → List Int → Int → List Int → List ByteArray → List Int → Option (Bool)
 | 0, _, _, _, _, _, _, _, _, _ => none
 | k + 1, x5, x203000, x203001, x203002, x203003, x204000, x204001, x204002, x204003 => if x5 < (x203003.length : Int) then (if 0 ≤ x5 then (if x5 < (x204003.length : Int) then (if (rd x203003 x5) = (rd x204003 x5) then (dioramaref08_Same.l0 k (wrap64 (x5 + 1)) x203000 x203001 x203002 x203003 x204000 x204001 x204002 x204003) else (some false)) else (none)) else (none)) else (some true)
end
def dioramaref08_Same.f (k : Nat) (a0_0 : Int) (l0_1 : List Int) (l0_2 : List ByteArray) (l0_3 : List Int) (a1_0 : Int) (l1_1 : List Int) (l1_2 : List ByteArray) (l1_3 : List Int) : Option (Bool) := (dioramaref08_Own.f k a0_0 l0_1 l0_2 l0_3 a1_0 l1_1 l1_2 l1_3).bind fun t204 => (if t204 = true then (dioramaref08_Same.j0 k ((l0_3.length : Int) != (l1_3.length : Int)) a0_0 l0_1 l0_2 l0_3 a1_0 l1_1 l1_2 l1_3) else (dioramaref08_Same.j0 k true a0_0 l0_1 l0_2 l0_3 a1_0 l1_1 l1_2 l1_3))
set_option maxHeartbeats 8000000 in
set_option maxRecDepth 100000 in
theorem dioramaref08_Same.calls (k : Nat) (a0_0 : Int) (A0_1 : Option Addr) (c0_1 : Nat) (l0_1 : List Int) (A0_2 : Option Addr) (c0_2 : Nat) (l0_2 : List ByteArray) (A0_3 : Option Addr) (c0_3 : Nat) (l0_3 : List Int) (a1_0 : Int) (A1_1 : Option Addr) (c1_1 : Nat) (l1_1 : List Int) (A1_2 : Option Addr) (c1_2 : Nat) (l1_2 : List ByteArray) (A1_3 : Option Addr) (c1_3 : Nat) (l1_3 : List Int) (r : Bool) (w : World) (hr0_1 : Kd.C (Kd.int .i64) w A0_1 l0_1.length l0_1) (hc0_1 : l0_1.length ≤ c0_1) (hr0_2 : Kd.C Kd.string w A0_2 l0_2.length l0_2) (hc0_2 : l0_2.length ≤ c0_2) (hr0_3 : Kd.C (Kd.int .i64) w A0_3 l0_3.length l0_3) (hc0_3 : l0_3.length ≤ c0_3) (hr1_1 : Kd.C (Kd.int .i64) w A1_1 l1_1.length l1_1) (hc1_1 : l1_1.length ≤ c1_1) (hr1_2 : Kd.C Kd.string w A1_2 l1_2.length l1_2) (hc1_2 : l1_2.length ≤ c1_2) (hr1_3 : Kd.C (Kd.int .i64) w A1_3 l1_3.length l1_3) (hc1_3 : l1_3.length ≤ c1_3) (h : dioramaref08_Same.f k a0_0 l0_1 l0_2 l0_3 a1_0 l1_1 l1_2 l1_3 = some r) :
  Calls Try.prog 43 #[.agg #[.int .i64 a0_0, .slice A0_1 l0_1.length c0_1, .slice A0_2 l0_2.length c0_2, .slice A0_3 l0_3.length c0_3], .agg #[.int .i64 a1_0, .slice A1_1 l1_1.length c1_1, .slice A1_2 l1_2.length c1_2, .slice A1_3 l1_3.length c1_3]] w fun e w' => e = .returned (.bool r) ∧ Below w.heap.size w w' := by
 have hu40 := Try.underlying40; have HR0_1 := AM hr0_1; have HC0_1 := AM hc0_1; clear hr0_1 hc0_1; have HR0_2 := AM hr0_2; have HC0_2 := AM hc0_2; clear hr0_2 hc0_2; have HR0_3 := AM hr0_3; have HC0_3 := AM hc0_3; clear hr0_3 hc0_3; have HR1_1 := AM hr1_1; have HC1_1 := AM hc1_1; clear hr1_1 hc1_1; have HR1_2 := AM hr1_2; have HC1_2 := AM hc1_2; clear hr1_2 hc1_2; have HR1_3 := AM hr1_3; have HC1_3 := AM hc1_3; clear hr1_3 hc1_3; have HB := AM (Below.refl w.heap.size w); have H : ((dioramaref08_Own.f k a0_0 l0_1 l0_2 l0_3 a1_0 l1_1 l1_2 l1_3).bind fun t204 => (if t204 = true then (dioramaref08_Same.j0 k ((l0_3.length : Int) != (l1_3.length : Int)) a0_0 l0_1 l0_2 l0_3 a1_0 l1_1 l1_2 l1_3) else (dioramaref08_Same.j0 k true a0_0 l0_1 l0_2 l0_3 a1_0 l1_1 l1_2 l1_3))) = some r := h
 clear h; have HC3 := AM H; clear H; go_enter Try.func43, Try.ntmps43
 go_upto_region 1 with (first | ((with_reducible refine gate_dst (N := 2) rfl ?_); refine box_event ?hg (N := 2) ?hd (cs := #[.int .i64 a0_0, .slice A0_1 l0_1.length c0_1, .slice A0_2 l0_2.length c0_2, .slice A0_3 l0_3.length c0_3]) (t := 40) ?hr ?_; (case hd => rfl); (case hg => rfl); (case hr => first | (go_simp; done) | (go_simp; rfl)); intro gb202 hg w4 hbox hb; have BK202 := AM (hbox); have GW202 := GW HB hg; have GE202 := GW HB hg; replace HB := BS HB hb; clear hb hbox hg) | ((with_reducible refine gate_dst (N := 3) rfl ?_); refine box_event ?hg (N := 3) ?hd (cs := #[.int .i64 a1_0, .slice A1_1 l1_1.length c1_1, .slice A1_2 l1_2.length c1_2, .slice A1_3 l1_3.length c1_3]) (t := 40) ?hr ?_; (case hd => rfl); (case hg => rfl); (case hr => first | (go_simp; done) | (go_simp; rfl)); intro gb203 hg w5 hbox hb; have BK203 := AM (hbox); have GW203 := GW HB hg; have GE203 := GW HB hg; replace HB := BS HB hb; have NB202_203 := NL BK202 hg; have NB203_202 := NG BK202 hg; replace BK202 := BE BK202 hb; clear hb hbox hg))
 repeat (go_quiet (first | ((with_reducible refine gate_dst (N := 2) rfl ?_); refine box_event ?hg (N := 2) ?hd (cs := #[.int .i64 a0_0, .slice A0_1 l0_1.length c0_1, .slice A0_2 l0_2.length c0_2, .slice A0_3 l0_3.length c0_3]) (t := 40) ?hr ?_; (case hd => rfl); (case hg => rfl); (case hr => first | (go_simp; done) | (go_simp; rfl)); intro gb202 hg w4 hbox hb; have BK202 := AM (hbox); have GW202 := GW HB hg; have GE202 := GW HB hg; replace HB := BS HB hb; clear hb hbox hg) | ((with_reducible refine gate_dst (N := 3) rfl ?_); refine box_event ?hg (N := 3) ?hd (cs := #[.int .i64 a1_0, .slice A1_1 l1_1.length c1_1, .slice A1_2 l1_2.length c1_2, .slice A1_3 l1_3.length c1_3]) (t := 40) ?hr ?_; (case hd => rfl); (case hg => rfl); (case hr => first | (go_simp; done) | (go_simp; rfl)); intro gb203 hg w5 hbox hb; have BK203 := AM (hbox); have GW203 := GW HB hg; have GE203 := GW HB hg; replace HB := BS HB hb; have NB202_203 := NL BK202 hg; have NB203_202 := NG BK202 hg; replace BK202 := BE BK202 hb; clear hb hbox hg)); go_upto_region 1 with (first | ((with_reducible refine gate_dst (N := 2) rfl ?_); refine box_event ?hg (N := 2) ?hd (cs := #[.int .i64 a0_0, .slice A0_1 l0_1.length c0_1, .slice A0_2 l0_2.length c0_2, .slice A0_3 l0_3.length c0_3]) (t := 40) ?hr ?_; (case hd => rfl); (case hg => rfl); (case hr => first | (go_simp; done) | (go_simp; rfl)); intro gb202 hg w4 hbox hb; have BK202 := AM (hbox); have GW202 := GW HB hg; have GE202 := GW HB hg; replace HB := BS HB hb; clear hb hbox hg) | ((with_reducible refine gate_dst (N := 3) rfl ?_); refine box_event ?hg (N := 3) ?hd (cs := #[.int .i64 a1_0, .slice A1_1 l1_1.length c1_1, .slice A1_2 l1_2.length c1_2, .slice A1_3 l1_3.length c1_3]) (t := 40) ?hr ?_; (case hd => rfl); (case hg => rfl); (case hr => first | (go_simp; done) | (go_simp; rfl)); intro gb203 hg w5 hbox hb; have BK203 := AM (hbox); have GW203 := GW HB hg; have GE203 := GW HB hg; replace HB := BS HB hb; have NB202_203 := NL BK202 hg; have NB203_202 := NG BK202 hg; replace BK202 := BE BK202 hb; clear hb hbox hg)))
 (try simp only [Act.put, List.setIfInBounds_toArray, List.set_cons_zero, List.set_cons_succ])
 go_cut [18] (fun v18 wc => ∃ (kq : Nat) (x18_2 : Bool), v18 = .bool x18_2 ∧ Aside0 (dioramaref08_Same.j0 kq x18_2 a0_0 l0_1 l0_2 l0_3 a1_0 l1_1 l1_2 l1_3 = some r) ∧ Aside0 (kq ≤ k) ∧ Aside0 (wc.heap[gb202]? = some (.cells #[.int .i64 a0_0, (.slice A0_1 l0_1.length c0_1), (.slice A0_2 l0_2.length c0_2), (.slice A0_3 l0_3.length c0_3)] 40 (0, 0))) ∧ Aside0 (wc.heap[gb203]? = some (.cells #[.int .i64 a1_0, (.slice A1_1 l1_1.length c1_1), (.slice A1_2 l1_2.length c1_2), (.slice A1_3 l1_3.length c1_3)] 40 (0, 0))) ∧ Aside0 (Below w.heap.size w wc))
 case first =>
  have H := HC3.out; clear HC3; replace H := Option.bind_eq_some_iff.mp H; obtain ⟨t204, A60, H⟩ := H; replace H : (if t204 = true then (dioramaref08_Same.j0 k ((l0_3.length : Int) != (l1_3.length : Int)) a0_0 l0_1 l0_2 l0_3 a1_0 l1_1 l1_2 l1_3) else (dioramaref08_Same.j0 k true a0_0 l0_1 l0_2 l0_3 a1_0 l1_1 l1_2 l1_3)) = some r := H; have A6 := AM A60; clear A60; by_cases c7 : t204 = true
  ·subst c7; have H1 : (dioramaref08_Same.j0 k ((l0_3.length : Int) != (l1_3.length : Int)) a0_0 l0_1 l0_2 l0_3 a1_0 l1_1 l1_2 l1_3) = some r := by rw [if_pos rfl] at H; exact H
   clear H; have H := H1; clear H1; have H' := AM H; clear H; have hnb8 := NB202_203.out; have hnc8 := NB203_202.out; have hcz9_0 := BC BK202 0 (.int .i64 a0_0) rfl; have hcz9_1 := BC BK202 1 (.slice A0_1 l0_1.length c0_1) rfl; have hcz9_2 := BC BK202 2 (.slice A0_2 l0_2.length c0_2) rfl; have hcz9_3 := BC BK202 3 (.slice A0_3 l0_3.length c0_3) rfl; have hfz9_0 := BF BK202 0; have hfz9_1 := BF BK202 1; have hfz9_2 := BF BK202 2; have hfz9_3 := BF BK202 3; have hcz10_0 := BC BK203 0 (.int .i64 a1_0) rfl; have hcz10_1 := BC BK203 1 (.slice A1_1 l1_1.length c1_1) rfl; have hcz10_2 := BC BK203 2 (.slice A1_2 l1_2.length c1_2) rfl; have hcz10_3 := BC BK203 3 (.slice A1_3 l1_3.length c1_3) rfl; have hfz10_0 := BF BK203 0; have hfz10_1 := BF BK203 1; have hfz10_2 := BF BK203 2; have hfz10_3 := BF BK203 3; go_wp2_with (first | (go_at_call 30; (with_reducible refine (dioramaref08_Own.calls k a0_0 _ _ l0_1 _ _ l0_2 _ _ l0_3 a1_0 _ _ l1_1 _ _ l1_2 _ _ l1_3 true _ ?side1 ?side2 ?side3 ?side4 ?side5 ?side6 ?side7 ?side8 ?side9 ?side10 ?side11 ?side12 A6.out).mono ?_); (case side1 => exact Kd.C_below HR0_1.out (BB HB)); (case side2 => exact HC0_1.out); (case side3 => exact Kd.C_below HR0_2.out (BB HB)); (case side4 => exact HC0_2.out); (case side5 => exact Kd.C_below HR0_3.out (BB HB)); (case side6 => exact HC0_3.out); (case side7 => exact Kd.C_below HR1_1.out (BB HB)); (case side8 => exact HC1_1.out); (case side9 => exact Kd.C_below HR1_2.out (BB HB)); (case side10 => exact HC1_2.out); (case side11 => exact Kd.C_below HR1_3.out (BB HB)); (case side12 => exact HC1_3.out); rintro e w11 ⟨rfl, hb⟩; replace BK202 := BE BK202 hb; replace BK203 := BE BK203 hb; replace HB := BS HB hb; (try clear hb); (try clear hb2); (try clear hk); (try clear hi); have hcz12_0 := BC BK202 0 (.int .i64 a0_0) rfl; have hcz12_1 := BC BK202 1 (.slice A0_1 l0_1.length c0_1) rfl; have hcz12_2 := BC BK202 2 (.slice A0_2 l0_2.length c0_2) rfl; have hcz12_3 := BC BK202 3 (.slice A0_3 l0_3.length c0_3) rfl; have hfz12_0 := BF BK202 0; have hfz12_1 := BF BK202 1; have hfz12_2 := BF BK202 2; have hfz12_3 := BF BK202 3; have hcz13_0 := BC BK203 0 (.int .i64 a1_0) rfl; have hcz13_1 := BC BK203 1 (.slice A1_1 l1_1.length c1_1) rfl; have hcz13_2 := BC BK203 2 (.slice A1_2 l1_2.length c1_2) rfl; have hcz13_3 := BC BK203 3 (.slice A1_3 l1_3.length c1_3) rfl; have hfz13_0 := BF BK203 0; have hfz13_1 := BF BK203 1; have hfz13_2 := BF BK203 2; have hfz13_3 := BF BK203 3))
   repeat (go_quiet (first | (go_at_call 30; (with_reducible refine (dioramaref08_Own.calls k a0_0 _ _ l0_1 _ _ l0_2 _ _ l0_3 a1_0 _ _ l1_1 _ _ l1_2 _ _ l1_3 true _ ?side1 ?side2 ?side3 ?side4 ?side5 ?side6 ?side7 ?side8 ?side9 ?side10 ?side11 ?side12 A6.out).mono ?_); (case side1 => exact Kd.C_below HR0_1.out (BB HB)); (case side2 => exact HC0_1.out); (case side3 => exact Kd.C_below HR0_2.out (BB HB)); (case side4 => exact HC0_2.out); (case side5 => exact Kd.C_below HR0_3.out (BB HB)); (case side6 => exact HC0_3.out); (case side7 => exact Kd.C_below HR1_1.out (BB HB)); (case side8 => exact HC1_1.out); (case side9 => exact Kd.C_below HR1_2.out (BB HB)); (case side10 => exact HC1_2.out); (case side11 => exact Kd.C_below HR1_3.out (BB HB)); (case side12 => exact HC1_3.out); rintro e w11 ⟨rfl, hb⟩; replace BK202 := BE BK202 hb; replace BK203 := BE BK203 hb; replace HB := BS HB hb; (try clear hb); (try clear hb2); (try clear hk); (try clear hi); have hcz12_0 := BC BK202 0 (.int .i64 a0_0) rfl; have hcz12_1 := BC BK202 1 (.slice A0_1 l0_1.length c0_1) rfl; have hcz12_2 := BC BK202 2 (.slice A0_2 l0_2.length c0_2) rfl; have hcz12_3 := BC BK202 3 (.slice A0_3 l0_3.length c0_3) rfl; have hfz12_0 := BF BK202 0; have hfz12_1 := BF BK202 1; have hfz12_2 := BF BK202 2; have hfz12_3 := BF BK202 3; have hcz13_0 := BC BK203 0 (.int .i64 a1_0) rfl; have hcz13_1 := BC BK203 1 (.slice A1_1 l1_1.length c1_1) rfl; have hcz13_2 := BC BK203 2 (.slice A1_2 l1_2.length c1_2) rfl; have hcz13_3 := BC BK203 3 (.slice A1_3 l1_3.length c1_3) rfl; have hfz13_0 := BF BK203 0; have hfz13_1 := BF BK203 1; have hfz13_2 := BF BK203 2; have hfz13_3 := BF BK203 3)); try go_wp2_with (first | (go_at_call 30; (with_reducible refine (dioramaref08_Own.calls k a0_0 _ _ l0_1 _ _ l0_2 _ _ l0_3 a1_0 _ _ l1_1 _ _ l1_2 _ _ l1_3 true _ ?side1 ?side2 ?side3 ?side4 ?side5 ?side6 ?side7 ?side8 ?side9 ?side10 ?side11 ?side12 A6.out).mono ?_); (case side1 => exact Kd.C_below HR0_1.out (BB HB)); (case side2 => exact HC0_1.out); (case side3 => exact Kd.C_below HR0_2.out (BB HB)); (case side4 => exact HC0_2.out); (case side5 => exact Kd.C_below HR0_3.out (BB HB)); (case side6 => exact HC0_3.out); (case side7 => exact Kd.C_below HR1_1.out (BB HB)); (case side8 => exact HC1_1.out); (case side9 => exact Kd.C_below HR1_2.out (BB HB)); (case side10 => exact HC1_2.out); (case side11 => exact Kd.C_below HR1_3.out (BB HB)); (case side12 => exact HC1_3.out); rintro e w11 ⟨rfl, hb⟩; replace BK202 := BE BK202 hb; replace BK203 := BE BK203 hb; replace HB := BS HB hb; (try clear hb); (try clear hb2); (try clear hk); (try clear hi); have hcz12_0 := BC BK202 0 (.int .i64 a0_0) rfl; have hcz12_1 := BC BK202 1 (.slice A0_1 l0_1.length c0_1) rfl; have hcz12_2 := BC BK202 2 (.slice A0_2 l0_2.length c0_2) rfl; have hcz12_3 := BC BK202 3 (.slice A0_3 l0_3.length c0_3) rfl; have hfz12_0 := BF BK202 0; have hfz12_1 := BF BK202 1; have hfz12_2 := BF BK202 2; have hfz12_3 := BF BK202 3; have hcz13_0 := BC BK203 0 (.int .i64 a1_0) rfl; have hcz13_1 := BC BK203 1 (.slice A1_1 l1_1.length c1_1) rfl; have hcz13_2 := BC BK203 2 (.slice A1_2 l1_2.length c1_2) rfl; have hcz13_3 := BC BK203 3 (.slice A1_3 l1_3.length c1_3) rfl; have hfz13_0 := BF BK203 0; have hfz13_1 := BF BK203 1; have hfz13_2 := BF BK203 2; have hfz13_3 := BF BK203 3)))
   go_meet
   case rel => exact ⟨_, (((l0_3.length : Int) != (l1_3.length : Int))), (by first | rfl | (simp; done) | (simp [*]; done)), H', ⟨by first | omega | exact Nat.le_refl _⟩, ⟨BL BK202⟩, ⟨BL BK203⟩, ⟨BB HB⟩⟩
  ·replace c7 := Bool.eq_false_iff.mpr c7; subst c7; have H1 : (dioramaref08_Same.j0 k true a0_0 l0_1 l0_2 l0_3 a1_0 l1_1 l1_2 l1_3) = some r := by rw [if_neg (show ¬ (false = true) by decide)] at H; exact H
   clear H; have H := H1; clear H1; have H' := AM H; clear H; have hnb14 := NB202_203.out; have hnc14 := NB203_202.out; have hcz15_0 := BC BK202 0 (.int .i64 a0_0) rfl; have hcz15_1 := BC BK202 1 (.slice A0_1 l0_1.length c0_1) rfl; have hcz15_2 := BC BK202 2 (.slice A0_2 l0_2.length c0_2) rfl; have hcz15_3 := BC BK202 3 (.slice A0_3 l0_3.length c0_3) rfl; have hfz15_0 := BF BK202 0; have hfz15_1 := BF BK202 1; have hfz15_2 := BF BK202 2; have hfz15_3 := BF BK202 3; have hcz16_0 := BC BK203 0 (.int .i64 a1_0) rfl; have hcz16_1 := BC BK203 1 (.slice A1_1 l1_1.length c1_1) rfl; have hcz16_2 := BC BK203 2 (.slice A1_2 l1_2.length c1_2) rfl; have hcz16_3 := BC BK203 3 (.slice A1_3 l1_3.length c1_3) rfl; have hfz16_0 := BF BK203 0; have hfz16_1 := BF BK203 1; have hfz16_2 := BF BK203 2; have hfz16_3 := BF BK203 3; go_wp2_with (first | (go_at_call 30; (with_reducible refine (dioramaref08_Own.calls k a0_0 _ _ l0_1 _ _ l0_2 _ _ l0_3 a1_0 _ _ l1_1 _ _ l1_2 _ _ l1_3 false _ ?side1 ?side2 ?side3 ?side4 ?side5 ?side6 ?side7 ?side8 ?side9 ?side10 ?side11 ?side12 A6.out).mono ?_); (case side1 => exact Kd.C_below HR0_1.out (BB HB)); (case side2 => exact HC0_1.out); (case side3 => exact Kd.C_below HR0_2.out (BB HB)); (case side4 => exact HC0_2.out); (case side5 => exact Kd.C_below HR0_3.out (BB HB)); (case side6 => exact HC0_3.out); (case side7 => exact Kd.C_below HR1_1.out (BB HB)); (case side8 => exact HC1_1.out); (case side9 => exact Kd.C_below HR1_2.out (BB HB)); (case side10 => exact HC1_2.out); (case side11 => exact Kd.C_below HR1_3.out (BB HB)); (case side12 => exact HC1_3.out); rintro e w17 ⟨rfl, hb⟩; replace BK202 := BE BK202 hb; replace BK203 := BE BK203 hb; replace HB := BS HB hb; (try clear hb); (try clear hb2); (try clear hk); (try clear hi)))
   repeat (go_quiet (first | (go_at_call 30; (with_reducible refine (dioramaref08_Own.calls k a0_0 _ _ l0_1 _ _ l0_2 _ _ l0_3 a1_0 _ _ l1_1 _ _ l1_2 _ _ l1_3 false _ ?side1 ?side2 ?side3 ?side4 ?side5 ?side6 ?side7 ?side8 ?side9 ?side10 ?side11 ?side12 A6.out).mono ?_); (case side1 => exact Kd.C_below HR0_1.out (BB HB)); (case side2 => exact HC0_1.out); (case side3 => exact Kd.C_below HR0_2.out (BB HB)); (case side4 => exact HC0_2.out); (case side5 => exact Kd.C_below HR0_3.out (BB HB)); (case side6 => exact HC0_3.out); (case side7 => exact Kd.C_below HR1_1.out (BB HB)); (case side8 => exact HC1_1.out); (case side9 => exact Kd.C_below HR1_2.out (BB HB)); (case side10 => exact HC1_2.out); (case side11 => exact Kd.C_below HR1_3.out (BB HB)); (case side12 => exact HC1_3.out); rintro e w17 ⟨rfl, hb⟩; replace BK202 := BE BK202 hb; replace BK203 := BE BK203 hb; replace HB := BS HB hb; (try clear hb); (try clear hb2); (try clear hk); (try clear hi))); try go_wp2_with (first | (go_at_call 30; (with_reducible refine (dioramaref08_Own.calls k a0_0 _ _ l0_1 _ _ l0_2 _ _ l0_3 a1_0 _ _ l1_1 _ _ l1_2 _ _ l1_3 false _ ?side1 ?side2 ?side3 ?side4 ?side5 ?side6 ?side7 ?side8 ?side9 ?side10 ?side11 ?side12 A6.out).mono ?_); (case side1 => exact Kd.C_below HR0_1.out (BB HB)); (case side2 => exact HC0_1.out); (case side3 => exact Kd.C_below HR0_2.out (BB HB)); (case side4 => exact HC0_2.out); (case side5 => exact Kd.C_below HR0_3.out (BB HB)); (case side6 => exact HC0_3.out); (case side7 => exact Kd.C_below HR1_1.out (BB HB)); (case side8 => exact HC1_1.out); (case side9 => exact Kd.C_below HR1_2.out (BB HB)); (case side10 => exact HC1_2.out); (case side11 => exact Kd.C_below HR1_3.out (BB HB)); (case side12 => exact HC1_3.out); rintro e w17 ⟨rfl, hb⟩; replace BK202 := BE BK202 hb; replace BK203 := BE BK203 hb; replace HB := BS HB hb; (try clear hb); (try clear hb2); (try clear hk); (try clear hi))))
   go_meet
   case rel => exact ⟨_, (true), (by first | rfl | (simp; done) | (simp [*]; done)), H', ⟨by first | omega | exact Nat.le_refl _⟩, ⟨BL BK202⟩, ⟨BL BK203⟩, ⟨BB HB⟩⟩
 case rest =>
  clear HC3; try clear c1
  try clear p2
  try clear c4
  try clear c7
  try clear c8
  try clear c14
  try clear hcz10_0
  try clear hcz10_1
  try clear hcz10_2
  try clear hcz10_3
  try clear hcz12_0
  try clear hcz12_1
  try clear hcz12_2
  try clear hcz12_3
  try clear hcz13_0
  try clear hcz13_1
  try clear hcz13_2
  try clear hcz13_3
  try clear hcz15_0
  try clear hcz15_1
  try clear hcz15_2
  try clear hcz15_3
  try clear hcz16_0
  try clear hcz16_1
  try clear hcz16_2
  try clear hcz16_3
  try clear hcz9_0
  try clear hcz9_1
  try clear hcz9_2
  try clear hcz9_3
  try clear hfz10_0
  try clear hfz10_1
  try clear hfz10_2
  try clear hfz10_3
  try clear hfz12_0
  try clear hfz12_1
  try clear hfz12_2
  try clear hfz12_3
  try clear hfz13_0
  try clear hfz13_1
  try clear hfz13_2
  try clear hfz13_3
  try clear hfz15_0
  try clear hfz15_1
  try clear hfz15_2
  try clear hfz15_3
  try clear hfz16_0
  try clear hfz16_1
  try clear hfz16_2
  try clear hfz16_3
  try clear hfz9_0
  try clear hfz9_1
  try clear hfz9_2
  try clear hfz9_3
  obtain ⟨kq, x18_2, rfl, HA, HJ2, BK202, BK203, HB⟩ := hcut; cases kq with
  | zero => exact absurd HA.out (by simp [dioramaref08_Same.j0])
  | succ kj2 =>
   have H := HA.out; clear HA; simp only [dioramaref08_Same.j0] at H
   by_cases c18 : x18_2 = true
   ·subst c18; have H1 : (some false) = some r := by rw [if_pos rfl] at H; exact H
    clear H; have H := H1; clear H1; obtain rfl := Option.some.inj H; go_wp2
    repeat (go_quiet (fail); try go_wp2)
    go_ret
    exact ⟨by first | rfl | (simp [errW_none, errW_some] <;> rfl) | (simp [*, errW_none, errW_some] <;> rfl), BB HB⟩
   ·replace c18 := Bool.eq_false_iff.mpr c18; subst c18; have H1 : (dioramaref08_Same.l0 kj2 0 a0_0 l0_1 l0_2 l0_3 a1_0 l1_1 l1_2 l1_3) = some r := by rw [if_neg (show ¬ (false = true) by decide)] at H; exact H
    clear H; have H := H1; clear H1; have H' := AM H; clear H; go_wp2
    repeat (go_quiet (fail); try go_wp2)
    go_loopg [5] kj2 (fun kq v5 w' => ∃ (x5_2 : Int), v5 = .int .i64 x5_2 ∧ Aside0 (dioramaref08_Same.l0 kq x5_2 a0_0 l0_1 l0_2 l0_3 a1_0 l1_1 l1_2 l1_3 = some r) ∧ Aside0 (kq ≤ kj2) ∧ Aside0 (w'.heap[gb202]? = some (.cells #[.int .i64 a0_0, (.slice A0_1 l0_1.length c0_1), (.slice A0_2 l0_2.length c0_2), (.slice A0_3 l0_3.length c0_3)] 40 (0, 0))) ∧ Aside0 (w'.heap[gb203]? = some (.cells #[.int .i64 a1_0, (.slice A1_1 l1_1.length c1_1), (.slice A1_2 l1_2.length c1_2), (.slice A1_3 l1_3.length c1_3)] 40 (0, 0))) ∧ Aside0 (Below w.heap.size w w'))
    case atStart => exact ⟨(0), (by first | rfl | (simp; done) | (simp [*]; done)), H', ⟨Nat.le_refl _⟩, ⟨BL BK202⟩, ⟨BL BK203⟩, ⟨BB HB⟩⟩
    case round =>
     clear H'; try clear c1
     try clear p2
     try clear c4
     try clear c7
     try clear c8
     try clear c14
     try clear c18
     try clear hcz10_0
     try clear hcz10_1
     try clear hcz10_2
     try clear hcz10_3
     try clear hcz12_0
     try clear hcz12_1
     try clear hcz12_2
     try clear hcz12_3
     try clear hcz13_0
     try clear hcz13_1
     try clear hcz13_2
     try clear hcz13_3
     try clear hcz15_0
     try clear hcz15_1
     try clear hcz15_2
     try clear hcz15_3
     try clear hcz16_0
     try clear hcz16_1
     try clear hcz16_2
     try clear hcz16_3
     try clear hcz9_0
     try clear hcz9_1
     try clear hcz9_2
     try clear hcz9_3
     try clear hfz10_0
     try clear hfz10_1
     try clear hfz10_2
     try clear hfz10_3
     try clear hfz12_0
     try clear hfz12_1
     try clear hfz12_2
     try clear hfz12_3
     try clear hfz13_0
     try clear hfz13_1
     try clear hfz13_2
     try clear hfz13_3
     try clear hfz15_0
     try clear hfz15_1
     try clear hfz15_2
     try clear hfz15_3
     try clear hfz16_0
     try clear hfz16_1
     try clear hfz16_2
     try clear hfz16_3
     try clear hfz9_0
     try clear hfz9_1
     try clear hfz9_2
     try clear hfz9_3
     try clear p2
     obtain ⟨x5_2, rfl, HA, HK2, BK202, BK203, HB⟩ := hrel; cases gk with
     | zero => exact absurd HA.out (by simp [dioramaref08_Same.l0])
     | succ k2 =>
      have H := HA.out; clear HA; simp only [dioramaref08_Same.l0] at H
      by_cases c19 : x5_2 < (l0_3.length : Int)
      ·rw [if_pos c19] at H; have c19b0 : decide (x5_2 < (l0_3.length : Int)) = true := decide_eq_true c19; clear c19; by_cases c20 : 0 ≤ x5_2
       ·rw [if_pos c20] at H; have c20b0 : decide (0 ≤ x5_2) = true := decide_eq_true c20; clear c20; by_cases c21 : x5_2 < (l1_3.length : Int)
        ·rw [if_pos c21] at H; have c21b0 : decide (x5_2 < (l1_3.length : Int)) = true := decide_eq_true c21; clear c21; by_cases c22 : (rd l0_3 x5_2) = (rd l1_3 x5_2)
         ·rw [if_pos c22] at H; have c22b0 : ((rd l0_3 x5_2) == (rd l1_3 x5_2)) = true := beq_iff_eq.mpr c22; have c22b1 : ((rd l0_3 x5_2) != (rd l1_3 x5_2)) = false := bne_eq_false_iff_eq.mpr c22; clear c22; have H' := AM H; clear H; have hnb23 := NB202_203.out; have hnc23 := NB203_202.out; have hcz24_0 := BC BK202 0 (.int .i64 a0_0) rfl; have hcz24_1 := BC BK202 1 (.slice A0_1 l0_1.length c0_1) rfl; have hcz24_2 := BC BK202 2 (.slice A0_2 l0_2.length c0_2) rfl; have hcz24_3 := BC BK202 3 (.slice A0_3 l0_3.length c0_3) rfl; have hfz24_0 := BF BK202 0; have hfz24_1 := BF BK202 1; have hfz24_2 := BF BK202 2; have hfz24_3 := BF BK202 3; have p205 : 0 ≤ (x5_2 : Int) := of_decide_eq_true (by first | (with_reducible assumption) | assumption)
          have q205 : x5_2 < (l0_3.length : Int) := of_decide_eq_true (by first | (with_reducible assumption) | assumption)
          obtain ⟨ad205, e205, hx205_0⟩ := Kd.at_int HR0_3.out x5_2 p205 q205; cases e205
          replace hx205_0 := (HB.out.cell (World.block_lt_of_cell? w _ hx205_0)).trans hx205_0; replace p205 := eq_true p205; replace q205 := eq_true q205; have hcz25_0 := BC BK203 0 (.int .i64 a1_0) rfl; have hcz25_1 := BC BK203 1 (.slice A1_1 l1_1.length c1_1) rfl; have hcz25_2 := BC BK203 2 (.slice A1_2 l1_2.length c1_2) rfl; have hcz25_3 := BC BK203 3 (.slice A1_3 l1_3.length c1_3) rfl; have hfz25_0 := BF BK203 0; have hfz25_1 := BF BK203 1; have hfz25_2 := BF BK203 2; have hfz25_3 := BF BK203 3; have p206 : 0 ≤ (x5_2 : Int) := of_decide_eq_true (by first | (with_reducible assumption) | assumption)
          have q206 : x5_2 < (l1_3.length : Int) := of_decide_eq_true (by first | (with_reducible assumption) | assumption)
          obtain ⟨ad206, e206, hx206_0⟩ := Kd.at_int HR1_3.out x5_2 p206 q206; cases e206
          replace hx206_0 := (HB.out.cell (World.block_lt_of_cell? w _ hx206_0)).trans hx206_0; replace p206 := eq_true p206; replace q206 := eq_true q206; go_wp2
          repeat (go_quiet (fail); try go_wp2)
          go_roundg k2
          case measure => have := HJ2.out; have := HK2.out; omega
          case rel => exact ⟨(wrap64 (x5_2 + 1)), (by first | rfl | (simp; done) | (simp [*]; done)), H', ⟨by have := HJ2.out; have := HK2.out; omega⟩, ⟨BL BK202⟩, ⟨BL BK203⟩, ⟨BB HB⟩⟩
         ·rw [if_neg c22] at H; have c22b0 : ((rd l0_3 x5_2) == (rd l1_3 x5_2)) = false := beq_eq_false_iff_ne.mpr c22; have c22b1 : ((rd l0_3 x5_2) != (rd l1_3 x5_2)) = true := bne_iff_ne.mpr c22; obtain rfl := Option.some.inj H; have hnb26 := NB202_203.out; have hnc26 := NB203_202.out; have hcz27_0 := BC BK202 0 (.int .i64 a0_0) rfl; have hcz27_1 := BC BK202 1 (.slice A0_1 l0_1.length c0_1) rfl; have hcz27_2 := BC BK202 2 (.slice A0_2 l0_2.length c0_2) rfl; have hcz27_3 := BC BK202 3 (.slice A0_3 l0_3.length c0_3) rfl; have hfz27_0 := BF BK202 0; have hfz27_1 := BF BK202 1; have hfz27_2 := BF BK202 2; have hfz27_3 := BF BK202 3; have p205 : 0 ≤ (x5_2 : Int) := of_decide_eq_true (by first | (with_reducible assumption) | assumption)
          have q205 : x5_2 < (l0_3.length : Int) := of_decide_eq_true (by first | (with_reducible assumption) | assumption)
          obtain ⟨ad205, e205, hx205_0⟩ := Kd.at_int HR0_3.out x5_2 p205 q205; cases e205
          replace hx205_0 := (HB.out.cell (World.block_lt_of_cell? w _ hx205_0)).trans hx205_0; replace p205 := eq_true p205; replace q205 := eq_true q205; have hcz28_0 := BC BK203 0 (.int .i64 a1_0) rfl; have hcz28_1 := BC BK203 1 (.slice A1_1 l1_1.length c1_1) rfl; have hcz28_2 := BC BK203 2 (.slice A1_2 l1_2.length c1_2) rfl; have hcz28_3 := BC BK203 3 (.slice A1_3 l1_3.length c1_3) rfl; have hfz28_0 := BF BK203 0; have hfz28_1 := BF BK203 1; have hfz28_2 := BF BK203 2; have hfz28_3 := BF BK203 3; have p206 : 0 ≤ (x5_2 : Int) := of_decide_eq_true (by first | (with_reducible assumption) | assumption)
          have q206 : x5_2 < (l1_3.length : Int) := of_decide_eq_true (by first | (with_reducible assumption) | assumption)
          obtain ⟨ad206, e206, hx206_0⟩ := Kd.at_int HR1_3.out x5_2 p206 q206; cases e206
          replace hx206_0 := (HB.out.cell (World.block_lt_of_cell? w _ hx206_0)).trans hx206_0; replace p206 := eq_true p206; replace q206 := eq_true q206; go_wp2
          repeat (go_quiet (fail); try go_wp2)
          go_ret
          exact ⟨by first | rfl | (simp [errW_none, errW_some] <;> rfl) | (simp [*, errW_none, errW_some] <;> rfl), BB HB⟩
        ·rw [if_neg c21] at H; exact absurd H (by simp)
       ·rw [if_neg c20] at H; exact absurd H (by simp)
      ·rw [if_neg c19] at H; have c19b0 : decide (x5_2 < (l0_3.length : Int)) = false := decide_eq_false c19; clear c19; obtain rfl := Option.some.inj H; have hnb29 := NB202_203.out; have hnc29 := NB203_202.out; have hcz30_0 := BC BK202 0 (.int .i64 a0_0) rfl; have hcz30_1 := BC BK202 1 (.slice A0_1 l0_1.length c0_1) rfl; have hcz30_2 := BC BK202 2 (.slice A0_2 l0_2.length c0_2) rfl; have hcz30_3 := BC BK202 3 (.slice A0_3 l0_3.length c0_3) rfl; have hfz30_0 := BF BK202 0; have hfz30_1 := BF BK202 1; have hfz30_2 := BF BK202 2; have hfz30_3 := BF BK202 3; go_wp2
       repeat (go_quiet (fail); try go_wp2)
       go_ret
       exact ⟨by first | rfl | (simp [errW_none, errW_some] <;> rfl) | (simp [*, errW_none, errW_some] <;> rfl), BB HB⟩

end Go.Proofs.Ytlfjjapndlkamaa.GH
