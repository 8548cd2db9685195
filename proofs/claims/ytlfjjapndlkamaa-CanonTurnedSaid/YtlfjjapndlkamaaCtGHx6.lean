-- Printed by a program of the session (wip/gen/tprint.py, over a turned copy of the kit's print): Lean checks it.
import Derived.Test.YtlfjjapndlkamaaCtGHx0
import Derived.Test.YtlfjjapndlkamaaCtGHx5
namespace Go.Proofs.Ytlfjjapndlkamaa.GH
open Go.RowKit Go.Proofs.YtlfjjapndlkamaaW.PrintWords Go.Proofs.YtlfjjapndlkamaaW.PrintLast Go.Proofs.YtlfjjapndlkamaaW.PrintMore
attribute [local go_sem] max2_int min2_int max_two min_two max_three min_three max_four min_four   -- for this text's walks alone
set_option linter.unusedVariables false
set_option linter.unusedSimpArgs false

/-! ### dioramaref09_Great: function 15 -/
mutual
def dioramaref09_Great.j0 : Nat → Bool → List (S40) → Int → Option (Bool)
 | 0, _, _, _ => none
 | k + 1, x12, x159000, x159001 => if x12 = true then (some true) else (dioramaref09_Great.l0 k 0 x159000 x159001)
def dioramaref09_Great.l0 : Nat → Int → List (S40) → Int → Option (Bool)
 | 0, _, _, _ => none
 | k + 1, x3, x159000, x159001 => if x3 < (x159000.length : Int) then (if 0 ≤ x3 then ((dioramaref08_Great.f k ((rd_T40 x159000 x3).f0) ((rd_T40 x159000 x3).f1) ((rd_T40 x159000 x3).f2) ((rd_T40 x159000 x3).f3)).bind fun t161 => (if t161 = true then (some true) else (dioramaref09_Great.l0 k (wrap64 (x3 + 1)) x159000 x159001))) else (none)) else (some false)
end
def dioramaref09_Great.f (k : Nat) (l0_0 : List (S40)) (a0_1 : Int) : Option (Bool) := if (l0_0.length : Int) > 60 then (dioramaref09_Great.j0 k true l0_0 a0_1) else ((dioramaref09_Edges.f k l0_0 a0_1).bind fun t159 => (dioramaref09_Great.j0 k (decide (t159 > 300)) l0_0 a0_1))
set_option maxHeartbeats 8000000 in
set_option maxRecDepth 100000 in
theorem dioramaref09_Great.calls (k : Nat) (A0_0 : Option Addr) (c0_0 : Nat) (l0_0 : List (S40)) (a0_1 : Int) (r : Bool) (w : World) (hr0_0 : Kd.C k40 w A0_0 l0_0.length l0_0) (hc0_0 : l0_0.length ≤ c0_0) (h : dioramaref09_Great.f k l0_0 a0_1 = some r) :
  Calls Try.prog 15 #[.agg #[.slice A0_0 l0_0.length c0_0, .int .i64 a0_1]] w fun e w' => e = .returned (.bool r) ∧ Below w.heap.size w w' := by
 have hu24 := Try.underlying24; have hu40 := Try.underlying40; have HR0_0 := AM hr0_0; have HC0_0 := AM hc0_0; clear hr0_0 hc0_0; have HB := AM (Below.refl w.heap.size w); have H : (if (l0_0.length : Int) > 60 then (dioramaref09_Great.j0 k true l0_0 a0_1) else ((dioramaref09_Edges.f k l0_0 a0_1).bind fun t159 => (dioramaref09_Great.j0 k (decide (t159 > 300)) l0_0 a0_1))) = some r := h
 clear h; have HC2 := AM H; clear H; go_enter Try.func15, Try.ntmps15
 go_upto_region 1 with (first | ((with_reducible refine gate_dst (N := 1) rfl ?_); refine box_event ?hg (N := 1) ?hd (cs := #[.slice A0_0 l0_0.length c0_0, .int .i64 a0_1]) (t := 24) ?hr ?_; (case hd => rfl); (case hg => rfl); (case hr => first | (go_simp; done) | (go_simp; rfl)); intro gb158 hg w3 hbox hb; have BK158 := AM (hbox); have GW158 := GW HB hg; have GE158 := GW HB hg; replace HB := BS HB hb; clear hb hbox hg))
 (try simp only [Act.put, List.setIfInBounds_toArray, List.set_cons_zero, List.set_cons_succ])
 go_cut [12] (fun v12 wc => ∃ (kq : Nat) (x12_1 : Bool), v12 = .bool x12_1 ∧ Aside0 (dioramaref09_Great.j0 kq x12_1 l0_0 a0_1 = some r) ∧ Aside0 (kq ≤ k) ∧ Aside0 (wc.heap[gb158]? = some (.cells #[(.slice A0_0 l0_0.length c0_0), .int .i64 a0_1] 24 (0, 0))) ∧ Aside0 (Below w.heap.size w wc))
 case first =>
  have H := HC2.out; clear HC2; by_cases c4 : (l0_0.length : Int) > 60
  ·rw [if_pos c4] at H; have c4b0 : decide (60 < (l0_0.length : Int)) = true := decide_eq_true c4; have c4b1 : decide (60 < l0_0.length) = true := decide_eq_true (by omega)
   clear c4; (first | rw [c4b0] | (simp only [i64_w, i32_w]; rw [c4b0]) | skip)
   have H' := AM H; clear H; have hcz5_0 := BC BK158 0 (.slice A0_0 l0_0.length c0_0) rfl; have hcz5_1 := BC BK158 1 (.int .i64 a0_1) rfl; have hfz5_0 := BF BK158 0; have hfz5_1 := BF BK158 1; go_wp2
   go_meet
   case rel => exact ⟨_, (true), (by first | rfl | (simp; done) | (simp [*]; done)), H', ⟨by first | omega | exact Nat.le_refl _⟩, ⟨BL BK158⟩, ⟨BB HB⟩⟩
  ·rw [if_neg c4] at H; have c4b0 : decide (60 < (l0_0.length : Int)) = false := decide_eq_false c4; have c4b1 : decide (60 < l0_0.length) = false := decide_eq_false (by omega)
   clear c4; (first | rw [c4b0] | (simp only [i64_w, i32_w]; rw [c4b0]) | skip)
   replace H := Option.bind_eq_some_iff.mp H; obtain ⟨t159, A60, H⟩ := H; replace H : (dioramaref09_Great.j0 k (decide (t159 > 300)) l0_0 a0_1) = some r := H; have A6 := AM A60; clear A60; have H' := AM H; clear H; have hcz7_0 := BC BK158 0 (.slice A0_0 l0_0.length c0_0) rfl; have hcz7_1 := BC BK158 1 (.int .i64 a0_1) rfl; have hfz7_0 := BF BK158 0; have hfz7_1 := BF BK158 1; go_wp2_with (first | (go_at_call 35; (with_reducible refine (dioramaref09_Edges.calls k _ _ l0_0 a0_1 t159 _ ?side1 ?side2 A6.out).mono ?_); (case side1 => exact Kd.C_below HR0_0.out (BB HB)); (case side2 => exact HC0_0.out); rintro e w8 ⟨rfl, hb⟩; replace BK158 := BE BK158 hb; replace HB := BS HB hb; (try clear hb); (try clear hb2); (try clear hk); (try clear hi)))
   go_meet
   case rel => exact ⟨_, (decide (t159 > 300)), (by first | rfl | (simp; done) | (simp [*]; done)), H', ⟨by first | omega | exact Nat.le_refl _⟩, ⟨BL BK158⟩, ⟨BB HB⟩⟩
 case rest =>
  clear HC2; try clear c1
  try clear p2
  try clear c4
  try clear c4b0
  try clear c4b1
  try clear hcz5_0
  try clear hcz5_1
  try clear hcz7_0
  try clear hcz7_1
  try clear hfz5_0
  try clear hfz5_1
  try clear hfz7_0
  try clear hfz7_1
  obtain ⟨kq, x12_1, rfl, HA, HJ1, BK158, HB⟩ := hcut; cases kq with
  | zero => exact absurd HA.out (by simp [dioramaref09_Great.j0])
  | succ kj1 =>
   have H := HA.out; clear HA; simp only [dioramaref09_Great.j0] at H
   by_cases c9 : x12_1 = true
   ·subst c9; have H1 : (some true) = some r := by rw [if_pos rfl] at H; exact H
    clear H; have H := H1; clear H1; obtain rfl := Option.some.inj H; go_wp2
    go_ret
    exact ⟨by first | rfl | (simp [errW_none, errW_some] <;> rfl) | (simp [*, errW_none, errW_some] <;> rfl), BB HB⟩
   ·replace c9 := Bool.eq_false_iff.mpr c9; subst c9; have H1 : (dioramaref09_Great.l0 kj1 0 l0_0 a0_1) = some r := by rw [if_neg (show ¬ (false = true) by decide)] at H; exact H
    clear H; have H := H1; clear H1; have H' := AM H; clear H; go_wp2
    go_loopg [3] kj1 (fun kq v3 w' => ∃ (x3_2 : Int), v3 = .int .i64 x3_2 ∧ Aside0 (dioramaref09_Great.l0 kq x3_2 l0_0 a0_1 = some r) ∧ Aside0 (kq ≤ kj1) ∧ Aside0 (w'.heap[gb158]? = some (.cells #[(.slice A0_0 l0_0.length c0_0), .int .i64 a0_1] 24 (0, 0))) ∧ Aside0 (Below w.heap.size w w'))
    case atStart => exact ⟨(0), (by first | rfl | (simp; done) | (simp [*]; done)), H', ⟨Nat.le_refl _⟩, ⟨BL BK158⟩, ⟨BB HB⟩⟩
    case round =>
     clear H'; try clear c1
     try clear p2
     try clear c4
     try clear c4b0
     try clear c4b1
     try clear c9
     try clear hcz5_0
     try clear hcz5_1
     try clear hcz7_0
     try clear hcz7_1
     try clear hfz5_0
     try clear hfz5_1
     try clear hfz7_0
     try clear hfz7_1
     try clear p2
     obtain ⟨x3_2, rfl, HA, HK2, BK158, HB⟩ := hrel; cases gk with
     | zero => exact absurd HA.out (by simp [dioramaref09_Great.l0])
     | succ k2 =>
      have H := HA.out; clear HA; simp only [dioramaref09_Great.l0] at H
      by_cases c10 : x3_2 < (l0_0.length : Int)
      ·rw [if_pos c10] at H; have c10b0 : decide (x3_2 < (l0_0.length : Int)) = true := decide_eq_true c10; clear c10; by_cases c11 : 0 ≤ x3_2
       ·rw [if_pos c11] at H; have c11b0 : decide (0 ≤ x3_2) = true := decide_eq_true c11; clear c11; replace H := Option.bind_eq_some_iff.mp H; obtain ⟨t161, A120, H⟩ := H; replace H : (if t161 = true then (some true) else (dioramaref09_Great.l0 k2 (wrap64 (x3_2 + 1)) l0_0 a0_1)) = some r := H; have A12 := AM A120; clear A120; by_cases c13 : t161 = true
        ·subst c13; have H1 : (some true) = some r := by rw [if_pos rfl] at H; exact H
         clear H; have H := H1; clear H1; obtain rfl := Option.some.inj H; have hcz14_0 := BC BK158 0 (.slice A0_0 l0_0.length c0_0) rfl; have hcz14_1 := BC BK158 1 (.int .i64 a0_1) rfl; have hfz14_0 := BF BK158 0; have hfz14_1 := BF BK158 1; have p160 : 0 ≤ (x3_2 : Int) := of_decide_eq_true (by first | (with_reducible assumption) | assumption)
         have q160 : x3_2 < (l0_0.length : Int) := of_decide_eq_true (by first | (with_reducible assumption) | assumption)
         obtain ⟨ad160, A160_1, c160_1, A160_2, c160_2, A160_3, c160_3, e160, hx160_0, hx160_1, hx160_2, hx160_3, hl160_1, hi160_1, hl160_2, hi160_2, hl160_3, hi160_3⟩ := at_T40 HR0_0.out x3_2 p160 q160; cases e160
         replace hx160_0 := (HB.out.cell (World.block_lt_of_cell? w _ hx160_0)).trans hx160_0; replace hx160_1 := (HB.out.cell (World.block_lt_of_cell? w _ hx160_1)).trans hx160_1; replace hx160_2 := (HB.out.cell (World.block_lt_of_cell? w _ hx160_2)).trans hx160_2; replace hx160_3 := (HB.out.cell (World.block_lt_of_cell? w _ hx160_3)).trans hx160_3; have HR160_1 := AM hi160_1; have HC160_1 := AM hl160_1; clear hi160_1 hl160_1; have HR160_2 := AM hi160_2; have HC160_2 := AM hl160_2; clear hi160_2 hl160_2; have HR160_3 := AM hi160_3; have HC160_3 := AM hl160_3; clear hi160_3 hl160_3; replace p160 := eq_true p160; replace q160 := eq_true q160; go_wp2_with (first | ((with_reducible refine gate_callee (f := 40) rfl ?_); refine goesM_ (some 25) rfl rfl Try.func40 #[.agg #[.int .i64 ((rd_T40 l0_0 x3_2).f0), .slice A160_1 ((rd_T40 l0_0 x3_2).f1).length c160_1, .slice A160_2 ((rd_T40 l0_0 x3_2).f2).length c160_2, .slice A160_3 ((rd_T40 l0_0 x3_2).f3).length c160_3]] rfl ?_; (with_reducible refine (dioramaref08_Great.calls k2 ((rd_T40 l0_0 x3_2).f0) _ _ ((rd_T40 l0_0 x3_2).f1) _ _ ((rd_T40 l0_0 x3_2).f2) _ _ ((rd_T40 l0_0 x3_2).f3) true _ ?side1 ?side2 ?side3 ?side4 ?side5 ?side6 A12.out).mono ?_); (case side1 => exact Kd.C_below HR160_1.out (BB HB)); (case side2 => exact HC160_1.out); (case side3 => exact Kd.C_below HR160_2.out (BB HB)); (case side4 => exact HC160_2.out); (case side5 => exact Kd.C_below HR160_3.out (BB HB)); (case side6 => exact HC160_3.out); rintro e w15 ⟨rfl, hb⟩; refine ⟨_, rfl, ?_⟩; replace BK158 := BE BK158 hb; replace HB := BS HB hb; (try clear hb); (try clear hb2); (try clear hk); (try clear hi)))
         go_ret
         exact ⟨by first | rfl | (simp [errW_none, errW_some] <;> rfl) | (simp [*, errW_none, errW_some] <;> rfl), BB HB⟩
        ·replace c13 := Bool.eq_false_iff.mpr c13; subst c13; have H1 : (dioramaref09_Great.l0 k2 (wrap64 (x3_2 + 1)) l0_0 a0_1) = some r := by rw [if_neg (show ¬ (false = true) by decide)] at H; exact H
         clear H; have H := H1; clear H1; have H' := AM H; clear H; have hcz16_0 := BC BK158 0 (.slice A0_0 l0_0.length c0_0) rfl; have hcz16_1 := BC BK158 1 (.int .i64 a0_1) rfl; have hfz16_0 := BF BK158 0; have hfz16_1 := BF BK158 1; have p160 : 0 ≤ (x3_2 : Int) := of_decide_eq_true (by first | (with_reducible assumption) | assumption)
         have q160 : x3_2 < (l0_0.length : Int) := of_decide_eq_true (by first | (with_reducible assumption) | assumption)
         obtain ⟨ad160, A160_1, c160_1, A160_2, c160_2, A160_3, c160_3, e160, hx160_0, hx160_1, hx160_2, hx160_3, hl160_1, hi160_1, hl160_2, hi160_2, hl160_3, hi160_3⟩ := at_T40 HR0_0.out x3_2 p160 q160; cases e160
         replace hx160_0 := (HB.out.cell (World.block_lt_of_cell? w _ hx160_0)).trans hx160_0; replace hx160_1 := (HB.out.cell (World.block_lt_of_cell? w _ hx160_1)).trans hx160_1; replace hx160_2 := (HB.out.cell (World.block_lt_of_cell? w _ hx160_2)).trans hx160_2; replace hx160_3 := (HB.out.cell (World.block_lt_of_cell? w _ hx160_3)).trans hx160_3; have HR160_1 := AM hi160_1; have HC160_1 := AM hl160_1; clear hi160_1 hl160_1; have HR160_2 := AM hi160_2; have HC160_2 := AM hl160_2; clear hi160_2 hl160_2; have HR160_3 := AM hi160_3; have HC160_3 := AM hl160_3; clear hi160_3 hl160_3; replace p160 := eq_true p160; replace q160 := eq_true q160; go_wp2_with (first | ((with_reducible refine gate_callee (f := 40) rfl ?_); refine goesM_ (some 25) rfl rfl Try.func40 #[.agg #[.int .i64 ((rd_T40 l0_0 x3_2).f0), .slice A160_1 ((rd_T40 l0_0 x3_2).f1).length c160_1, .slice A160_2 ((rd_T40 l0_0 x3_2).f2).length c160_2, .slice A160_3 ((rd_T40 l0_0 x3_2).f3).length c160_3]] rfl ?_; (with_reducible refine (dioramaref08_Great.calls k2 ((rd_T40 l0_0 x3_2).f0) _ _ ((rd_T40 l0_0 x3_2).f1) _ _ ((rd_T40 l0_0 x3_2).f2) _ _ ((rd_T40 l0_0 x3_2).f3) false _ ?side1 ?side2 ?side3 ?side4 ?side5 ?side6 A12.out).mono ?_); (case side1 => exact Kd.C_below HR160_1.out (BB HB)); (case side2 => exact HC160_1.out); (case side3 => exact Kd.C_below HR160_2.out (BB HB)); (case side4 => exact HC160_2.out); (case side5 => exact Kd.C_below HR160_3.out (BB HB)); (case side6 => exact HC160_3.out); rintro e w17 ⟨rfl, hb⟩; refine ⟨_, rfl, ?_⟩; replace BK158 := BE BK158 hb; replace HB := BS HB hb; (try clear hb); (try clear hb2); (try clear hk); (try clear hi)))
         go_roundg k2
         case measure => have := HJ1.out; have := HK2.out; omega
         case rel => exact ⟨(wrap64 (x3_2 + 1)), (by first | rfl | (simp; done) | (simp [*]; done)), H', ⟨by have := HJ1.out; have := HK2.out; omega⟩, ⟨BL BK158⟩, ⟨BB HB⟩⟩
       ·rw [if_neg c11] at H; exact absurd H (by simp)
      ·rw [if_neg c10] at H; have c10b0 : decide (x3_2 < (l0_0.length : Int)) = false := decide_eq_false c10; clear c10; obtain rfl := Option.some.inj H; have hcz18_0 := BC BK158 0 (.slice A0_0 l0_0.length c0_0) rfl; have hcz18_1 := BC BK158 1 (.int .i64 a0_1) rfl; have hfz18_0 := BF BK158 0; have hfz18_1 := BF BK158 1; go_wp2
       go_ret
       exact ⟨by first | rfl | (simp [errW_none, errW_some] <;> rfl) | (simp [*, errW_none, errW_some] <;> rfl), BB HB⟩

/-! ### dioramaref08_Copy: function 29 -/
section
open Go.Lib
def dioramaref08_Copy.f (a0_0 : Int) (l0_1 : List Int) (l0_2 : List ByteArray) (l0_3 : List Int) : Option (Int × List Int × List ByteArray × List Int) :=
 if l0_1.length < 17592186044416 ∧ l0_2.length < 8796093022208 ∧ l0_3.length < 17592186044416 then some (a0_0, l0_1, l0_2, l0_3) else none
def dioramaref08_Copy.T1 : Bool × List (List Nat × List Nat) := (true, [([], []), ([0], [0]), ([], []), ([], []), ([3], [3]), ([2, 4], [2, 4]), ([], []), ([], []), ([7], [7]), ([6, 8, 5], [6, 8]), ([], []), ([], []), ([11], [11]), ([10, 12, 9], [10, 12]), ([1, 5, 9, 13], [1, 5, 9, 13]), ([14, 13, 0, 1, 2, 3, 4, 5, 6, 7, 8, 9, 10, 11, 12, 13, 14], [14])])
def dioramaref08_Copy.B1 : List Nat := [0, 1, 0, 0, 8, 28, 0, 0, 128, 508, 0, 0, 2048, 8188, 16383, 32767]
theorem dioramaref08_Copy.tab1 : rtab .any (opsOf Try.f29 1) = dioramaref08_Copy.T1 := by kernel_rfl
theorem dioramaref08_Copy.bits1 : waitsOk dioramaref08_Copy.T1.2 dioramaref08_Copy.B1 = true := by kernel_rfl
theorem wpOp_intro {P : Program} {ops : Array Oper} {Q : Exit → Act → World → Prop} {i : Nat} {oi : Oper} {N : Option Tmp} {K : Act → World → Prop} {a : Act} {w : World} (hi : ops[i]? = some oi) (hN : oi.dst = N) (h : if Region.wanted oi (yielded ops a.tmps) = true then Oper.wp P oi a w K Q else K (a.put N undef) w) : wpOp P ops Q i K a w := by
 subst hN; unfold wpOp
 rw [hi]; simp only
 by_cases hc : Region.wanted oi (yielded ops a.tmps) = true
 ·rw [if_pos hc] at h ⊢; exact .inl h
 ·rw [if_neg hc] at h ⊢; exact h
/-- What is done: p, q, r of each row's two steps. -/
def dioramaref08_Copy.L (p q r : Nat) : Array Bool := #[true, true, decide (1 ≤ p), true, true, decide (2 ≤ p), decide (1 ≤ q), true, true, decide (2 ≤ q), decide (1 ≤ r), true, true, decide (2 ≤ r), false, false]
theorem dioramaref08_Copy.ready : ∀ p, p < 3 → ∀ q, q < 3 → ∀ r, r < 3 → (readyT dioramaref08_Copy.T1.2 (dioramaref08_Copy.L p q r).toList).all (fun i => ((if p = 0 then [2] else if p = 1 then [5] else []) ++ (if q = 0 then [6] else if q = 1 then [9] else []) ++ (if r = 0 then [10] else if r = 1 then [13] else []) ++ (if p + q + r = 6 then [14] else [])).contains i) = true ∧ readyT dioramaref08_Copy.T1.2 (dioramaref08_Copy.L p q r).toList ≠ [] := by decide
set_option maxHeartbeats 4000000 in
set_option maxRecDepth 100000 in
theorem dioramaref08_Copy.run {ops : Array Oper} (hops : ops = opsOf Try.f29 1) {Q : Exit → Act → World → Prop} {S : World → Prop} {w0 : World} {x0 x1 x2 x3 x4 x6 x10 x14 x17 : Value} {A1 A2 A3 : Option Addr} {c1 c2 c3 : Nat} {l1 : List Int} {l2 : List ByteArray} {l3 : List Int}
  (g1 : Kd.C (Kd.int .i64) w0 A1 l1.length l1) (g2 : Kd.C Kd.string w0 A2 l2.length l2) (g3 : Kd.C (Kd.int .i64) w0 A3 l3.length l3) (m1 : l1.length < 17592186044416) (m2 : l2.length < 8796093022208) (m3 : l3.length < 17592186044416)
  (hS : ∀ w', Below w0.heap.size w0 w' → S w')
  (hfin : ∀ v1 v1' v2 v2' v3 v3' W, Below w0.heap.size w0 W → Kd.R (Kd.int .i64) 2 W w0.heap.size (fun _ => True) v1' l1 → Kd.R Kd.string 9 W w0.heap.size (fun _ => True) v2' l2 → Kd.R (Kd.int .i64) 3 W w0.heap.size (fun _ => True) v3' l3 →
   wpAnyLast Try.prog .any ops Q S [] 2 (dioramaref08_Copy.L 2 2 2) { tmps := #[x0, x1, x2, x3, x4, v1, x6, .slice A1 l1.length c1, v1', v2, x10, .slice A2 l2.length c2, v2', v3, x14, .slice A3 l3.length c3, v3', x17], defers := [] } W) :
  ∀ (n p q r : Nat) (v1 v1' v2 v2' v3 v3' : Value) (W : World), p < 3 → q < 3 → r < 3 → n + p + q + r = 6 → Below w0.heap.size w0 W →
   (p = 1 → Kd.R (Kd.int .i64) 2 W w0.heap.size (fun _ => True) v1 []) → (p = 2 → Kd.R (Kd.int .i64) 2 W w0.heap.size (fun _ => True) v1' l1) →
   (q = 1 → Kd.R Kd.string 9 W w0.heap.size (fun _ => True) v2 []) → (q = 2 → Kd.R Kd.string 9 W w0.heap.size (fun _ => True) v2' l2) →
   (r = 1 → Kd.R (Kd.int .i64) 3 W w0.heap.size (fun _ => True) v3 []) → (r = 2 → Kd.R (Kd.int .i64) 3 W w0.heap.size (fun _ => True) v3' l3) →
   wpAnyLast Try.prog .any ops Q S [] (n + 2) (dioramaref08_Copy.L p q r) { tmps := #[x0, x1, x2, x3, x4, v1, x6, .slice A1 l1.length c1, v1', v2, x10, .slice A2 l2.length c2, v2', v3, x14, .slice A3 l3.length c3, v3', x17], defers := [] } W := by
 subst hops; intro n
 induction n with
 | zero =>
  intro p q r v1 v1' v2 v2' v3 v3' W hp hq hr hn hB _ h1 _ h2 _ h3
  obtain rfl : p = 2 := by omega
  obtain rfl : q = 2 := by omega
  obtain rfl : r = 2 := by omega
  exact hfin v1 v1' v2 v2' v3 v3' W hB (h1 rfl) (h2 rfl) (h3 rfl)
 | succ n ih =>
  intro p q r v1 v1' v2 v2' v3 v3' W hp hq hr hn hB h1 h1' h2 h2' h3 h3'
  have hrd : Region.ready .any (opsOf Try.f29 1) (dioramaref08_Copy.L p q r) = readyT dioramaref08_Copy.T1.2 (dioramaref08_Copy.L p q r).toList := ready_eq.trans (by rw [dioramaref08_Copy.tab1])
  obtain ⟨hr1, hr2⟩ := dioramaref08_Copy.ready p hp q hq r hr; have hn6 : ¬ p + q + r = 6 := by omega
  have hz := hB.size; refine ⟨fun h => absurd (hrd.symm.trans h) hr2, fun i hi => ?_⟩
  ·rw [hrd] at hi; have hi := List.contains_iff_mem.1 (List.all_eq_true.1 hr1 i hi); rw [if_neg hn6, List.append_nil, List.mem_append, List.mem_append] at hi; rcases hi with (hi | hi) | hi
   ·by_cases e1 : p = 0
    ·subst e1; rw [if_pos rfl, List.mem_singleton] at hi; subst hi; refine wpOp_intro (i := 2) (N := some 5) rfl rfl ?_
     refine Kd.R_lit_step (Kd.int .i64) (w0 := w0) w0.heap.size 2 ?hg (N := 5) ?hd (xs := ([] : List Int)) (inner := []) (ok := fun _ => True) (okp := fun _ => True) ?hr ?hp (fun _ hk => hk) trivial hB hz (by simp) ?_
     case hd => rfl
     case hg => rfl
     case hr => kernel_rfl
     case hp => exact Reps.none _ _
     intro u W1 hu hB1 hg _
     exact ⟨fun _ _ => hS _ hB1, ih 1 q r u v1' v2 v2' v3 v3' W1 (by omega) hq hr (by omega) hB1 (fun _ => hu) (fun h => by cases h) (fun h => Kd.R_grown (h2 h) hg (fun _ _ => by simp)) (fun h => Kd.R_grown (h2' h) hg (fun _ _ => by simp)) (fun h => Kd.R_grown (h3 h) hg (fun _ _ => by simp)) (fun h => Kd.R_grown (h3' h) hg (fun _ _ => by simp))⟩
    ·by_cases e2 : p = 1
     ·subst e2; rw [if_neg (by omega), if_pos rfl, List.mem_singleton] at hi
      subst hi; refine wpOp_intro (i := 5) (N := some 8) rfl rfl ?_
      refine Kd.R_append_rows_step (Kd.int .i64) (w0 := w0) w0.heap.size (by rfl) (.tmp 5) (.tmp 7) 37 2 (.int .i64 0) 8 rfl Try.underlying37 (show (Try.prog.info? 2).map (fun i => (i.zero, i.size, i.bytes)) = some (some (.int .i64 0), 1, 8) from by kernel_rfl) rfl (by decide) (by omega) v1 [] l1 A1 _ c1 (fun _ => True) (fun _ => False) rfl rfl (h1 rfl) (Kd.C_below g1 hB) (fun _ _ h => h) (fun _ h => h.elim) (fun _ _ => trivial) hB hz (by simp; omega) ?_
      intro u W1 hu hB1 hg _
      exact ⟨fun _ _ => hS _ hB1, ih 2 q r v1 u v2 v2' v3 v3' W1 (by omega) hq hr (by omega) hB1 (fun h => by cases h) (fun _ => by simpa using hu) (fun h => Kd.R_over (h2 h) (h1 rfl) (by decide) hg) (fun h => Kd.R_over (h2' h) (h1 rfl) (by decide) hg) (fun h => Kd.R_over (h3 h) (h1 rfl) (by decide) hg) (fun h => Kd.R_over (h3' h) (h1 rfl) (by decide) hg)⟩
     ·rw [if_neg e1, if_neg e2] at hi; cases hi
   ·by_cases e1 : q = 0
    ·subst e1; rw [if_pos rfl, List.mem_singleton] at hi; subst hi; refine wpOp_intro (i := 6) (N := some 9) rfl rfl ?_
     refine Kd.R_lit_step Kd.string (w0 := w0) w0.heap.size 9 ?hg (N := 9) ?hd (xs := ([] : List ByteArray)) (inner := []) (ok := fun _ => True) (okp := fun _ => True) ?hr ?hp (fun _ hk => hk) trivial hB hz (by simp) ?_
     case hd => rfl
     case hg => rfl
     case hr => kernel_rfl
     case hp => exact Reps.none _ _
     intro u W1 hu hB1 hg _
     exact ⟨fun _ _ => hS _ hB1, ih p 1 r v1 v1' u v2' v3 v3' W1 hp (by omega) hr (by omega) hB1 (fun h => Kd.R_grown (h1 h) hg (fun _ _ => by simp)) (fun h => Kd.R_grown (h1' h) hg (fun _ _ => by simp)) (fun _ => hu) (fun h => by cases h) (fun h => Kd.R_grown (h3 h) hg (fun _ _ => by simp)) (fun h => Kd.R_grown (h3' h) hg (fun _ _ => by simp))⟩
    ·by_cases e2 : q = 1
     ·subst e2; rw [if_neg (by omega), if_pos rfl, List.mem_singleton] at hi
      subst hi; refine wpOp_intro (i := 9) (N := some 12) rfl rfl ?_
      refine Kd.R_append_rows_step Kd.string (w0 := w0) w0.heap.size (by rfl) (.tmp 9) (.tmp 11) 38 9 (.string ⟨#[]⟩) 16 rfl Try.underlying38 (show (Try.prog.info? 9).map (fun i => (i.zero, i.size, i.bytes)) = some (some (.string ⟨#[]⟩), 1, 16) from by kernel_rfl) rfl (by decide) (by omega) v2 [] l2 A2 _ c2 (fun _ => True) (fun _ => False) rfl rfl (h2 rfl) (Kd.C_below g2 hB) (fun _ _ h => h) (fun _ h => h.elim) (fun _ _ => trivial) hB hz (by simp; omega) ?_
      intro u W1 hu hB1 hg _
      exact ⟨fun _ _ => hS _ hB1, ih p 2 r v1 v1' v2 u v3 v3' W1 hp (by omega) hr (by omega) hB1 (fun h => Kd.R_over (h1 h) (h2 rfl) (by decide) hg) (fun h => Kd.R_over (h1' h) (h2 rfl) (by decide) hg) (fun h => by cases h) (fun _ => by simpa using hu) (fun h => Kd.R_over (h3 h) (h2 rfl) (by decide) hg) (fun h => Kd.R_over (h3' h) (h2 rfl) (by decide) hg)⟩
     ·rw [if_neg e1, if_neg e2] at hi; cases hi
   ·by_cases e1 : r = 0
    ·subst e1; rw [if_pos rfl, List.mem_singleton] at hi; subst hi; refine wpOp_intro (i := 10) (N := some 13) rfl rfl ?_
     refine Kd.R_lit_step (Kd.int .i64) (w0 := w0) w0.heap.size 3 ?hg (N := 13) ?hd (xs := ([] : List Int)) (inner := []) (ok := fun _ => True) (okp := fun _ => True) ?hr ?hp (fun _ hk => hk) trivial hB hz (by simp) ?_
     case hd => rfl
     case hg => rfl
     case hr => kernel_rfl
     case hp => exact Reps.none _ _
     intro u W1 hu hB1 hg _
     exact ⟨fun _ _ => hS _ hB1, ih p q 1 v1 v1' v2 v2' u v3' W1 hp hq (by omega) (by omega) hB1 (fun h => Kd.R_grown (h1 h) hg (fun _ _ => by simp)) (fun h => Kd.R_grown (h1' h) hg (fun _ _ => by simp)) (fun h => Kd.R_grown (h2 h) hg (fun _ _ => by simp)) (fun h => Kd.R_grown (h2' h) hg (fun _ _ => by simp)) (fun _ => hu) (fun h => by cases h)⟩
    ·by_cases e2 : r = 1
     ·subst e2; rw [if_neg (by omega), if_pos rfl, List.mem_singleton] at hi
      subst hi; refine wpOp_intro (i := 13) (N := some 16) rfl rfl ?_
      refine Kd.R_append_rows_step (Kd.int .i64) (w0 := w0) w0.heap.size (by rfl) (.tmp 13) (.tmp 15) 31 3 (.int .i64 0) 8 rfl Try.underlying31 (show (Try.prog.info? 3).map (fun i => (i.zero, i.size, i.bytes)) = some (some (.int .i64 0), 1, 8) from by kernel_rfl) rfl (by decide) (by omega) v3 [] l3 A3 _ c3 (fun _ => True) (fun _ => False) rfl rfl (h3 rfl) (Kd.C_below g3 hB) (fun _ _ h => h) (fun _ h => h.elim) (fun _ _ => trivial) hB hz (by simp; omega) ?_
      intro u W1 hu hB1 hg _
      exact ⟨fun _ _ => hS _ hB1, ih p q 2 v1 v1' v2 v2' v3 u W1 hp hq (by omega) (by omega) hB1 (fun h => Kd.R_over (h1 h) (h3 rfl) (by decide) hg) (fun h => Kd.R_over (h1' h) (h3 rfl) (by decide) hg) (fun h => Kd.R_over (h2 h) (h3 rfl) (by decide) hg) (fun h => Kd.R_over (h2' h) (h3 rfl) (by decide) hg) (fun h => by cases h) (fun _ => by simpa using hu)⟩
     ·rw [if_neg e1, if_neg e2] at hi; cases hi
set_option maxHeartbeats 4000000 in
set_option maxRecDepth 100000 in
theorem dioramaref08_Copy.calls (a0_0 : Int) (A0_1 : Option Addr) (c0_1 : Nat) (l0_1 : List Int) (A0_2 : Option Addr) (c0_2 : Nat) (l0_2 : List ByteArray) (A0_3 : Option Addr) (c0_3 : Nat) (l0_3 : List Int) (r1 : Int) (r2 : List Int) (r3 : List ByteArray) (r4 : List Int) (w : World) (hr0_1 : Kd.C (Kd.int .i64) w A0_1 l0_1.length l0_1) (hc0_1 : l0_1.length ≤ c0_1) (hr0_2 : Kd.C Kd.string w A0_2 l0_2.length l0_2) (hc0_2 : l0_2.length ≤ c0_2) (hr0_3 : Kd.C (Kd.int .i64) w A0_3 l0_3.length l0_3) (hc0_3 : l0_3.length ≤ c0_3) (h : dioramaref08_Copy.f a0_0 l0_1 l0_2 l0_3 = some (r1, r2, r3, r4)) :
  Calls Try.prog 29 #[.agg #[.int .i64 a0_0, .slice A0_1 l0_1.length c0_1, .slice A0_2 l0_2.length c0_2, .slice A0_3 l0_3.length c0_3]] w fun e w' => ∃ v1_ v2_ v3_ : Value, e = .returned (.agg #[.int .i64 r1, v1_, v2_, v3_]) ∧ Kd.R (Kd.int .i64) 2 w' w.heap.size (fun _ => True) v1_ r2 ∧ Kd.R Kd.string 9 w' w.heap.size (fun _ => True) v2_ r3 ∧ Kd.R (Kd.int .i64) 3 w' w.heap.size (fun _ => True) v3_ r4 ∧ Below w.heap.size w w' := by
 unfold dioramaref08_Copy.f at h
 split at h
 ·rename_i hm; simp only [Option.some.injEq, Prod.mk.injEq] at h
  obtain ⟨rfl, rfl, rfl, rfl⟩ := h; obtain ⟨m1, m2, m3⟩ := hm; have H1 := Lib.hid hr0_1; have H2 := Lib.hid hr0_2; have H3 := Lib.hid hr0_3; have M1 := Lib.hid m1; have M2 := Lib.hid m2; have M3 := Lib.hid m3; clear hr0_1 hr0_2 hr0_3 m1 m2 m3; go_enter Try.func29, Try.ntmps29
  go_upto_region 1 with (fail)
  have hb := blk_alloc (heap_alloc_new w (.cells #[.int .i64 a0_0, .slice A0_1 l0_1.length c0_1, .slice A0_2 l0_2.length c0_2, .slice A0_3 l0_3.length c0_3] 40)) (.cells #[.int .i64 0, .slice none 0 0, .slice none 0 0, .slice none 0 0] 40); have ho := heap_alloc_new (w.alloc (.cells #[.int .i64 a0_0, .slice A0_1 l0_1.length c0_1, .slice A0_2 l0_2.length c0_2, .slice A0_3 l0_3.length c0_3] 40)) (.cells #[.int .i64 0, .slice none 0 0, .slice none 0 0, .slice none 0 0] 40); have hB : Below w.heap.size w ((w.alloc (.cells #[.int .i64 a0_0, .slice A0_1 l0_1.length c0_1, .slice A0_2 l0_2.length c0_2, .slice A0_3 l0_3.length c0_3] 40)).alloc (.cells #[.int .i64 0, .slice none 0 0, .slice none 0 0, .slice none 0 0] 40)) := ((Below.refl _ w).alloc (Nat.le_refl _) _).alloc (by simp) _
  have hz1 : (w.alloc (.cells #[.int .i64 a0_0, .slice A0_1 l0_1.length c0_1, .slice A0_2 l0_2.length c0_2, .slice A0_3 l0_3.length c0_3] 40)).heap.size = w.heap.size + 1 := by simp
  rw [hz1] at ho; clear hz1; generalize ((w.alloc (.cells #[.int .i64 a0_0, .slice A0_1 l0_1.length c0_1, .slice A0_2 l0_2.length c0_2, .slice A0_3 l0_3.length c0_3] 40)).alloc (.cells #[.int .i64 0, .slice none 0 0, .slice none 0 0, .slice none 0 0] 40)) = w2 at hb ho hB ⊢
  have BK := Lib.hid (blk_drew hb); have BO := Lib.hid (blk_drew ho); have HB := Lib.hid hB.drew; clear hb ho hB; refine start_ (n := 16) (S := fun w' => w'.cell? ⟨w.heap.size, 0, none⟩ = some (.int .i64 a0_0) ∧ w'.cell? ⟨w.heap.size, 1, none⟩ = some (.slice A0_1 l0_1.length c0_1) ∧ w'.cell? ⟨w.heap.size, 2, none⟩ = some (.slice A0_2 l0_2.length c0_2) ∧ w'.cell? ⟨w.heap.size, 3, none⟩ = some (.slice A0_3 l0_3.length c0_3)) (ds := []) #[false, false, false, false, false, false, false, false, false, false, false, false, false, false, false, false] (by kernel_rfl) rfl rfl ⟨(blk_cell BK.out 0).trans rfl, (blk_cell BK.out 1).trans rfl, (blk_cell BK.out 2).trans rfl, (blk_cell BK.out 3).trans rfl⟩ (fun hHeld => ?_)
  refine with_tabW dioramaref08_Copy.tab1 dioramaref08_Copy.bits1 (fun HT_ HW_ => ?_)
  generalize w2.drew = w3 at BK BO HB hHeld ⊢
  refine pure_ (i := 0) (N := some 3) (v := ?_) (a' := ?_) #[true, false, false, false, false, false, false, false, false, false, false, false, false, false, false, false] rfl rfl (any_of HT_.out (by kernel_rfl)) (fun _ _ _ h => h) (Or.inl ⟨by rfl, ?_⟩) ?_ ?_
  rotate_left
  ·intro w'; go_simp; with_reducible rfl
  rotate_left
  ·simp only [Act.put, List.setIfInBounds_toArray, List.set_cons_zero, List.set_cons_succ, i64_w, i32_w]; rfl
  refine pure_ (i := 3) (N := some 6) (v := ?_) (a' := ?_) #[true, false, false, true, false, false, false, false, false, false, false, false, false, false, false, false] rfl rfl (any_of HT_.out (by kernel_rfl)) (fun _ _ _ h => h) (Or.inl ⟨by rfl, ?_⟩) ?_ ?_
  rotate_left
  ·intro w'; go_simp; with_reducible rfl
  rotate_left
  ·simp only [Act.put, List.setIfInBounds_toArray, List.set_cons_zero, List.set_cons_succ, i64_w, i32_w]; rfl
  refine pure_ (i := 7) (N := some 10) (v := ?_) (a' := ?_) #[true, false, false, true, false, false, false, true, false, false, false, false, false, false, false, false] rfl rfl (any_of HT_.out (by kernel_rfl)) (fun _ _ _ h => h) (Or.inl ⟨by rfl, ?_⟩) ?_ ?_
  rotate_left
  ·intro w'; go_simp; with_reducible rfl
  rotate_left
  ·simp only [Act.put, List.setIfInBounds_toArray, List.set_cons_zero, List.set_cons_succ, i64_w, i32_w]; rfl
  refine pure_ (i := 11) (N := some 14) (v := ?_) (a' := ?_) #[true, false, false, true, false, false, false, true, false, false, false, true, false, false, false, false] rfl rfl (any_of HT_.out (by kernel_rfl)) (fun _ _ _ h => h) (Or.inl ⟨by rfl, ?_⟩) ?_ ?_
  rotate_left
  ·intro w'; go_simp; with_reducible rfl
  rotate_left
  ·simp only [Act.put, List.setIfInBounds_toArray, List.set_cons_zero, List.set_cons_succ, i64_w, i32_w]; rfl
  refine take_ (i := 1) (N := some 4) (v := ?_) (a' := ?_) #[true, true, false, true, false, false, false, true, false, false, false, true, false, false, false, false] rfl rfl (take_ofW HT_.out HW_.out (by kernel_rfl)) (fun _ _ _ h => h) (Or.inl ⟨by rfl, ?_⟩) hHeld ?_ ?_
  rotate_left
  ·rintro w' ⟨s0, s1, s2, s3⟩; go_simp; with_reducible rfl
  rotate_left
  ·simp only [Act.put, List.setIfInBounds_toArray, List.set_cons_zero, List.set_cons_succ, i64_w, i32_w]; rfl
  refine take_ (i := 4) (N := some 7) (v := ?_) (a' := ?_) #[true, true, false, true, true, false, false, true, false, false, false, true, false, false, false, false] rfl rfl (take_ofW HT_.out HW_.out (by kernel_rfl)) (fun _ _ _ h => h) (Or.inl ⟨by rfl, ?_⟩) hHeld ?_ ?_
  rotate_left
  ·rintro w' ⟨s0, s1, s2, s3⟩; go_simp; with_reducible rfl
  rotate_left
  ·simp only [Act.put, List.setIfInBounds_toArray, List.set_cons_zero, List.set_cons_succ, i64_w, i32_w]; rfl
  refine take_ (i := 8) (N := some 11) (v := ?_) (a' := ?_) #[true, true, false, true, true, false, false, true, true, false, false, true, false, false, false, false] rfl rfl (take_ofW HT_.out HW_.out (by kernel_rfl)) (fun _ _ _ h => h) (Or.inl ⟨by rfl, ?_⟩) hHeld ?_ ?_
  rotate_left
  ·rintro w' ⟨s0, s1, s2, s3⟩; go_simp; with_reducible rfl
  rotate_left
  ·simp only [Act.put, List.setIfInBounds_toArray, List.set_cons_zero, List.set_cons_succ, i64_w, i32_w]; rfl
  refine take_ (i := 12) (N := some 15) (v := ?_) (a' := ?_) #[true, true, false, true, true, false, false, true, true, false, false, true, true, false, false, false] rfl rfl (take_ofW HT_.out HW_.out (by kernel_rfl)) (fun _ _ _ h => h) (Or.inl ⟨by rfl, ?_⟩) hHeld ?_ ?_
  rotate_left
  ·rintro w' ⟨s0, s1, s2, s3⟩; go_simp; with_reducible rfl
  rotate_left
  ·simp only [Act.put, List.setIfInBounds_toArray, List.set_cons_zero, List.set_cons_succ, i64_w, i32_w]; rfl
  have hblt := blk_lt BK.out; have holt := blk_lt BO.out; refine dioramaref08_Copy.run (by kernel_rfl) (Kd.C_below H1.out HB.out) (Kd.C_below H2.out HB.out) (Kd.C_below H3.out HB.out) M1.out M2.out M3.out (fun w' hb => ⟨(hb.cell hblt).trans hHeld.1, (hb.cell hblt).trans hHeld.2.1, (hb.cell hblt).trans hHeld.2.2.1, (hb.cell hblt).trans hHeld.2.2.2⟩) ?_ 6 0 0 0 _ _ _ _ _ _ w3 (by omega) (by omega) (by omega) rfl (Below.refl _ _) (fun h => by cases h) (fun h => by cases h) (fun h => by cases h) (fun h => by cases h) (fun h => by cases h) (fun h => by cases h)
  intro u1 v1 u2 v2 u3 v3 W hb ho1 ho2 ho3
  have BO2 := Lib.hid ((hb.block _ holt).trans BO.out); have BK2 := Lib.hid ((hb.block _ hblt).trans BK.out); have HB2 := Lib.hid (below_step HB.out hb); have O1 := Lib.hid ho1; have O2 := Lib.hid ho2; have O3 := Lib.hid ho3; obtain ⟨B1, d1, rfl⟩ := Kd.R_slice O1.out; obtain ⟨B2, d2, rfl⟩ := Kd.R_slice O2.out; obtain ⟨B3, d3, rfl⟩ := Kd.R_slice O3.out; have hW : W.cell? ⟨w.heap.size, 0, none⟩ = some (.int .i64 a0_0) ∧ W.cell? ⟨w.heap.size, 1, none⟩ = some (.slice A0_1 l0_1.length c0_1) ∧ W.cell? ⟨w.heap.size, 2, none⟩ = some (.slice A0_2 l0_2.length c0_2) ∧ W.cell? ⟨w.heap.size, 3, none⟩ = some (.slice A0_3 l0_3.length c0_3) := ⟨(blk_cell BK2.out 0).trans rfl, (blk_cell BK2.out 1).trans rfl, (blk_cell BK2.out 2).trans rfl, (blk_cell BK2.out 3).trans rfl⟩; refine pure_ (i := 14) (N := some 17) (v := ?_) (a' := ?_) #[true, true, true, true, true, true, true, true, true, true, true, true, true, true, true, false] rfl rfl (any_of HT_.out (by kernel_rfl)) (fun _ _ _ h => h) (Or.inl ⟨by rfl, ?_⟩) ?_ ?_
  rotate_left
  ·intro w'; go_simp; with_reducible rfl
  rotate_left
  ·simp only [Act.put, List.setIfInBounds_toArray, List.set_cons_zero, List.set_cons_succ, i64_w, i32_w]; rfl
  refine one_ (i := 15) (N := none) #[true, true, true, true, true, true, true, true, true, true, true, true, true, true, true, true] rfl rfl (one_of HT_.out (by kernel_rfl)) (by decide) (fun K hK => ?_)
  have hs0 : W.cell? ⟨w.heap.size + 1, 0, none⟩ = some (.int .i64 0) := (blk_cell BO2.out 0).trans rfl; have hs1 : W.cell? ⟨w.heap.size + 1, 1, none⟩ = some (.slice none 0 0) := (blk_cell BO2.out 1).trans rfl; have hs2 : W.cell? ⟨w.heap.size + 1, 2, none⟩ = some (.slice none 0 0) := (blk_cell BO2.out 2).trans rfl; have hs3 : W.cell? ⟨w.heap.size + 1, 3, none⟩ = some (.slice none 0 0) := (blk_cell BO2.out 3).trans rfl; have hf0 := blk_frozen BO2.out 0; have hf1 := blk_frozen BO2.out 1; have hf2 := blk_frozen BO2.out 2; have hf3 := blk_frozen BO2.out 3; have hne : w.heap.size ≠ w.heap.size + 1 := by omega
  refine skip_ (w1 := ?_) (by rfl) rfl ?_ ?_
  rotate_left
  ·go_simp; rfl
  have far : ∀ (V : World) (j i : Nat) (u x : Value), V.cell? ⟨w.heap.size, j, none⟩ = some x → (V.setCell ⟨w.heap.size + 1, i, none⟩ u).cell? ⟨w.heap.size, j, none⟩ = some x := fun V j i u x h => (cell_far (p := ⟨w.heap.size + 1, i, none⟩) hne u).trans h
  refine hK.out _ _ ⟨far _ _ _ _ _ (far _ _ _ _ _ (far _ _ _ _ _ (far _ _ _ _ _ hW.1))), far _ _ _ _ _ (far _ _ _ _ _ (far _ _ _ _ _ (far _ _ _ _ _ hW.2.1))), far _ _ _ _ _ (far _ _ _ _ _ (far _ _ _ _ _ (far _ _ _ _ _ hW.2.2.1))), far _ _ _ _ _ (far _ _ _ _ _ (far _ _ _ _ _ (far _ _ _ _ _ hW.2.2.2)))⟩ (fun hHeld => ?_)
  clear hK K; refine done_ (done_of HT_.out (by kernel_rfl)) ?_
  try go_wp2
  have hp0 := blk_put BO2.out 0 (.int .i64 a0_0) rfl; have hp1 := blk_put hp0 1 (.slice B1 l0_1.length d1) rfl; have hp2 := blk_put hp1 2 (.slice B2 l0_2.length d2) rfl; have hp3 := blk_put hp2 3 (.slice B3 l0_3.length d3) rfl; refine bodyPost_ret (results_cell_row rfl _ _ (w.heap.size + 1) 40 #[.int .i64 a0_0, .slice B1 l0_1.length d1, .slice B2 l0_2.length d2, .slice B3 l0_3.length d3] (0, 0) _ rfl hp3 Try.underlying40 rfl (by kernel_rfl)) rfl ?_
  have hsz := HB.out.size; have far1 : ∀ {α : Type} {d : Kd α} {e : Nat} {v : Value} {xs : List α} (V : World) (i : Nat) (u : Value), Kd.R d e V w3.heap.size (fun _ => True) v xs → Kd.R d e (V.setCell ⟨w.heap.size + 1, i, none⟩ u) w3.heap.size (fun _ => True) v xs := fun V i u h => Kd.R_mono (Kd.R_far (p := ⟨w.heap.size + 1, i, none⟩) (Kd.R_bound h) (fun k hk => by have := hk.2.1; show k ≠ w.heap.size + 1; omega) u) (fun _ _ => trivial)
  exact ⟨_, _, _, rfl, Kd.R_lower (far1 _ _ _ (far1 _ _ _ (far1 _ _ _ (far1 _ _ _ O1.out)))) hsz, Kd.R_lower (far1 _ _ _ (far1 _ _ _ (far1 _ _ _ (far1 _ _ _ O2.out)))) hsz, Kd.R_lower (far1 _ _ _ (far1 _ _ _ (far1 _ _ _ (far1 _ _ _ O3.out)))) hsz, (((HB2.out.setCell (p := ⟨w.heap.size + 1, 0, none⟩) (by simp) _).setCell (p := ⟨w.heap.size + 1, 1, none⟩) (by simp) _).setCell (p := ⟨w.heap.size + 1, 2, none⟩) (by simp) _).setCell (p := ⟨w.heap.size + 1, 3, none⟩) (by simp) _⟩
 ·cases h
end


/-! ### dioramaref09_Copy: function 17 -/
def dioramaref09_Copy.l0 : Nat → Int → List (S40) → Int → List (S40) → Int → Option ((List (S40)) × Int)
 | 0, _, _, _, _, _ => none
 | k + 1, x4, x163000, x163001, x165000, x165001 => if x4 < (x163000.length : Int) then (if 0 ≤ x4 then ((dioramaref08_Copy.f ((rd_T40 x163000 x4).f0) ((rd_T40 x163000 x4).f1) ((rd_T40 x163000 x4).f2) ((rd_T40 x163000 x4).f3)).bind fun bt166 => (if x165000.length < 1759218604441 then (dioramaref09_Copy.l0 k (wrap64 (x4 + 1)) x163000 x163001 (x165000 ++ [(⟨bt166.1, bt166.2.1, bt166.2.2.1, bt166.2.2.2⟩ : S40)]) x165001) else (none))) else (none)) else (some (x165000, x165001))
def dioramaref09_Copy.f (k : Nat) (l0_0 : List (S40)) (a0_1 : Int) : Option ((List (S40)) × Int) := dioramaref09_Copy.l0 k 0 l0_0 a0_1 ([] : List (S40)) a0_1
def dioramaref09_Copy.T5 : Bool × List (List Nat × List Nat) := (true, [([], []), ([0], [0]), ([], []), ([2], [2]), ([], []), ([3, 4], [3, 4]), ([5], [5]), ([6], [6]), ([7], [7]), ([1, 8, 7], [1, 8]), ([0, 1, 2, 3, 4, 5, 6, 7, 8, 9], []), ([10, 9, 9, 0, 1, 2, 3, 4, 5, 6, 7, 8, 9], [9, 10])])
def dioramaref09_Copy.B5 : List Nat := [0, 1, 0, 4, 0, 28, 60, 124, 252, 511, 1023, 2047]
theorem dioramaref09_Copy.tab5 : rtab .any (opsOf Try.f17 5) = dioramaref09_Copy.T5 := by kernel_rfl
theorem dioramaref09_Copy.bits5 : waitsOk dioramaref09_Copy.T5.2 dioramaref09_Copy.B5 = true := by kernel_rfl
set_option maxHeartbeats 8000000 in
set_option maxRecDepth 100000 in
theorem dioramaref09_Copy.calls (k : Nat) (A0_0 : Option Addr) (c0_0 : Nat) (l0_0 : List (S40)) (a0_1 : Int) (r1 : List (S40)) (r2 : Int) (w : World) (hr0_0 : Kd.C k40 w A0_0 l0_0.length l0_0) (hc0_0 : l0_0.length ≤ c0_0) (h : dioramaref09_Copy.f k l0_0 a0_1 = some (r1, r2)) :
  Calls Try.prog 17 #[.agg #[.slice A0_0 l0_0.length c0_0, .int .i64 a0_1]] w fun e w' => ∃ v0_ : Value, e = .returned (.agg #[v0_, .int .i64 r2]) ∧ Kd.S k40 40 w' w.heap.size (fun _ => True) v0_ r1 ∧ Below w.heap.size w w' := by
 have hu24 := Try.underlying24; have hu40 := Try.underlying40; have HR0_0 := AM hr0_0; have HC0_0 := AM hc0_0; clear hr0_0 hc0_0; have HB := AM (Below.refl w.heap.size w); have H : (dioramaref09_Copy.l0 k 0 l0_0 a0_1 ([] : List (S40)) a0_1) = some (r1, r2) := h; clear h; have H' := AM H; clear H; go_enter Try.func17, Try.ntmps17
 go_wp2_with (first | ((with_reducible refine gate_dst (N := 1) rfl ?_); refine box_event ?hg (N := 1) ?hd (cs := #[.slice A0_0 l0_0.length c0_0, .int .i64 a0_1]) (t := 24) ?hr ?_; (case hd => rfl); (case hg => rfl); (case hr => first | (go_simp; done) | (go_simp; rfl)); intro gb162 hg w2 hbox hb; have BK162 := AM (hbox); have GW162 := GW HB hg; have GE162 := GW HB hg; replace HB := BS HB hb; clear hb hbox hg) | ((with_reducible refine gate_dst (N := 2) rfl ?_); refine box_event ?hg (N := 2) ?hd (cs := #[.slice none 0 0, .int .i64 0]) (t := 24) ?hr ?_; (case hd => rfl); (case hg => rfl); (case hr => first | (go_simp; done) | (go_simp; rfl)); intro gb163 hg w3 hbox hb; have BK163 := AM (hbox); have GW163 := GW HB hg; have GE163 := GW HB hg; replace HB := BS HB hb; have NB162_163 := NL BK162 hg; have NB163_162 := NG BK162 hg; replace BK162 := BE BK162 hb; clear hb hbox hg; have hnb4 := NB162_163.out; have hnc4 := NB163_162.out; have hcz5_0 := BC BK162 0 (.slice A0_0 l0_0.length c0_0) rfl; have hcz5_1 := BC BK162 1 (.int .i64 a0_1) rfl; have hfz5_0 := BF BK162 0; have hfz5_1 := BF BK162 1) | ((with_reducible refine gate_dst (N := 3) rfl ?_); refine box_event ?hg (N := 3) ?hd (cs := #[.slice none 0 0, .int .i64 0]) (t := 24) ?hr ?_; (case hd => rfl); (case hg => rfl); (case hr => first | (go_simp; done) | (go_simp; rfl)); intro gb164 hg w6 hbox hb; have BK164 := AM (hbox); have GW164 := GW HB hg; have GE164 := GW HB hg; replace HB := BS HB hb; have NB162_164 := NL BK162 hg; have NB164_162 := NG BK162 hg; replace BK162 := BE BK162 hb; have NB163_164 := NL BK163 hg; have NB164_163 := NG BK163 hg; replace BK163 := BE BK163 hb; clear hb hbox hg; have hnb7 := NB164_162.out; have hnc7 := NB162_164.out; have hnb8 := NB164_163.out; have hnc8 := NB163_164.out; have hcz9_0 := BC BK164 0 (.slice none 0 0) rfl; have hcz9_1 := BC BK164 1 (.int .i64 0) rfl; have hfz9_0 := BF BK164 0; have hfz9_1 := BF BK164 1))
 go_loopg [4] k (fun kq v4 w' => ∃ (x4_1 : Int) (x165000_1 : List (S40)) (u165000 : Value), v4 = .int .i64 x4_1 ∧ Aside0 (dioramaref09_Copy.l0 kq x4_1 l0_0 a0_1 x165000_1 a0_1 = some (r1, r2)) ∧ Aside0 (kq ≤ k) ∧ Aside0 (Kd.S k40 40 w' w.heap.size (fun _ => True) u165000 x165000_1) ∧ Aside0 (w'.heap[gb162]? = some (.cells #[(.slice A0_0 l0_0.length c0_0), .int .i64 a0_1] 24 (0, 0))) ∧ Aside0 (w'.heap[gb163]? = some (.cells #[(.slice none 0 0), .int .i64 0] 24 (0, 0))) ∧ Aside0 (w'.heap[gb164]? = some (.cells #[u165000, .int .i64 a0_1] 24 (0, 0))) ∧ Aside0 (Below w.heap.size w w'))
 case atStart => exact ⟨(0), (([] : List (S40))), (.slice none 0 0), (by first | rfl | (simp; done) | (simp [*]; done)), H', ⟨Nat.le_refl _⟩, ⟨by first | exact Kd.S_nil _ _ _ _ _ | exact Kd.N_nil _ _ _ _ _ | exact Kd.V_nil _ _ _ _ _ | exact Kd.Q_nil _ _ _ _ _ | exact Kd.R_nil _ _ _ _ _⟩, ⟨by (repeat refine blk_far ?_ NB162_164.out _); (with_reducible repeat (first | refine blk_drewN ?_ _ | refine blk_drew ?_ | refine blk_alloc ?_ _)); exact BK162.out⟩, ⟨by (repeat refine blk_far ?_ NB163_164.out _); (with_reducible repeat (first | refine blk_drewN ?_ _ | refine blk_drew ?_ | refine blk_alloc ?_ _)); exact BK163.out⟩, ⟨by refine blk_put (cs := #[.slice none 0 0, .int .i64 0]) ?_ 1 _ rfl; refine blk_put (cs := #[.slice none 0 0, .int .i64 0]) ?_ 0 _ rfl; (with_reducible repeat (first | refine blk_drewN ?_ _ | refine blk_drew ?_ | refine blk_alloc ?_ _)); exact BK164.out⟩, ⟨BB HB⟩⟩
 case round =>
  clear H'; try clear c1
  try clear p2
  try clear c4
  try clear c7
  try clear c8
  try clear hcz5_0
  try clear hcz5_1
  try clear hcz9_0
  try clear hcz9_1
  try clear hfz5_0
  try clear hfz5_1
  try clear hfz9_0
  try clear hfz9_1
  obtain ⟨x4_1, x165000_1, u165000, rfl, HA, HK1, HO_165000, BK162, BK163, BK164, HB⟩ := hrel; cases gk with
  | zero => exact absurd HA.out (by simp [dioramaref09_Copy.l0])
  | succ k1 =>
   have H := HA.out; clear HA; simp only [dioramaref09_Copy.l0] at H
   by_cases c10 : x4_1 < (l0_0.length : Int)
   ·rw [if_pos c10] at H; have c10b0 : decide (x4_1 < (l0_0.length : Int)) = true := decide_eq_true c10; clear c10; by_cases c11 : 0 ≤ x4_1
    ·rw [if_pos c11] at H; have c11b0 : decide (0 ≤ x4_1) = true := decide_eq_true c11; clear c11; replace H := Option.bind_eq_some_iff.mp H; obtain ⟨⟨t166, t167, t170, t173⟩, A120, H⟩ := H; replace H : (if x165000_1.length < 1759218604441 then (dioramaref09_Copy.l0 k1 (wrap64 (x4_1 + 1)) l0_0 a0_1 (x165000_1 ++ [(⟨t166, t167, t170, t173⟩ : S40)]) a0_1) else (none)) = some (r1, r2) := H; have A12 := AM A120; clear A120; by_cases c13 : x165000_1.length < 1759218604441
     ·rw [if_pos c13] at H; have LMc13 := AM c13; clear c13; obtain ⟨y176, hy176⟩ : ∃ y_ : List (S40), y_ = (x165000_1 ++ [(⟨t166, t167, t170, t173⟩ : S40)]) := ⟨_, rfl⟩; replace H : (dioramaref09_Copy.l0 k1 (wrap64 (x4_1 + 1)) l0_0 a0_1 y176 a0_1) = some (r1, r2) := by first | (rw [hy176]; with_reducible exact H) | (have H2_ := (Option.bind_some _ _).symm.trans H; rw [hy176]; with_reducible exact H2_) | (have H2_ := (Option.bind_some _ _).symm.trans H; with_reducible exact H2_) | with_reducible exact H | (rw [hy176]; exact H) | exact H
      have Ny176 := AM hy176; clear hy176; have H' := AM H; clear H; have hnb14 := NB162_163.out; have hnc14 := NB163_162.out; have hnb15 := NB162_164.out; have hnc15 := NB164_162.out; have hcz16_0 := BC BK162 0 (.slice A0_0 l0_0.length c0_0) rfl; have hcz16_1 := BC BK162 1 (.int .i64 a0_1) rfl; have hfz16_0 := BF BK162 0; have hfz16_1 := BF BK162 1; try go_wp2
      replace HO_165000 := AM (Kd.S_drew HO_165000.out); replace BK162 := AM (blk_drew BK162.out); replace BK163 := AM (blk_drew BK163.out); replace BK164 := AM (blk_drew BK164.out); replace HB := AM (below_drew1 HB.out); have p165 : 0 ≤ (x4_1 : Int) := of_decide_eq_true (by first | (with_reducible assumption) | assumption)
      have q165 : x4_1 < (l0_0.length : Int) := of_decide_eq_true (by first | (with_reducible assumption) | assumption)
      obtain ⟨ad165, A165_1, c165_1, A165_2, c165_2, A165_3, c165_3, e165, hx165_0, hx165_1, hx165_2, hx165_3, hl165_1, hi165_1, hl165_2, hi165_2, hl165_3, hi165_3⟩ := at_T40 HR0_0.out x4_1 p165 q165; have hw165_3 := hx165_3; have hw165_2 := hx165_2; have hw165_1 := hx165_1; have hw165_0 := hx165_0; cases e165
      replace hx165_0 := (HB.out.cell (World.block_lt_of_cell? w _ hx165_0)).trans hx165_0; replace hx165_1 := (HB.out.cell (World.block_lt_of_cell? w _ hx165_1)).trans hx165_1; replace hx165_2 := (HB.out.cell (World.block_lt_of_cell? w _ hx165_2)).trans hx165_2; replace hx165_3 := (HB.out.cell (World.block_lt_of_cell? w _ hx165_3)).trans hx165_3; have HR165_1 := AM hi165_1; have HC165_1 := AM hl165_1; clear hi165_1 hl165_1; have HR165_2 := AM hi165_2; have HC165_2 := AM hl165_2; clear hi165_2 hl165_2; have HR165_3 := AM hi165_3; have HC165_3 := AM hl165_3; clear hi165_3 hl165_3; replace p165 := eq_true p165; replace q165 := eq_true q165; refine start_ (n := 12) (S := fun w' => w'.cell? ⟨gb164, 0, none⟩ = some (u165000) ∧ w'.cell? ⟨gb164, 1, none⟩ = some (.int .i64 a0_1) ∧ w'.cell? ⟨gb162, 0, none⟩ = some (.slice (some ad165) l0_0.length c0_0) ∧ w'.cell? ⟨gb162, 1, none⟩ = some (.int .i64 a0_1) ∧ w'.cell? (ad165.add ((x4_1).toNat * 4)) = some (.int .i64 ((rd_T40 l0_0 x4_1).f0)) ∧ w'.cell? ⟨(ad165.add ((x4_1).toNat * 4)).block, (ad165.add ((x4_1).toNat * 4)).off + 1, none⟩ = some (.slice A165_1 ((rd_T40 l0_0 x4_1).f1).length c165_1) ∧ w'.cell? ⟨(ad165.add ((x4_1).toNat * 4)).block, (ad165.add ((x4_1).toNat * 4)).off + 2, none⟩ = some (.slice A165_2 ((rd_T40 l0_0 x4_1).f2).length c165_2) ∧ w'.cell? ⟨(ad165.add ((x4_1).toNat * 4)).block, (ad165.add ((x4_1).toNat * 4)).off + 3, none⟩ = some (.slice A165_3 ((rd_T40 l0_0 x4_1).f3).length c165_3)) (ds := [11]) #[false, false, false, false, false, false, false, false, false, false, false, false] (by kernel_rfl) rfl rfl ⟨(blk_cell BK164.out 0).trans rfl, (blk_cell BK164.out 1).trans rfl, (blk_cell BK162.out 0).trans rfl, (blk_cell BK162.out 1).trans rfl, ((HB.out.cell (World.block_lt_of_cell? w _ hw165_0)).trans hw165_0), ((HB.out.cell (World.block_lt_of_cell? w _ hw165_1)).trans hw165_1), ((HB.out.cell (World.block_lt_of_cell? w _ hw165_2)).trans hw165_2), ((HB.out.cell (World.block_lt_of_cell? w _ hw165_3)).trans hw165_3)⟩ (fun hHeld => ?_); refine with_tabW dioramaref09_Copy.tab5 dioramaref09_Copy.bits5 (fun HT_ HW_ => ?_)
      generalize wr.drew = w17 at HO_165000 BK162 BK163 BK164 HB HR165_1 HR165_2 HR165_3 hx165_0 hx165_1 hx165_2 hx165_3 hHeld ⊢
      refine pure_ (i := 0) (N := some 15) (v := ?_) (a' := ?_) #[true, false, false, false, false, false, false, false, false, false, false, false] rfl rfl (any_of HT_.out (by kernel_rfl)) (fun _ _ _ h => h) (Or.inl ⟨by rfl, ?_⟩) ?_ ?_
      rotate_left
      ·intro w'
       go_simp
       with_reducible rfl
      rotate_left
      ·simp only [Act.put, List.setIfInBounds_toArray, List.set_cons_zero, List.set_cons_succ, i64_w, i32_w]
       rfl
      refine pure_ (i := 2) (N := some 17) (v := ?_) (a' := ?_) #[true, false, true, false, false, false, false, false, false, false, false, false] rfl rfl (any_of HT_.out (by kernel_rfl)) (fun _ _ _ h => h) (Or.inl ⟨by rfl, ?_⟩) ?_ ?_
      rotate_left
      ·intro w'
       go_simp
       with_reducible rfl
      rotate_left
      ·simp only [Act.put, List.setIfInBounds_toArray, List.set_cons_zero, List.set_cons_succ, i64_w, i32_w]
       rfl
      refine pure_ (i := 4) (N := some 19) (v := ?_) (a' := ?_) #[true, false, true, false, true, false, false, false, false, false, false, false] rfl rfl (any_of HT_.out (by kernel_rfl)) (fun _ _ _ h => h) (Or.inl ⟨by rfl, ?_⟩) ?_ ?_
      rotate_left
      ·intro w'
       go_simp
       with_reducible rfl
      rotate_left
      ·simp only [Act.put, List.setIfInBounds_toArray, List.set_cons_zero, List.set_cons_succ, i64_w, i32_w]
       rfl
      refine take_ (i := 1) (N := some 16) (v := ?_) (a' := ?_) #[true, true, true, false, true, false, false, false, false, false, false, false] rfl rfl (take_ofW HT_.out HW_.out (by kernel_rfl)) (fun _ _ _ h => h) (Or.inl ⟨by rfl, ?_⟩) hHeld ?_ ?_
      rotate_left
      ·rintro w' ⟨s0, s1, s2, s3, s4, s5, s6, s7⟩
       go_simp
       with_reducible rfl
      rotate_left
      ·simp only [Act.put, List.setIfInBounds_toArray, List.set_cons_zero, List.set_cons_succ, i64_w, i32_w]
       rfl
      refine take_ (i := 3) (N := some 18) (v := ?_) (a' := ?_) #[true, true, true, true, true, false, false, false, false, false, false, false] rfl rfl (take_ofW HT_.out HW_.out (by kernel_rfl)) (fun _ _ _ h => h) (Or.inl ⟨by rfl, ?_⟩) hHeld ?_ ?_
      rotate_left
      ·rintro w' ⟨s0, s1, s2, s3, s4, s5, s6, s7⟩
       go_simp
       with_reducible rfl
      rotate_left
      ·simp only [Act.put, List.setIfInBounds_toArray, List.set_cons_zero, List.set_cons_succ, i64_w, i32_w]
       rfl
      refine pure_ (i := 5) (N := some 20) (v := ?_) (a' := ?_) #[true, true, true, true, true, true, false, false, false, false, false, false] rfl rfl (any_of HT_.out (by kernel_rfl)) (fun _ _ _ h => h) (Or.inl ⟨by rfl, ?_⟩) ?_ ?_
      rotate_left
      ·intro w'
       go_simp
       with_reducible rfl
      rotate_left
      ·simp only [Act.put, List.setIfInBounds_toArray, List.set_cons_zero, List.set_cons_succ, i64_w, i32_w]
       rfl
      refine take_ (i := 6) (N := some 21) (v := ?_) (a' := ?_) #[true, true, true, true, true, true, true, false, false, false, false, false] rfl rfl (take_ofW HT_.out HW_.out (by kernel_rfl)) (fun _ _ _ h => h) (Or.inl ⟨by rfl, ?_⟩) hHeld ?_ ?_
      rotate_left
      ·rintro w' ⟨s0, s1, s2, s3, s4, s5, s6, s7⟩
       go_simp
       with_reducible rfl
      rotate_left
      ·simp only [Act.put, List.setIfInBounds_toArray, List.set_cons_zero, List.set_cons_succ, i64_w, i32_w]
       rfl
      refine one_ (i := 7) (N := some 22) #[true, true, true, true, true, true, true, true, false, false, false, false] rfl rfl (one_of HT_.out (by kernel_rfl)) (by decide) (fun K hK => ?_)
      refine goes_ Try.func29 (by kernel_rfl) rfl #[.agg #[.int .i64 ((rd_T40 l0_0 x4_1).f0), .slice A165_1 ((rd_T40 l0_0 x4_1).f1).length c165_1, .slice A165_2 ((rd_T40 l0_0 x4_1).f2).length c165_2, .slice A165_3 ((rd_T40 l0_0 x4_1).f3).length c165_3]] (by rfl) rfl rfl (by (try simp only [List.map_toArray, List.map_cons, List.map_nil]); first | done | rfl | (simp only [List.length_drop, List.length_take]; rfl)) ?_
      with_reducible refine (dioramaref08_Copy.calls ((rd_T40 l0_0 x4_1).f0) _ _ ((rd_T40 l0_0 x4_1).f1) _ _ ((rd_T40 l0_0 x4_1).f2) _ _ ((rd_T40 l0_0 x4_1).f3) t166 t167 t170 t173 _ ?side1 ?side2 ?side3 ?side4 ?side5 ?side6 A12.out).mono ?_
      (case side1 => exact Kd.C_below HR165_1.out (BB HB))
      (case side2 => exact HC165_1.out)
      (case side3 => exact Kd.C_below HR165_2.out (BB HB))
      (case side4 => exact HC165_2.out)
      (case side5 => exact Kd.C_below HR165_3.out (BB HB))
      (case side6 => exact HC165_3.out)
      rintro e w18 ⟨v168, v171, v174, rfl, ho0, ho1, ho2, hb⟩
      refine ⟨_, rfl, ?_⟩
      replace HO_165000 := AM (Kd.S_mono (Kd.S_told (Kd.S_told (Kd.S_told (Kd.S_old (SL HO_165000) hb) (Kd.R_base ho0)) (Kd.R_base ho1)) (Kd.R_base ho2)) (fun _ h_ => h_.1))
      have HO169 := AM (Kd.R_lower ho0 (below_size (BB HB))); have HO172 := AM (Kd.R_lower ho1 (below_size (BB HB))); have HO175 := AM (Kd.R_lower ho2 (below_size (BB HB))); replace BK162 := BE BK162 hb; replace BK163 := BE BK163 hb; replace BK164 := BE BK164 hb; replace HB := BS HB hb; (try clear hb)
      (try clear hb2)
      (try clear hk)
      (try clear hi)
      (try clear ho0)
      (try clear ho1)
      (try clear ho2)
      obtain ⟨Ao20, co20, eo20⟩ := Kd.R_slice HO169.out; (first | subst eo20 | (injection eo20 with f1_ f2_ f3_; have f4_ := f1_.symm; have f5_ := f3_.symm; clear f1_ f2_ f3_; subst f4_; subst f5_))
      obtain ⟨Ao21, co21, eo21⟩ := Kd.R_slice HO172.out; (first | subst eo21 | (injection eo21 with f1_ f2_ f3_; have f4_ := f1_.symm; have f5_ := f3_.symm; clear f1_ f2_ f3_; subst f4_; subst f5_))
      obtain ⟨Ao22, co22, eo22⟩ := Kd.R_slice HO175.out; (first | subst eo22 | (injection eo22 with f1_ f2_ f3_; have f4_ := f1_.symm; have f5_ := f3_.symm; clear f1_ f2_ f3_; subst f4_; subst f5_))
      refine hK.out _ _ ⟨(blk_cell BK164.out 0).trans rfl, (blk_cell BK164.out 1).trans rfl, (blk_cell BK162.out 0).trans rfl, (blk_cell BK162.out 1).trans rfl, ((HB.out.cell (World.block_lt_of_cell? w _ hw165_0)).trans hw165_0), ((HB.out.cell (World.block_lt_of_cell? w _ hw165_1)).trans hw165_1), ((HB.out.cell (World.block_lt_of_cell? w _ hw165_2)).trans hw165_2), ((HB.out.cell (World.block_lt_of_cell? w _ hw165_3)).trans hw165_3)⟩ (fun hHeld => ?_)
      clear hK K; refine norm_ (a' := ?_) ?_ ?_
      rotate_left
      ·show Act.put _ (some 22) _ = _
       simp only [Act.put, List.setIfInBounds_toArray, List.set_cons_zero, List.set_cons_succ, i64_w, i32_w]
       rfl
      refine one_ (i := 8) (N := some 23) #[true, true, true, true, true, true, true, true, true, false, false, false] rfl rfl (one_of HT_.out (by kernel_rfl)) (by decide) (fun K hK => ?_)
      refine value_ (w1 := ?_) (v := ?_) (by rfl) rfl ?_ ?_
      rotate_left 2
      ·go_simp
       constructor
       ·rfl
       ·rfl
      refine hK.out _ _ ⟨(blk_cell (blk_alloc BK164.out _) 0).trans rfl, (blk_cell (blk_alloc BK164.out _) 1).trans rfl, (blk_cell (blk_alloc BK162.out _) 0).trans rfl, (blk_cell (blk_alloc BK162.out _) 1).trans rfl, (World.cell?_alloc_lt _ _ _ (World.block_lt_of_cell? _ _ (((HB.out.cell (World.block_lt_of_cell? w _ hw165_0)).trans hw165_0)))).trans (((HB.out.cell (World.block_lt_of_cell? w _ hw165_0)).trans hw165_0)), (World.cell?_alloc_lt _ _ _ (World.block_lt_of_cell? _ _ (((HB.out.cell (World.block_lt_of_cell? w _ hw165_1)).trans hw165_1)))).trans (((HB.out.cell (World.block_lt_of_cell? w _ hw165_1)).trans hw165_1)), (World.cell?_alloc_lt _ _ _ (World.block_lt_of_cell? _ _ (((HB.out.cell (World.block_lt_of_cell? w _ hw165_2)).trans hw165_2)))).trans (((HB.out.cell (World.block_lt_of_cell? w _ hw165_2)).trans hw165_2)), (World.cell?_alloc_lt _ _ _ (World.block_lt_of_cell? _ _ (((HB.out.cell (World.block_lt_of_cell? w _ hw165_3)).trans hw165_3)))).trans (((HB.out.cell (World.block_lt_of_cell? w _ hw165_3)).trans hw165_3))⟩ (fun hHeld => ?_)
      clear hK K; refine norm_ (a' := ?_) ?_ ?_
      rotate_left
      ·show Act.put _ (some 23) _ = _
       simp only [Act.put, List.setIfInBounds_toArray, List.set_cons_zero, List.set_cons_succ, i64_w, i32_w]
       rfl
      refine one_ (i := 9) (N := some 24) #[true, true, true, true, true, true, true, true, true, true, false, false] rfl rfl (one_of HT_.out (by kernel_rfl)) (by decide) (fun K hK => ?_)
      refine Kd.S_append_step k40 (w0 := w) w.heap.size (by rfl) (.tmp 16) (.tmp 23) 22 40 (.agg #[(.int .i64 0), (.slice none 0 0), (.slice none 0 0), (.slice none 0 0)]) 80 rfl Try.underlying22 info40 rfl (by decide) (by omega) u165000 x165000_1 (⟨t166, t167, t170, t173⟩ : S40) [.int .i64 t166, .slice Ao20 t167.length co20, .slice Ao21 t170.length co21, .slice Ao22 t173.length co22] (fun _ => True) (fun k_ => some k_ = (.slice Ao20 t167.length co20 : Value).ownBlock ∨ some k_ = (.slice Ao21 t170.length co21 : Value).ownBlock ∨ some k_ = (.slice Ao22 t173.length co22 : Value).ownBlock) rfl rfl ?aP (fun k_ hk_ => hk_.elim (fun h_ => ((Kd.R_mono (ok' := fun k_ => ((fun _ => True)) k_ ∧ some k_ ≠ (u165000 : Value).ownBlock) (Kd.R_apart' (HO169.out) (Kd.S_typed HO_165000.out) (by decide)) (fun k_ hk => ⟨trivial, hk.2⟩))).1 k_ h_.symm) (fun h_ => h_.elim (fun h_ => ((Kd.R_mono (ok' := fun k_ => ((fun _ => True)) k_ ∧ some k_ ≠ (u165000 : Value).ownBlock) (Kd.R_apart' (HO172.out) (Kd.S_typed HO_165000.out) (by decide)) (fun k_ hk => ⟨trivial, hk.2⟩))).1 k_ h_.symm) (fun h_ => ((Kd.R_mono (ok' := fun k_ => ((fun _ => True)) k_ ∧ some k_ ≠ (u165000 : Value).ownBlock) (Kd.R_apart' (HO175.out) (Kd.S_typed HO_165000.out) (by decide)) (fun k_ hk => ⟨trivial, hk.2⟩))).1 k_ h_.symm))) ?aF ?aO ?aB ?aS ?aL ?_
      (case aP => exact k40_mkM _ _ _ (⟨t166, t167, t170, t173⟩ : S40) (Kd.R_mono (Kd.R_tight rfl (Kd.R_mono (ok' := fun k_ => ((fun _ => True)) k_ ∧ some k_ ≠ (u165000 : Value).ownBlock) (Kd.R_apart' (HO169.out) (Kd.S_typed HO_165000.out) (by decide)) (fun k_ hk => ⟨trivial, hk.2⟩))) (fun _ h_ => Or.inl h_)) (Kd.R_mono (Kd.R_tight rfl (Kd.R_mono (ok' := fun k_ => ((fun _ => True)) k_ ∧ some k_ ≠ (u165000 : Value).ownBlock) (Kd.R_apart' (HO172.out) (Kd.S_typed HO_165000.out) (by decide)) (fun k_ hk => ⟨trivial, hk.2⟩))) (fun _ h_ => Or.inr (Or.inl h_))) (Kd.R_mono (Kd.R_tight rfl (Kd.R_mono (ok' := fun k_ => ((fun _ => True)) k_ ∧ some k_ ≠ (u165000 : Value).ownBlock) (Kd.R_apart' (HO175.out) (Kd.S_typed HO_165000.out) (by decide)) (fun k_ hk => ⟨trivial, hk.2⟩))) (fun _ h_ => Or.inr (Or.inr (h_)))))
      (case aB => exact (BB HB))
      (case aF => exact (fun _ _ => trivial))
      (case aO => exact (by (with_reducible repeat (first | apply Kd.S_alloc | apply Kd.S_drewN | apply Kd.S_drew)); exact Kd.S_mono HO_165000.out (fun k_ hk => ⟨trivial, fun e_ => e_.elim (fun h_ => hk.1.1.2 h_) (fun h_ => h_.elim (fun h_ => hk.1.2 h_) (fun h_ => hk.2 h_))⟩)))
      (case aS => exact (below_size (BB HB)))
      (case aL => have := LMc13.out; omega)
      intro v177 w19 ho hb hg hat
      rw [← Ny176.out] at ho; replace BK162 := AM (blk_grown (g := gb162) (o := .cells #[.slice (some ad165) l0_0.length c0_0, .int .i64 a0_1] 24 (0, 0)) (BL BK162) hg (Kd.S_ne HO_165000.out BK162.out (by decide)))
      replace BK163 := AM (blk_grown (g := gb163) (o := .cells #[.slice none 0 0, .int .i64 0] 24 (0, 0)) (BL BK163) hg (Kd.S_ne HO_165000.out BK163.out (by decide)))
      replace BK164 := AM (blk_grown (g := gb164) (o := .cells #[u165000, .int .i64 a0_1] 24 (0, 0)) (BL BK164) hg (Kd.S_ne HO_165000.out BK164.out (by decide)))
      replace HB := AM (hb); have HO178 := AM (ho); clear HO_165000; clear HO169; clear HO172; clear HO175; clear ho hb hg hat; obtain ⟨Ao23, co23, eo23⟩ := Kd.S_slice HO178.out; (first | subst eo23 | (injection eo23 with f1_ f2_ f3_; have f4_ := f1_.symm; have f5_ := f3_.symm; clear f1_ f2_ f3_; subst f4_; subst f5_))
      refine hK.out _ _ ⟨(blk_cell BK164.out 0).trans rfl, (blk_cell BK164.out 1).trans rfl, (blk_cell BK162.out 0).trans rfl, (blk_cell BK162.out 1).trans rfl, ((HB.out.cell (World.block_lt_of_cell? w _ hw165_0)).trans hw165_0), ((HB.out.cell (World.block_lt_of_cell? w _ hw165_1)).trans hw165_1), ((HB.out.cell (World.block_lt_of_cell? w _ hw165_2)).trans hw165_2), ((HB.out.cell (World.block_lt_of_cell? w _ hw165_3)).trans hw165_3)⟩ (fun hHeld => ?_)
      clear hK K; refine norm_ (a' := ?_) ?_ ?_
      rotate_left
      ·show Act.put _ (some 24) _ = _
       simp only [Act.put, List.setIfInBounds_toArray, List.set_cons_zero, List.set_cons_succ, i64_w, i32_w]
       rfl
      refine pure_ (i := 10) (N := some 25) (v := ?_) (a' := ?_) #[true, true, true, true, true, true, true, true, true, true, true, false] rfl rfl (any_of HT_.out (by kernel_rfl)) (fun _ _ _ h => h) (Or.inl ⟨by rfl, ?_⟩) ?_ ?_
      rotate_left
      ·intro w'
       go_simp
       with_reducible rfl
      rotate_left
      ·simp only [Act.put, List.setIfInBounds_toArray, List.set_cons_zero, List.set_cons_succ, i64_w, i32_w]
       rfl
      refine last_ (i := 11) (N := none) #[true, true, true, true, true, true, true, true, true, true, true, true] rfl rfl (one_of HT_.out (by kernel_rfl)) (by decide) (fun K hK => ?_)
      have hs24 : w19.cell? ⟨gb164, 0, none⟩ = some (u165000) := (blk_cell BK164.out 0).trans rfl; have hfs24 := BF BK164 0; have hns24_0 := NB162_164.out; have hns24_1 := NB163_164.out; have hms24_0 := NB164_162.out; have hms24_1 := NB164_163.out; refine skip_ (w1 := ?_) (by rfl) rfl ?_ ?_
      rotate_left
      ·go_simp
       rfl
      refine hK.out _ _ ?_
      clear hK K; refine done_ (done_of HT_.out (by kernel_rfl)) ?_
      try go_wp2
      go_roundg k1
      case measure => have := HK1.out; omega
      case rel => exact ⟨(wrap64 (x4_1 + 1)), (y176), (.slice Ao23 y176.length co23), (by first | rfl | (simp; done) | (simp [*]; done)), H', ⟨by have := HK1.out; omega⟩, ⟨by (with_reducible repeat (first | apply Kd.S_alloc | apply Kd.S_drewN | apply Kd.S_drew)); exact Kd.S_mono (Kd.S_far (p := ⟨gb164, 0, none⟩) (Kd.S_types HO178.out BK164.out (by decide)) (fun _ hk => hk.2) (.slice Ao23 y176.length co23)) (fun _ hk => trivial)⟩, ⟨by refine blk_far ?_ NB162_164.out _; (with_reducible repeat (first | refine blk_drewN ?_ _ | refine blk_drew ?_ | refine blk_alloc ?_ _)); exact BK162.out⟩, ⟨by refine blk_far ?_ NB163_164.out _; (with_reducible repeat (first | refine blk_drewN ?_ _ | refine blk_drew ?_ | refine blk_alloc ?_ _)); exact BK163.out⟩, ⟨by refine blk_put (cs := #[u165000, .int .i64 a0_1]) ?_ 0 _ rfl; (with_reducible repeat (first | refine blk_drewN ?_ _ | refine blk_drew ?_ | refine blk_alloc ?_ _)); exact BK164.out⟩, ⟨BB HB⟩⟩
     ·rw [if_neg c13] at H; exact absurd H (by simp)
    ·rw [if_neg c11] at H; exact absurd H (by simp)
   ·rw [if_neg c10] at H; have c10b0 : decide (x4_1 < (l0_0.length : Int)) = false := decide_eq_false c10; clear c10; simp only [Option.some.injEq, Prod.mk.injEq] at H
    obtain ⟨rfl, rfl⟩ := H; have hnb25 := NB162_163.out; have hnc25 := NB163_162.out; have hnb26 := NB162_164.out; have hnc26 := NB164_162.out; have hcz27_0 := BC BK162 0 (.slice A0_0 l0_0.length c0_0) rfl; have hcz27_1 := BC BK162 1 (.int .i64 a0_1) rfl; have hfz27_0 := BF BK162 0; have hfz27_1 := BF BK162 1; have hnb28 := NB164_163.out; have hnc28 := NB163_164.out; have hcz29_0 := BC BK164 0 (u165000) rfl; have hcz29_1 := BC BK164 1 (.int .i64 a0_1) rfl; have hfz29_0 := BF BK164 0; have hfz29_1 := BF BK164 1; obtain ⟨Ao30, co30, eo30⟩ := Kd.S_slice HO_165000.out; subst eo30; have hcz31_0 := BC BK163 0 (.slice none 0 0) rfl; have hcz31_1 := BC BK163 1 (.int .i64 0) rfl; have hfz31_0 := BF BK163 0; have hfz31_1 := BF BK163 1; go_wp2
    refine bodyPost_ret (results_cell_row rfl _ _ gb163 24 #[.slice Ao30 x165000_1.length co30, .int .i64 a0_1] (0, 0) _ rfl (by refine blk_put (cs := #[.slice Ao30 x165000_1.length co30, .int .i64 0]) ?_ 1 _ rfl; refine blk_put (cs := #[.slice none 0 0, .int .i64 0]) ?_ 0 _ rfl; (with_reducible repeat (first | refine blk_drewN ?_ _ | refine blk_drew ?_ | refine blk_alloc ?_ _)); exact BK163.out) Try.underlying24 rfl (by kernel_rfl)) rfl ?_
    exact ⟨_, by first | rfl | (simp [errW_none, errW_some] <;> rfl) | (simp [*, errW_none, errW_some] <;> rfl), by (with_reducible repeat (first | apply Kd.S_alloc | apply Kd.S_drewN | apply Kd.S_drew)); exact Kd.S_mono (Kd.S_far (p := ⟨gb163, 1, none⟩) (Kd.S_far (p := ⟨gb163, 0, none⟩) (Kd.S_types HO_165000.out BK163.out (by decide)) (fun _ hk => hk.2) (.slice Ao30 x165000_1.length co30)) (fun _ hk => hk.2) (.int .i64 a0_1)) (fun _ hk => trivial), BB HB⟩

end Go.Proofs.Ytlfjjapndlkamaa.GH
