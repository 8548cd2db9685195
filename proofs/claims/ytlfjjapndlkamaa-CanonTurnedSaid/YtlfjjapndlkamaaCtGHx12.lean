-- Printed by a program of the session (wip/gen/tprint.py, over a turned copy of the kit's print): Lean checks it.
import Derived.Test.YtlfjjapndlkamaaCtGHx0
import Derived.Test.YtlfjjapndlkamaaCtGHx9
import Derived.Test.YtlfjjapndlkamaaCtGHx10
import Derived.Test.YtlfjjapndlkamaaCtGHx11
namespace Go.Proofs.Ytlfjjapndlkamaa.GH
open Go.RowKit Go.Proofs.YtlfjjapndlkamaaW.PrintWords Go.Proofs.YtlfjjapndlkamaaW.PrintLast Go.Proofs.YtlfjjapndlkamaaW.PrintMore
attribute [local go_sem] max2_int min2_int max_two min_two max_three min_three max_four min_four   -- for this text's walks alone
set_option linter.unusedVariables false
set_option linter.unusedSimpArgs false

/-! ### dioramaref09_Check: function 19 -/
mutual
def dioramaref09_Check.l0 : Nat → Int → List (S40) → Int → Option (Int × Int)
 | 0, _, _, _ => none
 | k + 1, x5, x246000, x246001 => if x5 < (x246000.length : Int) then ((dioramaref09_Led.f k x246000 x246001 x5).bind fun t248 => (if 0 ≤ x5 then (if x5 < (t248.length : Int) then (if rdOf false t248 x5 = true then (some (14, x5)) else (dioramaref09_Check.l0 k (wrap64 (x5 + 1)) x246000 x246001)) else (none)) else (none))) else ((dioramaref09_Led.f k x246000 x246001 x246001).bind fun t252 => (dioramaref09_Check.l1 k t252 0 x246000 x246001))
def dioramaref09_Check.l1 : Nat → List Bool → Int → List (S40) → Int → Option (Int × Int)
 | 0, _, _, _, _ => none
 | k + 1, x6, x7, x246000, x246001 => if x7 < (x246000.length : Int) then (if x7 = x246001 then (dioramaref09_Check.l1 k x6 (wrap64 (x7 + 1)) x246000 x246001) else (if 0 ≤ x7 then (if x7 < (x6.length : Int) then (if rdOf false x6 x7 = true then (dioramaref09_Check.l1 k x6 (wrap64 (x7 + 1)) x246000 x246001) else (some (15, x7))) else (none)) else (none))) else (some (0, 0))
end
def dioramaref09_Check.f (k : Nat) (l0_0 : List (S40)) (a0_1 : Int) : Option (Int × Int) := (dioramaref09_Place.f l0_0 a0_1 a0_1).bind fun t246 => (if t246 = true then ((dioramaref09_Refs.f k l0_0 a0_1).bind fun t247 => (if t247 ≥ 0 then (some (13, t247)) else (dioramaref09_Check.l0 k 0 l0_0 a0_1))) else (some (13, (-1))))
set_option maxHeartbeats 8000000 in
set_option maxRecDepth 100000 in
theorem dioramaref09_Check.calls (k : Nat) (A0_0 : Option Addr) (c0_0 : Nat) (l0_0 : List (S40)) (a0_1 : Int) (r1 : Int) (r2 : Int) (w : World) (hr0_0 : Kd.C k40 w A0_0 l0_0.length l0_0) (hc0_0 : l0_0.length ≤ c0_0) (h : dioramaref09_Check.f k l0_0 a0_1 = some (r1, r2)) :
  Calls Try.prog 19 #[.agg #[.slice A0_0 l0_0.length c0_0, .int .i64 a0_1]] w fun e w' => e = .returned (.tuple #[.int .i64 r1, .int .i64 r2]) ∧ Below w.heap.size w w' := by
 have hu24 := Try.underlying24; have HR0_0 := AM hr0_0; have HC0_0 := AM hc0_0; clear hr0_0 hc0_0; have HB := AM (Below.refl w.heap.size w); have H : ((dioramaref09_Place.f l0_0 a0_1 a0_1).bind fun t246 => (if t246 = true then ((dioramaref09_Refs.f k l0_0 a0_1).bind fun t247 => (if t247 ≥ 0 then (some (13, t247)) else (dioramaref09_Check.l0 k 0 l0_0 a0_1))) else (some (13, (-1))))) = some (r1, r2) := h
 clear h; replace H := Option.bind_eq_some_iff.mp H; obtain ⟨t246, A20, H⟩ := H; replace H : (if t246 = true then ((dioramaref09_Refs.f k l0_0 a0_1).bind fun t247 => (if t247 ≥ 0 then (some (13, t247)) else (dioramaref09_Check.l0 k 0 l0_0 a0_1))) else (some (13, (-1)))) = some (r1, r2) := H
 have A2 := AM A20; clear A20; by_cases c3 : t246 = true
 ·subst c3; have H1 : ((dioramaref09_Refs.f k l0_0 a0_1).bind fun t247 => (if t247 ≥ 0 then (some (13, t247)) else (dioramaref09_Check.l0 k 0 l0_0 a0_1))) = some (r1, r2) := by rw [if_pos rfl] at H; exact H
  clear H; have H := H1; clear H1; replace H := Option.bind_eq_some_iff.mp H; obtain ⟨t247, A40, H⟩ := H; replace H : (if t247 ≥ 0 then (some (13, t247)) else (dioramaref09_Check.l0 k 0 l0_0 a0_1)) = some (r1, r2) := H; have A4 := AM A40; clear A40; by_cases c5 : t247 ≥ 0
  ·rw [if_pos c5] at H; have c5b0 : decide (0 ≤ t247) = true := decide_eq_true c5; clear c5; simp only [Option.some.injEq, Prod.mk.injEq] at H
   obtain ⟨rfl, rfl⟩ := H; go_enter Try.func19, Try.ntmps19
   go_wp2_with (first | ((with_reducible refine gate_dst (N := 1) rfl ?_); refine box_event ?hg (N := 1) ?hd (cs := #[.slice A0_0 l0_0.length c0_0, .int .i64 a0_1]) (t := 24) ?hr ?_; (case hd => rfl); (case hg => rfl); (case hr => first | (go_simp; done) | (go_simp; rfl)); intro gb245 hg w6 hbox hb; have BK245 := AM (hbox); have GW245 := GW HB hg; have GE245 := GW HB hg; replace HB := BS HB hb; clear hb hbox hg; have hcz7_0 := BC BK245 0 (.slice A0_0 l0_0.length c0_0) rfl; have hcz7_1 := BC BK245 1 (.int .i64 a0_1) rfl; have hfz7_0 := BF BK245 0; have hfz7_1 := BF BK245 1) | ((with_reducible refine gate_callee (f := 27) rfl ?_); refine goesM_ (some 11) rfl rfl Try.func27 #[.agg #[.slice A0_0 l0_0.length c0_0, .int .i64 a0_1], .int .i64 a0_1] rfl ?_; (with_reducible refine (dioramaref09_Place.calls _ _ l0_0 a0_1 a0_1 true _ ?side1 ?side2 A2.out).mono ?_); (case side1 => exact Kd.C_below HR0_0.out (BB HB)); (case side2 => exact HC0_0.out); rintro e w8 ⟨rfl, hb⟩; refine ⟨_, rfl, ?_⟩; replace BK245 := BE BK245 hb; replace HB := BS HB hb; (try clear hb); (try clear hb2); (try clear hk); (try clear hi); have hcz9_0 := BC BK245 0 (.slice A0_0 l0_0.length c0_0) rfl; have hcz9_1 := BC BK245 1 (.int .i64 a0_1) rfl; have hfz9_0 := BF BK245 0; have hfz9_1 := BF BK245 1) | ((with_reducible refine gate_callee (f := 37) rfl ?_); refine goesM_ (some 14) rfl rfl Try.func37 #[.agg #[.slice A0_0 l0_0.length c0_0, .int .i64 a0_1]] rfl ?_; (with_reducible refine (dioramaref09_Refs.calls k _ _ l0_0 a0_1 t247 _ ?side1 ?side2 A4.out).mono ?_); (case side1 => exact Kd.C_below HR0_0.out (BB HB)); (case side2 => exact HC0_0.out); rintro e w10 ⟨rfl, hb⟩; refine ⟨_, rfl, ?_⟩; replace BK245 := BE BK245 hb; replace HB := BS HB hb; (try clear hb); (try clear hb2); (try clear hk); (try clear hi)))
   go_ret2
   exact ⟨by first | rfl | (simp [errW_none, errW_some] <;> rfl) | (simp [*, errW_none, errW_some] <;> rfl), BB HB⟩
  ·rw [if_neg c5] at H; have c5b0 : decide (0 ≤ t247) = false := decide_eq_false c5; clear c5; have H' := AM H; clear H; go_enter Try.func19, Try.ntmps19
   go_wp2_with (first | ((with_reducible refine gate_dst (N := 1) rfl ?_); refine box_event ?hg (N := 1) ?hd (cs := #[.slice A0_0 l0_0.length c0_0, .int .i64 a0_1]) (t := 24) ?hr ?_; (case hd => rfl); (case hg => rfl); (case hr => first | (go_simp; done) | (go_simp; rfl)); intro gb245 hg w11 hbox hb; have BK245 := AM (hbox); have GW245 := GW HB hg; have GE245 := GW HB hg; replace HB := BS HB hb; clear hb hbox hg; have hcz12_0 := BC BK245 0 (.slice A0_0 l0_0.length c0_0) rfl; have hcz12_1 := BC BK245 1 (.int .i64 a0_1) rfl; have hfz12_0 := BF BK245 0; have hfz12_1 := BF BK245 1) | ((with_reducible refine gate_callee (f := 27) rfl ?_); refine goesM_ (some 11) rfl rfl Try.func27 #[.agg #[.slice A0_0 l0_0.length c0_0, .int .i64 a0_1], .int .i64 a0_1] rfl ?_; (with_reducible refine (dioramaref09_Place.calls _ _ l0_0 a0_1 a0_1 true _ ?side1 ?side2 A2.out).mono ?_); (case side1 => exact Kd.C_below HR0_0.out (BB HB)); (case side2 => exact HC0_0.out); rintro e w13 ⟨rfl, hb⟩; refine ⟨_, rfl, ?_⟩; replace BK245 := BE BK245 hb; replace HB := BS HB hb; (try clear hb); (try clear hb2); (try clear hk); (try clear hi); have hcz14_0 := BC BK245 0 (.slice A0_0 l0_0.length c0_0) rfl; have hcz14_1 := BC BK245 1 (.int .i64 a0_1) rfl; have hfz14_0 := BF BK245 0; have hfz14_1 := BF BK245 1) | ((with_reducible refine gate_callee (f := 37) rfl ?_); refine goesM_ (some 14) rfl rfl Try.func37 #[.agg #[.slice A0_0 l0_0.length c0_0, .int .i64 a0_1]] rfl ?_; (with_reducible refine (dioramaref09_Refs.calls k _ _ l0_0 a0_1 t247 _ ?side1 ?side2 A4.out).mono ?_); (case side1 => exact Kd.C_below HR0_0.out (BB HB)); (case side2 => exact HC0_0.out); rintro e w15 ⟨rfl, hb⟩; refine ⟨_, rfl, ?_⟩; replace BK245 := BE BK245 hb; replace HB := BS HB hb; (try clear hb); (try clear hb2); (try clear hk); (try clear hi)))
   go_loopg [5] k (fun kq v5 w' => ∃ (x5_1 : Int), v5 = .int .i64 x5_1 ∧ Aside0 (dioramaref09_Check.l0 kq x5_1 l0_0 a0_1 = some (r1, r2)) ∧ Aside0 (kq ≤ k) ∧ Aside0 (w'.heap[gb245]? = some (.cells #[(.slice A0_0 l0_0.length c0_0), .int .i64 a0_1] 24 (0, 0))) ∧ Aside0 (Below w.heap.size w w'))
   case atStart => exact ⟨(0), (by first | rfl | (simp; done) | (simp [*]; done)), H', ⟨Nat.le_refl _⟩, ⟨BL BK245⟩, ⟨BB HB⟩⟩
   case round =>
    clear H'; try clear c1
    try clear c2
    try clear p2
    try clear c3
    try clear c5
    try clear c5b0
    try clear hcz12_0
    try clear hcz12_1
    try clear hcz14_0
    try clear hcz14_1
    try clear hcz7_0
    try clear hcz7_1
    try clear hcz9_0
    try clear hcz9_1
    try clear hfz12_0
    try clear hfz12_1
    try clear hfz14_0
    try clear hfz14_1
    try clear hfz7_0
    try clear hfz7_1
    try clear hfz9_0
    try clear hfz9_1
    obtain ⟨x5_1, rfl, HA, HK1, BK245, HB⟩ := hrel; cases gk with
    | zero => exact absurd HA.out (by simp [dioramaref09_Check.l0])
    | succ k1 =>
     have H := HA.out; clear HA; simp only [dioramaref09_Check.l0] at H
     by_cases c16 : x5_1 < (l0_0.length : Int)
     ·rw [if_pos c16] at H; have c16b0 : decide (x5_1 < (l0_0.length : Int)) = true := decide_eq_true c16; clear c16; replace H := Option.bind_eq_some_iff.mp H; obtain ⟨t248, A170, H⟩ := H; replace H : (if 0 ≤ x5_1 then (if x5_1 < (t248.length : Int) then (if rdOf false t248 x5_1 = true then (some (14, x5_1)) else (dioramaref09_Check.l0 k1 (wrap64 (x5_1 + 1)) l0_0 a0_1)) else (none)) else (none)) = some (r1, r2) := H; have A17 := AM A170; clear A170; by_cases c18 : 0 ≤ x5_1
      ·rw [if_pos c18] at H; have c18b0 : decide (0 ≤ x5_1) = true := decide_eq_true c18; clear c18; by_cases c19 : x5_1 < (t248.length : Int)
       ·rw [if_pos c19] at H; have c19b0 : decide (x5_1 < (t248.length : Int)) = true := decide_eq_true c19; clear c19; obtain ⟨bq20, hbq20⟩ : ∃ b_ : Bool, b_ = (rdOf false t248 x5_1) := ⟨_, rfl⟩; replace H : (if bq20 = true then (some (14, x5_1)) else (dioramaref09_Check.l0 k1 (wrap64 (x5_1 + 1)) l0_0 a0_1)) = some (r1, r2) := by rw [← hbq20] at H; exact H
        have Nbq20 := AM hbq20; clear hbq20; by_cases c21 : bq20 = true
        ·subst c21; have H1 : (some (14, x5_1)) = some (r1, r2) := by rw [if_pos rfl] at H; exact H
         clear H; have H := H1; clear H1; simp only [Option.some.injEq, Prod.mk.injEq] at H
         obtain ⟨rfl, rfl⟩ := H; have hcz22_0 := BC BK245 0 (.slice A0_0 l0_0.length c0_0) rfl; have hcz22_1 := BC BK245 1 (.int .i64 a0_1) rfl; have hfz22_0 := BF BK245 0; have hfz22_1 := BF BK245 1; go_wp2_with (first | ((with_reducible refine gate_callee (f := 38) rfl ?_); refine goesM_ (some 27) rfl rfl Try.func38 #[.agg #[.slice A0_0 l0_0.length c0_0, .int .i64 a0_1], .int .i64 x5_1] rfl ?_; (with_reducible refine (dioramaref09_Led.calls k1 _ _ l0_0 a0_1 x5_1 t248 _ ?side1 ?side2 A17.out).mono ?_); (case side1 => exact Kd.C_below HR0_0.out (BB HB)); (case side2 => exact HC0_0.out); rintro e w23 ⟨v249, rfl, ho0, hb⟩; refine ⟨_, rfl, ?_⟩; have HO250 := AM (Kd.R_lower ho0 (below_size (BB HB))); replace BK245 := BE BK245 hb; replace HB := BS HB hb; (try clear hb); (try clear hb2); (try clear hk); (try clear hi); (try clear ho0); obtain ⟨Ao24, co24, eo24⟩ := Kd.R_slice HO250.out; subst eo24; have p251 : 0 ≤ (x5_1 : Int) := of_decide_eq_true (by first | (with_reducible assumption) | assumption); have q251 : x5_1 < (t248.length : Int) := of_decide_eq_true (by first | (with_reducible assumption) | assumption); obtain ⟨ad251, e251, hx251_0⟩ := Kd.at_bool (Kd.R_reads' HO250.out).2.2 x5_1 p251 q251; (try rw [← Nbq20.out] at hx251_0); cases e251; replace p251 := eq_true p251; replace q251 := eq_true q251))
         go_ret2
         exact ⟨by first | rfl | (simp [errW_none, errW_some] <;> rfl) | (simp [*, errW_none, errW_some] <;> rfl), BB HB⟩
        ·replace c21 := Bool.eq_false_iff.mpr c21; subst c21; have H1 : (dioramaref09_Check.l0 k1 (wrap64 (x5_1 + 1)) l0_0 a0_1) = some (r1, r2) := by rw [if_neg (show ¬ (false = true) by decide)] at H; exact H
         clear H; have H := H1; clear H1; have H' := AM H; clear H; have hcz25_0 := BC BK245 0 (.slice A0_0 l0_0.length c0_0) rfl; have hcz25_1 := BC BK245 1 (.int .i64 a0_1) rfl; have hfz25_0 := BF BK245 0; have hfz25_1 := BF BK245 1; go_wp2_with (first | ((with_reducible refine gate_callee (f := 38) rfl ?_); refine goesM_ (some 27) rfl rfl Try.func38 #[.agg #[.slice A0_0 l0_0.length c0_0, .int .i64 a0_1], .int .i64 x5_1] rfl ?_; (with_reducible refine (dioramaref09_Led.calls k1 _ _ l0_0 a0_1 x5_1 t248 _ ?side1 ?side2 A17.out).mono ?_); (case side1 => exact Kd.C_below HR0_0.out (BB HB)); (case side2 => exact HC0_0.out); rintro e w26 ⟨v249, rfl, ho0, hb⟩; refine ⟨_, rfl, ?_⟩; have HO250 := AM (Kd.R_lower ho0 (below_size (BB HB))); replace BK245 := BE BK245 hb; replace HB := BS HB hb; (try clear hb); (try clear hb2); (try clear hk); (try clear hi); (try clear ho0); obtain ⟨Ao27, co27, eo27⟩ := Kd.R_slice HO250.out; subst eo27; have p251 : 0 ≤ (x5_1 : Int) := of_decide_eq_true (by first | (with_reducible assumption) | assumption); have q251 : x5_1 < (t248.length : Int) := of_decide_eq_true (by first | (with_reducible assumption) | assumption); obtain ⟨ad251, e251, hx251_0⟩ := Kd.at_bool (Kd.R_reads' HO250.out).2.2 x5_1 p251 q251; (try rw [← Nbq20.out] at hx251_0); cases e251; replace p251 := eq_true p251; replace q251 := eq_true q251))
         go_roundg k1
         case measure => have := HK1.out; omega
         case rel => exact ⟨(wrap64 (x5_1 + 1)), (by first | rfl | (simp; done) | (simp [*]; done)), H', ⟨by have := HK1.out; omega⟩, ⟨BL BK245⟩, ⟨BB HB⟩⟩
       ·rw [if_neg c19] at H; exact absurd H (by simp)
      ·rw [if_neg c18] at H; exact absurd H (by simp)
     ·rw [if_neg c16] at H; have c16b0 : decide (x5_1 < (l0_0.length : Int)) = false := decide_eq_false c16; clear c16; replace H := Option.bind_eq_some_iff.mp H; obtain ⟨t252, A280, H⟩ := H; replace H : (dioramaref09_Check.l1 k1 t252 0 l0_0 a0_1) = some (r1, r2) := H; have A28 := AM A280; clear A280; have H' := AM H; clear H; have hcz29_0 := BC BK245 0 (.slice A0_0 l0_0.length c0_0) rfl; have hcz29_1 := BC BK245 1 (.int .i64 a0_1) rfl; have hfz29_0 := BF BK245 0; have hfz29_1 := BF BK245 1; go_wp2_with (first | ((with_reducible refine gate_callee (f := 38) rfl ?_); refine goesM_ (some 35) rfl rfl Try.func38 #[.agg #[.slice A0_0 l0_0.length c0_0, .int .i64 a0_1], .int .i64 a0_1] rfl ?_; (with_reducible refine (dioramaref09_Led.calls k1 _ _ l0_0 a0_1 a0_1 t252 _ ?side1 ?side2 A28.out).mono ?_); (case side1 => exact Kd.C_below HR0_0.out (BB HB)); (case side2 => exact HC0_0.out); rintro e w30 ⟨v253, rfl, ho0, hb⟩; refine ⟨_, rfl, ?_⟩; have HO254 := AM (Kd.R_lower ho0 (below_size (BB HB))); replace BK245 := BE BK245 hb; replace HB := BS HB hb; (try clear hb); (try clear hb2); (try clear hk); (try clear hi); (try clear ho0)))
      go_loopg [7] k1 (fun kq v7 w' => ∃ (x7_2 : Int), v7 = .int .i64 x7_2 ∧ Aside0 (dioramaref09_Check.l1 kq t252 x7_2 l0_0 a0_1 = some (r1, r2)) ∧ Aside0 (kq ≤ k1) ∧ Aside0 (Kd.R Kd.bool 4 w' w.heap.size (fun _ => True) v253 t252) ∧ Aside0 (w'.heap[gb245]? = some (.cells #[(.slice A0_0 l0_0.length c0_0), .int .i64 a0_1] 24 (0, 0))) ∧ Aside0 (Below w.heap.size w w'))
      case atStart => exact ⟨(0), (by first | rfl | (simp; done) | (simp [*]; done)), H', ⟨Nat.le_refl _⟩, ⟨by (with_reducible repeat (first | apply Kd.R_alloc | apply Kd.R_drewN | apply Kd.R_drew)); exact HO254.out⟩, ⟨BL BK245⟩, ⟨BB HB⟩⟩
      case round =>
       clear H'; try clear c1
       try clear c2
       try clear p2
       try clear q2
       try clear hx2
       try clear c3
       try clear c5
       try clear c5b0
       try clear p6
       try clear c16
       try clear c16b0
       try clear c18
       try clear c18b0
       try clear c19
       try clear c19b0
       try clear q20
       try clear c21
       try clear p25
       try clear q25
       try clear hx25
       try clear c27
       try clear hcz12_0
       try clear hcz12_1
       try clear hcz14_0
       try clear hcz14_1
       try clear hcz22_0
       try clear hcz22_1
       try clear hcz25_0
       try clear hcz25_1
       try clear hcz29_0
       try clear hcz29_1
       try clear hcz7_0
       try clear hcz7_1
       try clear hcz9_0
       try clear hcz9_1
       try clear hfz12_0
       try clear hfz12_1
       try clear hfz14_0
       try clear hfz14_1
       try clear hfz22_0
       try clear hfz22_1
       try clear hfz25_0
       try clear hfz25_1
       try clear hfz29_0
       try clear hfz29_1
       try clear hfz7_0
       try clear hfz7_1
       try clear hfz9_0
       try clear hfz9_1
       try clear hx251_0
       try clear p2
       try clear p251
       try clear q251
       obtain ⟨x7_2, rfl, HA, HK2, HO_6, BK245, HB⟩ := hrel; cases gk with
       | zero => exact absurd HA.out (by simp [dioramaref09_Check.l1])
       | succ k2 =>
        have H := HA.out; clear HA; simp only [dioramaref09_Check.l1] at H
        by_cases c31 : x7_2 < (l0_0.length : Int)
        ·rw [if_pos c31] at H; have c31b0 : decide (x7_2 < (l0_0.length : Int)) = true := decide_eq_true c31; clear c31; by_cases c32 : x7_2 = a0_1
         ·rw [if_pos c32] at H; have c32b0 : (x7_2 == a0_1) = true := beq_iff_eq.mpr c32; have c32b1 : (x7_2 != a0_1) = false := bne_eq_false_iff_eq.mpr c32; clear c32; have H' := AM H; clear H; have hcz33_0 := BC BK245 0 (.slice A0_0 l0_0.length c0_0) rfl; have hcz33_1 := BC BK245 1 (.int .i64 a0_1) rfl; have hfz33_0 := BF BK245 0; have hfz33_1 := BF BK245 1; go_wp2
          go_roundg k2
          case measure => have := HK1.out; have := HK2.out; omega
          case rel => exact ⟨(wrap64 (x7_2 + 1)), (by first | rfl | (simp; done) | (simp [*]; done)), H', ⟨by have := HK1.out; have := HK2.out; omega⟩, ⟨by (with_reducible repeat (first | apply Kd.R_alloc | apply Kd.R_drewN | apply Kd.R_drew)); exact HO_6.out⟩, ⟨BL BK245⟩, ⟨BB HB⟩⟩
         ·rw [if_neg c32] at H; have c32b0 : (x7_2 == a0_1) = false := beq_eq_false_iff_ne.mpr c32; have c32b1 : (x7_2 != a0_1) = true := bne_iff_ne.mpr c32; by_cases c34 : 0 ≤ x7_2
          ·rw [if_pos c34] at H; have c34b0 : decide (0 ≤ x7_2) = true := decide_eq_true c34; clear c34; by_cases c35 : x7_2 < (t252.length : Int)
           ·rw [if_pos c35] at H; have c35b0 : decide (x7_2 < (t252.length : Int)) = true := decide_eq_true c35; clear c35; obtain ⟨bq36, hbq36⟩ : ∃ b_ : Bool, b_ = (rdOf false t252 x7_2) := ⟨_, rfl⟩; replace H : (if bq36 = true then (dioramaref09_Check.l1 k2 t252 (wrap64 (x7_2 + 1)) l0_0 a0_1) else (some (15, x7_2))) = some (r1, r2) := by rw [← hbq36] at H; exact H
            have Nbq36 := AM hbq36; clear hbq36; by_cases c37 : bq36 = true
            ·subst c37; have H1 : (dioramaref09_Check.l1 k2 t252 (wrap64 (x7_2 + 1)) l0_0 a0_1) = some (r1, r2) := by rw [if_pos rfl] at H; exact H
             clear H; have H := H1; clear H1; have H' := AM H; clear H; have hcz38_0 := BC BK245 0 (.slice A0_0 l0_0.length c0_0) rfl; have hcz38_1 := BC BK245 1 (.int .i64 a0_1) rfl; have hfz38_0 := BF BK245 0; have hfz38_1 := BF BK245 1; obtain ⟨Ao39, co39, eo39⟩ := Kd.R_slice HO_6.out; subst eo39; have p255 : 0 ≤ (x7_2 : Int) := of_decide_eq_true (by first | (with_reducible assumption) | assumption)
             have q255 : x7_2 < (t252.length : Int) := of_decide_eq_true (by first | (with_reducible assumption) | assumption)
             obtain ⟨ad255, e255, hx255_0⟩ := Kd.at_bool (Kd.R_reads' HO_6.out).2.2 x7_2 p255 q255; (try rw [← Nbq36.out] at hx255_0)
             cases e255
             replace p255 := eq_true p255; replace q255 := eq_true q255; go_wp2
             go_roundg k2
             case measure => have := HK1.out; have := HK2.out; omega
             case rel => exact ⟨(wrap64 (x7_2 + 1)), (by first | rfl | (simp; done) | (simp [*]; done)), H', ⟨by have := HK1.out; have := HK2.out; omega⟩, ⟨by (with_reducible repeat (first | apply Kd.R_alloc | apply Kd.R_drewN | apply Kd.R_drew)); exact HO_6.out⟩, ⟨BL BK245⟩, ⟨BB HB⟩⟩
            ·replace c37 := Bool.eq_false_iff.mpr c37; subst c37; have H1 : (some (15, x7_2)) = some (r1, r2) := by rw [if_neg (show ¬ (false = true) by decide)] at H; exact H
             clear H; have H := H1; clear H1; simp only [Option.some.injEq, Prod.mk.injEq] at H
             obtain ⟨rfl, rfl⟩ := H; have hcz40_0 := BC BK245 0 (.slice A0_0 l0_0.length c0_0) rfl; have hcz40_1 := BC BK245 1 (.int .i64 a0_1) rfl; have hfz40_0 := BF BK245 0; have hfz40_1 := BF BK245 1; obtain ⟨Ao41, co41, eo41⟩ := Kd.R_slice HO_6.out; subst eo41; have p255 : 0 ≤ (x7_2 : Int) := of_decide_eq_true (by first | (with_reducible assumption) | assumption)
             have q255 : x7_2 < (t252.length : Int) := of_decide_eq_true (by first | (with_reducible assumption) | assumption)
             obtain ⟨ad255, e255, hx255_0⟩ := Kd.at_bool (Kd.R_reads' HO_6.out).2.2 x7_2 p255 q255; (try rw [← Nbq36.out] at hx255_0)
             cases e255
             replace p255 := eq_true p255; replace q255 := eq_true q255; go_wp2
             go_ret2
             exact ⟨by first | rfl | (simp [errW_none, errW_some] <;> rfl) | (simp [*, errW_none, errW_some] <;> rfl), BB HB⟩
           ·rw [if_neg c35] at H; exact absurd H (by simp)
          ·rw [if_neg c34] at H; exact absurd H (by simp)
        ·rw [if_neg c31] at H; have c31b0 : decide (x7_2 < (l0_0.length : Int)) = false := decide_eq_false c31; clear c31; simp only [Option.some.injEq, Prod.mk.injEq] at H
         obtain ⟨rfl, rfl⟩ := H; have hcz42_0 := BC BK245 0 (.slice A0_0 l0_0.length c0_0) rfl; have hcz42_1 := BC BK245 1 (.int .i64 a0_1) rfl; have hfz42_0 := BF BK245 0; have hfz42_1 := BF BK245 1; go_wp2
         go_ret2
         exact ⟨by first | rfl | (simp [errW_none, errW_some] <;> rfl) | (simp [*, errW_none, errW_some] <;> rfl), BB HB⟩
 ·replace c3 := Bool.eq_false_iff.mpr c3; subst c3; have H1 : (some (13, (-1))) = some (r1, r2) := by rw [if_neg (show ¬ (false = true) by decide)] at H; exact H
  clear H; have H := H1; clear H1; simp only [Option.some.injEq, Prod.mk.injEq] at H
  obtain ⟨rfl, rfl⟩ := H; go_enter Try.func19, Try.ntmps19
  go_wp2_with (first | ((with_reducible refine gate_dst (N := 1) rfl ?_); refine box_event ?hg (N := 1) ?hd (cs := #[.slice A0_0 l0_0.length c0_0, .int .i64 a0_1]) (t := 24) ?hr ?_; (case hd => rfl); (case hg => rfl); (case hr => first | (go_simp; done) | (go_simp; rfl)); intro gb245 hg w43 hbox hb; have BK245 := AM (hbox); have GW245 := GW HB hg; have GE245 := GW HB hg; replace HB := BS HB hb; clear hb hbox hg; have hcz44_0 := BC BK245 0 (.slice A0_0 l0_0.length c0_0) rfl; have hcz44_1 := BC BK245 1 (.int .i64 a0_1) rfl; have hfz44_0 := BF BK245 0; have hfz44_1 := BF BK245 1) | ((with_reducible refine gate_callee (f := 27) rfl ?_); refine goesM_ (some 11) rfl rfl Try.func27 #[.agg #[.slice A0_0 l0_0.length c0_0, .int .i64 a0_1], .int .i64 a0_1] rfl ?_; (with_reducible refine (dioramaref09_Place.calls _ _ l0_0 a0_1 a0_1 false _ ?side1 ?side2 A2.out).mono ?_); (case side1 => exact Kd.C_below HR0_0.out (BB HB)); (case side2 => exact HC0_0.out); rintro e w45 ⟨rfl, hb⟩; refine ⟨_, rfl, ?_⟩; replace BK245 := BE BK245 hb; replace HB := BS HB hb; (try clear hb); (try clear hb2); (try clear hk); (try clear hi)))
  go_ret2
  exact ⟨by first | rfl | (simp [errW_none, errW_some] <;> rfl) | (simp [*, errW_none, errW_some] <;> rfl), BB HB⟩

/-! ### dioramaref09_Right: function 26 -/
def dioramaref09_Right.f (k : Nat) (l0_0 : List (S40)) (a0_1 : Int) : Option (Bool) := (dioramaref09_Check.f k l0_0 a0_1).bind fun bt257 => (some (bt257.1 == 0))
set_option maxHeartbeats 8000000 in
set_option maxRecDepth 100000 in
theorem dioramaref09_Right.calls (k : Nat) (A0_0 : Option Addr) (c0_0 : Nat) (l0_0 : List (S40)) (a0_1 : Int) (r : Bool) (w : World) (hr0_0 : Kd.C k40 w A0_0 l0_0.length l0_0) (hc0_0 : l0_0.length ≤ c0_0) (h : dioramaref09_Right.f k l0_0 a0_1 = some r) :
  Calls Try.prog 26 #[.agg #[.slice A0_0 l0_0.length c0_0, .int .i64 a0_1]] w fun e w' => e = .returned (.bool r) ∧ Below w.heap.size w w' := by
 have hu24 := Try.underlying24; have HR0_0 := AM hr0_0; have HC0_0 := AM hc0_0; clear hr0_0 hc0_0; have HB := AM (Below.refl w.heap.size w); have H : ((dioramaref09_Check.f k l0_0 a0_1).bind fun bt257 => (some (bt257.1 == 0))) = some r := h
 clear h; replace H := Option.bind_eq_some_iff.mp H; obtain ⟨⟨t257, t258⟩, A20, H⟩ := H; replace H : (some (t257 == 0)) = some r := H; have A2 := AM A20; clear A20; obtain rfl := Option.some.inj H; go_enter Try.func26, Try.ntmps26
 go_wp2_with (first | ((with_reducible refine gate_dst (N := 1) rfl ?_); refine box_event ?hg (N := 1) ?hd (cs := #[.slice A0_0 l0_0.length c0_0, .int .i64 a0_1]) (t := 24) ?hr ?_; (case hd => rfl); (case hg => rfl); (case hr => first | (go_simp; done) | (go_simp; rfl)); intro gb256 hg w3 hbox hb; have BK256 := AM (hbox); have GW256 := GW HB hg; have GE256 := GW HB hg; replace HB := BS HB hb; clear hb hbox hg; have hcz4_0 := BC BK256 0 (.slice A0_0 l0_0.length c0_0) rfl; have hcz4_1 := BC BK256 1 (.int .i64 a0_1) rfl; have hfz4_0 := BF BK256 0; have hfz4_1 := BF BK256 1) | ((with_reducible refine gate_callee (f := 19) rfl ?_); refine goesM_ (some 7) rfl rfl Try.func19 #[.agg #[.slice A0_0 l0_0.length c0_0, .int .i64 a0_1]] rfl ?_; (with_reducible refine (dioramaref09_Check.calls k _ _ l0_0 a0_1 t257 t258 _ ?side1 ?side2 A2.out).mono ?_); (case side1 => exact Kd.C_below HR0_0.out (BB HB)); (case side2 => exact HC0_0.out); rintro e w5 ⟨rfl, hb⟩; refine ⟨_, rfl, ?_⟩; replace BK256 := BE BK256 hb; replace HB := BS HB hb; (try clear hb); (try clear hb2); (try clear hk); (try clear hi)))
 go_ret
 exact ⟨by first | rfl | (simp [errW_none, errW_some] <;> rfl) | (simp [*, errW_none, errW_some] <;> rfl), BB HB⟩

end Go.Proofs.Ytlfjjapndlkamaa.GH
