-- Printed by a program of the session (wip/gen/tprint.py, over a turned copy of the kit's print): Lean checks it.
import Derived.Test.YtlfjjapndlkamaaGDx0
namespace Go.Proofs.Ytlfjjapndlkamaa.GD
open Go.RowKit Go.Proofs.YtlfjjapndlkamaaW.PrintWords Go.Proofs.YtlfjjapndlkamaaW.PrintLast Go.Proofs.YtlfjjapndlkamaaW.PrintMore
attribute [local go_sem] max2_int min2_int max_two min_two max_three min_three max_four min_four   -- for this text's walks alone
set_option linter.unusedVariables false
set_option linter.unusedSimpArgs false

/-! ### dioramaref09_Depths: function 39 -/
mutual
def dioramaref09_Depths.l0 : Nat → List Int → Int → List (S40) → Int → Option (List Int)
 | 0, _, _, _, _ => none
 | k + 1, x3, x4, x246000, x246001 => if x4 ≤ (x246000.length : Int) then (dioramaref09_Depths.l1 k x3 x4 0 x246000 x246001) else (some x3)
def dioramaref09_Depths.l1 : Nat → List Int → Int → Int → List (S40) → Int → Option (List Int)
 | 0, _, _, _, _, _ => none
 | k + 1, x3, x4, x5, x246000, x246001 => if x5 < (x246000.length : Int) then (dioramaref09_Depths.l2 k x3 x4 x5 0 0 x246000 x246001) else (dioramaref09_Depths.l0 k x3 (wrap64 (x4 + 1)) x246000 x246001)
def dioramaref09_Depths.l2 : Nat → List Int → Int → Int → Int → Int → List (S40) → Int → Option (List Int)
 | 0, _, _, _, _, _, _, _ => none
 | k + 1, x3, x4, x5, x6, x7, x246000, x246001 => if 0 ≤ x5 then (if x5 < (x246000.length : Int) then (if x7 < (((rd_T40 x246000 x5).f3).length : Int) then (if 0 ≤ x7 then (if 0 ≤ (rd ((rd_T40 x246000 x5).f3) x7) then (if (rd ((rd_T40 x246000 x5).f3) x7) < (x3.length : Int) then (if (rd x3 (rd ((rd_T40 x246000 x5).f3) x7)) > x6 then (dioramaref09_Depths.l2 k x3 x4 x5 (rd x3 (rd ((rd_T40 x246000 x5).f3) x7)) (wrap64 (x7 + 1)) x246000 x246001) else (dioramaref09_Depths.l2 k x3 x4 x5 x6 (wrap64 (x7 + 1)) x246000 x246001)) else (none)) else (none)) else (none)) else (if x5 < (x3.length : Int) then (if (wrap64 (x6 + 1)) > (rd x3 x5) then (dioramaref09_Depths.l1 k (x3.set (x5 : Int).toNat (wrap64 (x6 + 1))) x4 (wrap64 (x5 + 1)) x246000 x246001) else (dioramaref09_Depths.l1 k x3 x4 (wrap64 (x5 + 1)) x246000 x246001)) else (none))) else (none)) else (none)
end
def dioramaref09_Depths.f (k : Nat) (l0_0 : List (S40)) (a0_1 : Int) : Option (List Int) := if 0 ≤ (l0_0.length : Int) then (if ((l0_0.length : Int) : Int).toNat ≤ 35184372088832 then (dioramaref09_Depths.l0 k (List.replicate ((l0_0.length : Int) : Int).toNat 0) 0 l0_0 a0_1) else (none)) else (none)
theorem dioramaref09_Depths.mono_l : ∀ k, (∀ y0 y1 y2 y3, LeO (dioramaref09_Depths.l0 k y0 y1 y2 y3) (dioramaref09_Depths.l0 (k + 1) y0 y1 y2 y3)) ∧ (∀ y0 y1 y2 y3 y4, LeO (dioramaref09_Depths.l1 k y0 y1 y2 y3 y4) (dioramaref09_Depths.l1 (k + 1) y0 y1 y2 y3 y4)) ∧ (∀ y0 y1 y2 y3 y4 y5 y6, LeO (dioramaref09_Depths.l2 k y0 y1 y2 y3 y4 y5 y6) (dioramaref09_Depths.l2 (k + 1) y0 y1 y2 y3 y4 y5 y6))
 | 0 => ⟨fun _ _ _ _ r h => by simp [dioramaref09_Depths.l0] at h, fun _ _ _ _ _ r h => by simp [dioramaref09_Depths.l1] at h, fun _ _ _ _ _ _ _ r h => by simp [dioramaref09_Depths.l2] at h⟩
 | k + 1 => by
  obtain ⟨ih0, ih1, ih2⟩ := dioramaref09_Depths.mono_l k
  refine ⟨?_, ?_, ?_⟩
  ·intro y0 y1 y2 y3
   unfold dioramaref09_Depths.l0
   repeat' first
   | (with_reducible exact ih0 _ _ _ _)
   | (with_reducible exact ih1 _ _ _ _ _)
   | (with_reducible exact ih2 _ _ _ _ _ _ _)
   | (with_reducible exact LeO.refl _)
   | (with_reducible exact LeO.none _)
   | (with_reducible refine LeO.ite ?_ ?_)
   | (with_reducible refine LeO.bind ?_ (fun _ => ?_))
   | exact ih0 _ _ _ _
   | exact ih1 _ _ _ _ _
   | exact ih2 _ _ _ _ _ _ _
   | exact LeO.none _
   | refine LeO.ite ?_ ?_
   | refine LeO.bind ?_ (fun _ => ?_)
  ·intro y0 y1 y2 y3 y4
   unfold dioramaref09_Depths.l1
   repeat' first
   | (with_reducible exact ih0 _ _ _ _)
   | (with_reducible exact ih1 _ _ _ _ _)
   | (with_reducible exact ih2 _ _ _ _ _ _ _)
   | (with_reducible exact LeO.refl _)
   | (with_reducible exact LeO.none _)
   | (with_reducible refine LeO.ite ?_ ?_)
   | (with_reducible refine LeO.bind ?_ (fun _ => ?_))
   | exact ih0 _ _ _ _
   | exact ih1 _ _ _ _ _
   | exact ih2 _ _ _ _ _ _ _
   | exact LeO.none _
   | refine LeO.ite ?_ ?_
   | refine LeO.bind ?_ (fun _ => ?_)
  ·intro y0 y1 y2 y3 y4 y5 y6
   unfold dioramaref09_Depths.l2
   repeat' first
   | (with_reducible exact ih0 _ _ _ _)
   | (with_reducible exact ih1 _ _ _ _ _)
   | (with_reducible exact ih2 _ _ _ _ _ _ _)
   | (with_reducible exact LeO.refl _)
   | (with_reducible exact LeO.none _)
   | (with_reducible refine LeO.ite ?_ ?_)
   | (with_reducible refine LeO.bind ?_ (fun _ => ?_))
   | exact ih0 _ _ _ _
   | exact ih1 _ _ _ _ _
   | exact ih2 _ _ _ _ _ _ _
   | exact LeO.none _
   | refine LeO.ite ?_ ?_
   | refine LeO.bind ?_ (fun _ => ?_)
theorem dioramaref09_Depths.mono : ∀ a0 a1 k, LeO (dioramaref09_Depths.f k a0 a1) (dioramaref09_Depths.f (k + 1) a0 a1) := by
 intro a0 a1 k
 obtain ⟨ih0, ih1, ih2⟩ := dioramaref09_Depths.mono_l k
 unfold dioramaref09_Depths.f
 repeat' first
   | (with_reducible exact ih0 _ _ _ _)
   | (with_reducible exact ih1 _ _ _ _ _)
   | (with_reducible exact ih2 _ _ _ _ _ _ _)
   | (with_reducible exact LeO.refl _)
   | (with_reducible exact LeO.none _)
   | (with_reducible refine LeO.ite ?_ ?_)
   | (with_reducible refine LeO.bind ?_ (fun _ => ?_))
   | exact ih0 _ _ _ _
   | exact ih1 _ _ _ _ _
   | exact ih2 _ _ _ _ _ _ _
   | exact LeO.none _
   | refine LeO.ite ?_ ?_
   | refine LeO.bind ?_ (fun _ => ?_)
set_option maxHeartbeats 8000000 in
set_option maxRecDepth 100000 in
theorem dioramaref09_Depths.calls (k : Nat) (A0_0 : Option Addr) (c0_0 : Nat) (l0_0 : List (S40)) (a0_1 : Int) (r : List Int) (w : World) (hr0_0 : Kd.C k40 w A0_0 l0_0.length l0_0) (hc0_0 : l0_0.length ≤ c0_0) (h : dioramaref09_Depths.f k l0_0 a0_1 = some r) :
  Calls Try.prog 39 #[.agg #[.slice A0_0 l0_0.length c0_0, .int .i64 a0_1]] w fun e w' => ∃ v0_ : Value, e = .returned (v0_) ∧ Kd.R (Kd.int .i64) 3 w' w.heap.size (fun _ => True) v0_ r ∧ Below w.heap.size w w' := by
 have hu24 := Try.underlying24
 have HR0_0 := Aside0.mk hr0_0
 have HC0_0 := Aside0.mk hc0_0
 clear hr0_0 hc0_0
 have HB := Aside0.mk (Below.refl w.heap.size w)
 have H : (if 0 ≤ (l0_0.length : Int) then (if ((l0_0.length : Int) : Int).toNat ≤ 35184372088832 then (dioramaref09_Depths.l0 k (List.replicate ((l0_0.length : Int) : Int).toNat 0) 0 l0_0 a0_1) else (none)) else (none)) = some r := h
 clear h
 by_cases c2 : 0 ≤ (l0_0.length : Int)
 ·rw [if_pos c2] at H
  have c2b0 := eq_true c2
  have c2b1 : decide (0 ≤ (l0_0.length : Int)) = true := decide_eq_true c2
  clear c2
  by_cases c3 : ((l0_0.length : Int) : Int).toNat ≤ 35184372088832
  ·rw [if_pos c3] at H
   have c3b0 := eq_true c3
   have c3b1 : decide (((l0_0.length : Int) : Int).toNat ≤ 35184372088832) = true := decide_eq_true c3
   clear c3
   obtain ⟨y246, hy246⟩ : ∃ y_ : List Int, y_ = (List.replicate ((l0_0.length : Int) : Int).toNat 0) := ⟨_, rfl⟩
   replace H : (dioramaref09_Depths.l0 k y246 0 l0_0 a0_1) = some r := by first | (rw [hy246]; with_reducible exact H) | (have H2_ := (Option.bind_some _ _).symm.trans H; rw [hy246]; with_reducible exact H2_) | (have H2_ := (Option.bind_some _ _).symm.trans H; with_reducible exact H2_) | with_reducible exact H | (rw [hy246]; exact H) | exact H
   have Ny246 := Aside0.mk hy246
   clear hy246
   have H' := Aside0.mk H
   clear H
   go_enter Try.func39, Try.ntmps39
   go_wp2_with (first | ((with_reducible refine gate_dst (N := 1) rfl ?_); refine box_event ?hg (N := 1) ?hd (cs := #[.slice A0_0 l0_0.length c0_0, .int .i64 a0_1]) (t := 24) ?hr ?_; (case hd => rfl); (case hg => rfl); (case hr => first | (go_simp; done) | (go_simp; rfl)); intro gb245 hg w4 hbox hb; have n0_ := Aside0.mk (below_step (by repeat (first | (with_reducible first | exact HB.out | apply below_alloc | apply pw_below_drewN | apply below_drew1) | exact HB.out)) hb); have n1_ := Aside0.mk (hbox); have n2_ := Aside0.mk ((by rw [hg]; exact (below_size (by repeat (first | (with_reducible first | exact HB.out | apply below_alloc | apply pw_below_drewN | apply below_drew1) | exact HB.out))) : w.heap.size ≤ gb245)); have n3_ := Aside0.mk ((by rw [hg]; exact (below_size (by repeat (first | (with_reducible first | exact HB.out | apply below_alloc | apply pw_below_drewN | apply below_drew1) | exact HB.out))) : w.heap.size ≤ gb245)); clear HB; have HB := n0_; have BK245 := n1_; have GW245 := n2_; have GE245 := n3_; clear n0_ n1_ n2_ n3_; clear hb hbox hg; have hcz5_0 : w4.cell? ⟨gb245, 0, none⟩ = some (.slice A0_0 l0_0.length c0_0) := (blk_cell BK245.out 0).trans rfl; have hcz5_1 : w4.cell? ⟨gb245, 1, none⟩ = some (.int .i64 a0_1) := (blk_cell BK245.out 1).trans rfl; have hfz5_0 := blk_frozen BK245.out 0; have hfz5_1 := blk_frozen BK245.out 1) | ((with_reducible refine gate_dst (N := 11) rfl ?_); refine Kd.R_make (Kd.int .i64) _ 3 rfl (N := 11) rfl 31 _ _ rfl (l0_0.length : Int) rfl rfl Try.underlying31 (.int .i64 0) 8 info3 rfl (by decide) (by omega) 0 (ok := fun _ => True) (okp := fun _ => True) rfl (fun _ hk => hk) trivial (of_decide_eq_true (by first | (with_reducible assumption) | assumption)) (Nat.le_trans (Nat.mul_le_mul_right _ (of_decide_eq_true (by first | (with_reducible assumption) | assumption) : (l0_0.length : Int).toNat ≤ 35184372088832)) (by omega)) (Below.refl _ _) (Nat.le_refl _) ?_; intro v247 w6 ho7 hb hg_ hnew_; clear hg_ hnew_; (first | rw [← Ny246.out] at ho7 | (simp only [Int.reduceToNat] at ho7; rw [← Ny246.out] at ho7)); have n0_ := Aside0.mk (Kd.R_lower ho7 (below_size (by repeat (first | (with_reducible first | exact HB.out | apply below_alloc | apply pw_below_drewN | apply below_drew1 | refine below_set ?_ GE245.out) | exact HB.out)))); have n1_ := Aside0.mk (blk_below (g := gb245) (o := .cells #[.slice A0_0 l0_0.length c0_0, .int .i64 a0_1] 24 (0, 0)) (by (with_reducible repeat (first | refine blk_drewN ?_ _ | refine blk_drew ?_ | refine blk_alloc ?_ _)); exact BK245.out) hb); have n2_ := Aside0.mk (below_step (by repeat (first | (with_reducible first | exact HB.out | apply below_alloc | apply pw_below_drewN | apply below_drew1 | refine below_set ?_ GE245.out) | exact HB.out)) hb); clear BK245; clear HB; have HO248 := n0_; have BK245 := n1_; have HB := n2_; clear n0_ n1_ n2_; clear hb ho7))
   go_loopg [4] k (fun kq v4 w' => ∃ (x3_1 : List Int) (x4_1 : Int), v4 = .int .i64 x4_1 ∧ Aside0 (dioramaref09_Depths.l0 kq x3_1 x4_1 l0_0 a0_1 = some r) ∧ Aside0 (kq ≤ k) ∧ Aside0 (Kd.R (Kd.int .i64) 3 w' w.heap.size (fun _ => True) v247 x3_1) ∧ Aside0 (w'.heap[gb245]? = some (.cells #[(.slice A0_0 l0_0.length c0_0), .int .i64 a0_1] 24 (0, 0))) ∧ Aside0 (Below w.heap.size w w'))
   case atStart => exact ⟨(y246), (0), (by first | rfl | (simp; done) | (simp [*]; done)), H', ⟨Nat.le_refl _⟩, ⟨by (with_reducible repeat (first | apply Kd.R_alloc | apply Kd.R_drewN | apply Kd.R_drew)); exact HO248.out⟩, ⟨by (with_reducible repeat (first | refine blk_drewN ?_ _ | refine blk_drew ?_ | refine blk_alloc ?_ _)); exact BK245.out⟩, ⟨by repeat (first | (with_reducible first | exact HB.out | apply below_alloc | apply pw_below_drewN | apply below_drew1 | refine below_set ?_ GE245.out) | exact HB.out)⟩⟩
   case round =>
    clear H'
    try clear c2
    try clear c2b0
    try clear c2b1
    try clear p2
    try clear c3
    try clear c3b0
    try clear c3b1
    try clear hcz5_0
    try clear hcz5_1
    try clear hfz5_0
    try clear hfz5_1
    obtain ⟨x3_1, x4_1, rfl, HA, HK1, HO_3, BK245, HB⟩ := hrel
    cases gk with
    | zero => exact absurd HA.out (by simp [dioramaref09_Depths.l0])
    | succ k1 =>
     have H := HA.out
     clear HA
     simp only [dioramaref09_Depths.l0] at H
     by_cases c8 : x4_1 ≤ (l0_0.length : Int)
     ·rw [if_pos c8] at H
      have c8b0 : decide (x4_1 ≤ (l0_0.length : Int)) = true := decide_eq_true c8
      clear c8
      have H' := Aside0.mk H
      clear H
      have hcz9_0 : wr.cell? ⟨gb245, 0, none⟩ = some (.slice A0_0 l0_0.length c0_0) := (blk_cell BK245.out 0).trans rfl
      have hcz9_1 : wr.cell? ⟨gb245, 1, none⟩ = some (.int .i64 a0_1) := (blk_cell BK245.out 1).trans rfl
      have hfz9_0 := blk_frozen BK245.out 0
      have hfz9_1 := blk_frozen BK245.out 1
      go_wp2
      go_loopg [5] k1 (fun kq v5 w' => ∃ (x3_2 : List Int) (x5_2 : Int), v5 = .int .i64 x5_2 ∧ Aside0 (dioramaref09_Depths.l1 kq x3_2 x4_1 x5_2 l0_0 a0_1 = some r) ∧ Aside0 (kq ≤ k1) ∧ Aside0 (Kd.R (Kd.int .i64) 3 w' w.heap.size (fun _ => True) v247 x3_2) ∧ Aside0 (w'.heap[gb245]? = some (.cells #[(.slice A0_0 l0_0.length c0_0), .int .i64 a0_1] 24 (0, 0))) ∧ Aside0 (Below w.heap.size w w'))
      case atStart => exact ⟨(x3_1), (0), (by first | rfl | (simp; done) | (simp [*]; done)), H', ⟨Nat.le_refl _⟩, ⟨by (with_reducible repeat (first | apply Kd.R_alloc | apply Kd.R_drewN | apply Kd.R_drew)); exact HO_3.out⟩, ⟨by (with_reducible repeat (first | refine blk_drewN ?_ _ | refine blk_drew ?_ | refine blk_alloc ?_ _)); exact BK245.out⟩, ⟨by repeat (first | (with_reducible first | exact HB.out | apply below_alloc | apply pw_below_drewN | apply below_drew1 | refine below_set ?_ GE245.out) | exact HB.out)⟩⟩
      case round =>
       clear H'
       try clear c2
       try clear c2b0
       try clear c2b1
       try clear p2
       try clear c3
       try clear c3b0
       try clear c3b1
       try clear c8
       try clear c8b0
       try clear hcz5_0
       try clear hcz5_1
       try clear hcz9_0
       try clear hcz9_1
       try clear hfz5_0
       try clear hfz5_1
       try clear hfz9_0
       try clear hfz9_1
       try clear p2
       obtain ⟨x3_2, x5_2, rfl, HA, HK2, HO_3, BK245, HB⟩ := hrel
       cases gk with
       | zero => exact absurd HA.out (by simp [dioramaref09_Depths.l1])
       | succ k2 =>
        have H := HA.out
        clear HA
        simp only [dioramaref09_Depths.l1] at H
        by_cases c10 : x5_2 < (l0_0.length : Int)
        ·rw [if_pos c10] at H
         have c10b0 : decide (x5_2 < (l0_0.length : Int)) = true := decide_eq_true c10
         clear c10
         have H' := Aside0.mk H
         clear H
         have hcz11_0 : wr.cell? ⟨gb245, 0, none⟩ = some (.slice A0_0 l0_0.length c0_0) := (blk_cell BK245.out 0).trans rfl
         have hcz11_1 : wr.cell? ⟨gb245, 1, none⟩ = some (.int .i64 a0_1) := (blk_cell BK245.out 1).trans rfl
         have hfz11_0 := blk_frozen BK245.out 0
         have hfz11_1 := blk_frozen BK245.out 1
         go_wp2
         go_loopg [6, 7] k2 (fun kq v6 v7 w' => ∃ (x6_3 : Int) (x7_3 : Int), v6 = .int .i64 x6_3 ∧ v7 = .int .i64 x7_3 ∧ Aside0 (dioramaref09_Depths.l2 kq x3_2 x4_1 x5_2 x6_3 x7_3 l0_0 a0_1 = some r) ∧ Aside0 (kq ≤ k2) ∧ Aside0 (Kd.R (Kd.int .i64) 3 w' w.heap.size (fun _ => True) v247 x3_2) ∧ Aside0 (w'.heap[gb245]? = some (.cells #[(.slice A0_0 l0_0.length c0_0), .int .i64 a0_1] 24 (0, 0))) ∧ Aside0 (Below w.heap.size w w'))
         case atStart => exact ⟨(0), (0), (by first | rfl | (simp; done) | (simp [*]; done)), (by first | rfl | (simp; done) | (simp [*]; done)), H', ⟨Nat.le_refl _⟩, ⟨by (with_reducible repeat (first | apply Kd.R_alloc | apply Kd.R_drewN | apply Kd.R_drew)); exact HO_3.out⟩, ⟨by (with_reducible repeat (first | refine blk_drewN ?_ _ | refine blk_drew ?_ | refine blk_alloc ?_ _)); exact BK245.out⟩, ⟨by repeat (first | (with_reducible first | exact HB.out | apply below_alloc | apply pw_below_drewN | apply below_drew1 | refine below_set ?_ GE245.out) | exact HB.out)⟩⟩
         case round =>
          clear H'
          try clear c1
          try clear c2
          try clear c2b0
          try clear c2b1
          try clear p2
          try clear c3
          try clear c3b0
          try clear c3b1
          try clear c8
          try clear c8b0
          try clear c10
          try clear c10b0
          try clear hcz11_0
          try clear hcz11_1
          try clear hcz5_0
          try clear hcz5_1
          try clear hcz9_0
          try clear hcz9_1
          try clear hfz11_0
          try clear hfz11_1
          try clear hfz5_0
          try clear hfz5_1
          try clear hfz9_0
          try clear hfz9_1
          try clear p2
          obtain ⟨x6_3, x7_3, rfl, rfl, HA, HK3, HO_3, BK245, HB⟩ := hrel
          cases gk with
          | zero => exact absurd HA.out (by simp [dioramaref09_Depths.l2])
          | succ k3 =>
           have H := HA.out
           clear HA
           simp only [dioramaref09_Depths.l2] at H
           by_cases c12 : 0 ≤ x5_2
           ·rw [if_pos c12] at H
            have c12b0 : decide (0 ≤ x5_2) = true := decide_eq_true c12
            clear c12
            by_cases c13 : x5_2 < (l0_0.length : Int)
            ·rw [if_pos c13] at H
             have c13b0 : decide (x5_2 < (l0_0.length : Int)) = true := decide_eq_true c13
             clear c13
             by_cases c14 : x7_3 < (((rd_T40 l0_0 x5_2).f3).length : Int)
             ·rw [if_pos c14] at H
              have c14b0 : decide (x7_3 < (((rd_T40 l0_0 x5_2).f3).length : Int)) = true := decide_eq_true c14
              clear c14
              by_cases c15 : 0 ≤ x7_3
              ·rw [if_pos c15] at H
               have c15b0 : decide (0 ≤ x7_3) = true := decide_eq_true c15
               clear c15
               by_cases c16 : 0 ≤ (rd ((rd_T40 l0_0 x5_2).f3) x7_3)
               ·rw [if_pos c16] at H
                have c16b0 : decide (0 ≤ (rd ((rd_T40 l0_0 x5_2).f3) x7_3)) = true := decide_eq_true c16
                clear c16
                by_cases c17 : (rd ((rd_T40 l0_0 x5_2).f3) x7_3) < (x3_2.length : Int)
                ·rw [if_pos c17] at H
                 have c17b0 : decide ((rd ((rd_T40 l0_0 x5_2).f3) x7_3) < (x3_2.length : Int)) = true := decide_eq_true c17
                 clear c17
                 by_cases c18 : (rd x3_2 (rd ((rd_T40 l0_0 x5_2).f3) x7_3)) > x6_3
                 ·rw [if_pos c18] at H
                  have c18b0 : decide (x6_3 < (rd x3_2 (rd ((rd_T40 l0_0 x5_2).f3) x7_3))) = true := decide_eq_true c18
                  clear c18
                  have H' := Aside0.mk H
                  clear H
                  have hcz19_0 : wr.cell? ⟨gb245, 0, none⟩ = some (.slice A0_0 l0_0.length c0_0) := (blk_cell BK245.out 0).trans rfl
                  have hcz19_1 : wr.cell? ⟨gb245, 1, none⟩ = some (.int .i64 a0_1) := (blk_cell BK245.out 1).trans rfl
                  have hfz19_0 := blk_frozen BK245.out 0
                  have hfz19_1 := blk_frozen BK245.out 1
                  have p249 : 0 ≤ (x5_2 : Int) := of_decide_eq_true (by first | (with_reducible assumption) | assumption)
                  have q249 : x5_2 < (l0_0.length : Int) := of_decide_eq_true (by first | (with_reducible assumption) | assumption)
                  obtain ⟨ad249, A249_1, c249_1, A249_2, c249_2, A249_3, c249_3, e249, hx249_0, hx249_1, hx249_2, hx249_3, hl249_1, hi249_1, hl249_2, hi249_2, hl249_3, hi249_3⟩ := at_T40 HR0_0.out x5_2 p249 q249
                  cases e249
                  replace hx249_0 := (HB.out.cell (World.block_lt_of_cell? w _ hx249_0)).trans hx249_0
                  replace hx249_1 := (HB.out.cell (World.block_lt_of_cell? w _ hx249_1)).trans hx249_1
                  replace hx249_2 := (HB.out.cell (World.block_lt_of_cell? w _ hx249_2)).trans hx249_2
                  replace hx249_3 := (HB.out.cell (World.block_lt_of_cell? w _ hx249_3)).trans hx249_3
                  have HR249_1 := Aside0.mk hi249_1
                  have HC249_1 := Aside0.mk hl249_1
                  clear hi249_1 hl249_1
                  have HR249_2 := Aside0.mk hi249_2
                  have HC249_2 := Aside0.mk hl249_2
                  clear hi249_2 hl249_2
                  have HR249_3 := Aside0.mk hi249_3
                  have HC249_3 := Aside0.mk hl249_3
                  clear hi249_3 hl249_3
                  replace p249 := eq_true p249
                  replace q249 := eq_true q249
                  have p250 : 0 ≤ (x5_2 : Int) := of_decide_eq_true (by first | (with_reducible assumption) | assumption)
                  have q250 : x5_2 < (l0_0.length : Int) := of_decide_eq_true (by first | (with_reducible assumption) | assumption)
                  obtain ⟨ad250, A250_1, c250_1, A250_2, c250_2, A250_3, c250_3, e250, hx250_0, hx250_1, hx250_2, hx250_3, hl250_1, hi250_1, hl250_2, hi250_2, hl250_3, hi250_3⟩ := at_T40 HR0_0.out x5_2 p250 q250
                  obtain rfl : ad249 = ad250 := (by injection e250)
                  replace hx250_0 := (HB.out.cell (World.block_lt_of_cell? w _ hx250_0)).trans hx250_0
                  replace hx250_1 := (HB.out.cell (World.block_lt_of_cell? w _ hx250_1)).trans hx250_1
                  replace hx250_2 := (HB.out.cell (World.block_lt_of_cell? w _ hx250_2)).trans hx250_2
                  replace hx250_3 := (HB.out.cell (World.block_lt_of_cell? w _ hx250_3)).trans hx250_3
                  have HR250_1 := Aside0.mk hi250_1
                  have HC250_1 := Aside0.mk hl250_1
                  clear hi250_1 hl250_1
                  have HR250_2 := Aside0.mk hi250_2
                  have HC250_2 := Aside0.mk hl250_2
                  clear hi250_2 hl250_2
                  have HR250_3 := Aside0.mk hi250_3
                  have HC250_3 := Aside0.mk hl250_3
                  clear hi250_3 hl250_3
                  replace p250 := eq_true p250
                  replace q250 := eq_true q250
                  have ea_ := Option.some.inj (hx249_1.symm.trans hx250_1)
                  injection ea_ with ea_ en_ ec_
                  subst ea_
                  subst ec_
                  clear en_
                  have ea_ := Option.some.inj (hx249_2.symm.trans hx250_2)
                  injection ea_ with ea_ en_ ec_
                  subst ea_
                  subst ec_
                  clear en_
                  have ea_ := Option.some.inj (hx249_3.symm.trans hx250_3)
                  injection ea_ with ea_ en_ ec_
                  subst ea_
                  subst ec_
                  clear en_
                  have p251 : 0 ≤ (x7_3 : Int) := of_decide_eq_true (by first | (with_reducible assumption) | assumption)
                  have q251 : x7_3 < (((rd_T40 l0_0 x5_2).f3).length : Int) := of_decide_eq_true (by first | (with_reducible assumption) | assumption)
                  obtain ⟨ad251, e251, hx251_0⟩ := Kd.at_int HR250_3.out x7_3 p251 q251
                  cases e251
                  replace hx251_0 := (HB.out.cell (World.block_lt_of_cell? w _ hx251_0)).trans hx251_0
                  replace p251 := eq_true p251
                  replace q251 := eq_true q251
                  obtain ⟨Ao20, co20, eo20⟩ := Kd.R_slice HO_3.out
                  subst eo20
                  have p252 : 0 ≤ ((rd ((rd_T40 l0_0 x5_2).f3) x7_3) : Int) := of_decide_eq_true (by first | (with_reducible assumption) | assumption)
                  have q252 : (rd ((rd_T40 l0_0 x5_2).f3) x7_3) < (x3_2.length : Int) := of_decide_eq_true (by first | (with_reducible assumption) | assumption)
                  obtain ⟨ad252, e252, hx252_0⟩ := Kd.at_int (Kd.R_reads' HO_3.out).2.2 (rd ((rd_T40 l0_0 x5_2).f3) x7_3) p252 q252
                  cases e252
                  replace p252 := eq_true p252
                  replace q252 := eq_true q252
                  have p253 : 0 ≤ (x5_2 : Int) := of_decide_eq_true (by first | (with_reducible assumption) | assumption)
                  have q253 : x5_2 < (l0_0.length : Int) := of_decide_eq_true (by first | (with_reducible assumption) | assumption)
                  obtain ⟨ad253, A253_1, c253_1, A253_2, c253_2, A253_3, c253_3, e253, hx253_0, hx253_1, hx253_2, hx253_3, hl253_1, hi253_1, hl253_2, hi253_2, hl253_3, hi253_3⟩ := at_T40 HR0_0.out x5_2 p253 q253
                  obtain rfl : ad249 = ad253 := (by injection e253)
                  replace hx253_0 := (HB.out.cell (World.block_lt_of_cell? w _ hx253_0)).trans hx253_0
                  replace hx253_1 := (HB.out.cell (World.block_lt_of_cell? w _ hx253_1)).trans hx253_1
                  replace hx253_2 := (HB.out.cell (World.block_lt_of_cell? w _ hx253_2)).trans hx253_2
                  replace hx253_3 := (HB.out.cell (World.block_lt_of_cell? w _ hx253_3)).trans hx253_3
                  have HR253_1 := Aside0.mk hi253_1
                  have HC253_1 := Aside0.mk hl253_1
                  clear hi253_1 hl253_1
                  have HR253_2 := Aside0.mk hi253_2
                  have HC253_2 := Aside0.mk hl253_2
                  clear hi253_2 hl253_2
                  have HR253_3 := Aside0.mk hi253_3
                  have HC253_3 := Aside0.mk hl253_3
                  clear hi253_3 hl253_3
                  replace p253 := eq_true p253
                  replace q253 := eq_true q253
                  have ea_ := Option.some.inj (hx249_1.symm.trans hx253_1)
                  injection ea_ with ea_ en_ ec_
                  subst ea_
                  subst ec_
                  clear en_
                  have ea_ := Option.some.inj (hx249_2.symm.trans hx253_2)
                  injection ea_ with ea_ en_ ec_
                  subst ea_
                  subst ec_
                  clear en_
                  have ea_ := Option.some.inj (hx249_3.symm.trans hx253_3)
                  injection ea_ with ea_ en_ ec_
                  subst ea_
                  subst ec_
                  clear en_
                  have p254 : 0 ≤ (x7_3 : Int) := of_decide_eq_true (by first | (with_reducible assumption) | assumption)
                  have q254 : x7_3 < (((rd_T40 l0_0 x5_2).f3).length : Int) := of_decide_eq_true (by first | (with_reducible assumption) | assumption)
                  obtain ⟨ad254, e254, hx254_0⟩ := Kd.at_int HR253_3.out x7_3 p254 q254
                  cases e254
                  replace hx254_0 := (HB.out.cell (World.block_lt_of_cell? w _ hx254_0)).trans hx254_0
                  replace p254 := eq_true p254
                  replace q254 := eq_true q254
                  have p255 : 0 ≤ ((rd ((rd_T40 l0_0 x5_2).f3) x7_3) : Int) := of_decide_eq_true (by first | (with_reducible assumption) | assumption)
                  have q255 : (rd ((rd_T40 l0_0 x5_2).f3) x7_3) < (x3_2.length : Int) := of_decide_eq_true (by first | (with_reducible assumption) | assumption)
                  obtain ⟨ad255, e255, hx255_0⟩ := Kd.at_int (Kd.R_reads' HO_3.out).2.2 (rd ((rd_T40 l0_0 x5_2).f3) x7_3) p255 q255
                  obtain rfl : ad252 = ad255 := (by injection e255)
                  replace p255 := eq_true p255
                  replace q255 := eq_true q255
                  go_wp2
                  go_roundg k3
                  case measure => have := HK1.out; have := HK2.out; have := HK3.out; omega
                  case rel => exact ⟨(rd x3_2 (rd ((rd_T40 l0_0 x5_2).f3) x7_3)), (wrap64 (x7_3 + 1)), (by first | rfl | (simp; done) | (simp [*]; done)), (by first | rfl | (simp; done) | (simp [*]; done)), H', ⟨by have := HK1.out; have := HK2.out; have := HK3.out; omega⟩, ⟨by (with_reducible repeat (first | apply Kd.R_alloc | apply Kd.R_drewN | apply Kd.R_drew)); exact HO_3.out⟩, ⟨by (with_reducible repeat (first | refine blk_drewN ?_ _ | refine blk_drew ?_ | refine blk_alloc ?_ _)); exact BK245.out⟩, ⟨by repeat (first | (with_reducible first | exact HB.out | apply below_alloc | apply pw_below_drewN | apply below_drew1 | refine below_set ?_ GE245.out) | exact HB.out)⟩⟩
                 ·rw [if_neg c18] at H
                  have c18b0 : decide (x6_3 < (rd x3_2 (rd ((rd_T40 l0_0 x5_2).f3) x7_3))) = false := decide_eq_false c18
                  clear c18
                  have H' := Aside0.mk H
                  clear H
                  have hcz21_0 : wr.cell? ⟨gb245, 0, none⟩ = some (.slice A0_0 l0_0.length c0_0) := (blk_cell BK245.out 0).trans rfl
                  have hcz21_1 : wr.cell? ⟨gb245, 1, none⟩ = some (.int .i64 a0_1) := (blk_cell BK245.out 1).trans rfl
                  have hfz21_0 := blk_frozen BK245.out 0
                  have hfz21_1 := blk_frozen BK245.out 1
                  have p249 : 0 ≤ (x5_2 : Int) := of_decide_eq_true (by first | (with_reducible assumption) | assumption)
                  have q249 : x5_2 < (l0_0.length : Int) := of_decide_eq_true (by first | (with_reducible assumption) | assumption)
                  obtain ⟨ad249, A249_1, c249_1, A249_2, c249_2, A249_3, c249_3, e249, hx249_0, hx249_1, hx249_2, hx249_3, hl249_1, hi249_1, hl249_2, hi249_2, hl249_3, hi249_3⟩ := at_T40 HR0_0.out x5_2 p249 q249
                  cases e249
                  replace hx249_0 := (HB.out.cell (World.block_lt_of_cell? w _ hx249_0)).trans hx249_0
                  replace hx249_1 := (HB.out.cell (World.block_lt_of_cell? w _ hx249_1)).trans hx249_1
                  replace hx249_2 := (HB.out.cell (World.block_lt_of_cell? w _ hx249_2)).trans hx249_2
                  replace hx249_3 := (HB.out.cell (World.block_lt_of_cell? w _ hx249_3)).trans hx249_3
                  have HR249_1 := Aside0.mk hi249_1
                  have HC249_1 := Aside0.mk hl249_1
                  clear hi249_1 hl249_1
                  have HR249_2 := Aside0.mk hi249_2
                  have HC249_2 := Aside0.mk hl249_2
                  clear hi249_2 hl249_2
                  have HR249_3 := Aside0.mk hi249_3
                  have HC249_3 := Aside0.mk hl249_3
                  clear hi249_3 hl249_3
                  replace p249 := eq_true p249
                  replace q249 := eq_true q249
                  have p250 : 0 ≤ (x5_2 : Int) := of_decide_eq_true (by first | (with_reducible assumption) | assumption)
                  have q250 : x5_2 < (l0_0.length : Int) := of_decide_eq_true (by first | (with_reducible assumption) | assumption)
                  obtain ⟨ad250, A250_1, c250_1, A250_2, c250_2, A250_3, c250_3, e250, hx250_0, hx250_1, hx250_2, hx250_3, hl250_1, hi250_1, hl250_2, hi250_2, hl250_3, hi250_3⟩ := at_T40 HR0_0.out x5_2 p250 q250
                  obtain rfl : ad249 = ad250 := (by injection e250)
                  replace hx250_0 := (HB.out.cell (World.block_lt_of_cell? w _ hx250_0)).trans hx250_0
                  replace hx250_1 := (HB.out.cell (World.block_lt_of_cell? w _ hx250_1)).trans hx250_1
                  replace hx250_2 := (HB.out.cell (World.block_lt_of_cell? w _ hx250_2)).trans hx250_2
                  replace hx250_3 := (HB.out.cell (World.block_lt_of_cell? w _ hx250_3)).trans hx250_3
                  have HR250_1 := Aside0.mk hi250_1
                  have HC250_1 := Aside0.mk hl250_1
                  clear hi250_1 hl250_1
                  have HR250_2 := Aside0.mk hi250_2
                  have HC250_2 := Aside0.mk hl250_2
                  clear hi250_2 hl250_2
                  have HR250_3 := Aside0.mk hi250_3
                  have HC250_3 := Aside0.mk hl250_3
                  clear hi250_3 hl250_3
                  replace p250 := eq_true p250
                  replace q250 := eq_true q250
                  have ea_ := Option.some.inj (hx249_1.symm.trans hx250_1)
                  injection ea_ with ea_ en_ ec_
                  subst ea_
                  subst ec_
                  clear en_
                  have ea_ := Option.some.inj (hx249_2.symm.trans hx250_2)
                  injection ea_ with ea_ en_ ec_
                  subst ea_
                  subst ec_
                  clear en_
                  have ea_ := Option.some.inj (hx249_3.symm.trans hx250_3)
                  injection ea_ with ea_ en_ ec_
                  subst ea_
                  subst ec_
                  clear en_
                  have p251 : 0 ≤ (x7_3 : Int) := of_decide_eq_true (by first | (with_reducible assumption) | assumption)
                  have q251 : x7_3 < (((rd_T40 l0_0 x5_2).f3).length : Int) := of_decide_eq_true (by first | (with_reducible assumption) | assumption)
                  obtain ⟨ad251, e251, hx251_0⟩ := Kd.at_int HR250_3.out x7_3 p251 q251
                  cases e251
                  replace hx251_0 := (HB.out.cell (World.block_lt_of_cell? w _ hx251_0)).trans hx251_0
                  replace p251 := eq_true p251
                  replace q251 := eq_true q251
                  obtain ⟨Ao22, co22, eo22⟩ := Kd.R_slice HO_3.out
                  subst eo22
                  have p252 : 0 ≤ ((rd ((rd_T40 l0_0 x5_2).f3) x7_3) : Int) := of_decide_eq_true (by first | (with_reducible assumption) | assumption)
                  have q252 : (rd ((rd_T40 l0_0 x5_2).f3) x7_3) < (x3_2.length : Int) := of_decide_eq_true (by first | (with_reducible assumption) | assumption)
                  obtain ⟨ad252, e252, hx252_0⟩ := Kd.at_int (Kd.R_reads' HO_3.out).2.2 (rd ((rd_T40 l0_0 x5_2).f3) x7_3) p252 q252
                  cases e252
                  replace p252 := eq_true p252
                  replace q252 := eq_true q252
                  go_wp2
                  go_roundg k3
                  case measure => have := HK1.out; have := HK2.out; have := HK3.out; omega
                  case rel => exact ⟨(x6_3), (wrap64 (x7_3 + 1)), (by first | rfl | (simp; done) | (simp [*]; done)), (by first | rfl | (simp; done) | (simp [*]; done)), H', ⟨by have := HK1.out; have := HK2.out; have := HK3.out; omega⟩, ⟨by (with_reducible repeat (first | apply Kd.R_alloc | apply Kd.R_drewN | apply Kd.R_drew)); exact HO_3.out⟩, ⟨by (with_reducible repeat (first | refine blk_drewN ?_ _ | refine blk_drew ?_ | refine blk_alloc ?_ _)); exact BK245.out⟩, ⟨by repeat (first | (with_reducible first | exact HB.out | apply below_alloc | apply pw_below_drewN | apply below_drew1 | refine below_set ?_ GE245.out) | exact HB.out)⟩⟩
                ·rw [if_neg c17] at H
                 exact absurd H (by simp)
               ·rw [if_neg c16] at H
                exact absurd H (by simp)
              ·rw [if_neg c15] at H
               exact absurd H (by simp)
             ·rw [if_neg c14] at H
              have c14b0 : decide (x7_3 < (((rd_T40 l0_0 x5_2).f3).length : Int)) = false := decide_eq_false c14
              clear c14
              by_cases c23 : x5_2 < (x3_2.length : Int)
              ·rw [if_pos c23] at H
               have c23b0 : decide (x5_2 < (x3_2.length : Int)) = true := decide_eq_true c23
               clear c23
               by_cases c24 : (wrap64 (x6_3 + 1)) > (rd x3_2 x5_2)
               ·rw [if_pos c24] at H
                have c24b0 : decide ((rd x3_2 x5_2) < (wrap64 (x6_3 + 1))) = true := decide_eq_true c24
                clear c24
                obtain ⟨y257, hy257⟩ : ∃ y_ : List Int, y_ = (x3_2.set (x5_2 : Int).toNat (wrap64 (x6_3 + 1))) := ⟨_, rfl⟩
                replace H : (dioramaref09_Depths.l1 k3 y257 x4_1 (wrap64 (x5_2 + 1)) l0_0 a0_1) = some r := by first | (rw [hy257]; with_reducible exact H) | (have H2_ := (Option.bind_some _ _).symm.trans H; rw [hy257]; with_reducible exact H2_) | (have H2_ := (Option.bind_some _ _).symm.trans H; with_reducible exact H2_) | with_reducible exact H | (rw [hy257]; exact H) | exact H
                have Ny257 := Aside0.mk hy257
                clear hy257
                have H' := Aside0.mk H
                clear H
                have hcz26_0 : wr.cell? ⟨gb245, 0, none⟩ = some (.slice A0_0 l0_0.length c0_0) := (blk_cell BK245.out 0).trans rfl
                have hcz26_1 : wr.cell? ⟨gb245, 1, none⟩ = some (.int .i64 a0_1) := (blk_cell BK245.out 1).trans rfl
                have hfz26_0 := blk_frozen BK245.out 0
                have hfz26_1 := blk_frozen BK245.out 1
                have p249 : 0 ≤ (x5_2 : Int) := of_decide_eq_true (by first | (with_reducible assumption) | assumption)
                have q249 : x5_2 < (l0_0.length : Int) := of_decide_eq_true (by first | (with_reducible assumption) | assumption)
                obtain ⟨ad249, A249_1, c249_1, A249_2, c249_2, A249_3, c249_3, e249, hx249_0, hx249_1, hx249_2, hx249_3, hl249_1, hi249_1, hl249_2, hi249_2, hl249_3, hi249_3⟩ := at_T40 HR0_0.out x5_2 p249 q249
                cases e249
                replace hx249_0 := (HB.out.cell (World.block_lt_of_cell? w _ hx249_0)).trans hx249_0
                replace hx249_1 := (HB.out.cell (World.block_lt_of_cell? w _ hx249_1)).trans hx249_1
                replace hx249_2 := (HB.out.cell (World.block_lt_of_cell? w _ hx249_2)).trans hx249_2
                replace hx249_3 := (HB.out.cell (World.block_lt_of_cell? w _ hx249_3)).trans hx249_3
                have HR249_1 := Aside0.mk hi249_1
                have HC249_1 := Aside0.mk hl249_1
                clear hi249_1 hl249_1
                have HR249_2 := Aside0.mk hi249_2
                have HC249_2 := Aside0.mk hl249_2
                clear hi249_2 hl249_2
                have HR249_3 := Aside0.mk hi249_3
                have HC249_3 := Aside0.mk hl249_3
                clear hi249_3 hl249_3
                replace p249 := eq_true p249
                replace q249 := eq_true q249
                obtain ⟨Ao27, co27, eo27⟩ := Kd.R_slice HO_3.out
                subst eo27
                have p256 : 0 ≤ (x5_2 : Int) := of_decide_eq_true (by first | (with_reducible assumption) | assumption)
                have q256 : x5_2 < (x3_2.length : Int) := of_decide_eq_true (by first | (with_reducible assumption) | assumption)
                obtain ⟨ad256, e256, hx256_0⟩ := Kd.at_int (Kd.R_reads' HO_3.out).2.2 x5_2 p256 q256
                cases e256
                replace p256 := eq_true p256
                replace q256 := eq_true q256
                have p25 : 0 ≤ (x5_2 : Int) := of_decide_eq_true (by first | (with_reducible assumption) | assumption)
                have q25 : (x5_2 : Int) < ((x3_2.length : Int) : Int) := of_decide_eq_true (by first | (with_reducible assumption) | assumption)
                obtain ⟨go25, co25, eo25, gb25, gl25, cl25, HG25⟩ := Kd.R_form HO_3.out (by omega)
                (first | cases eo25 | (injection eo25 with ea_ en_ ec_; (first | subst ea_ | (injection ea_ with ea_; subst ea_)); subst ec_; clear en_))
                have GB25 := Aside0.mk gb25
                have GG25 := Aside0.mk HG25
                clear gb25 gl25 HG25
                (first | simp only [add_plain] at hx256_0 | skip)
                obtain ⟨hx25_0, hf25_0⟩ := Kd.R_celln 0 HO_3.out (x5_2 : Int) p25 q25
                replace p25 := eq_true p25
                replace q25 := eq_true q25
                have HP28 := Kd.R_putg HO_3.out (x5_2 : Int) (wrap64 (x6_3 + 1))
                go_wp2_with (first | ((with_reducible refine gate_store (t := 3) (p := 74) rfl ?_); refine store_event (t := 3) (p := 74) (v := ?vo_w29) (w1 := (wr.setCell ⟨go25, (x5_2 : Int).toNat, none⟩ (.int .i64 (wrap64 (x6_3 + 1))))) ?hg ?ho ?hn ?hr ?_; (case ho => rfl); (case hg => rfl); (case hn => rfl); (case hr => first | (go_simp; done) | (go_simp; rfl)); intro w29 hw; have hg : wr.grownBy w29 (some go25) := (by rw [hw]; exact HP28.2); have hp_ : Kd.R (Kd.int .i64) 3 w29 w.heap.size (fun _ => True) (.slice (some ⟨go25, 0, none⟩) x3_2.length co27) y257 := (by rw [hw, Ny257.out]; exact HP28.1); clear HP28; have n0_ := Aside0.mk (hp_); have n1_ := Aside0.mk (blk_grown (g := gb245) (o := .cells #[.slice (some ad249) l0_0.length c0_0, .int .i64 a0_1] 24 (0, 0)) (by (with_reducible repeat (first | refine blk_drewN ?_ _ | refine blk_drew ?_ | refine blk_alloc ?_ _)); exact BK245.out) hg (Kd.R_ne HO_3.out BK245.out (by decide))); have n2_ := Aside0.mk ((by rw [hw]; exact below_set (HB.out) GB25.out : Below w.heap.size w w29)); clear HO_3; clear BK245; clear HB; have HO_3 := n0_; have BK245 := n1_; have HB := n2_; clear n0_ n1_ n2_; clear hg hw hp_))
                go_roundg k3
                case measure => have := HK1.out; have := HK2.out; have := HK3.out; omega
                case rel => exact ⟨(y257), (wrap64 (x5_2 + 1)), (by first | rfl | (simp; done) | (simp [*]; done)), H', ⟨by have := HK1.out; have := HK2.out; have := HK3.out; omega⟩, ⟨by (with_reducible repeat (first | apply Kd.R_alloc | apply Kd.R_drewN | apply Kd.R_drew)); exact HO_3.out⟩, ⟨by (with_reducible repeat (first | refine blk_drewN ?_ _ | refine blk_drew ?_ | refine blk_alloc ?_ _)); exact BK245.out⟩, ⟨by repeat (first | (with_reducible first | exact HB.out | apply below_alloc | apply pw_below_drewN | apply below_drew1 | refine below_set ?_ GE245.out) | exact HB.out)⟩⟩
               ·rw [if_neg c24] at H
                have c24b0 : decide ((rd x3_2 x5_2) < (wrap64 (x6_3 + 1))) = false := decide_eq_false c24
                clear c24
                have H' := Aside0.mk H
                clear H
                have hcz30_0 : wr.cell? ⟨gb245, 0, none⟩ = some (.slice A0_0 l0_0.length c0_0) := (blk_cell BK245.out 0).trans rfl
                have hcz30_1 : wr.cell? ⟨gb245, 1, none⟩ = some (.int .i64 a0_1) := (blk_cell BK245.out 1).trans rfl
                have hfz30_0 := blk_frozen BK245.out 0
                have hfz30_1 := blk_frozen BK245.out 1
                have p249 : 0 ≤ (x5_2 : Int) := of_decide_eq_true (by first | (with_reducible assumption) | assumption)
                have q249 : x5_2 < (l0_0.length : Int) := of_decide_eq_true (by first | (with_reducible assumption) | assumption)
                obtain ⟨ad249, A249_1, c249_1, A249_2, c249_2, A249_3, c249_3, e249, hx249_0, hx249_1, hx249_2, hx249_3, hl249_1, hi249_1, hl249_2, hi249_2, hl249_3, hi249_3⟩ := at_T40 HR0_0.out x5_2 p249 q249
                cases e249
                replace hx249_0 := (HB.out.cell (World.block_lt_of_cell? w _ hx249_0)).trans hx249_0
                replace hx249_1 := (HB.out.cell (World.block_lt_of_cell? w _ hx249_1)).trans hx249_1
                replace hx249_2 := (HB.out.cell (World.block_lt_of_cell? w _ hx249_2)).trans hx249_2
                replace hx249_3 := (HB.out.cell (World.block_lt_of_cell? w _ hx249_3)).trans hx249_3
                have HR249_1 := Aside0.mk hi249_1
                have HC249_1 := Aside0.mk hl249_1
                clear hi249_1 hl249_1
                have HR249_2 := Aside0.mk hi249_2
                have HC249_2 := Aside0.mk hl249_2
                clear hi249_2 hl249_2
                have HR249_3 := Aside0.mk hi249_3
                have HC249_3 := Aside0.mk hl249_3
                clear hi249_3 hl249_3
                replace p249 := eq_true p249
                replace q249 := eq_true q249
                obtain ⟨Ao31, co31, eo31⟩ := Kd.R_slice HO_3.out
                subst eo31
                have p256 : 0 ≤ (x5_2 : Int) := of_decide_eq_true (by first | (with_reducible assumption) | assumption)
                have q256 : x5_2 < (x3_2.length : Int) := of_decide_eq_true (by first | (with_reducible assumption) | assumption)
                obtain ⟨ad256, e256, hx256_0⟩ := Kd.at_int (Kd.R_reads' HO_3.out).2.2 x5_2 p256 q256
                cases e256
                replace p256 := eq_true p256
                replace q256 := eq_true q256
                go_wp2
                go_roundg k3
                case measure => have := HK1.out; have := HK2.out; have := HK3.out; omega
                case rel => exact ⟨(x3_2), (wrap64 (x5_2 + 1)), (by first | rfl | (simp; done) | (simp [*]; done)), H', ⟨by have := HK1.out; have := HK2.out; have := HK3.out; omega⟩, ⟨by (with_reducible repeat (first | apply Kd.R_alloc | apply Kd.R_drewN | apply Kd.R_drew)); exact HO_3.out⟩, ⟨by (with_reducible repeat (first | refine blk_drewN ?_ _ | refine blk_drew ?_ | refine blk_alloc ?_ _)); exact BK245.out⟩, ⟨by repeat (first | (with_reducible first | exact HB.out | apply below_alloc | apply pw_below_drewN | apply below_drew1 | refine below_set ?_ GE245.out) | exact HB.out)⟩⟩
              ·rw [if_neg c23] at H
               exact absurd H (by simp)
            ·rw [if_neg c13] at H
             exact absurd H (by simp)
           ·rw [if_neg c12] at H
            exact absurd H (by simp)
        ·rw [if_neg c10] at H
         have c10b0 : decide (x5_2 < (l0_0.length : Int)) = false := decide_eq_false c10
         clear c10
         have H' := Aside0.mk H
         clear H
         have hcz32_0 : wr.cell? ⟨gb245, 0, none⟩ = some (.slice A0_0 l0_0.length c0_0) := (blk_cell BK245.out 0).trans rfl
         have hcz32_1 : wr.cell? ⟨gb245, 1, none⟩ = some (.int .i64 a0_1) := (blk_cell BK245.out 1).trans rfl
         have hfz32_0 := blk_frozen BK245.out 0
         have hfz32_1 := blk_frozen BK245.out 1
         go_wp2
         go_roundg k2
         case measure => have := HK1.out; have := HK2.out; omega
         case rel => exact ⟨(x3_2), (wrap64 (x4_1 + 1)), (by first | rfl | (simp; done) | (simp [*]; done)), H', ⟨by have := HK1.out; have := HK2.out; omega⟩, ⟨by (with_reducible repeat (first | apply Kd.R_alloc | apply Kd.R_drewN | apply Kd.R_drew)); exact HO_3.out⟩, ⟨by (with_reducible repeat (first | refine blk_drewN ?_ _ | refine blk_drew ?_ | refine blk_alloc ?_ _)); exact BK245.out⟩, ⟨by repeat (first | (with_reducible first | exact HB.out | apply below_alloc | apply pw_below_drewN | apply below_drew1 | refine below_set ?_ GE245.out) | exact HB.out)⟩⟩
     ·rw [if_neg c8] at H
      have c8b0 : decide (x4_1 ≤ (l0_0.length : Int)) = false := decide_eq_false c8
      clear c8
      obtain rfl := Option.some.inj H
      have hcz33_0 : wr.cell? ⟨gb245, 0, none⟩ = some (.slice A0_0 l0_0.length c0_0) := (blk_cell BK245.out 0).trans rfl
      have hcz33_1 : wr.cell? ⟨gb245, 1, none⟩ = some (.int .i64 a0_1) := (blk_cell BK245.out 1).trans rfl
      have hfz33_0 := blk_frozen BK245.out 0
      have hfz33_1 := blk_frozen BK245.out 1
      go_wp2
      go_ret
      exact ⟨_, by first | rfl | (simp [errW_none, errW_some] <;> rfl) | (simp [*, errW_none, errW_some] <;> rfl), by (with_reducible repeat (first | apply Kd.R_alloc | apply Kd.R_drewN | apply Kd.R_drew)); exact HO_3.out, by repeat (first | (with_reducible first | exact HB.out | apply below_alloc | apply pw_below_drewN | apply below_drew1 | refine below_set ?_ GE245.out) | exact HB.out)⟩
  ·rw [if_neg c3] at H
   exact absurd H (by simp)
 ·rw [if_neg c2] at H
  exact absurd H (by simp)

end Go.Proofs.Ytlfjjapndlkamaa.GD
