-- Printed by a program of the session (wip/gen/tprint.py, over a turned copy of the kit's print): Lean checks it.
import Derived.Test.YtlfjjapndlkamaaGLx0
import Derived.Test.YtlfjjapndlkamaaGLx5
import Derived.Test.YtlfjjapndlkamaaGLx6
namespace Go.Proofs.Ytlfjjapndlkamaa.GL
open Go.RowKit Go.Proofs.YtlfjjapndlkamaaW.PrintWords Go.Proofs.YtlfjjapndlkamaaW.PrintLast Go.Proofs.YtlfjjapndlkamaaW.PrintMore
attribute [local go_sem] max2_int min2_int max_two min_two max_three min_three max_four min_four   -- for this text's walks alone
set_option linter.unusedVariables false
set_option linter.unusedSimpArgs false

/-! ### graph_Depth: function 31 -/
mutual
def graph_Depth.l0 : Nat → List Int → List Int → Int → Int → List (S40) → Int → Option (Int)
 | 0, _, _, _, _, _, _ => none
 | k + 1, x5, x22, x23, x24, x188000, x188001 => if x24 < x23 then (if 0 ≤ x24 then (if x24 < (x22.length : Int) then (if 0 ≤ (rd x22 x24) then (if (rd x22 x24) < (x188000.length : Int) then (graph_Depth.l1 k x5 (rd x22 x24) x22 x23 x24 ((rd_T40 x188000 (rd x22 x24)).f3) (((rd_T40 x188000 (rd x22 x24)).f3).length : Int) 0 x188000 x188001) else (none)) else (none)) else (none)) else (none)) else (if 0 ≤ x188001 then (if x188001 < (x5.length : Int) then (some (rd x5 x188001)) else (none)) else (none))
def graph_Depth.l1 : Nat → List Int → Int → List Int → Int → Int → List Int → Int → Int → List (S40) → Int → Option (Int)
 | 0, _, _, _, _, _, _, _, _, _, _ => none
 | k + 1, x5, x7, x22, x23, x24, x33, x34, x35, x188000, x188001 => if x35 < x34 then (if 0 ≤ x35 then (if x35 < (x33.length : Int) then (if 0 ≤ x7 then (if x7 < (x5.length : Int) then (if 0 ≤ (rd x33 x35) then (if (rd x33 x35) < (x5.length : Int) then (graph_Depth.l1 k (x5.set (x7 : Int).toNat (mx (rd x5 x7) (rd x5 (rd x33 x35)))) x7 x22 x23 x24 x33 x34 (wrap64 (x35 + 1)) x188000 x188001) else (none)) else (none)) else (none)) else (none)) else (none)) else (none)) else (if 0 ≤ x7 then (if x7 < (x5.length : Int) then (graph_Depth.l0 k (x5.set (x7 : Int).toNat (wrap64 ((rd x5 x7) + 1))) x22 x23 (wrap64 (x24 + 1)) x188000 x188001) else (none)) else (none))
end
def graph_Depth.f (k : Nat) (l0_0 : List (S40)) (a0_1 : Int) : Option (Int) := (graph_Check.f k l0_0 a0_1).bind fun bt188 => (if bt188.1 = 0 then (if 0 ≤ (l0_0.length : Int) then (if ((l0_0.length : Int) : Int).toNat ≤ 35184372088832 then ((graph_order.f k l0_0 a0_1).bind fun t193 => (graph_Depth.l0 k (List.replicate ((l0_0.length : Int) : Int).toNat 0) t193 (t193.length : Int) 0 l0_0 a0_1)) else (none)) else (none)) else (some 0))
theorem graph_Depth.mono_l : ∀ k, (∀ y0 y1 y2 y3 y4 y5, LeO (graph_Depth.l0 k y0 y1 y2 y3 y4 y5) (graph_Depth.l0 (k + 1) y0 y1 y2 y3 y4 y5)) ∧ (∀ y0 y1 y2 y3 y4 y5 y6 y7 y8 y9, LeO (graph_Depth.l1 k y0 y1 y2 y3 y4 y5 y6 y7 y8 y9) (graph_Depth.l1 (k + 1) y0 y1 y2 y3 y4 y5 y6 y7 y8 y9))
 | 0 => ⟨fun _ _ _ _ _ _ r h => by simp [graph_Depth.l0] at h, fun _ _ _ _ _ _ _ _ _ _ r h => by simp [graph_Depth.l1] at h⟩
 | k + 1 => by
  obtain ⟨ih0, ih1⟩ := graph_Depth.mono_l k
  refine ⟨?_, ?_⟩
  ·intro y0 y1 y2 y3 y4 y5
   unfold graph_Depth.l0
   repeat' first
   | (with_reducible exact ih0 _ _ _ _ _ _)
   | (with_reducible exact ih1 _ _ _ _ _ _ _ _ _ _)
   | (with_reducible exact graph_Check.mono _ _ _)
   | (with_reducible exact graph_order.mono _ _ _)
   | (with_reducible exact LeO.refl _)
   | (with_reducible exact LeO.none _)
   | (with_reducible refine LeO.ite ?_ ?_)
   | (with_reducible refine LeO.bind ?_ (fun _ => ?_))
   | exact ih0 _ _ _ _ _ _
   | exact ih1 _ _ _ _ _ _ _ _ _ _
   | exact graph_Check.mono _ _ _
   | exact graph_order.mono _ _ _
   | exact LeO.none _
   | refine LeO.ite ?_ ?_
   | refine LeO.bind ?_ (fun _ => ?_)
  ·intro y0 y1 y2 y3 y4 y5 y6 y7 y8 y9
   unfold graph_Depth.l1
   repeat' first
   | (with_reducible exact ih0 _ _ _ _ _ _)
   | (with_reducible exact ih1 _ _ _ _ _ _ _ _ _ _)
   | (with_reducible exact graph_Check.mono _ _ _)
   | (with_reducible exact graph_order.mono _ _ _)
   | (with_reducible exact LeO.refl _)
   | (with_reducible exact LeO.none _)
   | (with_reducible refine LeO.ite ?_ ?_)
   | (with_reducible refine LeO.bind ?_ (fun _ => ?_))
   | exact ih0 _ _ _ _ _ _
   | exact ih1 _ _ _ _ _ _ _ _ _ _
   | exact graph_Check.mono _ _ _
   | exact graph_order.mono _ _ _
   | exact LeO.none _
   | refine LeO.ite ?_ ?_
   | refine LeO.bind ?_ (fun _ => ?_)
theorem graph_Depth.mono : ∀ a0 a1 k, LeO (graph_Depth.f k a0 a1) (graph_Depth.f (k + 1) a0 a1) := by
 intro a0 a1 k
 obtain ⟨ih0, ih1⟩ := graph_Depth.mono_l k
 unfold graph_Depth.f
 repeat' first
   | (with_reducible exact ih0 _ _ _ _ _ _)
   | (with_reducible exact ih1 _ _ _ _ _ _ _ _ _ _)
   | (with_reducible exact graph_Check.mono _ _ _)
   | (with_reducible exact graph_order.mono _ _ _)
   | (with_reducible exact LeO.refl _)
   | (with_reducible exact LeO.none _)
   | (with_reducible refine LeO.ite ?_ ?_)
   | (with_reducible refine LeO.bind ?_ (fun _ => ?_))
   | exact ih0 _ _ _ _ _ _
   | exact ih1 _ _ _ _ _ _ _ _ _ _
   | exact graph_Check.mono _ _ _
   | exact graph_order.mono _ _ _
   | exact LeO.none _
   | refine LeO.ite ?_ ?_
   | refine LeO.bind ?_ (fun _ => ?_)
def graph_Depth.T11 : Bool × List (List Nat × List Nat) := (true, [([], []), ([], []), ([], []), ([], []), ([2, 3], [2, 3]), ([4], [4]), ([], []), ([], []), ([6, 7], [6, 7]), ([8], [8]), ([5, 9], [5, 9]), ([0, 1, 0, 1, 2, 3, 4, 5, 6, 7, 8, 9, 10], [0, 1]), ([11, 10, 0, 1, 2, 3, 4, 5, 6, 7, 8, 9, 10], [10, 11])])
def graph_Depth.B11 : List Nat := [0, 0, 0, 0, 12, 28, 0, 0, 192, 448, 1020, 2047, 4095]
theorem graph_Depth.tab11 : rtab .any (opsOf Try.f31 11) = graph_Depth.T11 := by kernel_rfl
theorem graph_Depth.bits11 : waitsOk graph_Depth.T11.2 graph_Depth.B11 = true := by kernel_rfl
set_option maxHeartbeats 8000000 in
set_option maxRecDepth 100000 in
theorem graph_Depth.calls (k : Nat) (A0_0 : Option Addr) (c0_0 : Nat) (l0_0 : List (S40)) (a0_1 : Int) (r : Int) (w : World) (hr0_0 : Kd.C k40 w A0_0 l0_0.length l0_0) (hc0_0 : l0_0.length ≤ c0_0) (h : graph_Depth.f k l0_0 a0_1 = some r) :
  Calls Try.prog 31 #[.agg #[.slice A0_0 l0_0.length c0_0, .int .i64 a0_1]] w fun e w' => e = .returned (.int .i64 r) ∧ Below w.heap.size w w' := by
 have hu24 := Try.underlying24
 have HR0_0 := Aside0.mk hr0_0
 have HC0_0 := Aside0.mk hc0_0
 clear hr0_0 hc0_0
 have HB := Aside0.mk (Below.refl w.heap.size w)
 have H : ((graph_Check.f k l0_0 a0_1).bind fun bt188 => (if bt188.1 = 0 then (if 0 ≤ (l0_0.length : Int) then (if ((l0_0.length : Int) : Int).toNat ≤ 35184372088832 then ((graph_order.f k l0_0 a0_1).bind fun t193 => (graph_Depth.l0 k (List.replicate ((l0_0.length : Int) : Int).toNat 0) t193 (t193.length : Int) 0 l0_0 a0_1)) else (none)) else (none)) else (some 0))) = some r := h
 clear h
 replace H := Option.bind_eq_some_iff.mp H
 obtain ⟨⟨t188, t189⟩, A20, H⟩ := H
 replace H : (if t188 = 0 then (if 0 ≤ (l0_0.length : Int) then (if ((l0_0.length : Int) : Int).toNat ≤ 35184372088832 then ((graph_order.f k l0_0 a0_1).bind fun t193 => (graph_Depth.l0 k (List.replicate ((l0_0.length : Int) : Int).toNat 0) t193 (t193.length : Int) 0 l0_0 a0_1)) else (none)) else (none)) else (some 0)) = some r := H
 have A2 := Aside0.mk A20
 clear A20
 by_cases c3 : t188 = 0
 ·rw [if_pos c3] at H
  have c3b0 : (t188 == 0) = true := beq_iff_eq.mpr c3
  have c3b1 : (t188 != 0) = false := bne_eq_false_iff_eq.mpr c3
  clear c3
  by_cases c4 : 0 ≤ (l0_0.length : Int)
  ·rw [if_pos c4] at H
   have c4b0 := eq_true c4
   have c4b1 : decide (0 ≤ (l0_0.length : Int)) = true := decide_eq_true c4
   clear c4
   by_cases c5 : ((l0_0.length : Int) : Int).toNat ≤ 35184372088832
   ·rw [if_pos c5] at H
    have c5b0 := eq_true c5
    have c5b1 : decide (((l0_0.length : Int) : Int).toNat ≤ 35184372088832) = true := decide_eq_true c5
    clear c5
    obtain ⟨y190, hy190⟩ : ∃ y_ : List Int, y_ = (List.replicate ((l0_0.length : Int) : Int).toNat 0) := ⟨_, rfl⟩
    replace H : ((graph_order.f k l0_0 a0_1).bind fun t193 => (graph_Depth.l0 k y190 t193 (t193.length : Int) 0 l0_0 a0_1)) = some r := by first | (rw [hy190]; with_reducible exact H) | (have H2_ := (Option.bind_some _ _).symm.trans H; rw [hy190]; with_reducible exact H2_) | (have H2_ := (Option.bind_some _ _).symm.trans H; with_reducible exact H2_) | with_reducible exact H | (rw [hy190]; exact H) | exact H
    have Ny190 := Aside0.mk hy190
    clear hy190
    replace H := Option.bind_eq_some_iff.mp H
    obtain ⟨t193, A60, H⟩ := H
    replace H : (graph_Depth.l0 k y190 t193 (t193.length : Int) 0 l0_0 a0_1) = some r := H
    have A6 := Aside0.mk A60
    clear A60
    have H' := Aside0.mk H
    clear H
    go_enter Try.func31, Try.ntmps31
    go_wp2_with (first | ((with_reducible refine gate_dst (N := 1) rfl ?_); refine box_event ?hg (N := 1) ?hd (cs := #[.slice A0_0 l0_0.length c0_0, .int .i64 a0_1]) (t := 24) ?hr ?_; (case hd => rfl); (case hg => rfl); (case hr => first | (go_simp; done) | (go_simp; rfl)); intro gb187 hg w7 hbox hb; have n0_ := Aside0.mk (below_step (by repeat (first | (with_reducible first | exact HB.out | apply below_alloc | apply pw_below_drewN | apply below_drew1) | exact HB.out)) hb); have n1_ := Aside0.mk (hbox); have n2_ := Aside0.mk ((by rw [hg]; exact (below_size (by repeat (first | (with_reducible first | exact HB.out | apply below_alloc | apply pw_below_drewN | apply below_drew1) | exact HB.out))) : w.heap.size ≤ gb187)); have n3_ := Aside0.mk ((by rw [hg]; exact (below_size (by repeat (first | (with_reducible first | exact HB.out | apply below_alloc | apply pw_below_drewN | apply below_drew1) | exact HB.out))) : w.heap.size ≤ gb187)); clear HB; have HB := n0_; have BK187 := n1_; have GW187 := n2_; have GE187 := n3_; clear n0_ n1_ n2_ n3_; clear hb hbox hg; have hcz8_0 : w7.cell? ⟨gb187, 0, none⟩ = some (.slice A0_0 l0_0.length c0_0) := (blk_cell BK187.out 0).trans rfl; have hcz8_1 : w7.cell? ⟨gb187, 1, none⟩ = some (.int .i64 a0_1) := (blk_cell BK187.out 1).trans rfl; have hfz8_0 := blk_frozen BK187.out 0; have hfz8_1 := blk_frozen BK187.out 1) | ((with_reducible refine gate_callee (f := 34) rfl ?_); refine goesL_ (some 12) rfl rfl Try.func34 (by kernel_rfl) rfl #[.agg #[.slice A0_0 l0_0.length c0_0, .int .i64 a0_1]] rfl (by (try simp only [List.map_toArray, List.map_cons, List.map_nil]); first | done | rfl | (simp only [List.length_drop, List.length_take]; rfl)) ?_; (with_reducible refine (graph_Check.calls k _ _ l0_0 a0_1 t188 t189 _ ?side1 ?side2 A2.out).mono ?_); (case side1 => repeat (first | exact (Kd.C_below HR0_0.out HB.out) | (with_reducible refine Kd.C_alloc ?_ _) | (with_reducible refine Kd.C_drewN ?_ _) | (with_reducible refine Kd.C_drew ?_))); (case side2 => exact HC0_0.out); rintro e w9 ⟨rfl, hb⟩; refine ⟨_, rfl, ?_⟩; have n0_ := Aside0.mk (blk_below (g := gb187) (o := .cells #[.slice A0_0 l0_0.length c0_0, .int .i64 a0_1] 24 (0, 0)) (by (with_reducible repeat (first | refine blk_drewN ?_ _ | refine blk_drew ?_ | refine blk_alloc ?_ _)); exact BK187.out) hb); have n1_ := Aside0.mk (below_step (by repeat (first | (with_reducible first | exact HB.out | apply below_alloc | apply pw_below_drewN | apply below_drew1 | refine below_set ?_ GE187.out) | exact HB.out)) hb); clear BK187; clear HB; have BK187 := n0_; have HB := n1_; clear n0_ n1_; (try clear hb); (try clear hb2); (try clear hk); (try clear hi); have hcz10_0 : w9.cell? ⟨gb187, 0, none⟩ = some (.slice A0_0 l0_0.length c0_0) := (blk_cell BK187.out 0).trans rfl; have hcz10_1 : w9.cell? ⟨gb187, 1, none⟩ = some (.int .i64 a0_1) := (blk_cell BK187.out 1).trans rfl; have hfz10_0 := blk_frozen BK187.out 0; have hfz10_1 := blk_frozen BK187.out 1) | ((with_reducible refine gate_dst (N := 20) rfl ?_); refine Kd.R_make (Kd.int .i64) _ 3 rfl (N := 20) rfl 31 _ _ rfl (l0_0.length : Int) rfl rfl Try.underlying31 (.int .i64 0) 8 info3 rfl (by decide) (by omega) 0 (ok := fun _ => True) (okp := fun _ => True) rfl (fun _ hk => hk) trivial (of_decide_eq_true (by first | (with_reducible assumption) | assumption)) (Nat.le_trans (Nat.mul_le_mul_right _ (of_decide_eq_true (by first | (with_reducible assumption) | assumption) : (l0_0.length : Int).toNat ≤ 35184372088832)) (by omega)) (Below.refl _ _) (Nat.le_refl _) ?_; intro v191 w11 ho12 hb hg_ hnew_; clear hg_ hnew_; (first | rw [← Ny190.out] at ho12 | (simp only [Int.reduceToNat] at ho12; rw [← Ny190.out] at ho12)); have n0_ := Aside0.mk (Kd.R_lower ho12 (below_size (by repeat (first | (with_reducible first | exact HB.out | apply below_alloc | apply pw_below_drewN | apply below_drew1 | refine below_set ?_ GE187.out) | exact HB.out)))); have n1_ := Aside0.mk (blk_below (g := gb187) (o := .cells #[.slice A0_0 l0_0.length c0_0, .int .i64 a0_1] 24 (0, 0)) (by (with_reducible repeat (first | refine blk_drewN ?_ _ | refine blk_drew ?_ | refine blk_alloc ?_ _)); exact BK187.out) hb); have n2_ := Aside0.mk (below_step (by repeat (first | (with_reducible first | exact HB.out | apply below_alloc | apply pw_below_drewN | apply below_drew1 | refine below_set ?_ GE187.out) | exact HB.out)) hb); clear BK187; clear HB; have HO192 := n0_; have BK187 := n1_; have HB := n2_; clear n0_ n1_ n2_; clear hb ho12; have hcz13_0 : w11.cell? ⟨gb187, 0, none⟩ = some (.slice A0_0 l0_0.length c0_0) := (blk_cell BK187.out 0).trans rfl; have hcz13_1 : w11.cell? ⟨gb187, 1, none⟩ = some (.int .i64 a0_1) := (blk_cell BK187.out 1).trans rfl; have hfz13_0 := blk_frozen BK187.out 0; have hfz13_1 := blk_frozen BK187.out 1) | ((with_reducible refine gate_callee (f := 48) rfl ?_); refine goesL_ (some 22) rfl rfl Try.func48 (by kernel_rfl) rfl #[.agg #[.slice A0_0 l0_0.length c0_0, .int .i64 a0_1]] rfl (by (try simp only [List.map_toArray, List.map_cons, List.map_nil]); first | done | rfl | (simp only [List.length_drop, List.length_take]; rfl)) ?_; (with_reducible refine (graph_order.calls k _ _ l0_0 a0_1 t193 _ ?side1 ?side2 A6.out).mono ?_); (case side1 => repeat (first | exact (Kd.C_below HR0_0.out HB.out) | (with_reducible refine Kd.C_alloc ?_ _) | (with_reducible refine Kd.C_drewN ?_ _) | (with_reducible refine Kd.C_drew ?_))); (case side2 => exact HC0_0.out); rintro e w14 ⟨v194, rfl, ho0, hb⟩; refine ⟨_, rfl, ?_⟩; have n0_ := Aside0.mk (Kd.R_elder' (by (with_reducible repeat (first | apply Kd.R_alloc | apply Kd.R_drewN | apply Kd.R_drew)); exact HO192.out) (Kd.R_base ho0) hb); have n1_ := Aside0.mk (Kd.R_lower (Kd.R_new' ho0 (Kd.R_lt (by (with_reducible repeat (first | apply Kd.R_alloc | apply Kd.R_drewN | apply Kd.R_drew)); exact HO192.out))) (below_size (by repeat (first | (with_reducible first | exact HB.out | apply below_alloc | apply pw_below_drewN | apply below_drew1 | refine below_set ?_ GE187.out) | exact HB.out)))); have n2_ := Aside0.mk (blk_below (g := gb187) (o := .cells #[.slice A0_0 l0_0.length c0_0, .int .i64 a0_1] 24 (0, 0)) (by (with_reducible repeat (first | refine blk_drewN ?_ _ | refine blk_drew ?_ | refine blk_alloc ?_ _)); exact BK187.out) hb); have n3_ := Aside0.mk (below_step (by repeat (first | (with_reducible first | exact HB.out | apply below_alloc | apply pw_below_drewN | apply below_drew1 | refine below_set ?_ GE187.out) | exact HB.out)) hb); clear HO192; clear BK187; clear HB; have HO192 := n0_; have HO195 := n1_; have BK187 := n2_; have HB := n3_; clear n0_ n1_ n2_ n3_; (try clear hb); (try clear hb2); (try clear hk); (try clear hi); (try clear ho0); obtain ⟨Ao15, co15, eo15⟩ := Kd.R_slice HO195.out; subst eo15))
    go_loopg [24] k (fun kq v24 w' => ∃ (x5_1 : List Int) (x24_1 : Int), v24 = .int .i64 x24_1 ∧ Aside0 (graph_Depth.l0 kq x5_1 t193 (t193.length : Int) x24_1 l0_0 a0_1 = some r) ∧ Aside0 (kq ≤ k) ∧ Aside0 (Kd.R (Kd.int .i64) 3 w' w.heap.size (fun k_ => some k_ ≠ ((.slice Ao15 t193.length co15) : Value).ownBlock) v191 x5_1) ∧ Aside0 (Kd.R (Kd.int .i64) 3 w' w.heap.size (fun k_ => some k_ ≠ (v191 : Value).ownBlock) (.slice Ao15 t193.length co15) t193) ∧ Aside0 (w'.heap[gb187]? = some (.cells #[(.slice A0_0 l0_0.length c0_0), .int .i64 a0_1] 24 (0, 0))) ∧ Aside0 (Below w.heap.size w w'))
    case atStart => exact ⟨(y190), (0), (by first | rfl | (simp; done) | (simp [*]; done)), H', ⟨Nat.le_refl _⟩, ⟨by (with_reducible repeat (first | apply Kd.R_alloc | apply Kd.R_drewN | apply Kd.R_drew)); exact Kd.R_mono HO192.out (fun _ hk => hk.2)⟩, ⟨by (with_reducible repeat (first | apply Kd.R_alloc | apply Kd.R_drewN | apply Kd.R_drew)); exact Kd.R_mono HO195.out (fun _ hk => hk.2)⟩, ⟨by (with_reducible repeat (first | refine blk_drewN ?_ _ | refine blk_drew ?_ | refine blk_alloc ?_ _)); exact BK187.out⟩, ⟨by repeat (first | (with_reducible first | exact HB.out | apply below_alloc | apply pw_below_drewN | apply below_drew1 | refine below_set ?_ GE187.out) | exact HB.out)⟩⟩
    case round =>
     clear H'
     try clear p2
     try clear c3
     try clear c3b0
     try clear c3b1
     try clear c4
     try clear c4b0
     try clear c4b1
     try clear c5
     try clear c5b0
     try clear c5b1
     try clear hcz10_0
     try clear hcz10_1
     try clear hcz13_0
     try clear hcz13_1
     try clear hcz8_0
     try clear hcz8_1
     try clear hfz10_0
     try clear hfz10_1
     try clear hfz13_0
     try clear hfz13_1
     try clear hfz8_0
     try clear hfz8_1
     obtain ⟨x5_1, x24_1, rfl, HA, HK1, HO_5, HO_22, BK187, HB⟩ := hrel
     cases gk with
     | zero => exact absurd HA.out (by simp [graph_Depth.l0])
     | succ k1 =>
      have H := HA.out
      clear HA
      simp only [graph_Depth.l0] at H
      by_cases c16 : x24_1 < (t193.length : Int)
      ·rw [if_pos c16] at H
       have c16b0 : decide (x24_1 < (t193.length : Int)) = true := decide_eq_true c16
       clear c16
       by_cases c17 : 0 ≤ x24_1
       ·rw [if_pos c17] at H
        have c17b0 : decide (0 ≤ x24_1) = true := decide_eq_true c17
        clear c17
        by_cases c18 : x24_1 < (t193.length : Int)
        ·rw [if_pos c18] at H
         have c18b0 : decide (x24_1 < (t193.length : Int)) = true := decide_eq_true c18
         clear c18
         by_cases c19 : 0 ≤ (rd t193 x24_1)
         ·rw [if_pos c19] at H
          have c19b0 : decide (0 ≤ (rd t193 x24_1)) = true := decide_eq_true c19
          clear c19
          by_cases c20 : (rd t193 x24_1) < (l0_0.length : Int)
          ·rw [if_pos c20] at H
           have c20b0 : decide ((rd t193 x24_1) < (l0_0.length : Int)) = true := decide_eq_true c20
           clear c20
           have H' := Aside0.mk H
           clear H
           have p197 : 0 ≤ (x24_1 : Int) := of_decide_eq_true (by first | (with_reducible assumption) | assumption)
           have q197 : x24_1 < (t193.length : Int) := of_decide_eq_true (by first | (with_reducible assumption) | assumption)
           obtain ⟨ad197, e197, hx197_0⟩ := Kd.at_int (Kd.R_reads' HO_22.out).2.2 x24_1 p197 q197
           cases e197
           replace p197 := eq_true p197
           replace q197 := eq_true q197
           have hcz21_0 : wr.cell? ⟨gb187, 0, none⟩ = some (.slice A0_0 l0_0.length c0_0) := (blk_cell BK187.out 0).trans rfl
           have hcz21_1 : wr.cell? ⟨gb187, 1, none⟩ = some (.int .i64 a0_1) := (blk_cell BK187.out 1).trans rfl
           have hfz21_0 := blk_frozen BK187.out 0
           have hfz21_1 := blk_frozen BK187.out 1
           have p198 : 0 ≤ ((rd t193 x24_1) : Int) := of_decide_eq_true (by first | (with_reducible assumption) | assumption)
           have q198 : (rd t193 x24_1) < (l0_0.length : Int) := of_decide_eq_true (by first | (with_reducible assumption) | assumption)
           obtain ⟨ad198, A198_1, c198_1, A198_2, c198_2, A198_3, c198_3, e198, hx198_0, hx198_1, hx198_2, hx198_3, hl198_1, hi198_1, hl198_2, hi198_2, hl198_3, hi198_3⟩ := at_T40 HR0_0.out (rd t193 x24_1) p198 q198
           cases e198
           replace hx198_0 := (HB.out.cell (World.block_lt_of_cell? w _ hx198_0)).trans hx198_0
           replace hx198_1 := (HB.out.cell (World.block_lt_of_cell? w _ hx198_1)).trans hx198_1
           replace hx198_2 := (HB.out.cell (World.block_lt_of_cell? w _ hx198_2)).trans hx198_2
           replace hx198_3 := (HB.out.cell (World.block_lt_of_cell? w _ hx198_3)).trans hx198_3
           have HR198_1 := Aside0.mk hi198_1
           have HC198_1 := Aside0.mk hl198_1
           clear hi198_1 hl198_1
           have HR198_2 := Aside0.mk hi198_2
           have HC198_2 := Aside0.mk hl198_2
           clear hi198_2 hl198_2
           have HR198_3 := Aside0.mk hi198_3
           have HC198_3 := Aside0.mk hl198_3
           clear hi198_3 hl198_3
           replace p198 := eq_true p198
           replace q198 := eq_true q198
           go_wp2
           go_loopg [35] k1 (fun kq v35 w' => ∃ (x5_2 : List Int) (x35_2 : Int), v35 = .int .i64 x35_2 ∧ Aside0 (graph_Depth.l1 kq x5_2 (rd t193 x24_1) t193 (t193.length : Int) x24_1 ((rd_T40 l0_0 (rd t193 x24_1)).f3) (((rd_T40 l0_0 (rd t193 x24_1)).f3).length : Int) x35_2 l0_0 a0_1 = some r) ∧ Aside0 (kq ≤ k1) ∧ Aside0 (Kd.R (Kd.int .i64) 3 w' w.heap.size (fun k_ => some k_ ≠ ((.slice (some ad197) t193.length co15) : Value).ownBlock) v191 x5_2) ∧ Aside0 (Kd.R (Kd.int .i64) 3 w' w.heap.size (fun k_ => some k_ ≠ (v191 : Value).ownBlock) (.slice (some ad197) t193.length co15) t193) ∧ Aside0 (w'.heap[gb187]? = some (.cells #[(.slice (some ad198) l0_0.length c0_0), .int .i64 a0_1] 24 (0, 0))) ∧ Aside0 (Below w.heap.size w w'))
           case atStart => exact ⟨(x5_1), (0), (by first | rfl | (simp; done) | (simp [*]; done)), H', ⟨Nat.le_refl _⟩, ⟨by (with_reducible repeat (first | apply Kd.R_alloc | apply Kd.R_drewN | apply Kd.R_drew)); exact HO_5.out⟩, ⟨by (with_reducible repeat (first | apply Kd.R_alloc | apply Kd.R_drewN | apply Kd.R_drew)); exact HO_22.out⟩, ⟨by (with_reducible repeat (first | refine blk_drewN ?_ _ | refine blk_drew ?_ | refine blk_alloc ?_ _)); exact BK187.out⟩, ⟨by repeat (first | (with_reducible first | exact HB.out | apply below_alloc | apply pw_below_drewN | apply below_drew1 | refine below_set ?_ GE187.out) | exact HB.out)⟩⟩
           case round =>
            clear H'
            try clear c1
            try clear p1
            try clear q1
            try clear hx1
            try clear c2
            try clear p2
            try clear c3
            try clear c3b0
            try clear c3b1
            try clear c4
            try clear c4b0
            try clear c4b1
            try clear c5
            try clear c5b0
            try clear c5b1
            try clear c16
            try clear c16b0
            try clear c17
            try clear c17b0
            try clear c18
            try clear c18b0
            try clear c19
            try clear c19b0
            try clear p19
            try clear q19
            try clear hx19
            try clear c20
            try clear c20b0
            try clear hcz10_0
            try clear hcz10_1
            try clear hcz13_0
            try clear hcz13_1
            try clear hcz21_0
            try clear hcz21_1
            try clear hcz8_0
            try clear hcz8_1
            try clear hfz10_0
            try clear hfz10_1
            try clear hfz13_0
            try clear hfz13_1
            try clear hfz21_0
            try clear hfz21_1
            try clear hfz8_0
            try clear hfz8_1
            try clear hx197_0
            try clear hx198_0
            try clear hx198_1
            try clear hx198_2
            try clear hx198_3
            try clear p197
            try clear p198
            try clear p2
            try clear q197
            try clear q198
            obtain ⟨x5_2, x35_2, rfl, HA, HK2, HO_5, HO_22, BK187, HB⟩ := hrel
            cases gk with
            | zero => exact absurd HA.out (by simp [graph_Depth.l1])
            | succ k2 =>
             have H := HA.out
             clear HA
             simp only [graph_Depth.l1] at H
             by_cases c22 : x35_2 < (((rd_T40 l0_0 (rd t193 x24_1)).f3).length : Int)
             ·rw [if_pos c22] at H
              have c22b0 : decide (x35_2 < (((rd_T40 l0_0 (rd t193 x24_1)).f3).length : Int)) = true := decide_eq_true c22
              clear c22
              by_cases c23 : 0 ≤ x35_2
              ·rw [if_pos c23] at H
               have c23b0 : decide (0 ≤ x35_2) = true := decide_eq_true c23
               clear c23
               by_cases c24 : x35_2 < (((rd_T40 l0_0 (rd t193 x24_1)).f3).length : Int)
               ·rw [if_pos c24] at H
                have c24b0 : decide (x35_2 < (((rd_T40 l0_0 (rd t193 x24_1)).f3).length : Int)) = true := decide_eq_true c24
                clear c24
                by_cases c25 : 0 ≤ (rd t193 x24_1)
                ·rw [if_pos c25] at H
                 have c25b0 : decide (0 ≤ (rd t193 x24_1)) = true := decide_eq_true c25
                 clear c25
                 by_cases c26 : (rd t193 x24_1) < (x5_2.length : Int)
                 ·rw [if_pos c26] at H
                  have c26b0 : decide ((rd t193 x24_1) < (x5_2.length : Int)) = true := decide_eq_true c26
                  clear c26
                  by_cases c27 : 0 ≤ (rd ((rd_T40 l0_0 (rd t193 x24_1)).f3) x35_2)
                  ·rw [if_pos c27] at H
                   have c27b0 : decide (0 ≤ (rd ((rd_T40 l0_0 (rd t193 x24_1)).f3) x35_2)) = true := decide_eq_true c27
                   clear c27
                   by_cases c28 : (rd ((rd_T40 l0_0 (rd t193 x24_1)).f3) x35_2) < (x5_2.length : Int)
                   ·rw [if_pos c28] at H
                    have c28b0 : decide ((rd ((rd_T40 l0_0 (rd t193 x24_1)).f3) x35_2) < (x5_2.length : Int)) = true := decide_eq_true c28
                    clear c28
                    obtain ⟨ji29, hji29⟩ : ∃ j_ : Int, (mx (rd x5_2 (rd t193 x24_1)) (rd x5_2 (rd ((rd_T40 l0_0 (rd t193 x24_1)).f3) x35_2))) = j_ := ⟨_, rfl⟩
                    replace H : (graph_Depth.l1 k2 (x5_2.set ((rd t193 x24_1) : Int).toNat (ji29)) (rd t193 x24_1) t193 (t193.length : Int) x24_1 ((rd_T40 l0_0 (rd t193 x24_1)).f3) (((rd_T40 l0_0 (rd t193 x24_1)).f3).length : Int) (wrap64 (x35_2 + 1)) l0_0 a0_1) = some r := by first | (rw [hji29] at H; exact H) | (simp only [hji29] at H ⊢; exact H)
                    have hji29_ : (if (rd x5_2 (rd t193 x24_1)) < (rd x5_2 (rd ((rd_T40 l0_0 (rd t193 x24_1)).f3) x35_2)) then (rd x5_2 (rd ((rd_T40 l0_0 (rd t193 x24_1)).f3) x35_2)) else (rd x5_2 (rd t193 x24_1))) = ji29 := hji29
                    obtain ⟨y202, hy202⟩ : ∃ y_ : List Int, y_ = (x5_2.set ((rd t193 x24_1) : Int).toNat (ji29)) := ⟨_, rfl⟩
                    replace H : (graph_Depth.l1 k2 y202 (rd t193 x24_1) t193 (t193.length : Int) x24_1 ((rd_T40 l0_0 (rd t193 x24_1)).f3) (((rd_T40 l0_0 (rd t193 x24_1)).f3).length : Int) (wrap64 (x35_2 + 1)) l0_0 a0_1) = some r := by first | (rw [hy202]; with_reducible exact H) | (have H2_ := (Option.bind_some _ _).symm.trans H; rw [hy202]; with_reducible exact H2_) | (have H2_ := (Option.bind_some _ _).symm.trans H; with_reducible exact H2_) | with_reducible exact H | (rw [hy202]; exact H) | exact H
                    have Ny202 := Aside0.mk hy202
                    clear hy202
                    have H' := Aside0.mk H
                    clear H
                    have p199 : 0 ≤ (x35_2 : Int) := of_decide_eq_true (by first | (with_reducible assumption) | assumption)
                    have q199 : x35_2 < (((rd_T40 l0_0 (rd t193 x24_1)).f3).length : Int) := of_decide_eq_true (by first | (with_reducible assumption) | assumption)
                    obtain ⟨ad199, e199, hx199_0⟩ := Kd.at_int HR198_3.out x35_2 p199 q199
                    cases e199
                    replace hx199_0 := (HB.out.cell (World.block_lt_of_cell? w _ hx199_0)).trans hx199_0
                    replace p199 := eq_true p199
                    replace q199 := eq_true q199
                    try go_wp2
                    have n0_ := Aside0.mk (Kd.R_drew HO_5.out)
                    have n1_ := Aside0.mk (Kd.R_drew HO_22.out)
                    have n2_ := Aside0.mk (blk_drew BK187.out)
                    have n3_ := Aside0.mk (below_drew1 HB.out)
                    clear HO_5
                    clear HO_22
                    clear BK187
                    clear HB
                    have HO_5 := n0_
                    have HO_22 := n1_
                    have BK187 := n2_
                    have HB := n3_
                    clear n0_ n1_ n2_ n3_
                    obtain ⟨Ao32, co32, eo32⟩ := Kd.R_slice HO_5.out
                    (first | subst eo32 | (injection eo32 with f1_ f2_ f3_; have f4_ := f1_.symm; have f5_ := f3_.symm; clear f1_ f2_ f3_; subst f4_; subst f5_))
                    have p200 : 0 ≤ ((rd t193 x24_1) : Int) := of_decide_eq_true (by first | (with_reducible assumption) | assumption)
                    have q200 : (rd t193 x24_1) < (x5_2.length : Int) := of_decide_eq_true (by first | (with_reducible assumption) | assumption)
                    obtain ⟨ad200, e200, hx200_0⟩ := Kd.at_int (Kd.R_reads' HO_5.out).2.2 (rd t193 x24_1) p200 q200
                    cases e200
                    replace p200 := eq_true p200
                    replace q200 := eq_true q200
                    have p201 : 0 ≤ ((rd ((rd_T40 l0_0 (rd t193 x24_1)).f3) x35_2) : Int) := of_decide_eq_true (by first | (with_reducible assumption) | assumption)
                    have q201 : (rd ((rd_T40 l0_0 (rd t193 x24_1)).f3) x35_2) < (x5_2.length : Int) := of_decide_eq_true (by first | (with_reducible assumption) | assumption)
                    obtain ⟨ad201, e201, hx201_0⟩ := Kd.at_int (Kd.R_reads' HO_5.out).2.2 (rd ((rd_T40 l0_0 (rd t193 x24_1)).f3) x35_2) p201 q201
                    obtain rfl : ad200 = ad201 := (by injection e201)
                    replace p201 := eq_true p201
                    replace q201 := eq_true q201
                    have p30 : 0 ≤ ((rd t193 x24_1) : Int) := of_decide_eq_true (by first | (with_reducible assumption) | assumption)
                    have q30 : ((rd t193 x24_1) : Int) < ((x5_2.length : Int) : Int) := of_decide_eq_true (by first | (with_reducible assumption) | assumption)
                    obtain ⟨go30, co30, eo30, gb30, gl30, cl30, HG30⟩ := Kd.R_form HO_5.out (by omega)
                    (first | cases eo30 | (injection eo30 with ea_ en_ ec_; (first | subst ea_ | (injection ea_ with ea_; subst ea_)); subst ec_; clear en_))
                    have GB30 := Aside0.mk gb30
                    have GG30 := Aside0.mk HG30
                    clear gb30 gl30 HG30
                    (first | simp only [add_plain] at hx200_0 | skip)
                    (first | simp only [add_plain] at hx201_0 | skip)
                    obtain ⟨hx30_0, hf30_0⟩ := Kd.R_celln 0 HO_5.out ((rd t193 x24_1) : Int) p30 q30
                    replace p30 := eq_true p30
                    replace q30 := eq_true q30
                    have HP33 := Kd.R_putn HO_5.out ((rd t193 x24_1) : Int) ji29
                    rw [← Ny202.out] at HP33
                    have HQ33 := Aside0.mk HP33
                    clear HP33
                    refine start_ (n := 13) (S := fun w' => w'.cell? ⟨go30, ((rd t193 x24_1)).toNat, none⟩ = some (.int .i64 (rd x5_2 (rd t193 x24_1))) ∧ w'.cell? ⟨go30, ((rd ((rd_T40 l0_0 (rd t193 x24_1)).f3) x35_2)).toNat, none⟩ = some (.int .i64 (rd x5_2 (rd ((rd_T40 l0_0 (rd t193 x24_1)).f3) x35_2)))) (ds := [12]) #[false, false, false, false, false, false, false, false, false, false, false, false, false] (by kernel_rfl) rfl rfl ⟨hx200_0, hx201_0⟩ (fun hHeld => ?_); refine with_tabW graph_Depth.tab11 graph_Depth.bits11 (fun HT_ HW_ => ?_)
                    generalize wr.drew = w31 at HO_5 HO_22 BK187 HB GG30 HQ33 hf30_0 hx200_0 hx201_0 hx30_0 hHeld ⊢
                    refine pure_ (i := 0) (N := some 39) (v := ?_) (a' := ?_) #[true, false, false, false, false, false, false, false, false, false, false, false, false] rfl rfl (any_of HT_.out (by kernel_rfl)) (fun _ _ _ h => h) (Or.inl ⟨by rfl, ?_⟩) ?_ ?_
                    rotate_left
                    ·intro w'
                     go_simp
                     with_reducible rfl
                    rotate_left
                    ·simp only [Act.put, List.setIfInBounds_toArray, List.set_cons_zero, List.set_cons_succ, i64_w, i32_w]
                     rfl
                    refine pure_ (i := 1) (N := some 40) (v := ?_) (a' := ?_) #[true, true, false, false, false, false, false, false, false, false, false, false, false] rfl rfl (any_of HT_.out (by kernel_rfl)) (fun _ _ _ h => h) (Or.inl ⟨by rfl, ?_⟩) ?_ ?_
                    rotate_left
                    ·intro w'
                     go_simp
                     with_reducible rfl
                    rotate_left
                    ·simp only [Act.put, List.setIfInBounds_toArray, List.set_cons_zero, List.set_cons_succ, i64_w, i32_w]
                     rfl
                    refine pure_ (i := 2) (N := some 41) (v := ?_) (a' := ?_) #[true, true, true, false, false, false, false, false, false, false, false, false, false] rfl rfl (any_of HT_.out (by kernel_rfl)) (fun _ _ _ h => h) (Or.inl ⟨by rfl, ?_⟩) ?_ ?_
                    rotate_left
                    ·intro w'
                     go_simp
                     with_reducible rfl
                    rotate_left
                    ·simp only [Act.put, List.setIfInBounds_toArray, List.set_cons_zero, List.set_cons_succ, i64_w, i32_w]
                     rfl
                    refine pure_ (i := 3) (N := some 42) (v := ?_) (a' := ?_) #[true, true, true, true, false, false, false, false, false, false, false, false, false] rfl rfl (any_of HT_.out (by kernel_rfl)) (fun _ _ _ h => h) (Or.inl ⟨by rfl, ?_⟩) ?_ ?_
                    rotate_left
                    ·intro w'
                     go_simp
                     with_reducible rfl
                    rotate_left
                    ·simp only [Act.put, List.setIfInBounds_toArray, List.set_cons_zero, List.set_cons_succ, i64_w, i32_w]
                     rfl
                    refine pure_ (i := 4) (N := some 43) (v := ?_) (a' := ?_) #[true, true, true, true, true, false, false, false, false, false, false, false, false] rfl rfl (any_of HT_.out (by kernel_rfl)) (fun _ _ _ h => h) (Or.inl ⟨by rfl, ?_⟩) ?_ ?_
                    rotate_left
                    ·intro w'
                     go_simp
                     with_reducible rfl
                    rotate_left
                    ·simp only [Act.put, List.setIfInBounds_toArray, List.set_cons_zero, List.set_cons_succ, i64_w, i32_w]
                     rfl
                    refine pure_ (i := 6) (N := some 45) (v := ?_) (a' := ?_) #[true, true, true, true, true, false, true, false, false, false, false, false, false] rfl rfl (any_of HT_.out (by kernel_rfl)) (fun _ _ _ h => h) (Or.inl ⟨by rfl, ?_⟩) ?_ ?_
                    rotate_left
                    ·intro w'
                     go_simp
                     with_reducible rfl
                    rotate_left
                    ·simp only [Act.put, List.setIfInBounds_toArray, List.set_cons_zero, List.set_cons_succ, i64_w, i32_w]
                     rfl
                    refine pure_ (i := 7) (N := some 46) (v := ?_) (a' := ?_) #[true, true, true, true, true, false, true, true, false, false, false, false, false] rfl rfl (any_of HT_.out (by kernel_rfl)) (fun _ _ _ h => h) (Or.inl ⟨by rfl, ?_⟩) ?_ ?_
                    rotate_left
                    ·intro w'
                     go_simp
                     with_reducible rfl
                    rotate_left
                    ·simp only [Act.put, List.setIfInBounds_toArray, List.set_cons_zero, List.set_cons_succ, i64_w, i32_w]
                     rfl
                    refine pure_ (i := 8) (N := some 47) (v := ?_) (a' := ?_) #[true, true, true, true, true, false, true, true, true, false, false, false, false] rfl rfl (any_of HT_.out (by kernel_rfl)) (fun _ _ _ h => h) (Or.inl ⟨by rfl, ?_⟩) ?_ ?_
                    rotate_left
                    ·intro w'
                     go_simp
                     with_reducible rfl
                    rotate_left
                    ·simp only [Act.put, List.setIfInBounds_toArray, List.set_cons_zero, List.set_cons_succ, i64_w, i32_w]
                     rfl
                    refine take_ (i := 5) (N := some 44) (v := ?_) (a' := ?_) #[true, true, true, true, true, true, true, true, true, false, false, false, false] rfl rfl (take_ofW HT_.out HW_.out (by kernel_rfl)) (fun _ _ _ h => h) (Or.inl ⟨by rfl, ?_⟩) hHeld ?_ ?_
                    rotate_left
                    ·rintro w' ⟨s0, s1⟩
                     go_simp
                     with_reducible rfl
                    rotate_left
                    ·simp only [Act.put, List.setIfInBounds_toArray, List.set_cons_zero, List.set_cons_succ, i64_w, i32_w]
                     rfl
                    refine take_ (i := 9) (N := some 48) (v := ?_) (a' := ?_) #[true, true, true, true, true, true, true, true, true, true, false, false, false] rfl rfl (take_ofW HT_.out HW_.out (by kernel_rfl)) (fun _ _ _ h => h) (Or.inl ⟨by rfl, ?_⟩) hHeld ?_ ?_
                    rotate_left
                    ·rintro w' ⟨s0, s1⟩
                     go_simp
                     with_reducible rfl
                    rotate_left
                    ·simp only [Act.put, List.setIfInBounds_toArray, List.set_cons_zero, List.set_cons_succ, i64_w, i32_w]
                     rfl
                    refine pure_ (i := 10) (N := some 49) (v := ?_) (a' := ?_) #[true, true, true, true, true, true, true, true, true, true, true, false, false] rfl rfl (any_of HT_.out (by kernel_rfl)) (fun _ _ _ h => h) (Or.inl ⟨by rfl, ?_⟩) ?_ ?_
                    rotate_left
                    ·intro w'
                     go_simp
                     with_reducible rfl
                    rotate_left
                    ·simp only [Act.put, List.setIfInBounds_toArray, List.set_cons_zero, List.set_cons_succ, i64_w, i32_w]
                     rfl
                    refine pure_ (i := 11) (N := some 50) (v := ?_) (a' := ?_) #[true, true, true, true, true, true, true, true, true, true, true, true, false] rfl rfl (any_of HT_.out (by kernel_rfl)) (fun _ _ _ h => h) (Or.inl ⟨by rfl, ?_⟩) ?_ ?_
                    rotate_left
                    ·intro w'
                     go_simp
                     with_reducible rfl
                    rotate_left
                    ·simp only [Act.put, List.setIfInBounds_toArray, List.set_cons_zero, List.set_cons_succ, i64_w, i32_w]
                     rfl
                    refine last_ (i := 12) (N := none) #[true, true, true, true, true, true, true, true, true, true, true, true, true] rfl rfl (one_of HT_.out (by kernel_rfl)) (by decide) (fun K hK => ?_)
                    refine skip_ (w1 := ?_) (by rfl) rfl ?_ ?_
                    rotate_left
                    ·go_simp
                     rfl
                    refine hK.out _ _ ?_
                    clear hK K
                    refine done_ (done_of HT_.out (by kernel_rfl)) ?_
                    try go_wp2
                    go_roundg k2
                    case measure => have := HK1.out; have := HK2.out; omega
                    case rel => exact ⟨(y202), (wrap64 (x35_2 + 1)), (by first | rfl | (simp; done) | (simp [*]; done)), H', ⟨by have := HK1.out; have := HK2.out; omega⟩, ⟨by (with_reducible repeat (first | apply Kd.R_alloc | apply Kd.R_drewN | apply Kd.R_drew)); exact HQ33.out⟩, ⟨by (with_reducible repeat (first | apply Kd.R_alloc | apply Kd.R_drewN | apply Kd.R_drew)); exact Kd.R_mono (Kd.R_far (p := ⟨go30, ((rd t193 x24_1) : Int).toNat, none⟩) (Kd.R_mono HO_22.out (fun k_ hk => (⟨hk, fun e_ => hk (by rw [e_]; rfl)⟩ : _ ∧ k_ ≠ go30))) (fun _ hk => hk.2) (.int .i64 ji29)) (fun _ hk => hk.1)⟩, ⟨by (with_reducible repeat (first | refine blk_drewN ?_ _ | refine blk_drew ?_ | refine blk_alloc ?_ _)); refine blk_far ?_ (by have h_ := Kd.R_ne HO_5.out BK187.out (by decide); intro e_; exact h_ (by rw [e_]; rfl)) _; (with_reducible repeat (first | refine blk_drewN ?_ _ | refine blk_drew ?_ | refine blk_alloc ?_ _)); exact BK187.out⟩, ⟨by repeat (first | (with_reducible first | exact HB.out | apply below_alloc | apply pw_below_drewN | apply below_drew1 | refine below_set ?_ GB30.out | refine below_set ?_ GE187.out) | exact HB.out)⟩⟩
                   ·rw [if_neg c28] at H
                    exact absurd H (by simp)
                  ·rw [if_neg c27] at H
                   exact absurd H (by simp)
                 ·rw [if_neg c26] at H
                  exact absurd H (by simp)
                ·rw [if_neg c25] at H
                 exact absurd H (by simp)
               ·rw [if_neg c24] at H
                exact absurd H (by simp)
              ·rw [if_neg c23] at H
               exact absurd H (by simp)
             ·rw [if_neg c22] at H
              have c22b0 : decide (x35_2 < (((rd_T40 l0_0 (rd t193 x24_1)).f3).length : Int)) = false := decide_eq_false c22
              clear c22
              by_cases c34 : 0 ≤ (rd t193 x24_1)
              ·rw [if_pos c34] at H
               have c34b0 : decide (0 ≤ (rd t193 x24_1)) = true := decide_eq_true c34
               clear c34
               by_cases c35 : (rd t193 x24_1) < (x5_2.length : Int)
               ·rw [if_pos c35] at H
                have c35b0 : decide ((rd t193 x24_1) < (x5_2.length : Int)) = true := decide_eq_true c35
                clear c35
                obtain ⟨y204, hy204⟩ : ∃ y_ : List Int, y_ = (x5_2.set ((rd t193 x24_1) : Int).toNat (wrap64 ((rd x5_2 (rd t193 x24_1)) + 1))) := ⟨_, rfl⟩
                replace H : (graph_Depth.l0 k2 y204 t193 (t193.length : Int) (wrap64 (x24_1 + 1)) l0_0 a0_1) = some r := by first | (rw [hy204]; with_reducible exact H) | (have H2_ := (Option.bind_some _ _).symm.trans H; rw [hy204]; with_reducible exact H2_) | (have H2_ := (Option.bind_some _ _).symm.trans H; with_reducible exact H2_) | with_reducible exact H | (rw [hy204]; exact H) | exact H
                have Ny204 := Aside0.mk hy204
                clear hy204
                have H' := Aside0.mk H
                clear H
                obtain ⟨Ao37, co37, eo37⟩ := Kd.R_slice HO_5.out
                subst eo37
                have p203 : 0 ≤ ((rd t193 x24_1) : Int) := of_decide_eq_true (by first | (with_reducible assumption) | assumption)
                have q203 : (rd t193 x24_1) < (x5_2.length : Int) := of_decide_eq_true (by first | (with_reducible assumption) | assumption)
                obtain ⟨ad203, e203, hx203_0⟩ := Kd.at_int (Kd.R_reads' HO_5.out).2.2 (rd t193 x24_1) p203 q203
                cases e203
                replace p203 := eq_true p203
                replace q203 := eq_true q203
                have p36 : 0 ≤ ((rd t193 x24_1) : Int) := of_decide_eq_true (by first | (with_reducible assumption) | assumption)
                have q36 : ((rd t193 x24_1) : Int) < ((x5_2.length : Int) : Int) := of_decide_eq_true (by first | (with_reducible assumption) | assumption)
                obtain ⟨go36, co36, eo36, gb36, gl36, cl36, HG36⟩ := Kd.R_form HO_5.out (by omega)
                (first | cases eo36 | (injection eo36 with ea_ en_ ec_; (first | subst ea_ | (injection ea_ with ea_; subst ea_)); subst ec_; clear en_))
                have GB36 := Aside0.mk gb36
                have GG36 := Aside0.mk HG36
                clear gb36 gl36 HG36
                (first | simp only [add_plain] at hx203_0 | skip)
                obtain ⟨hx36_0, hf36_0⟩ := Kd.R_celln 0 HO_5.out ((rd t193 x24_1) : Int) p36 q36
                replace p36 := eq_true p36
                replace q36 := eq_true q36
                have HP38 := Kd.R_putg HO_5.out ((rd t193 x24_1) : Int) (wrap64 ((rd x5_2 (rd t193 x24_1)) + 1))
                go_wp2_with (first | ((with_reducible refine gate_store (t := 3) (p := 57) rfl ?_); refine store_event (t := 3) (p := 57) (v := ?vo_w39) (w1 := (wr.setCell ⟨go36, ((rd t193 x24_1) : Int).toNat, none⟩ (.int .i64 (wrap64 ((rd x5_2 (rd t193 x24_1)) + 1))))) ?hg ?ho ?hn ?hr ?_; (case ho => rfl); (case hg => rfl); (case hn => rfl); (case hr => first | (go_simp; done) | (go_simp; rfl)); intro w39 hw; have hg : wr.grownBy w39 (some go36) := (by rw [hw]; exact HP38.2); have hp_ : Kd.R (Kd.int .i64) 3 w39 w.heap.size (fun k_ => some k_ ≠ (.slice (some ad197) t193.length co15 : Value).ownBlock) (.slice (some ⟨go36, 0, none⟩) x5_2.length co37) y204 := (by rw [hw, Ny204.out]; exact HP38.1); clear HP38; have n0_ := Aside0.mk (hp_); have n1_ := Aside0.mk (Kd.R_after (v := (.slice (some ⟨go36, 0, none⟩) x5_2.length co37)) (v1 := (.slice (some ⟨go36, 0, none⟩) x5_2.length co37)) (ok := (fun _ => True)) (by (with_reducible repeat (first | apply Kd.R_alloc | apply Kd.R_drewN | apply Kd.R_drew)); exact Kd.R_mono HO_22.out (fun _ hk => ⟨trivial, hk⟩)) hg (.inl rfl)); have n2_ := Aside0.mk (blk_grown (g := gb187) (o := .cells #[.slice (some ad198) l0_0.length c0_0, .int .i64 a0_1] 24 (0, 0)) (by (with_reducible repeat (first | refine blk_drewN ?_ _ | refine blk_drew ?_ | refine blk_alloc ?_ _)); exact BK187.out) hg (Kd.R_ne HO_5.out BK187.out (by decide))); have n3_ := Aside0.mk ((by rw [hw]; exact below_set (HB.out) GB36.out : Below w.heap.size w w39)); clear HO_5; clear HO_22; clear BK187; clear HB; have HO_5 := n0_; have HO_22 := n1_; have BK187 := n2_; have HB := n3_; clear n0_ n1_ n2_ n3_; clear hg hw hp_))
                go_roundg k2
                case measure => have := HK1.out; have := HK2.out; omega
                case rel => exact ⟨(y204), (wrap64 (x24_1 + 1)), (by first | rfl | (simp; done) | (simp [*]; done)), H', ⟨by have := HK1.out; have := HK2.out; omega⟩, ⟨by (with_reducible repeat (first | apply Kd.R_alloc | apply Kd.R_drewN | apply Kd.R_drew)); exact HO_5.out⟩, ⟨by (with_reducible repeat (first | apply Kd.R_alloc | apply Kd.R_drewN | apply Kd.R_drew)); exact Kd.R_mono HO_22.out (fun _ hk => hk.2)⟩, ⟨by (with_reducible repeat (first | refine blk_drewN ?_ _ | refine blk_drew ?_ | refine blk_alloc ?_ _)); exact BK187.out⟩, ⟨by repeat (first | (with_reducible first | exact HB.out | apply below_alloc | apply pw_below_drewN | apply below_drew1 | refine below_set ?_ GE187.out) | exact HB.out)⟩⟩
               ·rw [if_neg c35] at H
                exact absurd H (by simp)
              ·rw [if_neg c34] at H
               exact absurd H (by simp)
          ·rw [if_neg c20] at H
           exact absurd H (by simp)
         ·rw [if_neg c19] at H
          exact absurd H (by simp)
        ·rw [if_neg c18] at H
         exact absurd H (by simp)
       ·rw [if_neg c17] at H
        exact absurd H (by simp)
      ·rw [if_neg c16] at H
       have c16b0 : decide (x24_1 < (t193.length : Int)) = false := decide_eq_false c16
       clear c16
       by_cases c40 : 0 ≤ a0_1
       ·rw [if_pos c40] at H
        have c40b0 : decide (0 ≤ a0_1) = true := decide_eq_true c40
        clear c40
        by_cases c41 : a0_1 < (x5_1.length : Int)
        ·rw [if_pos c41] at H
         have c41b0 : decide (a0_1 < (x5_1.length : Int)) = true := decide_eq_true c41
         clear c41
         obtain rfl := Option.some.inj H
         have hcz42_0 : wr.cell? ⟨gb187, 0, none⟩ = some (.slice A0_0 l0_0.length c0_0) := (blk_cell BK187.out 0).trans rfl
         have hcz42_1 : wr.cell? ⟨gb187, 1, none⟩ = some (.int .i64 a0_1) := (blk_cell BK187.out 1).trans rfl
         have hfz42_0 := blk_frozen BK187.out 0
         have hfz42_1 := blk_frozen BK187.out 1
         obtain ⟨Ao43, co43, eo43⟩ := Kd.R_slice HO_5.out
         subst eo43
         have p196 : 0 ≤ (a0_1 : Int) := of_decide_eq_true (by first | (with_reducible assumption) | assumption)
         have q196 : a0_1 < (x5_1.length : Int) := of_decide_eq_true (by first | (with_reducible assumption) | assumption)
         obtain ⟨ad196, e196, hx196_0⟩ := Kd.at_int (Kd.R_reads' HO_5.out).2.2 a0_1 p196 q196
         cases e196
         replace p196 := eq_true p196
         replace q196 := eq_true q196
         go_wp2
         go_ret
         exact ⟨by first | rfl | (simp [errW_none, errW_some] <;> rfl) | (simp [*, errW_none, errW_some] <;> rfl), by repeat (first | (with_reducible first | exact HB.out | apply below_alloc | apply pw_below_drewN | apply below_drew1 | refine below_set ?_ GE187.out) | exact HB.out)⟩
        ·rw [if_neg c41] at H
         exact absurd H (by simp)
       ·rw [if_neg c40] at H
        exact absurd H (by simp)
   ·rw [if_neg c5] at H
    exact absurd H (by simp)
  ·rw [if_neg c4] at H
   exact absurd H (by simp)
 ·rw [if_neg c3] at H
  have c3b0 : (t188 == 0) = false := beq_eq_false_iff_ne.mpr c3
  have c3b1 : (t188 != 0) = true := bne_iff_ne.mpr c3
  obtain rfl := Option.some.inj H
  go_enter Try.func31, Try.ntmps31
  go_wp2_with (first | ((with_reducible refine gate_dst (N := 1) rfl ?_); refine box_event ?hg (N := 1) ?hd (cs := #[.slice A0_0 l0_0.length c0_0, .int .i64 a0_1]) (t := 24) ?hr ?_; (case hd => rfl); (case hg => rfl); (case hr => first | (go_simp; done) | (go_simp; rfl)); intro gb187 hg w44 hbox hb; have n0_ := Aside0.mk (below_step (by repeat (first | (with_reducible first | exact HB.out | apply below_alloc | apply pw_below_drewN | apply below_drew1) | exact HB.out)) hb); have n1_ := Aside0.mk (hbox); have n2_ := Aside0.mk ((by rw [hg]; exact (below_size (by repeat (first | (with_reducible first | exact HB.out | apply below_alloc | apply pw_below_drewN | apply below_drew1) | exact HB.out))) : w.heap.size ≤ gb187)); have n3_ := Aside0.mk ((by rw [hg]; exact (below_size (by repeat (first | (with_reducible first | exact HB.out | apply below_alloc | apply pw_below_drewN | apply below_drew1) | exact HB.out))) : w.heap.size ≤ gb187)); clear HB; have HB := n0_; have BK187 := n1_; have GW187 := n2_; have GE187 := n3_; clear n0_ n1_ n2_ n3_; clear hb hbox hg; have hcz45_0 : w44.cell? ⟨gb187, 0, none⟩ = some (.slice A0_0 l0_0.length c0_0) := (blk_cell BK187.out 0).trans rfl; have hcz45_1 : w44.cell? ⟨gb187, 1, none⟩ = some (.int .i64 a0_1) := (blk_cell BK187.out 1).trans rfl; have hfz45_0 := blk_frozen BK187.out 0; have hfz45_1 := blk_frozen BK187.out 1) | ((with_reducible refine gate_callee (f := 34) rfl ?_); refine goesL_ (some 12) rfl rfl Try.func34 (by kernel_rfl) rfl #[.agg #[.slice A0_0 l0_0.length c0_0, .int .i64 a0_1]] rfl (by (try simp only [List.map_toArray, List.map_cons, List.map_nil]); first | done | rfl | (simp only [List.length_drop, List.length_take]; rfl)) ?_; (with_reducible refine (graph_Check.calls k _ _ l0_0 a0_1 t188 t189 _ ?side1 ?side2 A2.out).mono ?_); (case side1 => repeat (first | exact (Kd.C_below HR0_0.out HB.out) | (with_reducible refine Kd.C_alloc ?_ _) | (with_reducible refine Kd.C_drewN ?_ _) | (with_reducible refine Kd.C_drew ?_))); (case side2 => exact HC0_0.out); rintro e w46 ⟨rfl, hb⟩; refine ⟨_, rfl, ?_⟩; have n0_ := Aside0.mk (blk_below (g := gb187) (o := .cells #[.slice A0_0 l0_0.length c0_0, .int .i64 a0_1] 24 (0, 0)) (by (with_reducible repeat (first | refine blk_drewN ?_ _ | refine blk_drew ?_ | refine blk_alloc ?_ _)); exact BK187.out) hb); have n1_ := Aside0.mk (below_step (by repeat (first | (with_reducible first | exact HB.out | apply below_alloc | apply pw_below_drewN | apply below_drew1 | refine below_set ?_ GE187.out) | exact HB.out)) hb); clear BK187; clear HB; have BK187 := n0_; have HB := n1_; clear n0_ n1_; (try clear hb); (try clear hb2); (try clear hk); (try clear hi)))
  go_ret
  exact ⟨by first | rfl | (simp [errW_none, errW_some] <;> rfl) | (simp [*, errW_none, errW_some] <;> rfl), by repeat (first | (with_reducible first | exact HB.out | apply below_alloc | apply pw_below_drewN | apply below_drew1 | refine below_set ?_ GE187.out) | exact HB.out)⟩

/-! ### graph_Edges: function 32 -/
def graph_Edges.l0 : Nat → Int → List (S40) → Int → Int → Option (Int)
 | 0, _, _, _, _ => none
 | k + 1, x3, x7, x8, x9 => if x9 < x8 then (if 0 ≤ x9 then (if x9 < (x7.length : Int) then (graph_Edges.l0 k (wrap64 (x3 + (((rd_T40 x7 x9).f3).length : Int))) x7 x8 (wrap64 (x9 + 1))) else (none)) else (none)) else (some x3)
def graph_Edges.f (k : Nat) (l0_0 : List (S40)) (a0_1 : Int) : Option (Int) := graph_Edges.l0 k 0 l0_0 (l0_0.length : Int) 0
theorem graph_Edges.mono_l : ∀ k, (∀ y0 y1 y2 y3, LeO (graph_Edges.l0 k y0 y1 y2 y3) (graph_Edges.l0 (k + 1) y0 y1 y2 y3))
 | 0 => fun _ _ _ _ r h => by simp [graph_Edges.l0] at h
 | k + 1 => by
  have ih0 := graph_Edges.mono_l k
  ·intro y0 y1 y2 y3
   unfold graph_Edges.l0
   repeat' first
   | (with_reducible exact ih0 _ _ _ _)
   | (with_reducible exact LeO.refl _)
   | (with_reducible exact LeO.none _)
   | (with_reducible refine LeO.ite ?_ ?_)
   | (with_reducible refine LeO.bind ?_ (fun _ => ?_))
   | exact ih0 _ _ _ _
   | exact LeO.none _
   | refine LeO.ite ?_ ?_
   | refine LeO.bind ?_ (fun _ => ?_)
theorem graph_Edges.mono : ∀ a0 a1 k, LeO (graph_Edges.f k a0 a1) (graph_Edges.f (k + 1) a0 a1) := by
 intro a0 a1 k
 have ih0 := graph_Edges.mono_l k
 unfold graph_Edges.f
 repeat' first
   | (with_reducible exact ih0 _ _ _ _)
   | (with_reducible exact LeO.refl _)
   | (with_reducible exact LeO.none _)
   | (with_reducible refine LeO.ite ?_ ?_)
   | (with_reducible refine LeO.bind ?_ (fun _ => ?_))
   | exact ih0 _ _ _ _
   | exact LeO.none _
   | refine LeO.ite ?_ ?_
   | refine LeO.bind ?_ (fun _ => ?_)
set_option maxHeartbeats 8000000 in
set_option maxRecDepth 100000 in
theorem graph_Edges.calls (k : Nat) (A0_0 : Option Addr) (c0_0 : Nat) (l0_0 : List (S40)) (a0_1 : Int) (r : Int) (w : World) (hr0_0 : Kd.C k40 w A0_0 l0_0.length l0_0) (hc0_0 : l0_0.length ≤ c0_0) (h : graph_Edges.f k l0_0 a0_1 = some r) :
  Calls Try.prog 32 #[.agg #[.slice A0_0 l0_0.length c0_0, .int .i64 a0_1]] w fun e w' => e = .returned (.int .i64 r) ∧ Below w.heap.size w w' := by
 have hu24 := Try.underlying24
 have hu40 := Try.underlying40
 have HR0_0 := Aside0.mk hr0_0
 have HC0_0 := Aside0.mk hc0_0
 clear hr0_0 hc0_0
 have HB := Aside0.mk (Below.refl w.heap.size w)
 have H : (graph_Edges.l0 k 0 l0_0 (l0_0.length : Int) 0) = some r := h
 clear h
 have H' := Aside0.mk H
 clear H
 go_enter Try.func32, Try.ntmps32
 go_wp2_with (first | ((with_reducible refine gate_dst (N := 1) rfl ?_); refine box_event ?hg (N := 1) ?hd (cs := #[.slice A0_0 l0_0.length c0_0, .int .i64 a0_1]) (t := 24) ?hr ?_; (case hd => rfl); (case hg => rfl); (case hr => first | (go_simp; done) | (go_simp; rfl)); intro gb205 hg w2 hbox hb; have n0_ := Aside0.mk (below_step (by repeat (first | (with_reducible first | exact HB.out | apply below_alloc | apply pw_below_drewN | apply below_drew1) | exact HB.out)) hb); have n1_ := Aside0.mk (hbox); have n2_ := Aside0.mk ((by rw [hg]; exact (below_size (by repeat (first | (with_reducible first | exact HB.out | apply below_alloc | apply pw_below_drewN | apply below_drew1) | exact HB.out))) : w.heap.size ≤ gb205)); have n3_ := Aside0.mk ((by rw [hg]; exact (below_size (by repeat (first | (with_reducible first | exact HB.out | apply below_alloc | apply pw_below_drewN | apply below_drew1) | exact HB.out))) : w.heap.size ≤ gb205)); clear HB; have HB := n0_; have BK205 := n1_; have GW205 := n2_; have GE205 := n3_; clear n0_ n1_ n2_ n3_; clear hb hbox hg; have hcz3_0 : w2.cell? ⟨gb205, 0, none⟩ = some (.slice A0_0 l0_0.length c0_0) := (blk_cell BK205.out 0).trans rfl; have hcz3_1 : w2.cell? ⟨gb205, 1, none⟩ = some (.int .i64 a0_1) := (blk_cell BK205.out 1).trans rfl; have hfz3_0 := blk_frozen BK205.out 0; have hfz3_1 := blk_frozen BK205.out 1))
 go_loopg [3, 9] k (fun kq v3 v9 w' => ∃ (x3_1 : Int) (x9_1 : Int), v3 = .int .i64 x3_1 ∧ v9 = .int .i64 x9_1 ∧ Aside0 (graph_Edges.l0 kq x3_1 l0_0 (l0_0.length : Int) x9_1 = some r) ∧ Aside0 (kq ≤ k) ∧ Aside0 (w'.heap[gb205]? = some (.cells #[(.slice A0_0 l0_0.length c0_0), .int .i64 a0_1] 24 (0, 0))) ∧ Aside0 (Below w.heap.size w w'))
 case atStart => exact ⟨(0), (0), (by first | rfl | (simp; done) | (simp [*]; done)), (by first | rfl | (simp; done) | (simp [*]; done)), H', ⟨Nat.le_refl _⟩, ⟨by (with_reducible repeat (first | refine blk_drewN ?_ _ | refine blk_drew ?_ | refine blk_alloc ?_ _)); exact BK205.out⟩, ⟨by repeat (first | (with_reducible first | exact HB.out | apply below_alloc | apply pw_below_drewN | apply below_drew1 | refine below_set ?_ GE205.out) | exact HB.out)⟩⟩
 case round =>
  clear H'
  try clear p2
  try clear c3
  try clear hcz3_0
  try clear hcz3_1
  try clear hfz3_0
  try clear hfz3_1
  obtain ⟨x3_1, x9_1, rfl, rfl, HA, HK1, BK205, HB⟩ := hrel
  cases gk with
  | zero => exact absurd HA.out (by simp [graph_Edges.l0])
  | succ k1 =>
   have H := HA.out
   clear HA
   simp only [graph_Edges.l0] at H
   by_cases c4 : x9_1 < (l0_0.length : Int)
   ·rw [if_pos c4] at H
    have c4b0 : decide (x9_1 < (l0_0.length : Int)) = true := decide_eq_true c4
    clear c4
    by_cases c5 : 0 ≤ x9_1
    ·rw [if_pos c5] at H
     have c5b0 : decide (0 ≤ x9_1) = true := decide_eq_true c5
     clear c5
     by_cases c6 : x9_1 < (l0_0.length : Int)
     ·rw [if_pos c6] at H
      have c6b0 : decide (x9_1 < (l0_0.length : Int)) = true := decide_eq_true c6
      clear c6
      have H' := Aside0.mk H
      clear H
      have p206 : 0 ≤ (x9_1 : Int) := of_decide_eq_true (by first | (with_reducible assumption) | assumption)
      have q206 : x9_1 < (l0_0.length : Int) := of_decide_eq_true (by first | (with_reducible assumption) | assumption)
      obtain ⟨ad206, A206_1, c206_1, A206_2, c206_2, A206_3, c206_3, e206, hx206_0, hx206_1, hx206_2, hx206_3, hl206_1, hi206_1, hl206_2, hi206_2, hl206_3, hi206_3⟩ := at_T40 HR0_0.out x9_1 p206 q206
      cases e206
      replace hx206_0 := (HB.out.cell (World.block_lt_of_cell? w _ hx206_0)).trans hx206_0
      replace hx206_1 := (HB.out.cell (World.block_lt_of_cell? w _ hx206_1)).trans hx206_1
      replace hx206_2 := (HB.out.cell (World.block_lt_of_cell? w _ hx206_2)).trans hx206_2
      replace hx206_3 := (HB.out.cell (World.block_lt_of_cell? w _ hx206_3)).trans hx206_3
      have HR206_1 := Aside0.mk hi206_1
      have HC206_1 := Aside0.mk hl206_1
      clear hi206_1 hl206_1
      have HR206_2 := Aside0.mk hi206_2
      have HC206_2 := Aside0.mk hl206_2
      clear hi206_2 hl206_2
      have HR206_3 := Aside0.mk hi206_3
      have HC206_3 := Aside0.mk hl206_3
      clear hi206_3 hl206_3
      replace p206 := eq_true p206
      replace q206 := eq_true q206
      go_wp2_with (first | ((with_reducible refine gate_dst (N := 5) rfl ?_); refine box_event ?hg (N := 5) ?hd (cs := #[.int .i64 0, .slice none 0 0, .slice none 0 0, .slice none 0 0]) (t := 40) ?hr ?_; (case hd => rfl); (case hg => rfl); (case hr => first | (go_simp; done) | (go_simp; rfl)); intro gb207 hg w7 hbox hb; have n0_ := Aside0.mk (blk_below (g := gb205) (o := .cells #[.slice (some ad206) l0_0.length c0_0, .int .i64 a0_1] 24 (0, 0)) (by (with_reducible repeat (first | refine blk_drewN ?_ _ | refine blk_drew ?_ | refine blk_alloc ?_ _)); exact BK205.out) hb); have n1_ := Aside0.mk (below_step (by repeat (first | (with_reducible first | exact HB.out | apply below_alloc | apply pw_below_drewN | apply below_drew1 | refine below_set ?_ GE205.out) | exact HB.out)) hb); have n2_ := Aside0.mk (hbox); have n3_ := Aside0.mk ((by rw [hg]; exact (below_size (by repeat (first | (with_reducible first | exact HB.out | apply below_alloc | apply pw_below_drewN | apply below_drew1 | refine below_set ?_ GE205.out) | exact HB.out))) : w.heap.size ≤ gb207)); have n4_ := Aside0.mk ((by rw [hg]; exact (below_size (by repeat (first | (with_reducible first | exact HB.out | apply below_alloc | apply pw_below_drewN | apply below_drew1 | refine below_set ?_ GE205.out) | exact HB.out))) : w.heap.size ≤ gb207)); have n5_ := Aside0.mk ((by rw [hg]; exact Nat.ne_of_lt (blk_lt (g := gb205) (o := .cells #[.slice (some ad206) l0_0.length c0_0, .int .i64 a0_1] 24 (0, 0)) (by (with_reducible repeat (first | refine blk_drewN ?_ _ | refine blk_drew ?_ | refine blk_alloc ?_ _)); exact BK205.out)) : gb205 ≠ gb207)); have n6_ := Aside0.mk ((by rw [hg]; exact Nat.ne_of_gt (blk_lt (g := gb205) (o := .cells #[.slice (some ad206) l0_0.length c0_0, .int .i64 a0_1] 24 (0, 0)) (by (with_reducible repeat (first | refine blk_drewN ?_ _ | refine blk_drew ?_ | refine blk_alloc ?_ _)); exact BK205.out)) : gb207 ≠ gb205)); clear BK205; clear HB; have BK205 := n0_; have HB := n1_; have BK207 := n2_; have GW207 := n3_; have GE207 := n4_; have NB205_207 := n5_; have NB207_205 := n6_; clear n0_ n1_ n2_ n3_ n4_ n5_ n6_; clear hb hbox hg; have hnb8 := NB207_205.out; have hnc8 := NB205_207.out; have hcz9_0 : w7.cell? ⟨gb207, 0, none⟩ = some (.int .i64 0) := (blk_cell BK207.out 0).trans rfl; have hcz9_1 : w7.cell? ⟨gb207, 1, none⟩ = some (.slice none 0 0) := (blk_cell BK207.out 1).trans rfl; have hcz9_2 : w7.cell? ⟨gb207, 2, none⟩ = some (.slice none 0 0) := (blk_cell BK207.out 2).trans rfl; have hcz9_3 : w7.cell? ⟨gb207, 3, none⟩ = some (.slice none 0 0) := (blk_cell BK207.out 3).trans rfl; have hfz9_0 := blk_frozen BK207.out 0; have hfz9_1 := blk_frozen BK207.out 1; have hfz9_2 := blk_frozen BK207.out 2; have hfz9_3 := blk_frozen BK207.out 3))
      go_roundg k1
      case measure => have := HK1.out; omega
      case rel => exact ⟨(wrap64 (x3_1 + (((rd_T40 l0_0 x9_1).f3).length : Int))), (wrap64 (x9_1 + 1)), (by first | rfl | (simp; done) | (simp [*]; done)), (by first | rfl | (simp; done) | (simp [*]; done)), H', ⟨by have := HK1.out; omega⟩, ⟨by (with_reducible repeat (first | refine blk_drewN ?_ _ | refine blk_drew ?_ | refine blk_alloc ?_ _)); refine blk_far ?_ NB205_207.out _; (with_reducible repeat (first | refine blk_drewN ?_ _ | refine blk_drew ?_ | refine blk_alloc ?_ _)); refine blk_far ?_ NB205_207.out _; (with_reducible repeat (first | refine blk_drewN ?_ _ | refine blk_drew ?_ | refine blk_alloc ?_ _)); refine blk_far ?_ NB205_207.out _; (with_reducible repeat (first | refine blk_drewN ?_ _ | refine blk_drew ?_ | refine blk_alloc ?_ _)); refine blk_far ?_ NB205_207.out _; (with_reducible repeat (first | refine blk_drewN ?_ _ | refine blk_drew ?_ | refine blk_alloc ?_ _)); exact BK205.out⟩, ⟨by repeat (first | (with_reducible first | exact HB.out | apply below_alloc | apply pw_below_drewN | apply below_drew1 | refine below_set ?_ GE205.out | refine below_set ?_ GE207.out) | exact HB.out)⟩⟩
     ·rw [if_neg c6] at H
      exact absurd H (by simp)
    ·rw [if_neg c5] at H
     exact absurd H (by simp)
   ·rw [if_neg c4] at H
    have c4b0 : decide (x9_1 < (l0_0.length : Int)) = false := decide_eq_false c4
    clear c4
    obtain rfl := Option.some.inj H
    go_wp2
    go_ret
    exact ⟨by first | rfl | (simp [errW_none, errW_some] <;> rfl) | (simp [*, errW_none, errW_some] <;> rfl), by repeat (first | (with_reducible first | exact HB.out | apply below_alloc | apply pw_below_drewN | apply below_drew1 | refine below_set ?_ GE205.out) | exact HB.out)⟩

/-! ### graph_Below: function 36 -/
/-- Sorted, what was met is what is below n and was met. -/
theorem sorted_met {n : Nat} {met : List Nat} {ss : List Int} (hn : met.Nodup) (hlt : ∀ x ∈ met, x < n) (hp : ss.Perm (met.map Int.ofNat)) : ss.mergeSort (fun x y => decide (x ≤ y)) = ((List.range n).filter fun i => decide (i ∈ met)).map Int.ofNat := by
 have h1 : (((List.range n).filter fun i => decide (i ∈ met)).map Int.ofNat).Pairwise (fun x y => x ≤ y) := by
  refine List.pairwise_map.2 ((List.pairwise_lt_range.filter _).imp (fun {a b} h => ?_))
  show ((a : Nat) : Int) ≤ ((b : Nat) : Int)
  omega
 have h2 : (ss.mergeSort (fun x y => decide (x ≤ y))).Pairwise (fun x y => x ≤ y) := by
  have := List.pairwise_mergeSort (le := fun x y : Int => decide (x ≤ y)) (fun a b c => by simp; omega) (fun a b => by simp; omega) ss
  exact this.imp (fun {a b} h => by simpa using h)
 have h3 : (ss.mergeSort (fun x y => decide (x ≤ y))).Perm (((List.range n).filter fun i => decide (i ∈ met)).map Int.ofNat) := by
  refine ((List.mergeSort_perm ss _).trans hp).trans (List.Perm.map _ ?_)
  refine (List.perm_ext_iff_of_nodup hn (List.nodup_range.filter _)).2 (fun x => ?_)
  rw [List.mem_filter, List.mem_range]
  simp
  exact fun hx => hlt x hx
 exact List.Perm.eq_of_pairwise (le := fun x y : Int => x ≤ y) (fun a b _ _ h1 h2 => Int.le_antisymm h1 h2) h2 h1 h3
set_option maxHeartbeats 8000000 in
set_option maxRecDepth 100000 in
theorem below_calls (A0 : Option Addr) (c0 : Nat) (l0 : List (S40)) (a1 at_ : Int) (w : World) (hr0 : Kd.C k40 w A0 l0.length l0) (hc0 : l0.length ≤ c0) (hlen : l0.length ≤ 1000000) (hsum : ((kidsI l0).map List.length).sum ≤ 1000000)
  (h0 : 0 ≤ a1) (h1 : a1 < (l0.length : Int)) (g0 : 0 ≤ at_) (g1 : at_ < (l0.length : Int)) (hgood : GT.firstBad (kidsI l0) = none) :
  Calls Try.prog 36 #[.agg #[.slice A0 l0.length c0, .int .i64 a1], .int .i64 at_] w fun e w' => ∃ v0_ : Value, e = .returned (v0_) ∧ Kd.R (Kd.int .i64) 3 w' w.heap.size (fun _ => True) v0_ (((List.range l0.length).filter fun i => decide (i ∈ GT.reachS (GT.toG (kidsI l0)) [at_.toNat])).map Int.ofNat) ∧ Below w.heap.size w w' := by
 have HR := Lib.hid hr0
 have HS := Lib.hid hsum
 have HG := Lib.hid hgood
 have hrf : refsZ (kidsI l0) = -1 := by unfold refsZ; rw [hgood]
 have HRF := Lib.hid hrf
 clear hr0 hsum hgood hrf
 have t0 : decide (a1 < 0) = false := decide_eq_false (by omega)
 have t1 : decide ((l0.length : Int) ≤ a1) = false := decide_eq_false (by omega)
 have t2 : decide (at_ < 0) = false := decide_eq_false (by omega)
 have t3 : decide ((l0.length : Int) ≤ at_) = false := decide_eq_false (by omega)
 go_enter Try.func36, Try.ntmps36
 go_wp2_with (fail)
 have hal : Below w.heap.size w (w.alloc (.cells #[.slice A0 l0.length c0, .int .i64 a1] 24)) := (Below.refl _ _).alloc (Nat.le_refl _) _
 refine (refs_calls A0 c0 l0 a1 _ hlen HS.out (Kd.C_below HR.out hal)).mono ?_
 rintro e w1 ⟨rfl, hb1⟩
 rw [HRF.out]
 have HB1 := Lib.hid (below_step hal hb1)
 have HX1 : Hid (SBox w1 w.heap.size A0 l0.length c0 a1) := Lib.hid ((hb1.block w.heap.size (blk_lt (heap_alloc_new w _))).trans (heap_alloc_new w _))
 have q0 : w1.cell? ⟨w.heap.size, 0, none⟩ = some (.slice A0 l0.length c0) := (blk_cell HX1.out 0).trans rfl
 have q1 : w1.cell? ⟨w.heap.size, 1, none⟩ = some (.int .i64 a1) := (blk_cell HX1.out 1).trans rfl
 clear hb1 hal
 have hsz := HB1.out.size
 have hall : Below w.heap.size w (w1.alloc (.cells #[.int .i64 at_] 3)) := HB1.out.alloc hsz _
 have hint : intsOf [at_.toNat] = [at_] := by unfold intsOf; simp; omega
 have hown : Kd.R (Kd.int .i64) 3 (w1.alloc (.cells #[.int .i64 at_] 3)) w.heap.size (fun _ => True) (.slice (some ⟨w1.heap.size, 0, none⟩) 1 1) (intsOf [at_.toNat]) := by
  rw [hint]
  exact Kw.R_of_own ⟨rfl, .inr ⟨w1.heap.size, 1, #[.int .i64 at_], rfl, hsz, heap_alloc_new w1 _, Nat.le_refl _, by unfold maxLen; omega, rfl, rfl⟩⟩
 have HA := Lib.hid hall
 have HO2 := Lib.hid hown
 clear hall hown hint
 go_wp2_with (fail)
 refine (reach_calls A0 c0 l0 a1 w _ HA.out HR.out (fun _ => True) _ [at_.toNat] HO2.out HG.out (fun x hx => by rw [List.mem_singleton] at hx; omega) hlen HS.out (by simp)).mono ?_
 rintro e w3 ⟨b, m, met, rfl, hb, hset, hm, hnd, hmem, hg⟩
 have HB3 := Lib.hid (Kw.grown_below HA.out hg (fun g hg => by simp [Value.ownBlock] at hg; omega))
 have hlt : ∀ x ∈ met, x < l0.length := fun x hx => by
  obtain ⟨f, hf, p⟩ := (hmem x).1 hx
  rw [List.mem_singleton] at hf
  have hl := GT.length_toG (kidsI l0)
  have := p.lt (GT.wf_of_firstBad HG.out) (by rw [hl, kids_len]; omega)
  rw [hl, kids_len] at this
  exact this
 have hml : met.length ≤ l0.length := GT.length_le_of_nodup hnd hlt
 obtain ⟨D, hD, hsD, hkD⟩ := hset.keys hnd
 have HD := Lib.hid hD
 have HK := Lib.hid hkD
 have HM := Lib.hid hmem
 have HN := Lib.hid hnd
 have HL := Lib.hid hlt
 clear hg hset hmem hD hkD hnd hlt hb
 go_wp2_with (fail)
 refine (Try.Keys_calls (some b) w3).mono ?_
 rintro e w4 ⟨rfl, hw4⟩
 have HW4 := Lib.hid hw4
 clear hw4
 go_wp2_with (fail)
 refine (Try.Sorted_calls (H := Unit) w3.heap.size b m D (plainElem Try.prog 4) w4 (by rw [HW4.out]; exact heap_alloc_new w3 _) (by rw [HW4.out]; have := HD.out.lt; simp; omega) (by rw [HW4.out]; exact HD.out.alloc _) (by unfold maxLen; omega) (by omega)).mono ?_
 rintro e w5 ⟨v, ss, rfl, hp, hrow, _, hb5⟩
 have HP := Lib.hid hp
 have HRo := Lib.hid hrow
 have HB5 := Lib.hid hb5
 clear hp hrow hb5
 go_wp2_with (fail)
 go_ret
 have hs := sorted_met HN.out HL.out (HP.out.trans HK.out.symm)
 have hrow := HRo.out
 have hlen2 : ss.length = (ss.mergeSort (fun x y => decide (x ≤ y))).length := (List.length_mergeSort ss).symm
 rw [hlen2, hs] at hrow
 have hfil : ((List.range l0.length).filter fun i => decide (i ∈ met)) = (List.range l0.length).filter fun i => decide (i ∈ GT.reachS (GT.toG (kidsI l0)) [at_.toNat]) := by
  refine List.filter_congr (fun i hi => ?_)
  rw [decide_eq_decide, HM.out, ← GT.mem_reachS (GT.wf_of_firstBad HG.out) (fun x hx => by rw [List.mem_singleton] at hx; rw [GT.length_toG, kids_len]; omega) (by rw [GT.edges_toG]; have := HS.out; simp; omega)]
 rw [hfil] at hrow
 have hB4 : Below w.heap.size w w4 := by rw [HW4.out]; exact HB3.out.alloc HB3.out.size _
 exact ⟨v, rfl, Kd.R_lower (Kw.R_of_own hrow) hB4.size, below_step hB4 HB5.out⟩
set_option maxHeartbeats 8000000 in
set_option maxRecDepth 100000 in
theorem below_out (A0 : Option Addr) (c0 : Nat) (l0 : List (S40)) (a1 at_ : Int) (w : World) (hlen : l0.length ≤ 1000000) (h : at_ < 0 ∨ (l0.length : Int) ≤ at_ ∨ a1 < 0 ∨ (l0.length : Int) ≤ a1) :
  Calls Try.prog 36 #[.agg #[.slice A0 l0.length c0, .int .i64 a1], .int .i64 at_] w fun e w' => ∃ v0_ : Value, e = .returned (v0_) ∧ Kd.R (Kd.int .i64) 3 w' w.heap.size (fun _ => True) v0_ [] ∧ Below w.heap.size w w' := by
 by_cases h0 : at_ < 0
 ·have t0 : decide (at_ < 0) = true := decide_eq_true (by omega)
  go_enter Try.func36, Try.ntmps36
  go_wp2_with (fail)
  go_ret
  exact ⟨_, rfl, Kd.R_nil _ _ _ _ _, (Below.refl _ _).alloc (Nat.le_refl _) _⟩
 by_cases h1 : (l0.length : Int) ≤ at_
 ·have t0 : decide (at_ < 0) = false := decide_eq_false (by omega)
  have t1 : decide ((l0.length : Int) ≤ at_) = true := decide_eq_true (by omega)
  go_enter Try.func36, Try.ntmps36
  go_wp2_with (fail)
  go_ret
  exact ⟨_, rfl, Kd.R_nil _ _ _ _ _, (Below.refl _ _).alloc (Nat.le_refl _) _⟩
 by_cases h2 : a1 < 0
 ·have t0 : decide (at_ < 0) = false := decide_eq_false (by omega)
  have t1 : decide ((l0.length : Int) ≤ at_) = false := decide_eq_false (by omega)
  have t2 : decide (a1 < 0) = true := decide_eq_true (by omega)
  go_enter Try.func36, Try.ntmps36
  go_wp2_with (fail)
  go_ret
  exact ⟨_, rfl, Kd.R_nil _ _ _ _ _, (Below.refl _ _).alloc (Nat.le_refl _) _⟩
 ·have t0 : decide (at_ < 0) = false := decide_eq_false (by omega)
  have t1 : decide ((l0.length : Int) ≤ at_) = false := decide_eq_false (by omega)
  have t2 : decide (a1 < 0) = false := decide_eq_false (by omega)
  have t3 : decide ((l0.length : Int) ≤ a1) = true := decide_eq_true (by omega)
  go_enter Try.func36, Try.ntmps36
  go_wp2_with (fail)
  go_ret
  exact ⟨_, rfl, Kd.R_nil _ _ _ _ _, (Below.refl _ _).alloc (Nat.le_refl _) _⟩
set_option maxHeartbeats 8000000 in
set_option maxRecDepth 100000 in
theorem below_refs (A0 : Option Addr) (c0 : Nat) (l0 : List (S40)) (a1 at_ : Int) (w : World) (hr0 : Kd.C k40 w A0 l0.length l0) (hlen : l0.length ≤ 1000000) (hsum : ((kidsI l0).map List.length).sum ≤ 1000000)
  (h0 : 0 ≤ a1) (h1 : a1 < (l0.length : Int)) (g0 : 0 ≤ at_) (g1 : at_ < (l0.length : Int)) (i : Nat) (hbad : GT.firstBad (kidsI l0) = some i) :
  Calls Try.prog 36 #[.agg #[.slice A0 l0.length c0, .int .i64 a1], .int .i64 at_] w fun e w' => ∃ v0_ : Value, e = .returned (v0_) ∧ Kd.R (Kd.int .i64) 3 w' w.heap.size (fun _ => True) v0_ [] ∧ Below w.heap.size w w' := by
 have HR := Lib.hid hr0
 have HS := Lib.hid hsum
 have hrf : refsZ (kidsI l0) = (i : Int) := by unfold refsZ; rw [hbad]
 have HRF := Lib.hid hrf
 clear hr0 hsum hrf hbad
 have t0 : decide (a1 < 0) = false := decide_eq_false (by omega)
 have t1 : decide ((l0.length : Int) ≤ a1) = false := decide_eq_false (by omega)
 have t2 : decide (at_ < 0) = false := decide_eq_false (by omega)
 have t3 : decide ((l0.length : Int) ≤ at_) = false := decide_eq_false (by omega)
 go_enter Try.func36, Try.ntmps36
 go_wp2_with (fail)
 have hal : Below w.heap.size w (w.alloc (.cells #[.slice A0 l0.length c0, .int .i64 a1] 24)) := (Below.refl _ _).alloc (Nat.le_refl _) _
 refine (refs_calls A0 c0 l0 a1 _ hlen HS.out (Kd.C_below HR.out hal)).mono ?_
 rintro e w1 ⟨rfl, hb1⟩
 rw [HRF.out]
 have HB1 := Lib.hid (below_step hal hb1)
 clear hb1 hal
 go_wp2_with (fail)
 go_ret
 exact ⟨_, rfl, Kd.R_nil _ _ _ _ _, HB1.out⟩
def graph_Below.f (l0_0 : List (S40)) (a0_1 : Int) (a1 : Int) : Option (List Int) :=
 if l0_0.length ≤ 1000000 ∧ ((kidsI l0_0).map List.length).sum ≤ 1000000 then
  (if a1 < 0 ∨ (l0_0.length : Int) ≤ a1 ∨ a0_1 < 0 ∨ (l0_0.length : Int) ≤ a0_1 then some []
   else match GT.firstBad (kidsI l0_0) with
    | some _ => some []
    | none => some (((List.range l0_0.length).filter fun i => decide (i ∈ GT.reachS (GT.toG (kidsI l0_0)) [a1.toNat])).map Int.ofNat))
 else none
theorem graph_Below.calls (A0_0 : Option Addr) (c0_0 : Nat) (l0_0 : List (S40)) (a0_1 : Int) (a1 : Int) (r : List Int) (w : World) (hr0_0 : Kd.C k40 w A0_0 l0_0.length l0_0) (hc0_0 : l0_0.length ≤ c0_0) (h : graph_Below.f l0_0 a0_1 a1 = some r) :
  Calls Try.prog 36 #[.agg #[.slice A0_0 l0_0.length c0_0, .int .i64 a0_1], .int .i64 a1] w fun e w' => ∃ v0_ : Value, e = .returned (v0_) ∧ Kd.R (Kd.int .i64) 3 w' w.heap.size (fun _ => True) v0_ r ∧ Below w.heap.size w w' := by
 unfold graph_Below.f at h
 split at h
 ·rename_i hb
  split at h
  ·rename_i hr
   obtain rfl := Option.some.inj h
   exact below_out A0_0 c0_0 l0_0 a0_1 a1 w hb.1 hr
  ·rename_i hr
   split at h
   ·rename_i i hi
    obtain rfl := Option.some.inj h
    exact below_refs A0_0 c0_0 l0_0 a0_1 a1 w hr0_0 hb.1 hb.2 (by omega) (by omega) (by omega) (by omega) i hi
   ·rename_i hi
    obtain rfl := Option.some.inj h
    exact below_calls A0_0 c0_0 l0_0 a0_1 a1 w hr0_0 hc0_0 hb.1 hb.2 (by omega) (by omega) (by omega) (by omega) hi
 ·cases h

end Go.Proofs.Ytlfjjapndlkamaa.GL
