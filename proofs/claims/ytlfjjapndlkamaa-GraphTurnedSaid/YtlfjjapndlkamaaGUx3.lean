-- Printed by a program of the session (wip/gen/tprint.py, over a turned copy of the kit's print): Lean checks it.
import Derived.Test.YtlfjjapndlkamaaGUx0
import Derived.Test.YtlfjjapndlkamaaGUx2
namespace Go.Proofs.Ytlfjjapndlkamaa.GU
open Go.RowKit Go.Proofs.YtlfjjapndlkamaaW.PrintWords Go.Proofs.YtlfjjapndlkamaaW.PrintLast Go.Proofs.YtlfjjapndlkamaaW.PrintMore
attribute [local go_sem] max2_int min2_int max_two min_two max_three min_three max_four min_four   -- for this text's walks alone
set_option linter.unusedVariables false
set_option linter.unusedSimpArgs false

/-! ### dioramaref09_Turn: function 28 -/
mutual
def dioramaref09_Turn.l0 : Nat → Int → Int → List (S40) → Int → List (S40) → Int → Option ((List (S40)) × Int)
 | 0, _, _, _, _, _, _ => none
 | k + 1, x3, x5, x130000, x130001, x132000, x132001 => if x5 ≥ 0 then (if 0 ≤ x5 then (if x5 < (x130000.length : Int) then ((dioramaref08_Copy.f ((rd_T40 x130000 x5).f0) ((rd_T40 x130000 x5).f1) ((rd_T40 x130000 x5).f2) ((rd_T40 x130000 x5).f3)).bind fun bt133 => (dioramaref09_Turn.l1 k x3 x5 0 x130000 x130001 x132000 x132001 bt133.1 bt133.2.1 bt133.2.2.1 bt133.2.2.2)) else (none)) else (none)) else (some (x132000, x132001))
def dioramaref09_Turn.l1 : Nat → Int → Int → Int → List (S40) → Int → List (S40) → Int → Int → List Int → List ByteArray → List Int → Option ((List (S40)) × Int)
 | 0, _, _, _, _, _, _, _, _, _, _, _ => none
 | k + 1, x3, x5, x7, x130000, x130001, x132000, x132001, x144000, x144001, x144002, x144003 => if x7 < (x144003.length : Int) then (if 0 ≤ x7 then (dioramaref09_Turn.l1 k x3 x5 (wrap64 (x7 + 1)) x130000 x130001 x132000 x132001 x144000 x144001 x144002 (x144003.set (x7 : Int).toNat (wrap64 ((wrap64 (x3 - 1)) - (rd x144003 x7))))) else (none)) else (if x132000.length < 1759218604441 then (dioramaref09_Turn.l0 k x3 (wrap64 (x5 - 1)) x130000 x130001 (x132000 ++ [(⟨x144000, x144001, x144002, x144003⟩ : S40)]) x132001) else (none))
end
def dioramaref09_Turn.f (k : Nat) (l0_0 : List (S40)) (a0_1 : Int) : Option ((List (S40)) × Int) := dioramaref09_Turn.l0 k (l0_0.length : Int) (wrap64 ((l0_0.length : Int) - 1)) l0_0 a0_1 ([] : List (S40)) (wrap64 ((wrap64 ((l0_0.length : Int) - 1)) - a0_1))
theorem dioramaref09_Turn.mono_l : ∀ k, (∀ y0 y1 y2 y3 y4 y5, LeO (dioramaref09_Turn.l0 k y0 y1 y2 y3 y4 y5) (dioramaref09_Turn.l0 (k + 1) y0 y1 y2 y3 y4 y5)) ∧ (∀ y0 y1 y2 y3 y4 y5 y6 y7 y8 y9 y10, LeO (dioramaref09_Turn.l1 k y0 y1 y2 y3 y4 y5 y6 y7 y8 y9 y10) (dioramaref09_Turn.l1 (k + 1) y0 y1 y2 y3 y4 y5 y6 y7 y8 y9 y10))
 | 0 => ⟨fun _ _ _ _ _ _ r h => by simp [dioramaref09_Turn.l0] at h, fun _ _ _ _ _ _ _ _ _ _ _ r h => by simp [dioramaref09_Turn.l1] at h⟩
 | k + 1 => by
  obtain ⟨ih0, ih1⟩ := dioramaref09_Turn.mono_l k
  refine ⟨?_, ?_⟩
  ·intro y0 y1 y2 y3 y4 y5
   unfold dioramaref09_Turn.l0
   repeat' first
   | (with_reducible exact ih0 _ _ _ _ _ _)
   | (with_reducible exact ih1 _ _ _ _ _ _ _ _ _ _ _)
   | (with_reducible exact LeO.refl _)
   | (with_reducible exact LeO.none _)
   | (with_reducible refine LeO.ite ?_ ?_)
   | (with_reducible refine LeO.bind ?_ (fun _ => ?_))
   | exact ih0 _ _ _ _ _ _
   | exact ih1 _ _ _ _ _ _ _ _ _ _ _
   | exact LeO.none _
   | refine LeO.ite ?_ ?_
   | refine LeO.bind ?_ (fun _ => ?_)
  ·intro y0 y1 y2 y3 y4 y5 y6 y7 y8 y9 y10
   unfold dioramaref09_Turn.l1
   repeat' first
   | (with_reducible exact ih0 _ _ _ _ _ _)
   | (with_reducible exact ih1 _ _ _ _ _ _ _ _ _ _ _)
   | (with_reducible exact LeO.refl _)
   | (with_reducible exact LeO.none _)
   | (with_reducible refine LeO.ite ?_ ?_)
   | (with_reducible refine LeO.bind ?_ (fun _ => ?_))
   | exact ih0 _ _ _ _ _ _
   | exact ih1 _ _ _ _ _ _ _ _ _ _ _
   | exact LeO.none _
   | refine LeO.ite ?_ ?_
   | refine LeO.bind ?_ (fun _ => ?_)
theorem dioramaref09_Turn.mono : ∀ a0 a1 k, LeO (dioramaref09_Turn.f k a0 a1) (dioramaref09_Turn.f (k + 1) a0 a1) := by
 intro a0 a1 k
 obtain ⟨ih0, ih1⟩ := dioramaref09_Turn.mono_l k
 unfold dioramaref09_Turn.f
 repeat' first
   | (with_reducible exact ih0 _ _ _ _ _ _)
   | (with_reducible exact ih1 _ _ _ _ _ _ _ _ _ _ _)
   | (with_reducible exact LeO.refl _)
   | (with_reducible exact LeO.none _)
   | (with_reducible refine LeO.ite ?_ ?_)
   | (with_reducible refine LeO.bind ?_ (fun _ => ?_))
   | exact ih0 _ _ _ _ _ _
   | exact ih1 _ _ _ _ _ _ _ _ _ _ _
   | exact LeO.none _
   | refine LeO.ite ?_ ?_
   | refine LeO.bind ?_ (fun _ => ?_)
def dioramaref09_Turn.T10 : Bool × List (List Nat × List Nat) := (true, [([], []), ([0], [0]), ([], []), ([], []), ([3], [3]), ([], []), ([5], [5]), ([], []), ([6, 7], [6, 7]), ([8], [8]), ([4, 9], [4, 9]), ([1, 2, 0, 1, 2, 3, 4, 5, 6, 7, 8, 9, 10], [1, 2]), ([11, 10, 0, 1, 2, 3, 4, 5, 6, 7, 8, 9, 10], [10, 11])])
def dioramaref09_Turn.B10 : List Nat := [0, 1, 0, 0, 8, 0, 32, 0, 224, 480, 1016, 2047, 4095]
theorem dioramaref09_Turn.tab10 : rtab .any (opsOf Try.f28 10) = dioramaref09_Turn.T10 := by kernel_rfl
theorem dioramaref09_Turn.bits10 : waitsOk dioramaref09_Turn.T10.2 dioramaref09_Turn.B10 = true := by kernel_rfl
set_option maxHeartbeats 8000000 in
set_option maxRecDepth 100000 in
theorem dioramaref09_Turn.calls (k : Nat) (A0_0 : Option Addr) (c0_0 : Nat) (l0_0 : List (S40)) (a0_1 : Int) (r1 : List (S40)) (r2 : Int) (w : World) (hr0_0 : Kd.C k40 w A0_0 l0_0.length l0_0) (hc0_0 : l0_0.length ≤ c0_0) (h : dioramaref09_Turn.f k l0_0 a0_1 = some (r1, r2)) :
  Calls Try.prog 28 #[.agg #[.slice A0_0 l0_0.length c0_0, .int .i64 a0_1]] w fun e w' => ∃ v0_ : Value, e = .returned (.agg #[v0_, .int .i64 r2]) ∧ Kd.S k40 40 w' w.heap.size (fun _ => True) v0_ r1 ∧ Below w.heap.size w w' := by
 have hu24 := Try.underlying24
 have hu40 := Try.underlying40
 have HR0_0 := Aside0.mk hr0_0
 have HC0_0 := Aside0.mk hc0_0
 clear hr0_0 hc0_0
 have HB := Aside0.mk (Below.refl w.heap.size w)
 have H : (dioramaref09_Turn.l0 k (l0_0.length : Int) (wrap64 ((l0_0.length : Int) - 1)) l0_0 a0_1 ([] : List (S40)) (wrap64 ((wrap64 ((l0_0.length : Int) - 1)) - a0_1))) = some (r1, r2) := h
 clear h
 have H' := Aside0.mk H
 clear H
 go_enter Try.func28, Try.ntmps28
 go_wp2_with (first | ((with_reducible refine gate_dst (N := 1) rfl ?_); refine box_event ?hg (N := 1) ?hd (cs := #[.slice A0_0 l0_0.length c0_0, .int .i64 a0_1]) (t := 24) ?hr ?_; (case hd => rfl); (case hg => rfl); (case hr => first | (go_simp; done) | (go_simp; rfl)); intro gb129 hg w2 hbox hb; have n0_ := Aside0.mk (below_step (by repeat (first | (with_reducible first | exact HB.out | apply below_alloc | apply pw_below_drewN | apply below_drew1) | exact HB.out)) hb); have n1_ := Aside0.mk (hbox); have n2_ := Aside0.mk ((by rw [hg]; exact (below_size (by repeat (first | (with_reducible first | exact HB.out | apply below_alloc | apply pw_below_drewN | apply below_drew1) | exact HB.out))) : w.heap.size ≤ gb129)); have n3_ := Aside0.mk ((by rw [hg]; exact (below_size (by repeat (first | (with_reducible first | exact HB.out | apply below_alloc | apply pw_below_drewN | apply below_drew1) | exact HB.out))) : w.heap.size ≤ gb129)); clear HB; have HB := n0_; have BK129 := n1_; have GW129 := n2_; have GE129 := n3_; clear n0_ n1_ n2_ n3_; clear hb hbox hg) | ((with_reducible refine gate_dst (N := 2) rfl ?_); refine box_event ?hg (N := 2) ?hd (cs := #[.slice none 0 0, .int .i64 0]) (t := 24) ?hr ?_; (case hd => rfl); (case hg => rfl); (case hr => first | (go_simp; done) | (go_simp; rfl)); intro gb130 hg w3 hbox hb; have n0_ := Aside0.mk (blk_below (g := gb129) (o := .cells #[.slice A0_0 l0_0.length c0_0, .int .i64 a0_1] 24 (0, 0)) (by (with_reducible repeat (first | refine blk_drewN ?_ _ | refine blk_drew ?_ | refine blk_alloc ?_ _)); exact BK129.out) hb); have n1_ := Aside0.mk (below_step (by repeat (first | (with_reducible first | exact HB.out | apply below_alloc | apply pw_below_drewN | apply below_drew1 | refine below_set ?_ GE129.out) | exact HB.out)) hb); have n2_ := Aside0.mk (hbox); have n3_ := Aside0.mk ((by rw [hg]; exact (below_size (by repeat (first | (with_reducible first | exact HB.out | apply below_alloc | apply pw_below_drewN | apply below_drew1 | refine below_set ?_ GE129.out) | exact HB.out))) : w.heap.size ≤ gb130)); have n4_ := Aside0.mk ((by rw [hg]; exact (below_size (by repeat (first | (with_reducible first | exact HB.out | apply below_alloc | apply pw_below_drewN | apply below_drew1 | refine below_set ?_ GE129.out) | exact HB.out))) : w.heap.size ≤ gb130)); have n5_ := Aside0.mk ((by rw [hg]; exact Nat.ne_of_lt (blk_lt (g := gb129) (o := .cells #[.slice A0_0 l0_0.length c0_0, .int .i64 a0_1] 24 (0, 0)) (by (with_reducible repeat (first | refine blk_drewN ?_ _ | refine blk_drew ?_ | refine blk_alloc ?_ _)); exact BK129.out)) : gb129 ≠ gb130)); have n6_ := Aside0.mk ((by rw [hg]; exact Nat.ne_of_gt (blk_lt (g := gb129) (o := .cells #[.slice A0_0 l0_0.length c0_0, .int .i64 a0_1] 24 (0, 0)) (by (with_reducible repeat (first | refine blk_drewN ?_ _ | refine blk_drew ?_ | refine blk_alloc ?_ _)); exact BK129.out)) : gb130 ≠ gb129)); clear BK129; clear HB; have BK129 := n0_; have HB := n1_; have BK130 := n2_; have GW130 := n3_; have GE130 := n4_; have NB129_130 := n5_; have NB130_129 := n6_; clear n0_ n1_ n2_ n3_ n4_ n5_ n6_; clear hb hbox hg; have hnb4 := NB129_130.out; have hnc4 := NB130_129.out; have hcz5_0 : w3.cell? ⟨gb129, 0, none⟩ = some (.slice A0_0 l0_0.length c0_0) := (blk_cell BK129.out 0).trans rfl; have hcz5_1 : w3.cell? ⟨gb129, 1, none⟩ = some (.int .i64 a0_1) := (blk_cell BK129.out 1).trans rfl; have hfz5_0 := blk_frozen BK129.out 0; have hfz5_1 := blk_frozen BK129.out 1) | ((with_reducible refine gate_dst (N := 4) rfl ?_); refine box_event ?hg (N := 4) ?hd (cs := #[.slice none 0 0, .int .i64 0]) (t := 24) ?hr ?_; (case hd => rfl); (case hg => rfl); (case hr => first | (go_simp; done) | (go_simp; rfl)); intro gb131 hg w6 hbox hb; have n0_ := Aside0.mk (blk_below (g := gb129) (o := .cells #[.slice A0_0 l0_0.length c0_0, .int .i64 a0_1] 24 (0, 0)) (by (with_reducible repeat (first | refine blk_drewN ?_ _ | refine blk_drew ?_ | refine blk_alloc ?_ _)); exact BK129.out) hb); have n1_ := Aside0.mk (blk_below (g := gb130) (o := .cells #[.slice none 0 0, .int .i64 0] 24 (0, 0)) (by (with_reducible repeat (first | refine blk_drewN ?_ _ | refine blk_drew ?_ | refine blk_alloc ?_ _)); exact BK130.out) hb); have n2_ := Aside0.mk (below_step (by repeat (first | (with_reducible first | exact HB.out | apply below_alloc | apply pw_below_drewN | apply below_drew1 | refine below_set ?_ GE129.out | refine below_set ?_ GE130.out) | exact HB.out)) hb); have n3_ := Aside0.mk (hbox); have n4_ := Aside0.mk ((by rw [hg]; exact (below_size (by repeat (first | (with_reducible first | exact HB.out | apply below_alloc | apply pw_below_drewN | apply below_drew1 | refine below_set ?_ GE129.out | refine below_set ?_ GE130.out) | exact HB.out))) : w.heap.size ≤ gb131)); have n5_ := Aside0.mk ((by rw [hg]; exact (below_size (by repeat (first | (with_reducible first | exact HB.out | apply below_alloc | apply pw_below_drewN | apply below_drew1 | refine below_set ?_ GE129.out | refine below_set ?_ GE130.out) | exact HB.out))) : w.heap.size ≤ gb131)); have n6_ := Aside0.mk ((by rw [hg]; exact Nat.ne_of_lt (blk_lt (g := gb129) (o := .cells #[.slice A0_0 l0_0.length c0_0, .int .i64 a0_1] 24 (0, 0)) (by (with_reducible repeat (first | refine blk_drewN ?_ _ | refine blk_drew ?_ | refine blk_alloc ?_ _)); exact BK129.out)) : gb129 ≠ gb131)); have n7_ := Aside0.mk ((by rw [hg]; exact Nat.ne_of_gt (blk_lt (g := gb129) (o := .cells #[.slice A0_0 l0_0.length c0_0, .int .i64 a0_1] 24 (0, 0)) (by (with_reducible repeat (first | refine blk_drewN ?_ _ | refine blk_drew ?_ | refine blk_alloc ?_ _)); exact BK129.out)) : gb131 ≠ gb129)); have n8_ := Aside0.mk ((by rw [hg]; exact Nat.ne_of_lt (blk_lt (g := gb130) (o := .cells #[.slice none 0 0, .int .i64 0] 24 (0, 0)) (by (with_reducible repeat (first | refine blk_drewN ?_ _ | refine blk_drew ?_ | refine blk_alloc ?_ _)); exact BK130.out)) : gb130 ≠ gb131)); have n9_ := Aside0.mk ((by rw [hg]; exact Nat.ne_of_gt (blk_lt (g := gb130) (o := .cells #[.slice none 0 0, .int .i64 0] 24 (0, 0)) (by (with_reducible repeat (first | refine blk_drewN ?_ _ | refine blk_drew ?_ | refine blk_alloc ?_ _)); exact BK130.out)) : gb131 ≠ gb130)); clear BK129; clear BK130; clear HB; have BK129 := n0_; have BK130 := n1_; have HB := n2_; have BK131 := n3_; have GW131 := n4_; have GE131 := n5_; have NB129_131 := n6_; have NB131_129 := n7_; have NB130_131 := n8_; have NB131_130 := n9_; clear n0_ n1_ n2_ n3_ n4_ n5_ n6_ n7_ n8_ n9_; clear hb hbox hg; have hnb7 := NB131_129.out; have hnc7 := NB129_131.out; have hnb8 := NB131_130.out; have hnc8 := NB130_131.out; have hcz9_0 : w6.cell? ⟨gb131, 0, none⟩ = some (.slice none 0 0) := (blk_cell BK131.out 0).trans rfl; have hcz9_1 : w6.cell? ⟨gb131, 1, none⟩ = some (.int .i64 0) := (blk_cell BK131.out 1).trans rfl; have hfz9_0 := blk_frozen BK131.out 0; have hfz9_1 := blk_frozen BK131.out 1))
 go_loopg [5] k (fun kq v5 w' => ∃ (x5_1 : Int) (x132000_1 : List (S40)) (u132000 : Value), v5 = .int .i64 x5_1 ∧ Aside0 (dioramaref09_Turn.l0 kq (l0_0.length : Int) x5_1 l0_0 a0_1 x132000_1 (wrap64 ((wrap64 ((l0_0.length : Int) - 1)) - a0_1)) = some (r1, r2)) ∧ Aside0 (kq ≤ k) ∧ Aside0 (Kd.S k40 40 w' w.heap.size (fun _ => True) u132000 x132000_1) ∧ Aside0 (w'.heap[gb129]? = some (.cells #[(.slice A0_0 l0_0.length c0_0), .int .i64 a0_1] 24 (0, 0))) ∧ Aside0 (w'.heap[gb130]? = some (.cells #[(.slice none 0 0), .int .i64 0] 24 (0, 0))) ∧ Aside0 (w'.heap[gb131]? = some (.cells #[u132000, .int .i64 (wrap64 ((wrap64 ((l0_0.length : Int) - 1)) - a0_1))] 24 (0, 0))) ∧ Aside0 (Below w.heap.size w w'))
 case atStart => exact ⟨(wrap64 ((l0_0.length : Int) - 1)), (([] : List (S40))), (.slice none 0 0), (by first | rfl | (simp; done) | (simp [*]; done)), H', ⟨Nat.le_refl _⟩, ⟨by first | exact Kd.S_nil _ _ _ _ _ | exact Kd.N_nil _ _ _ _ _ | exact Kd.V_nil _ _ _ _ _ | exact Kd.Q_nil _ _ _ _ _ | exact Kd.R_nil _ _ _ _ _⟩, ⟨by (with_reducible repeat (first | refine blk_drewN ?_ _ | refine blk_drew ?_ | refine blk_alloc ?_ _)); refine blk_far ?_ NB129_131.out _; (with_reducible repeat (first | refine blk_drewN ?_ _ | refine blk_drew ?_ | refine blk_alloc ?_ _)); refine blk_far ?_ NB129_131.out _; (with_reducible repeat (first | refine blk_drewN ?_ _ | refine blk_drew ?_ | refine blk_alloc ?_ _)); exact BK129.out⟩, ⟨by (with_reducible repeat (first | refine blk_drewN ?_ _ | refine blk_drew ?_ | refine blk_alloc ?_ _)); refine blk_far ?_ NB130_131.out _; (with_reducible repeat (first | refine blk_drewN ?_ _ | refine blk_drew ?_ | refine blk_alloc ?_ _)); refine blk_far ?_ NB130_131.out _; (with_reducible repeat (first | refine blk_drewN ?_ _ | refine blk_drew ?_ | refine blk_alloc ?_ _)); exact BK130.out⟩, ⟨by (with_reducible repeat (first | refine blk_drewN ?_ _ | refine blk_drew ?_ | refine blk_alloc ?_ _)); refine blk_put (cs := #[.slice none 0 0, .int .i64 0]) ?_ 1 _ rfl; (with_reducible repeat (first | refine blk_drewN ?_ _ | refine blk_drew ?_ | refine blk_alloc ?_ _)); refine blk_put (cs := #[.slice none 0 0, .int .i64 0]) ?_ 0 _ rfl; (with_reducible repeat (first | refine blk_drewN ?_ _ | refine blk_drew ?_ | refine blk_alloc ?_ _)); exact BK131.out⟩, ⟨by repeat (first | (with_reducible first | exact HB.out | apply below_alloc | apply pw_below_drewN | apply below_drew1 | refine below_set ?_ GE129.out | refine below_set ?_ GE130.out | refine below_set ?_ GE131.out) | exact HB.out)⟩⟩
 case round =>
  clear H'
  try clear c2
  try clear p2
  try clear c4
  try clear p6
  try clear c7
  try clear c8
  try clear hcz5_0
  try clear hcz5_1
  try clear hcz9_0
  try clear hcz9_1
  try clear hfz5_0
  try clear hfz5_1
  try clear hfz9_0
  try clear hfz9_1
  obtain ⟨x5_1, x132000_1, u132000, rfl, HA, HK1, HO_132000, BK129, BK130, BK131, HB⟩ := hrel
  cases gk with
  | zero => exact absurd HA.out (by simp [dioramaref09_Turn.l0])
  | succ k1 =>
   have H := HA.out
   clear HA
   simp only [dioramaref09_Turn.l0] at H
   by_cases c10 : x5_1 ≥ 0
   ·rw [if_pos c10] at H
    have c10b0 : decide (0 ≤ x5_1) = true := decide_eq_true c10
    clear c10
    by_cases c11 : 0 ≤ x5_1
    ·rw [if_pos c11] at H
     have c11b0 : decide (0 ≤ x5_1) = true := decide_eq_true c11
     clear c11
     by_cases c12 : x5_1 < (l0_0.length : Int)
     ·rw [if_pos c12] at H
      have c12b0 : decide (x5_1 < (l0_0.length : Int)) = true := decide_eq_true c12
      clear c12
      replace H := Option.bind_eq_some_iff.mp H
      obtain ⟨⟨t133, t134, t137, t140⟩, A130, H⟩ := H
      replace H : (dioramaref09_Turn.l1 k1 (l0_0.length : Int) x5_1 0 l0_0 a0_1 x132000_1 (wrap64 ((wrap64 ((l0_0.length : Int) - 1)) - a0_1)) t133 t134 t137 t140) = some (r1, r2) := H
      have A13 := Aside0.mk A130
      clear A130
      have H' := Aside0.mk H
      clear H
      have hnb14 := NB129_130.out
      have hnc14 := NB130_129.out
      have hnb15 := NB129_131.out
      have hnc15 := NB131_129.out
      have hcz16_0 : wr.cell? ⟨gb129, 0, none⟩ = some (.slice A0_0 l0_0.length c0_0) := (blk_cell BK129.out 0).trans rfl
      have hcz16_1 : wr.cell? ⟨gb129, 1, none⟩ = some (.int .i64 a0_1) := (blk_cell BK129.out 1).trans rfl
      have hfz16_0 := blk_frozen BK129.out 0
      have hfz16_1 := blk_frozen BK129.out 1
      have p132 : 0 ≤ (x5_1 : Int) := of_decide_eq_true (by first | (with_reducible assumption) | assumption)
      have q132 : x5_1 < (l0_0.length : Int) := of_decide_eq_true (by first | (with_reducible assumption) | assumption)
      obtain ⟨ad132, A132_1, c132_1, A132_2, c132_2, A132_3, c132_3, e132, hx132_0, hx132_1, hx132_2, hx132_3, hl132_1, hi132_1, hl132_2, hi132_2, hl132_3, hi132_3⟩ := at_T40 HR0_0.out x5_1 p132 q132
      cases e132
      replace hx132_0 := (HB.out.cell (World.block_lt_of_cell? w _ hx132_0)).trans hx132_0
      replace hx132_1 := (HB.out.cell (World.block_lt_of_cell? w _ hx132_1)).trans hx132_1
      replace hx132_2 := (HB.out.cell (World.block_lt_of_cell? w _ hx132_2)).trans hx132_2
      replace hx132_3 := (HB.out.cell (World.block_lt_of_cell? w _ hx132_3)).trans hx132_3
      have HR132_1 := Aside0.mk hi132_1
      have HC132_1 := Aside0.mk hl132_1
      clear hi132_1 hl132_1
      have HR132_2 := Aside0.mk hi132_2
      have HC132_2 := Aside0.mk hl132_2
      clear hi132_2 hl132_2
      have HR132_3 := Aside0.mk hi132_3
      have HC132_3 := Aside0.mk hl132_3
      clear hi132_3 hl132_3
      replace p132 := eq_true p132
      replace q132 := eq_true q132
      go_wp2_with (first | ((with_reducible refine gate_callee (f := 29) rfl ?_); refine goesL_ (some 28) rfl rfl Try.func29 (by kernel_rfl) rfl #[.agg #[.int .i64 ((rd_T40 l0_0 x5_1).f0), .slice A132_1 ((rd_T40 l0_0 x5_1).f1).length c132_1, .slice A132_2 ((rd_T40 l0_0 x5_1).f2).length c132_2, .slice A132_3 ((rd_T40 l0_0 x5_1).f3).length c132_3]] rfl (by (try simp only [List.map_toArray, List.map_cons, List.map_nil]); first | done | rfl | (simp only [List.length_drop, List.length_take]; rfl)) ?_; (with_reducible refine (dioramaref08_Copy.calls ((rd_T40 l0_0 x5_1).f0) _ _ ((rd_T40 l0_0 x5_1).f1) _ _ ((rd_T40 l0_0 x5_1).f2) _ _ ((rd_T40 l0_0 x5_1).f3) t133 t134 t137 t140 _ ?side1 ?side2 ?side3 ?side4 ?side5 ?side6 A13.out).mono ?_); (case side1 => repeat (first | exact (Kd.C_below HR132_1.out HB.out) | (with_reducible refine Kd.C_alloc ?_ _) | (with_reducible refine Kd.C_drewN ?_ _) | (with_reducible refine Kd.C_drew ?_))); (case side2 => exact HC132_1.out); (case side3 => repeat (first | exact (Kd.C_below HR132_2.out HB.out) | (with_reducible refine Kd.C_alloc ?_ _) | (with_reducible refine Kd.C_drewN ?_ _) | (with_reducible refine Kd.C_drew ?_))); (case side4 => exact HC132_2.out); (case side5 => repeat (first | exact (Kd.C_below HR132_3.out HB.out) | (with_reducible refine Kd.C_alloc ?_ _) | (with_reducible refine Kd.C_drewN ?_ _) | (with_reducible refine Kd.C_drew ?_))); (case side6 => exact HC132_3.out); rintro e w17 ⟨v135, v138, v141, rfl, ho0, ho1, ho2, hb⟩; refine ⟨_, rfl, ?_⟩; have n0_ := Aside0.mk (Kd.S_mono (Kd.S_told (Kd.S_told (Kd.S_told (Kd.S_old (by (with_reducible repeat (first | apply Kd.S_alloc | apply Kd.S_drewN | apply Kd.S_drew)); exact HO_132000.out) hb) (Kd.R_base ho0)) (Kd.R_base ho1)) (Kd.R_base ho2)) (fun _ h_ => h_.1)); have n1_ := Aside0.mk (Kd.R_lower ho0 (below_size (by repeat (first | (with_reducible first | exact HB.out | apply below_alloc | apply pw_below_drewN | apply below_drew1 | refine below_set ?_ GE129.out | refine below_set ?_ GE130.out | refine below_set ?_ GE131.out) | exact HB.out)))); have n2_ := Aside0.mk (Kd.R_lower ho1 (below_size (by repeat (first | (with_reducible first | exact HB.out | apply below_alloc | apply pw_below_drewN | apply below_drew1 | refine below_set ?_ GE129.out | refine below_set ?_ GE130.out | refine below_set ?_ GE131.out) | exact HB.out)))); have n3_ := Aside0.mk (Kd.R_lower ho2 (below_size (by repeat (first | (with_reducible first | exact HB.out | apply below_alloc | apply pw_below_drewN | apply below_drew1 | refine below_set ?_ GE129.out | refine below_set ?_ GE130.out | refine below_set ?_ GE131.out) | exact HB.out)))); have n4_ := Aside0.mk (blk_below (g := gb129) (o := .cells #[.slice (some ad132) l0_0.length c0_0, .int .i64 a0_1] 24 (0, 0)) (by (with_reducible repeat (first | refine blk_drewN ?_ _ | refine blk_drew ?_ | refine blk_alloc ?_ _)); exact BK129.out) hb); have n5_ := Aside0.mk (blk_below (g := gb130) (o := .cells #[.slice none 0 0, .int .i64 0] 24 (0, 0)) (by (with_reducible repeat (first | refine blk_drewN ?_ _ | refine blk_drew ?_ | refine blk_alloc ?_ _)); exact BK130.out) hb); have n6_ := Aside0.mk (blk_below (g := gb131) (o := .cells #[u132000, .int .i64 (wrap64 ((wrap64 ((l0_0.length : Int) - 1)) - a0_1))] 24 (0, 0)) (by (with_reducible repeat (first | refine blk_drewN ?_ _ | refine blk_drew ?_ | refine blk_alloc ?_ _)); exact BK131.out) hb); have n7_ := Aside0.mk (below_step (by repeat (first | (with_reducible first | exact HB.out | apply below_alloc | apply pw_below_drewN | apply below_drew1 | refine below_set ?_ GE129.out | refine below_set ?_ GE130.out | refine below_set ?_ GE131.out) | exact HB.out)) hb); clear HO_132000; clear BK129; clear BK130; clear BK131; clear HB; have HO_132000 := n0_; have HO136 := n1_; have HO139 := n2_; have HO142 := n3_; have BK129 := n4_; have BK130 := n5_; have BK131 := n6_; have HB := n7_; clear n0_ n1_ n2_ n3_ n4_ n5_ n6_ n7_; (try clear hb); (try clear hb2); (try clear hk); (try clear hi); (try clear ho0); (try clear ho1); (try clear ho2)) | ((with_reducible refine gate_dst (N := 6) rfl ?_); refine box_event ?hg (N := 6) ?hd (cs := #[.int .i64 0, .slice none 0 0, .slice none 0 0, .slice none 0 0]) (t := 40) ?hr ?_; (case hd => rfl); (case hg => rfl); (case hr => first | (go_simp; done) | (go_simp; rfl)); intro gb143 hg w18 hbox hb; have n0_ := Aside0.mk (Kd.S_below (Kd.S_elderB (by (with_reducible repeat (first | apply Kd.S_alloc | apply Kd.S_drewN | apply Kd.S_drew)); exact HO_132000.out) gb143 (Nat.le_of_eq hg.symm)) hb); have n1_ := Aside0.mk (Kd.R_below (by (with_reducible repeat (first | apply Kd.R_alloc | apply Kd.R_drewN | apply Kd.R_drew)); exact HO136.out) hb); have n2_ := Aside0.mk (Kd.R_below (by (with_reducible repeat (first | apply Kd.R_alloc | apply Kd.R_drewN | apply Kd.R_drew)); exact HO139.out) hb); have n3_ := Aside0.mk (Kd.R_below (by (with_reducible repeat (first | apply Kd.R_alloc | apply Kd.R_drewN | apply Kd.R_drew)); exact HO142.out) hb); have n4_ := Aside0.mk (blk_below (g := gb129) (o := .cells #[.slice (some ad132) l0_0.length c0_0, .int .i64 a0_1] 24 (0, 0)) (by (with_reducible repeat (first | refine blk_drewN ?_ _ | refine blk_drew ?_ | refine blk_alloc ?_ _)); exact BK129.out) hb); have n5_ := Aside0.mk (blk_below (g := gb130) (o := .cells #[.slice none 0 0, .int .i64 0] 24 (0, 0)) (by (with_reducible repeat (first | refine blk_drewN ?_ _ | refine blk_drew ?_ | refine blk_alloc ?_ _)); exact BK130.out) hb); have n6_ := Aside0.mk (blk_below (g := gb131) (o := .cells #[u132000, .int .i64 (wrap64 ((wrap64 ((l0_0.length : Int) - 1)) - a0_1))] 24 (0, 0)) (by (with_reducible repeat (first | refine blk_drewN ?_ _ | refine blk_drew ?_ | refine blk_alloc ?_ _)); exact BK131.out) hb); have n7_ := Aside0.mk (below_step (by repeat (first | (with_reducible first | exact HB.out | apply below_alloc | apply pw_below_drewN | apply below_drew1 | refine below_set ?_ GE129.out | refine below_set ?_ GE130.out | refine below_set ?_ GE131.out) | exact HB.out)) hb); have n8_ := Aside0.mk (hbox); have n9_ := Aside0.mk ((by rw [hg]; exact (below_size (by repeat (first | (with_reducible first | exact HB.out | apply below_alloc | apply pw_below_drewN | apply below_drew1 | refine below_set ?_ GE129.out | refine below_set ?_ GE130.out | refine below_set ?_ GE131.out) | exact HB.out))) : w.heap.size ≤ gb143)); have n10_ := Aside0.mk ((by rw [hg]; exact (below_size (by repeat (first | (with_reducible first | exact HB.out | apply below_alloc | apply pw_below_drewN | apply below_drew1 | refine below_set ?_ GE129.out | refine below_set ?_ GE130.out | refine below_set ?_ GE131.out) | exact HB.out))) : w.heap.size ≤ gb143)); have n11_ := Aside0.mk ((by rw [hg]; exact Nat.ne_of_lt (blk_lt (g := gb129) (o := .cells #[.slice (some ad132) l0_0.length c0_0, .int .i64 a0_1] 24 (0, 0)) (by (with_reducible repeat (first | refine blk_drewN ?_ _ | refine blk_drew ?_ | refine blk_alloc ?_ _)); exact BK129.out)) : gb129 ≠ gb143)); have n12_ := Aside0.mk ((by rw [hg]; exact Nat.ne_of_gt (blk_lt (g := gb129) (o := .cells #[.slice (some ad132) l0_0.length c0_0, .int .i64 a0_1] 24 (0, 0)) (by (with_reducible repeat (first | refine blk_drewN ?_ _ | refine blk_drew ?_ | refine blk_alloc ?_ _)); exact BK129.out)) : gb143 ≠ gb129)); have n13_ := Aside0.mk ((by rw [hg]; exact Nat.ne_of_lt (blk_lt (g := gb130) (o := .cells #[.slice none 0 0, .int .i64 0] 24 (0, 0)) (by (with_reducible repeat (first | refine blk_drewN ?_ _ | refine blk_drew ?_ | refine blk_alloc ?_ _)); exact BK130.out)) : gb130 ≠ gb143)); have n14_ := Aside0.mk ((by rw [hg]; exact Nat.ne_of_gt (blk_lt (g := gb130) (o := .cells #[.slice none 0 0, .int .i64 0] 24 (0, 0)) (by (with_reducible repeat (first | refine blk_drewN ?_ _ | refine blk_drew ?_ | refine blk_alloc ?_ _)); exact BK130.out)) : gb143 ≠ gb130)); have n15_ := Aside0.mk ((by rw [hg]; exact Nat.ne_of_lt (blk_lt (g := gb131) (o := .cells #[u132000, .int .i64 (wrap64 ((wrap64 ((l0_0.length : Int) - 1)) - a0_1))] 24 (0, 0)) (by (with_reducible repeat (first | refine blk_drewN ?_ _ | refine blk_drew ?_ | refine blk_alloc ?_ _)); exact BK131.out)) : gb131 ≠ gb143)); have n16_ := Aside0.mk ((by rw [hg]; exact Nat.ne_of_gt (blk_lt (g := gb131) (o := .cells #[u132000, .int .i64 (wrap64 ((wrap64 ((l0_0.length : Int) - 1)) - a0_1))] 24 (0, 0)) (by (with_reducible repeat (first | refine blk_drewN ?_ _ | refine blk_drew ?_ | refine blk_alloc ?_ _)); exact BK131.out)) : gb143 ≠ gb131)); clear HO_132000; clear HO136; clear HO139; clear HO142; clear BK129; clear BK130; clear BK131; clear HB; have HO_132000 := n0_; have HO136 := n1_; have HO139 := n2_; have HO142 := n3_; have BK129 := n4_; have BK130 := n5_; have BK131 := n6_; have HB := n7_; have BK143 := n8_; have GW143 := n9_; have GE143 := n10_; have NB129_143 := n11_; have NB143_129 := n12_; have NB130_143 := n13_; have NB143_130 := n14_; have NB131_143 := n15_; have NB143_131 := n16_; clear n0_ n1_ n2_ n3_ n4_ n5_ n6_ n7_ n8_ n9_ n10_ n11_ n12_ n13_ n14_ n15_ n16_; clear hb hbox hg; have hnb19 := NB143_129.out; have hnc19 := NB129_143.out; have hnb20 := NB143_130.out; have hnc20 := NB130_143.out; have hnb21 := NB143_131.out; have hnc21 := NB131_143.out; have hcz22_0 : w18.cell? ⟨gb143, 0, none⟩ = some (.int .i64 0) := (blk_cell BK143.out 0).trans rfl; have hcz22_1 : w18.cell? ⟨gb143, 1, none⟩ = some (.slice none 0 0) := (blk_cell BK143.out 1).trans rfl; have hcz22_2 : w18.cell? ⟨gb143, 2, none⟩ = some (.slice none 0 0) := (blk_cell BK143.out 2).trans rfl; have hcz22_3 : w18.cell? ⟨gb143, 3, none⟩ = some (.slice none 0 0) := (blk_cell BK143.out 3).trans rfl; have hfz22_0 := blk_frozen BK143.out 0; have hfz22_1 := blk_frozen BK143.out 1; have hfz22_2 := blk_frozen BK143.out 2; have hfz22_3 := blk_frozen BK143.out 3; obtain ⟨Ao23, co23, eo23⟩ := Kd.R_slice HO136.out; subst eo23; obtain ⟨Ao24, co24, eo24⟩ := Kd.R_slice HO139.out; subst eo24; obtain ⟨Ao25, co25, eo25⟩ := Kd.R_slice HO142.out; subst eo25))
      go_loopg [7] k1 (fun kq v7 w' => ∃ (x7_2 : Int) (x144003_2 : List Int) (u144003 : Value), v7 = .int .i64 x7_2 ∧ Aside0 (dioramaref09_Turn.l1 kq (l0_0.length : Int) x5_1 x7_2 l0_0 a0_1 x132000_1 (wrap64 ((wrap64 ((l0_0.length : Int) - 1)) - a0_1)) t133 t134 t137 x144003_2 = some (r1, r2)) ∧ Aside0 (kq ≤ k1) ∧ Aside0 (Kd.S k40 40 w' w.heap.size (fun k_ => some k_ ≠ ((.slice Ao23 t134.length co23) : Value).ownBlock ∧ some k_ ≠ ((.slice Ao24 t137.length co24) : Value).ownBlock ∧ some k_ ≠ (u144003 : Value).ownBlock ∧ k_ ≠ gb143) u132000 x132000_1) ∧ Aside0 (Kd.R (Kd.int .i64) 2 w' w.heap.size (fun _ => True) (.slice Ao23 t134.length co23) t134) ∧ Aside0 (Kd.R Kd.string 9 w' w.heap.size (fun _ => True) (.slice Ao24 t137.length co24) t137) ∧ Aside0 (Kd.R (Kd.int .i64) 3 w' w.heap.size (fun _ => True) u144003 x144003_2) ∧ Aside0 (w'.heap[gb129]? = some (.cells #[(.slice (some ad132) l0_0.length c0_0), .int .i64 a0_1] 24 (0, 0))) ∧ Aside0 (w'.heap[gb130]? = some (.cells #[(.slice none 0 0), .int .i64 0] 24 (0, 0))) ∧ Aside0 (w'.heap[gb131]? = some (.cells #[u132000, .int .i64 (wrap64 ((wrap64 ((l0_0.length : Int) - 1)) - a0_1))] 24 (0, 0))) ∧ Aside0 (w'.heap[gb143]? = some (.cells #[.int .i64 t133, (.slice Ao23 t134.length co23), (.slice Ao24 t137.length co24), u144003] 40 (0, 0))) ∧ Aside0 (Below w.heap.size w w'))
      case atStart => exact ⟨(0), (t140), (.slice Ao25 t140.length co25), (by first | rfl | (simp; done) | (simp [*]; done)), H', ⟨Nat.le_refl _⟩, ⟨by (with_reducible repeat (first | apply Kd.S_alloc | apply Kd.S_drewN | apply Kd.S_drew)); exact Kd.S_mono (Kd.S_far (p := ⟨gb143, 3, none⟩) (Kd.S_far (p := ⟨gb143, 2, none⟩) (Kd.S_far (p := ⟨gb143, 1, none⟩) (Kd.S_far (p := ⟨gb143, 0, none⟩) (Kd.S_mono HO_132000.out (fun k_ hk => (⟨hk, hk.2⟩ : _ ∧ k_ ≠ gb143))) (fun _ hk => hk.2) (.int .i64 t133)) (fun _ hk => hk.2) (.slice Ao23 t134.length co23)) (fun _ hk => hk.2) (.slice Ao24 t137.length co24)) (fun _ hk => hk.2) (.slice Ao25 t140.length co25)) (fun _ hk => ⟨hk.1.1.1.1.2, ⟨hk.1.1.1.2, ⟨hk.1.1.2, hk.1.2⟩⟩⟩)⟩, ⟨by (with_reducible repeat (first | apply Kd.R_alloc | apply Kd.R_drewN | apply Kd.R_drew)); exact Kd.R_mono (Kd.R_far (p := ⟨gb143, 3, none⟩) (Kd.R_far (p := ⟨gb143, 2, none⟩) (Kd.R_far (p := ⟨gb143, 1, none⟩) (Kd.R_far (p := ⟨gb143, 0, none⟩) (Kd.R_types HO136.out BK143.out (by decide)) (fun _ hk => hk.2) (.int .i64 t133)) (fun _ hk => hk.2) (.slice Ao23 t134.length co23)) (fun _ hk => hk.2) (.slice Ao24 t137.length co24)) (fun _ hk => hk.2) (.slice Ao25 t140.length co25)) (fun _ hk => trivial)⟩, ⟨by (with_reducible repeat (first | apply Kd.R_alloc | apply Kd.R_drewN | apply Kd.R_drew)); exact Kd.R_mono (Kd.R_far (p := ⟨gb143, 3, none⟩) (Kd.R_far (p := ⟨gb143, 2, none⟩) (Kd.R_far (p := ⟨gb143, 1, none⟩) (Kd.R_far (p := ⟨gb143, 0, none⟩) (Kd.R_types HO139.out BK143.out (by decide)) (fun _ hk => hk.2) (.int .i64 t133)) (fun _ hk => hk.2) (.slice Ao23 t134.length co23)) (fun _ hk => hk.2) (.slice Ao24 t137.length co24)) (fun _ hk => hk.2) (.slice Ao25 t140.length co25)) (fun _ hk => trivial)⟩, ⟨by (with_reducible repeat (first | apply Kd.R_alloc | apply Kd.R_drewN | apply Kd.R_drew)); exact Kd.R_mono (Kd.R_far (p := ⟨gb143, 3, none⟩) (Kd.R_far (p := ⟨gb143, 2, none⟩) (Kd.R_far (p := ⟨gb143, 1, none⟩) (Kd.R_far (p := ⟨gb143, 0, none⟩) (Kd.R_types HO142.out BK143.out (by decide)) (fun _ hk => hk.2) (.int .i64 t133)) (fun _ hk => hk.2) (.slice Ao23 t134.length co23)) (fun _ hk => hk.2) (.slice Ao24 t137.length co24)) (fun _ hk => hk.2) (.slice Ao25 t140.length co25)) (fun _ hk => trivial)⟩, ⟨by (with_reducible repeat (first | refine blk_drewN ?_ _ | refine blk_drew ?_ | refine blk_alloc ?_ _)); refine blk_far ?_ NB129_143.out _; (with_reducible repeat (first | refine blk_drewN ?_ _ | refine blk_drew ?_ | refine blk_alloc ?_ _)); refine blk_far ?_ NB129_143.out _; (with_reducible repeat (first | refine blk_drewN ?_ _ | refine blk_drew ?_ | refine blk_alloc ?_ _)); refine blk_far ?_ NB129_143.out _; (with_reducible repeat (first | refine blk_drewN ?_ _ | refine blk_drew ?_ | refine blk_alloc ?_ _)); refine blk_far ?_ NB129_143.out _; (with_reducible repeat (first | refine blk_drewN ?_ _ | refine blk_drew ?_ | refine blk_alloc ?_ _)); exact BK129.out⟩, ⟨by (with_reducible repeat (first | refine blk_drewN ?_ _ | refine blk_drew ?_ | refine blk_alloc ?_ _)); refine blk_far ?_ NB130_143.out _; (with_reducible repeat (first | refine blk_drewN ?_ _ | refine blk_drew ?_ | refine blk_alloc ?_ _)); refine blk_far ?_ NB130_143.out _; (with_reducible repeat (first | refine blk_drewN ?_ _ | refine blk_drew ?_ | refine blk_alloc ?_ _)); refine blk_far ?_ NB130_143.out _; (with_reducible repeat (first | refine blk_drewN ?_ _ | refine blk_drew ?_ | refine blk_alloc ?_ _)); refine blk_far ?_ NB130_143.out _; (with_reducible repeat (first | refine blk_drewN ?_ _ | refine blk_drew ?_ | refine blk_alloc ?_ _)); exact BK130.out⟩, ⟨by (with_reducible repeat (first | refine blk_drewN ?_ _ | refine blk_drew ?_ | refine blk_alloc ?_ _)); refine blk_far ?_ NB131_143.out _; (with_reducible repeat (first | refine blk_drewN ?_ _ | refine blk_drew ?_ | refine blk_alloc ?_ _)); refine blk_far ?_ NB131_143.out _; (with_reducible repeat (first | refine blk_drewN ?_ _ | refine blk_drew ?_ | refine blk_alloc ?_ _)); refine blk_far ?_ NB131_143.out _; (with_reducible repeat (first | refine blk_drewN ?_ _ | refine blk_drew ?_ | refine blk_alloc ?_ _)); refine blk_far ?_ NB131_143.out _; (with_reducible repeat (first | refine blk_drewN ?_ _ | refine blk_drew ?_ | refine blk_alloc ?_ _)); exact BK131.out⟩, ⟨by (with_reducible repeat (first | refine blk_drewN ?_ _ | refine blk_drew ?_ | refine blk_alloc ?_ _)); refine blk_put (cs := #[.int .i64 t133, .slice Ao23 t134.length co23, .slice Ao24 t137.length co24, .slice none 0 0]) ?_ 3 _ rfl; (with_reducible repeat (first | refine blk_drewN ?_ _ | refine blk_drew ?_ | refine blk_alloc ?_ _)); refine blk_put (cs := #[.int .i64 t133, .slice Ao23 t134.length co23, .slice none 0 0, .slice none 0 0]) ?_ 2 _ rfl; (with_reducible repeat (first | refine blk_drewN ?_ _ | refine blk_drew ?_ | refine blk_alloc ?_ _)); refine blk_put (cs := #[.int .i64 t133, .slice none 0 0, .slice none 0 0, .slice none 0 0]) ?_ 1 _ rfl; (with_reducible repeat (first | refine blk_drewN ?_ _ | refine blk_drew ?_ | refine blk_alloc ?_ _)); refine blk_put (cs := #[.int .i64 0, .slice none 0 0, .slice none 0 0, .slice none 0 0]) ?_ 0 _ rfl; (with_reducible repeat (first | refine blk_drewN ?_ _ | refine blk_drew ?_ | refine blk_alloc ?_ _)); exact BK143.out⟩, ⟨by repeat (first | (with_reducible first | exact HB.out | apply below_alloc | apply pw_below_drewN | apply below_drew1 | refine below_set ?_ GE129.out | refine below_set ?_ GE130.out | refine below_set ?_ GE131.out | refine below_set ?_ GE143.out) | exact HB.out)⟩⟩
      case round =>
       clear H'
       try clear c1
       try clear p1
       try clear q1
       try clear hx1
       try clear c2
       try clear p2
       try clear c4
       try clear p6
       try clear c7
       try clear c8
       try clear c10
       try clear c10b0
       try clear c11
       try clear c11b0
       try clear c12
       try clear c12b0
       try clear c13
       try clear p13
       try clear q13
       try clear hx13
       try clear c14
       try clear c15
       try clear c19
       try clear c20
       try clear c21
       try clear hcz16_0
       try clear hcz16_1
       try clear hcz22_0
       try clear hcz22_1
       try clear hcz22_2
       try clear hcz22_3
       try clear hcz5_0
       try clear hcz5_1
       try clear hcz9_0
       try clear hcz9_1
       try clear hfz16_0
       try clear hfz16_1
       try clear hfz22_0
       try clear hfz22_1
       try clear hfz22_2
       try clear hfz22_3
       try clear hfz5_0
       try clear hfz5_1
       try clear hfz9_0
       try clear hfz9_1
       try clear hx132_0
       try clear hx132_1
       try clear hx132_2
       try clear hx132_3
       try clear p132
       try clear p2
       try clear p6
       try clear q132
       obtain ⟨x7_2, x144003_2, u144003, rfl, HA, HK2, HO_132000, HO_144001, HO_144002, HO_144003, BK129, BK130, BK131, BK143, HB⟩ := hrel
       cases gk with
       | zero => exact absurd HA.out (by simp [dioramaref09_Turn.l1])
       | succ k2 =>
        have H := HA.out
        clear HA
        simp only [dioramaref09_Turn.l1] at H
        by_cases c26 : x7_2 < (x144003_2.length : Int)
        ·rw [if_pos c26] at H
         have c26b0 : decide (x7_2 < (x144003_2.length : Int)) = true := decide_eq_true c26
         clear c26
         by_cases c27 : 0 ≤ x7_2
         ·rw [if_pos c27] at H
          have c27b0 : decide (0 ≤ x7_2) = true := decide_eq_true c27
          clear c27
          obtain ⟨y145, hy145⟩ : ∃ y_ : List Int, y_ = (x144003_2.set (x7_2 : Int).toNat (wrap64 ((wrap64 ((l0_0.length : Int) - 1)) - (rd x144003_2 x7_2)))) := ⟨_, rfl⟩
          replace H : (dioramaref09_Turn.l1 k2 (l0_0.length : Int) x5_1 (wrap64 (x7_2 + 1)) l0_0 a0_1 x132000_1 (wrap64 ((wrap64 ((l0_0.length : Int) - 1)) - a0_1)) t133 t134 t137 y145) = some (r1, r2) := by first | (rw [hy145]; with_reducible exact H) | (have H2_ := (Option.bind_some _ _).symm.trans H; rw [hy145]; with_reducible exact H2_) | (have H2_ := (Option.bind_some _ _).symm.trans H; with_reducible exact H2_) | with_reducible exact H | (rw [hy145]; exact H) | exact H
          have Ny145 := Aside0.mk hy145
          clear hy145
          have H' := Aside0.mk H
          clear H
          have hnb29 := NB143_129.out
          have hnc29 := NB129_143.out
          have hnb30 := NB143_130.out
          have hnc30 := NB130_143.out
          have hnb31 := NB143_131.out
          have hnc31 := NB131_143.out
          have hcz32_0 : wr.cell? ⟨gb143, 0, none⟩ = some (.int .i64 t133) := (blk_cell BK143.out 0).trans rfl
          have hcz32_1 : wr.cell? ⟨gb143, 1, none⟩ = some (.slice Ao23 t134.length co23) := (blk_cell BK143.out 1).trans rfl
          have hcz32_2 : wr.cell? ⟨gb143, 2, none⟩ = some (.slice Ao24 t137.length co24) := (blk_cell BK143.out 2).trans rfl
          have hcz32_3 : wr.cell? ⟨gb143, 3, none⟩ = some (u144003) := (blk_cell BK143.out 3).trans rfl
          have hfz32_0 := blk_frozen BK143.out 0
          have hfz32_1 := blk_frozen BK143.out 1
          have hfz32_2 := blk_frozen BK143.out 2
          have hfz32_3 := blk_frozen BK143.out 3
          obtain ⟨Ao33, co33, eo33⟩ := Kd.R_slice HO_144003.out
          subst eo33
          try go_wp2
          have n0_ := Aside0.mk (Kd.S_drew HO_132000.out)
          have n1_ := Aside0.mk (Kd.R_drew HO_144001.out)
          have n2_ := Aside0.mk (Kd.R_drew HO_144002.out)
          have n3_ := Aside0.mk (Kd.R_drew HO_144003.out)
          have n4_ := Aside0.mk (blk_drew BK129.out)
          have n5_ := Aside0.mk (blk_drew BK130.out)
          have n6_ := Aside0.mk (blk_drew BK131.out)
          have n7_ := Aside0.mk (blk_drew BK143.out)
          have n8_ := Aside0.mk (below_drew1 HB.out)
          clear HO_132000
          clear HO_144001
          clear HO_144002
          clear HO_144003
          clear BK129
          clear BK130
          clear BK131
          clear BK143
          clear HB
          have HO_132000 := n0_
          have HO_144001 := n1_
          have HO_144002 := n2_
          have HO_144003 := n3_
          have BK129 := n4_
          have BK130 := n5_
          have BK131 := n6_
          have BK143 := n7_
          have HB := n8_
          clear n0_ n1_ n2_ n3_ n4_ n5_ n6_ n7_ n8_
          have p144 : 0 ≤ (x7_2 : Int) := of_decide_eq_true (by first | (with_reducible assumption) | assumption)
          have q144 : x7_2 < (x144003_2.length : Int) := of_decide_eq_true (by first | (with_reducible assumption) | assumption)
          obtain ⟨ad144, e144, hx144_0⟩ := Kd.at_int (Kd.R_reads' HO_144003.out).2.2 x7_2 p144 q144
          cases e144
          replace p144 := eq_true p144
          replace q144 := eq_true q144
          have p28 : 0 ≤ (x7_2 : Int) := of_decide_eq_true (by first | (with_reducible assumption) | assumption)
          have q28 : (x7_2 : Int) < ((x144003_2.length : Int) : Int) := of_decide_eq_true (by first | (with_reducible assumption) | assumption)
          obtain ⟨go28, co28, eo28, gb28, gl28, cl28, HG28⟩ := Kd.R_form HO_144003.out (by omega)
          (first | cases eo28 | (injection eo28 with ea_ en_ ec_; (first | subst ea_ | (injection ea_ with ea_; subst ea_)); subst ec_; clear en_))
          have GB28 := Aside0.mk gb28
          have GG28 := Aside0.mk HG28
          clear gb28 gl28 HG28
          (first | simp only [add_plain] at hx144_0 | skip)
          obtain ⟨hx28_0, hf28_0⟩ := Kd.R_celln 0 HO_144003.out (x7_2 : Int) p28 q28
          replace p28 := eq_true p28
          replace q28 := eq_true q28
          have HP35 := Kd.R_putn HO_144003.out (x7_2 : Int) (wrap64 ((wrap64 ((l0_0.length : Int) - 1)) - (rd x144003_2 x7_2)))
          rw [← Ny145.out] at HP35
          have HQ35 := Aside0.mk HP35
          clear HP35
          refine start_ (n := 13) (S := fun w' => w'.cell? ⟨gb143, 0, none⟩ = some (.int .i64 t133) ∧ w'.cell? ⟨gb143, 1, none⟩ = some (.slice Ao23 t134.length co23) ∧ w'.cell? ⟨gb143, 2, none⟩ = some (.slice Ao24 t137.length co24) ∧ w'.cell? ⟨gb143, 3, none⟩ = some (.slice (some ⟨go28, 0, none⟩) x144003_2.length co33) ∧ w'.cell? ⟨go28, (x7_2).toNat, none⟩ = some (.int .i64 (rd x144003_2 x7_2))) (ds := [12]) #[false, false, false, false, false, false, false, false, false, false, false, false, false] (by kernel_rfl) rfl rfl ⟨(blk_cell BK143.out 0).trans rfl, (blk_cell BK143.out 1).trans rfl, (blk_cell BK143.out 2).trans rfl, (blk_cell BK143.out 3).trans rfl, hx144_0⟩ (fun hHeld => ?_); refine with_tabW dioramaref09_Turn.tab10 dioramaref09_Turn.bits10 (fun HT_ HW_ => ?_)
          generalize wr.drew = w34 at HO_132000 HO_144001 HO_144002 HO_144003 BK129 BK130 BK131 BK143 HB GG28 HQ35 hf28_0 hx144_0 hx28_0 hHeld ⊢
          refine pure_ (i := 0) (N := some 36) (v := ?_) (a' := ?_) #[true, false, false, false, false, false, false, false, false, false, false, false, false] rfl rfl (any_of HT_.out (by kernel_rfl)) (fun _ _ _ h => h) (Or.inl ⟨by rfl, ?_⟩) ?_ ?_
          rotate_left
          ·intro w'
           go_simp
           with_reducible rfl
          rotate_left
          ·simp only [Act.put, List.setIfInBounds_toArray, List.set_cons_zero, List.set_cons_succ, i64_w, i32_w]
           rfl
          refine pure_ (i := 2) (N := some 38) (v := ?_) (a' := ?_) #[true, false, true, false, false, false, false, false, false, false, false, false, false] rfl rfl (any_of HT_.out (by kernel_rfl)) (fun _ _ _ h => h) (Or.inl ⟨by rfl, ?_⟩) ?_ ?_
          rotate_left
          ·intro w'
           go_simp
           with_reducible rfl
          rotate_left
          ·simp only [Act.put, List.setIfInBounds_toArray, List.set_cons_zero, List.set_cons_succ, i64_w, i32_w]
           rfl
          refine pure_ (i := 3) (N := some 39) (v := ?_) (a' := ?_) #[true, false, true, true, false, false, false, false, false, false, false, false, false] rfl rfl (any_of HT_.out (by kernel_rfl)) (fun _ _ _ h => h) (Or.inl ⟨by rfl, ?_⟩) ?_ ?_
          rotate_left
          ·intro w'
           go_simp
           with_reducible rfl
          rotate_left
          ·simp only [Act.put, List.setIfInBounds_toArray, List.set_cons_zero, List.set_cons_succ, i64_w, i32_w]
           rfl
          refine pure_ (i := 4) (N := some 40) (v := ?_) (a' := ?_) #[true, false, true, true, true, false, false, false, false, false, false, false, false] rfl rfl (any_of HT_.out (by kernel_rfl)) (fun _ _ _ h => h) (Or.inl ⟨by rfl, ?_⟩) ?_ ?_
          rotate_left
          ·intro w'
           go_simp
           with_reducible rfl
          rotate_left
          ·simp only [Act.put, List.setIfInBounds_toArray, List.set_cons_zero, List.set_cons_succ, i64_w, i32_w]
           rfl
          refine pure_ (i := 5) (N := some 41) (v := ?_) (a' := ?_) #[true, false, true, true, true, true, false, false, false, false, false, false, false] rfl rfl (any_of HT_.out (by kernel_rfl)) (fun _ _ _ h => h) (Or.inl ⟨by rfl, ?_⟩) ?_ ?_
          rotate_left
          ·intro w'
           go_simp
           with_reducible rfl
          rotate_left
          ·simp only [Act.put, List.setIfInBounds_toArray, List.set_cons_zero, List.set_cons_succ, i64_w, i32_w]
           rfl
          refine pure_ (i := 7) (N := some 43) (v := ?_) (a' := ?_) #[true, false, true, true, true, true, false, true, false, false, false, false, false] rfl rfl (any_of HT_.out (by kernel_rfl)) (fun _ _ _ h => h) (Or.inl ⟨by rfl, ?_⟩) ?_ ?_
          rotate_left
          ·intro w'
           go_simp
           with_reducible rfl
          rotate_left
          ·simp only [Act.put, List.setIfInBounds_toArray, List.set_cons_zero, List.set_cons_succ, i64_w, i32_w]
           rfl
          refine take_ (i := 1) (N := some 37) (v := ?_) (a' := ?_) #[true, true, true, true, true, true, false, true, false, false, false, false, false] rfl rfl (take_ofW HT_.out HW_.out (by kernel_rfl)) (fun _ _ _ h => h) (Or.inl ⟨by rfl, ?_⟩) hHeld ?_ ?_
          rotate_left
          ·rintro w' ⟨s0, s1, s2, s3, s4⟩
           go_simp
           with_reducible rfl
          rotate_left
          ·simp only [Act.put, List.setIfInBounds_toArray, List.set_cons_zero, List.set_cons_succ, i64_w, i32_w]
           rfl
          refine take_ (i := 6) (N := some 42) (v := ?_) (a' := ?_) #[true, true, true, true, true, true, true, true, false, false, false, false, false] rfl rfl (take_ofW HT_.out HW_.out (by kernel_rfl)) (fun _ _ _ h => h) (Or.inl ⟨by rfl, ?_⟩) hHeld ?_ ?_
          rotate_left
          ·rintro w' ⟨s0, s1, s2, s3, s4⟩
           go_simp
           with_reducible rfl
          rotate_left
          ·simp only [Act.put, List.setIfInBounds_toArray, List.set_cons_zero, List.set_cons_succ, i64_w, i32_w]
           rfl
          refine pure_ (i := 8) (N := some 44) (v := ?_) (a' := ?_) #[true, true, true, true, true, true, true, true, true, false, false, false, false] rfl rfl (any_of HT_.out (by kernel_rfl)) (fun _ _ _ h => h) (Or.inl ⟨by rfl, ?_⟩) ?_ ?_
          rotate_left
          ·intro w'
           go_simp
           with_reducible rfl
          rotate_left
          ·simp only [Act.put, List.setIfInBounds_toArray, List.set_cons_zero, List.set_cons_succ, i64_w, i32_w]
           rfl
          refine take_ (i := 9) (N := some 45) (v := ?_) (a' := ?_) #[true, true, true, true, true, true, true, true, true, true, false, false, false] rfl rfl (take_ofW HT_.out HW_.out (by kernel_rfl)) (fun _ _ _ h => h) (Or.inl ⟨by rfl, ?_⟩) hHeld ?_ ?_
          rotate_left
          ·rintro w' ⟨s0, s1, s2, s3, s4⟩
           go_simp
           with_reducible rfl
          rotate_left
          ·simp only [Act.put, List.setIfInBounds_toArray, List.set_cons_zero, List.set_cons_succ, i64_w, i32_w]
           rfl
          refine pure_ (i := 10) (N := some 46) (v := ?_) (a' := ?_) #[true, true, true, true, true, true, true, true, true, true, true, false, false] rfl rfl (any_of HT_.out (by kernel_rfl)) (fun _ _ _ h => h) (Or.inl ⟨by rfl, ?_⟩) ?_ ?_
          rotate_left
          ·intro w'
           go_simp
           with_reducible rfl
          rotate_left
          ·simp only [Act.put, List.setIfInBounds_toArray, List.set_cons_zero, List.set_cons_succ, i64_w, i32_w]
           rfl
          refine pure_ (i := 11) (N := some 47) (v := ?_) (a' := ?_) #[true, true, true, true, true, true, true, true, true, true, true, true, false] rfl rfl (any_of HT_.out (by kernel_rfl)) (fun _ _ _ h => h) (Or.inl ⟨by rfl, ?_⟩) ?_ ?_
          rotate_left
          ·intro w'
           go_simp
           with_reducible rfl
          rotate_left
          ·simp only [Act.put, List.setIfInBounds_toArray, List.set_cons_zero, List.set_cons_succ, i64_w, i32_w]
           rfl
          refine last_ (i := 12) (N := none) #[true, true, true, true, true, true, true, true, true, true, true, true, true] rfl rfl (one_of HT_.out (by kernel_rfl)) (by decide) (fun K hK => ?_)
          refine skip_ (w1 := ?_) (by rfl) rfl ?_ ?_
          rotate_left
          ·go_simp
           rfl
          refine hK.out _ _ ?_
          clear hK K
          refine done_ (done_of HT_.out (by kernel_rfl)) ?_
          try go_wp2
          go_roundg k2
          case measure => have := HK1.out; have := HK2.out; omega
          case rel => exact ⟨(wrap64 (x7_2 + 1)), (y145), (.slice (some ⟨go28, 0, none⟩) x144003_2.length co33), (by first | rfl | (simp; done) | (simp [*]; done)), H', ⟨by have := HK1.out; have := HK2.out; omega⟩, ⟨by (with_reducible repeat (first | apply Kd.S_alloc | apply Kd.S_drewN | apply Kd.S_drew)); exact Kd.S_mono (Kd.S_far (p := ⟨go28, (x7_2 : Int).toNat, none⟩) (Kd.S_mono HO_132000.out (fun k_ hk => (⟨hk, fun e_ => hk.2.2.1 (by rw [e_]; rfl)⟩ : _ ∧ k_ ≠ go28))) (fun _ hk => hk.2) (.int .i64 (wrap64 ((wrap64 ((l0_0.length : Int) - 1)) - (rd x144003_2 x7_2))))) (fun _ hk => ⟨hk.1.1, ⟨hk.1.2.1, ⟨hk.1.2.2.1, hk.1.2.2.2⟩⟩⟩)⟩, ⟨by (with_reducible repeat (first | apply Kd.R_alloc | apply Kd.R_drewN | apply Kd.R_drew)); exact Kd.R_mono (Kd.R_far (p := ⟨go28, (x7_2 : Int).toNat, none⟩) (Kd.R_types HO_144001.out GG28.out (by decide)) (fun _ hk => hk.2) (.int .i64 (wrap64 ((wrap64 ((l0_0.length : Int) - 1)) - (rd x144003_2 x7_2))))) (fun _ hk => trivial)⟩, ⟨by (with_reducible repeat (first | apply Kd.R_alloc | apply Kd.R_drewN | apply Kd.R_drew)); exact Kd.R_mono (Kd.R_far (p := ⟨go28, (x7_2 : Int).toNat, none⟩) (Kd.R_types HO_144002.out GG28.out (by decide)) (fun _ hk => hk.2) (.int .i64 (wrap64 ((wrap64 ((l0_0.length : Int) - 1)) - (rd x144003_2 x7_2))))) (fun _ hk => trivial)⟩, ⟨by (with_reducible repeat (first | apply Kd.R_alloc | apply Kd.R_drewN | apply Kd.R_drew)); exact HQ35.out⟩, ⟨by (with_reducible repeat (first | refine blk_drewN ?_ _ | refine blk_drew ?_ | refine blk_alloc ?_ _)); refine blk_far ?_ (by have h_ := Kd.R_ne HO_144003.out BK129.out (by decide); intro e_; exact h_ (by rw [e_]; rfl)) _; (with_reducible repeat (first | refine blk_drewN ?_ _ | refine blk_drew ?_ | refine blk_alloc ?_ _)); exact BK129.out⟩, ⟨by (with_reducible repeat (first | refine blk_drewN ?_ _ | refine blk_drew ?_ | refine blk_alloc ?_ _)); refine blk_far ?_ (by have h_ := Kd.R_ne HO_144003.out BK130.out (by decide); intro e_; exact h_ (by rw [e_]; rfl)) _; (with_reducible repeat (first | refine blk_drewN ?_ _ | refine blk_drew ?_ | refine blk_alloc ?_ _)); exact BK130.out⟩, ⟨by (with_reducible repeat (first | refine blk_drewN ?_ _ | refine blk_drew ?_ | refine blk_alloc ?_ _)); refine blk_far ?_ (by have h_ := Kd.R_ne HO_144003.out BK131.out (by decide); intro e_; exact h_ (by rw [e_]; rfl)) _; (with_reducible repeat (first | refine blk_drewN ?_ _ | refine blk_drew ?_ | refine blk_alloc ?_ _)); exact BK131.out⟩, ⟨by (with_reducible repeat (first | refine blk_drewN ?_ _ | refine blk_drew ?_ | refine blk_alloc ?_ _)); refine blk_far ?_ (by have h_ := Kd.R_ne HO_144003.out BK143.out (by decide); intro e_; exact h_ (by rw [e_]; rfl)) _; (with_reducible repeat (first | refine blk_drewN ?_ _ | refine blk_drew ?_ | refine blk_alloc ?_ _)); exact BK143.out⟩, ⟨by repeat (first | (with_reducible first | exact HB.out | apply below_alloc | apply pw_below_drewN | apply below_drew1 | refine below_set ?_ GB28.out | refine below_set ?_ GE129.out | refine below_set ?_ GE130.out | refine below_set ?_ GE131.out | refine below_set ?_ GE143.out) | exact HB.out)⟩⟩
         ·rw [if_neg c27] at H
          exact absurd H (by simp)
        ·rw [if_neg c26] at H
         have c26b0 : decide (x7_2 < (x144003_2.length : Int)) = false := decide_eq_false c26
         clear c26
         by_cases c36 : x132000_1.length < 1759218604441
         ·rw [if_pos c36] at H
          have LMc36 := Aside0.mk c36
          clear c36
          obtain ⟨y146, hy146⟩ : ∃ y_ : List (S40), y_ = (x132000_1 ++ [(⟨t133, t134, t137, x144003_2⟩ : S40)]) := ⟨_, rfl⟩
          replace H : (dioramaref09_Turn.l0 k2 (l0_0.length : Int) (wrap64 (x5_1 - 1)) l0_0 a0_1 y146 (wrap64 ((wrap64 ((l0_0.length : Int) - 1)) - a0_1))) = some (r1, r2) := by first | (rw [hy146]; with_reducible exact H) | (have H2_ := (Option.bind_some _ _).symm.trans H; rw [hy146]; with_reducible exact H2_) | (have H2_ := (Option.bind_some _ _).symm.trans H; with_reducible exact H2_) | with_reducible exact H | (rw [hy146]; exact H) | exact H
          have Ny146 := Aside0.mk hy146
          clear hy146
          have H' := Aside0.mk H
          clear H
          have hnb37 := NB143_129.out
          have hnc37 := NB129_143.out
          have hnb38 := NB143_130.out
          have hnc38 := NB130_143.out
          have hnb39 := NB143_131.out
          have hnc39 := NB131_143.out
          have hcz40_0 : wr.cell? ⟨gb143, 0, none⟩ = some (.int .i64 t133) := (blk_cell BK143.out 0).trans rfl
          have hcz40_1 : wr.cell? ⟨gb143, 1, none⟩ = some (.slice Ao23 t134.length co23) := (blk_cell BK143.out 1).trans rfl
          have hcz40_2 : wr.cell? ⟨gb143, 2, none⟩ = some (.slice Ao24 t137.length co24) := (blk_cell BK143.out 2).trans rfl
          have hcz40_3 : wr.cell? ⟨gb143, 3, none⟩ = some (u144003) := (blk_cell BK143.out 3).trans rfl
          have hfz40_0 := blk_frozen BK143.out 0
          have hfz40_1 := blk_frozen BK143.out 1
          have hfz40_2 := blk_frozen BK143.out 2
          have hfz40_3 := blk_frozen BK143.out 3
          obtain ⟨Ao41, co41, eo41⟩ := Kd.R_slice HO_144003.out
          subst eo41
          have hnb42 := NB131_129.out
          have hnc42 := NB129_131.out
          have hnb43 := NB131_130.out
          have hnc43 := NB130_131.out
          have hcz44_0 : wr.cell? ⟨gb131, 0, none⟩ = some (u132000) := (blk_cell BK131.out 0).trans rfl
          have hcz44_1 : wr.cell? ⟨gb131, 1, none⟩ = some (.int .i64 (wrap64 ((wrap64 ((l0_0.length : Int) - 1)) - a0_1))) := (blk_cell BK131.out 1).trans rfl
          have hfz44_0 := blk_frozen BK131.out 0
          have hfz44_1 := blk_frozen BK131.out 1
          go_wp2_with (first | ((with_reducible refine gate_builtin (b := .append) (xs := #[.tmp 49, .tmp 51]) rfl ?_); at_builtin; refine Kd.S_append k40 (w0 := w) w.heap.size rfl (.tmp 49) (.tmp 51) 22 40 (.agg #[(.int .i64 0), (.slice none 0 0), (.slice none 0 0), (.slice none 0 0)]) 80 rfl Try.underlying22 info40 rfl (by decide) (by omega) u132000 x132000_1 (⟨t133, t134, t137, x144003_2⟩ : S40) [.int .i64 t133, .slice Ao23 t134.length co23, .slice Ao24 t137.length co24, .slice Ao41 x144003_2.length co41] (fun k_ => k_ ≠ gb143) (fun k_ => some k_ = (.slice Ao23 t134.length co23 : Value).ownBlock ∨ some k_ = (.slice Ao24 t137.length co24 : Value).ownBlock ∨ some k_ = (.slice Ao41 x144003_2.length co41 : Value).ownBlock) rfl rfl ?aP (fun k_ hk_ => hk_.elim (fun h_ => ((Kd.R_mono (ok' := fun k_ => ((fun k_ => k_ ≠ gb143)) k_ ∧ some k_ ≠ (u132000 : Value).ownBlock) (Kd.R_types (Kd.R_apart' (HO_144001.out) (Kd.S_typed HO_132000.out) (by decide)) BK143.out (by decide)) (fun k_ hk => ⟨hk.2, hk.1.2⟩))).1 k_ h_.symm) (fun h_ => h_.elim (fun h_ => ((Kd.R_mono (ok' := fun k_ => ((fun k_ => k_ ≠ gb143)) k_ ∧ some k_ ≠ (u132000 : Value).ownBlock) (Kd.R_types (Kd.R_apart' (HO_144002.out) (Kd.S_typed HO_132000.out) (by decide)) BK143.out (by decide)) (fun k_ hk => ⟨hk.2, hk.1.2⟩))).1 k_ h_.symm) (fun h_ => ((Kd.R_mono (ok' := fun k_ => ((fun k_ => k_ ≠ gb143)) k_ ∧ some k_ ≠ (u132000 : Value).ownBlock) (Kd.R_types (Kd.R_apart' (HO_144003.out) (Kd.S_typed HO_132000.out) (by decide)) BK143.out (by decide)) (fun k_ hk => ⟨hk.2, hk.1.2⟩))).1 k_ h_.symm))) ?aF ?aO ?aB ?aS ?aL ?_; (case aP => exact k40_mkM _ _ _ (⟨t133, t134, t137, x144003_2⟩ : S40) (Kd.R_mono (Kd.R_tight rfl (Kd.R_mono (ok' := fun k_ => ((fun k_ => k_ ≠ gb143)) k_ ∧ some k_ ≠ (u132000 : Value).ownBlock) (Kd.R_types (Kd.R_apart' (HO_144001.out) (Kd.S_typed HO_132000.out) (by decide)) BK143.out (by decide)) (fun k_ hk => ⟨hk.2, hk.1.2⟩))) (fun _ h_ => Or.inl h_)) (Kd.R_mono (Kd.R_tight rfl (Kd.R_mono (ok' := fun k_ => ((fun k_ => k_ ≠ gb143)) k_ ∧ some k_ ≠ (u132000 : Value).ownBlock) (Kd.R_types (Kd.R_apart' (HO_144002.out) (Kd.S_typed HO_132000.out) (by decide)) BK143.out (by decide)) (fun k_ hk => ⟨hk.2, hk.1.2⟩))) (fun _ h_ => Or.inr (Or.inl h_))) (Kd.R_mono (Kd.R_tight rfl (Kd.R_mono (ok' := fun k_ => ((fun k_ => k_ ≠ gb143)) k_ ∧ some k_ ≠ (u132000 : Value).ownBlock) (Kd.R_types (Kd.R_apart' (HO_144003.out) (Kd.S_typed HO_132000.out) (by decide)) BK143.out (by decide)) (fun k_ hk => ⟨hk.2, hk.1.2⟩))) (fun _ h_ => Or.inr (Or.inr (h_))))); (case aB => exact (by repeat (first | (with_reducible first | exact HB.out | apply below_alloc | apply pw_below_drewN | apply below_drew1 | refine below_set ?_ GE129.out | refine below_set ?_ GE130.out | refine below_set ?_ GE131.out | refine below_set ?_ GE143.out) | exact HB.out))); (case aF => exact (fun k_ hk => Kd.freshB (g := gb143) (o := .cells #[.int .i64 t133, .slice Ao23 t134.length co23, .slice Ao24 t137.length co24, .slice Ao41 x144003_2.length co41] 40 (0, 0)) (by (with_reducible repeat (first | refine blk_drewN ?_ _ | refine blk_drew ?_ | refine blk_alloc ?_ _)); exact BK143.out) k_ hk)); (case aO => exact (by (with_reducible repeat (first | apply Kd.S_alloc | apply Kd.S_drewN | apply Kd.S_drew)); exact Kd.S_mono HO_132000.out (fun k_ hk => ⟨hk.2.2.2, fun e_ => e_.elim (fun h_ => hk.1 h_) (fun h_ => h_.elim (fun h_ => hk.2.1 h_) (fun h_ => hk.2.2.1 h_))⟩))); (case aS => exact (below_size (by repeat (first | (with_reducible first | exact HB.out | apply below_alloc | apply pw_below_drewN | apply below_drew1 | refine below_set ?_ GE129.out | refine below_set ?_ GE130.out | refine below_set ?_ GE131.out | refine below_set ?_ GE143.out) | exact HB.out)))); (case aL => have := LMc36.out; omega); intro v147 w45 ho hb hg hat; rw [← Ny146.out] at ho; have n0_ := Aside0.mk (blk_grown (g := gb129) (o := .cells #[.slice (some ad132) l0_0.length c0_0, .int .i64 a0_1] 24 (0, 0)) (by (with_reducible repeat (first | refine blk_drewN ?_ _ | refine blk_drew ?_ | refine blk_alloc ?_ _)); exact BK129.out) hg (Kd.S_ne HO_132000.out BK129.out (by decide))); have n1_ := Aside0.mk (blk_grown (g := gb130) (o := .cells #[.slice none 0 0, .int .i64 0] 24 (0, 0)) (by (with_reducible repeat (first | refine blk_drewN ?_ _ | refine blk_drew ?_ | refine blk_alloc ?_ _)); exact BK130.out) hg (Kd.S_ne HO_132000.out BK130.out (by decide))); have n2_ := Aside0.mk (blk_grown (g := gb131) (o := .cells #[u132000, .int .i64 (wrap64 ((wrap64 ((l0_0.length : Int) - 1)) - a0_1))] 24 (0, 0)) (by (with_reducible repeat (first | refine blk_drewN ?_ _ | refine blk_drew ?_ | refine blk_alloc ?_ _)); exact BK131.out) hg (Kd.S_ne HO_132000.out BK131.out (by decide))); have n3_ := Aside0.mk (blk_grown (g := gb143) (o := .cells #[.int .i64 t133, .slice Ao23 t134.length co23, .slice Ao24 t137.length co24, .slice Ao41 x144003_2.length co41] 40 (0, 0)) (by (with_reducible repeat (first | refine blk_drewN ?_ _ | refine blk_drew ?_ | refine blk_alloc ?_ _)); exact BK143.out) hg (Kd.S_away HO_132000.out (fun _ hk => hk.2.2.2))); have n4_ := Aside0.mk (hb); have n5_ := Aside0.mk (ho); clear BK129; clear BK130; clear BK131; clear BK143; clear HB; clear HO_132000; clear HO_144001; clear HO_144002; clear HO_144003; have BK129 := n0_; have BK130 := n1_; have BK131 := n2_; have BK143 := n3_; have HB := n4_; have HO148 := n5_; clear n0_ n1_ n2_ n3_ n4_ n5_; clear ho hb hg hat; obtain ⟨Ao46, co46, eo46⟩ := Kd.S_slice HO148.out; subst eo46; have hcz47_0 : w45.cell? ⟨gb131, 0, none⟩ = some (u132000) := (blk_cell BK131.out 0).trans rfl; have hcz47_1 : w45.cell? ⟨gb131, 1, none⟩ = some (.int .i64 (wrap64 ((wrap64 ((l0_0.length : Int) - 1)) - a0_1))) := (blk_cell BK131.out 1).trans rfl; have hfz47_0 := blk_frozen BK131.out 0; have hfz47_1 := blk_frozen BK131.out 1))
          go_roundg k2
          case measure => have := HK1.out; have := HK2.out; omega
          case rel => exact ⟨(wrap64 (x5_1 - 1)), (y146), (.slice Ao46 y146.length co46), (by first | rfl | (simp; done) | (simp [*]; done)), H', ⟨by have := HK1.out; have := HK2.out; omega⟩, ⟨by (with_reducible repeat (first | apply Kd.S_alloc | apply Kd.S_drewN | apply Kd.S_drew)); exact Kd.S_mono (Kd.S_far (p := ⟨gb131, 0, none⟩) (Kd.S_types HO148.out BK131.out (by decide)) (fun _ hk => hk.2) (.slice Ao46 y146.length co46)) (fun _ hk => trivial)⟩, ⟨by (with_reducible repeat (first | refine blk_drewN ?_ _ | refine blk_drew ?_ | refine blk_alloc ?_ _)); refine blk_far ?_ NB129_131.out _; (with_reducible repeat (first | refine blk_drewN ?_ _ | refine blk_drew ?_ | refine blk_alloc ?_ _)); exact BK129.out⟩, ⟨by (with_reducible repeat (first | refine blk_drewN ?_ _ | refine blk_drew ?_ | refine blk_alloc ?_ _)); refine blk_far ?_ NB130_131.out _; (with_reducible repeat (first | refine blk_drewN ?_ _ | refine blk_drew ?_ | refine blk_alloc ?_ _)); exact BK130.out⟩, ⟨by (with_reducible repeat (first | refine blk_drewN ?_ _ | refine blk_drew ?_ | refine blk_alloc ?_ _)); refine blk_put (cs := #[u132000, .int .i64 (wrap64 ((wrap64 ((l0_0.length : Int) - 1)) - a0_1))]) ?_ 0 _ rfl; (with_reducible repeat (first | refine blk_drewN ?_ _ | refine blk_drew ?_ | refine blk_alloc ?_ _)); exact BK131.out⟩, ⟨by repeat (first | (with_reducible first | exact HB.out | apply below_alloc | apply pw_below_drewN | apply below_drew1 | refine below_set ?_ GE129.out | refine below_set ?_ GE130.out | refine below_set ?_ GE131.out | refine below_set ?_ GE143.out) | exact HB.out)⟩⟩
         ·rw [if_neg c36] at H
          exact absurd H (by simp)
     ·rw [if_neg c12] at H
      exact absurd H (by simp)
    ·rw [if_neg c11] at H
     exact absurd H (by simp)
   ·rw [if_neg c10] at H
    have c10b0 : decide (0 ≤ x5_1) = false := decide_eq_false c10
    clear c10
    simp only [Option.some.injEq, Prod.mk.injEq] at H
    obtain ⟨rfl, rfl⟩ := H
    have hnb48 := NB131_129.out
    have hnc48 := NB129_131.out
    have hnb49 := NB131_130.out
    have hnc49 := NB130_131.out
    have hcz50_0 : wr.cell? ⟨gb131, 0, none⟩ = some (u132000) := (blk_cell BK131.out 0).trans rfl
    have hcz50_1 : wr.cell? ⟨gb131, 1, none⟩ = some (.int .i64 (wrap64 ((wrap64 ((l0_0.length : Int) - 1)) - a0_1))) := (blk_cell BK131.out 1).trans rfl
    have hfz50_0 := blk_frozen BK131.out 0
    have hfz50_1 := blk_frozen BK131.out 1
    obtain ⟨Ao51, co51, eo51⟩ := Kd.S_slice HO_132000.out
    subst eo51
    have hnb52 := NB130_129.out
    have hnc52 := NB129_130.out
    have hcz53_0 : wr.cell? ⟨gb130, 0, none⟩ = some (.slice none 0 0) := (blk_cell BK130.out 0).trans rfl
    have hcz53_1 : wr.cell? ⟨gb130, 1, none⟩ = some (.int .i64 0) := (blk_cell BK130.out 1).trans rfl
    have hfz53_0 := blk_frozen BK130.out 0
    have hfz53_1 := blk_frozen BK130.out 1
    go_wp2
    refine bodyPost_ret (results_cell_row rfl _ _ gb130 24 #[.slice Ao51 x132000_1.length co51, .int .i64 (wrap64 ((wrap64 ((l0_0.length : Int) - 1)) - a0_1))] (0, 0) _ rfl (by (with_reducible repeat (first | refine blk_drewN ?_ _ | refine blk_drew ?_ | refine blk_alloc ?_ _)); refine blk_put (cs := #[.slice Ao51 x132000_1.length co51, .int .i64 0]) ?_ 1 _ rfl; (with_reducible repeat (first | refine blk_drewN ?_ _ | refine blk_drew ?_ | refine blk_alloc ?_ _)); refine blk_put (cs := #[.slice none 0 0, .int .i64 0]) ?_ 0 _ rfl; (with_reducible repeat (first | refine blk_drewN ?_ _ | refine blk_drew ?_ | refine blk_alloc ?_ _)); exact BK130.out) Try.underlying24 rfl (by kernel_rfl)) rfl ?_
    exact ⟨_, by first | rfl | (simp [errW_none, errW_some] <;> rfl) | (simp [*, errW_none, errW_some] <;> rfl), by (with_reducible repeat (first | apply Kd.S_alloc | apply Kd.S_drewN | apply Kd.S_drew)); exact Kd.S_mono (Kd.S_far (p := ⟨gb130, 1, none⟩) (Kd.S_far (p := ⟨gb130, 0, none⟩) (Kd.S_types HO_132000.out BK130.out (by decide)) (fun _ hk => hk.2) (.slice Ao51 x132000_1.length co51)) (fun _ hk => hk.2) (.int .i64 (wrap64 ((wrap64 ((l0_0.length : Int) - 1)) - a0_1)))) (fun _ hk => trivial), by repeat (first | (with_reducible first | exact HB.out | apply below_alloc | apply pw_below_drewN | apply below_drew1 | refine below_set ?_ GE129.out | refine below_set ?_ GE130.out | refine below_set ?_ GE131.out) | exact HB.out)⟩

end Go.Proofs.Ytlfjjapndlkamaa.GU
