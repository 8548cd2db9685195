-- Printed by a program of the session (wip/gen/tprint.py, over a turned copy of the kit's print): Lean checks it.
import Derived.Test.YtlfjjapndlkamaaGBx0
import Derived.Test.YtlfjjapndlkamaaGBx1
import Derived.Test.YtlfjjapndlkamaaGBx3
import Derived.Test.YtlfjjapndlkamaaGBx6
import Derived.Test.YtlfjjapndlkamaaGBx7
import Derived.Test.YtlfjjapndlkamaaGBx8
namespace Go.Proofs.Ytlfjjapndlkamaa.GB
open Go.RowKit Go.Proofs.YtlfjjapndlkamaaW.PrintWords Go.Proofs.YtlfjjapndlkamaaW.PrintLast Go.Proofs.YtlfjjapndlkamaaW.PrintMore
attribute [local go_sem] max2_int min2_int max_two min_two max_three min_three max_four min_four   -- for this text's walks alone
set_option linter.unusedVariables false
set_option linter.unusedSimpArgs false

/-! ### dioramalaw09_GraphBelow: function 10 -/
mutual
def dioramalaw09_GraphBelow.j0 : Nat → Int → Bool → List (S40) → Int → Option (Bool)
 | 0, _, _, _, _ => none
 | k + 1, x1, x14, x232000, x232001 => if x14 = true then ((dioramalaw09_awake.f k).bind fun t234 => (some t234)) else ((dioramaref09_Copy.f k x232000 x232001).bind fun bt235 => ((graph_Below.f bt235.1 bt235.2 x1).bind fun t239 => ((dioramaref09_Place.f x232000 x232001 x1).bind fun t242 => (if t242 = true then ((dioramaref09_Place.f x232000 x232001 x232001).bind fun t243 => (if t243 = true then ((dioramaref09_Refs.f k x232000 x232001).bind fun t244 => (dioramalaw09_GraphBelow.j1 k x1 t239 (decide (t244 ≥ 0)) x232000 x232001)) else (dioramalaw09_GraphBelow.j1 k x1 t239 true x232000 x232001))) else (dioramalaw09_GraphBelow.j1 k x1 t239 true x232000 x232001)))))
def dioramalaw09_GraphBelow.j1 : Nat → Int → List Int → Bool → List (S40) → Int → Option (Bool)
 | 0, _, _, _, _, _ => none
 | k + 1, x1, x5, x35, x232000, x232001 => if x35 = true then (some ((x5.length : Int) == 0)) else ((dioramaref09_Led.f k x232000 x232001 x1).bind fun t245 => (dioramalaw09_GraphBelow.l0 k x1 x5 ([] : List Int) t245 (t245.length : Int) 0))
def dioramalaw09_GraphBelow.l0 : Nat → Int → List Int → List Int → List Bool → Int → Int → Option (Bool)
 | 0, _, _, _, _, _, _ => none
 | k + 1, x1, x5, x6, x41, x42, x43 => if x43 < x42 then (if 0 ≤ x43 then (if x43 < (x41.length : Int) then (if rdOf false x41 x43 = true then (if x6.length < 17592186044416 then (dioramalaw09_GraphBelow.l0 k x1 x5 (x6 ++ [x43]) x41 x42 (wrap64 (x43 + 1))) else (none)) else (if x43 = x1 then (if x6.length < 17592186044416 then (dioramalaw09_GraphBelow.l0 k x1 x5 (x6 ++ [x43]) x41 x42 (wrap64 (x43 + 1))) else (none)) else (dioramalaw09_GraphBelow.l0 k x1 x5 x6 x41 x42 (wrap64 (x43 + 1))))) else (none)) else (none)) else ((dioramaref09_Ints.f k x5 x6).bind fun t255 => (some t255))
end
def dioramalaw09_GraphBelow.f (k : Nat) (l0_0 : List (S40)) (a0_1 : Int) (a1 : Int) : Option (Bool) := (dioramalaw09_awake.f k).bind fun t232 => (if t232 = true then ((dioramaref09_Great.f k l0_0 a0_1).bind fun t233 => (dioramalaw09_GraphBelow.j0 k a1 t233 l0_0 a0_1)) else (dioramalaw09_GraphBelow.j0 k a1 true l0_0 a0_1))
theorem dioramalaw09_GraphBelow.mono_l : ∀ k, (∀ y0 y1 y2 y3, LeO (dioramalaw09_GraphBelow.j0 k y0 y1 y2 y3) (dioramalaw09_GraphBelow.j0 (k + 1) y0 y1 y2 y3)) ∧ (∀ y0 y1 y2 y3 y4, LeO (dioramalaw09_GraphBelow.j1 k y0 y1 y2 y3 y4) (dioramalaw09_GraphBelow.j1 (k + 1) y0 y1 y2 y3 y4)) ∧ (∀ y0 y1 y2 y3 y4 y5, LeO (dioramalaw09_GraphBelow.l0 k y0 y1 y2 y3 y4 y5) (dioramalaw09_GraphBelow.l0 (k + 1) y0 y1 y2 y3 y4 y5))
 | 0 => ⟨fun _ _ _ _ r h => by simp [dioramalaw09_GraphBelow.j0] at h, fun _ _ _ _ _ r h => by simp [dioramalaw09_GraphBelow.j1] at h, fun _ _ _ _ _ _ r h => by simp [dioramalaw09_GraphBelow.l0] at h⟩
 | k + 1 => by
  obtain ⟨ih0, ih1, ih2⟩ := dioramalaw09_GraphBelow.mono_l k
  refine ⟨?_, ?_, ?_⟩
  ·intro y0 y1 y2 y3
   unfold dioramalaw09_GraphBelow.j0
   repeat' first
   | (with_reducible exact ih0 _ _ _ _)
   | (with_reducible exact ih1 _ _ _ _ _)
   | (with_reducible exact ih2 _ _ _ _ _ _)
   | (with_reducible exact dioramalaw09_awake.mono _)
   | (with_reducible exact dioramaref09_Copy.mono _ _ _)
   | (with_reducible exact dioramaref09_Great.mono _ _ _)
   | (with_reducible exact dioramaref09_Ints.mono _ _ _)
   | (with_reducible exact dioramaref09_Led.mono _ _ _ _)
   | (with_reducible exact dioramaref09_Refs.mono _ _ _)
   | (with_reducible exact LeO.refl _)
   | (with_reducible exact LeO.none _)
   | (with_reducible refine LeO.ite ?_ ?_)
   | (with_reducible refine LeO.bind ?_ (fun _ => ?_))
   | exact ih0 _ _ _ _
   | exact ih1 _ _ _ _ _
   | exact ih2 _ _ _ _ _ _
   | exact dioramalaw09_awake.mono _
   | exact dioramaref09_Copy.mono _ _ _
   | exact dioramaref09_Great.mono _ _ _
   | exact dioramaref09_Ints.mono _ _ _
   | exact dioramaref09_Led.mono _ _ _ _
   | exact dioramaref09_Refs.mono _ _ _
   | exact LeO.none _
   | refine LeO.ite ?_ ?_
   | refine LeO.bind ?_ (fun _ => ?_)
  ·intro y0 y1 y2 y3 y4
   unfold dioramalaw09_GraphBelow.j1
   repeat' first
   | (with_reducible exact ih0 _ _ _ _)
   | (with_reducible exact ih1 _ _ _ _ _)
   | (with_reducible exact ih2 _ _ _ _ _ _)
   | (with_reducible exact dioramalaw09_awake.mono _)
   | (with_reducible exact dioramaref09_Copy.mono _ _ _)
   | (with_reducible exact dioramaref09_Great.mono _ _ _)
   | (with_reducible exact dioramaref09_Ints.mono _ _ _)
   | (with_reducible exact dioramaref09_Led.mono _ _ _ _)
   | (with_reducible exact dioramaref09_Refs.mono _ _ _)
   | (with_reducible exact LeO.refl _)
   | (with_reducible exact LeO.none _)
   | (with_reducible refine LeO.ite ?_ ?_)
   | (with_reducible refine LeO.bind ?_ (fun _ => ?_))
   | exact ih0 _ _ _ _
   | exact ih1 _ _ _ _ _
   | exact ih2 _ _ _ _ _ _
   | exact dioramalaw09_awake.mono _
   | exact dioramaref09_Copy.mono _ _ _
   | exact dioramaref09_Great.mono _ _ _
   | exact dioramaref09_Ints.mono _ _ _
   | exact dioramaref09_Led.mono _ _ _ _
   | exact dioramaref09_Refs.mono _ _ _
   | exact LeO.none _
   | refine LeO.ite ?_ ?_
   | refine LeO.bind ?_ (fun _ => ?_)
  ·intro y0 y1 y2 y3 y4 y5
   unfold dioramalaw09_GraphBelow.l0
   repeat' first
   | (with_reducible exact ih0 _ _ _ _)
   | (with_reducible exact ih1 _ _ _ _ _)
   | (with_reducible exact ih2 _ _ _ _ _ _)
   | (with_reducible exact dioramalaw09_awake.mono _)
   | (with_reducible exact dioramaref09_Copy.mono _ _ _)
   | (with_reducible exact dioramaref09_Great.mono _ _ _)
   | (with_reducible exact dioramaref09_Ints.mono _ _ _)
   | (with_reducible exact dioramaref09_Led.mono _ _ _ _)
   | (with_reducible exact dioramaref09_Refs.mono _ _ _)
   | (with_reducible exact LeO.refl _)
   | (with_reducible exact LeO.none _)
   | (with_reducible refine LeO.ite ?_ ?_)
   | (with_reducible refine LeO.bind ?_ (fun _ => ?_))
   | exact ih0 _ _ _ _
   | exact ih1 _ _ _ _ _
   | exact ih2 _ _ _ _ _ _
   | exact dioramalaw09_awake.mono _
   | exact dioramaref09_Copy.mono _ _ _
   | exact dioramaref09_Great.mono _ _ _
   | exact dioramaref09_Ints.mono _ _ _
   | exact dioramaref09_Led.mono _ _ _ _
   | exact dioramaref09_Refs.mono _ _ _
   | exact LeO.none _
   | refine LeO.ite ?_ ?_
   | refine LeO.bind ?_ (fun _ => ?_)
theorem dioramalaw09_GraphBelow.mono : ∀ a0 a1 a2 k, LeO (dioramalaw09_GraphBelow.f k a0 a1 a2) (dioramalaw09_GraphBelow.f (k + 1) a0 a1 a2) := by
 intro a0 a1 a2 k
 obtain ⟨ih0, ih1, ih2⟩ := dioramalaw09_GraphBelow.mono_l k
 unfold dioramalaw09_GraphBelow.f
 repeat' first
   | (with_reducible exact ih0 _ _ _ _)
   | (with_reducible exact ih1 _ _ _ _ _)
   | (with_reducible exact ih2 _ _ _ _ _ _)
   | (with_reducible exact dioramalaw09_awake.mono _)
   | (with_reducible exact dioramaref09_Copy.mono _ _ _)
   | (with_reducible exact dioramaref09_Great.mono _ _ _)
   | (with_reducible exact dioramaref09_Ints.mono _ _ _)
   | (with_reducible exact dioramaref09_Led.mono _ _ _ _)
   | (with_reducible exact dioramaref09_Refs.mono _ _ _)
   | (with_reducible exact LeO.refl _)
   | (with_reducible exact LeO.none _)
   | (with_reducible refine LeO.ite ?_ ?_)
   | (with_reducible refine LeO.bind ?_ (fun _ => ?_))
   | exact ih0 _ _ _ _
   | exact ih1 _ _ _ _ _
   | exact ih2 _ _ _ _ _ _
   | exact dioramalaw09_awake.mono _
   | exact dioramaref09_Copy.mono _ _ _
   | exact dioramaref09_Great.mono _ _ _
   | exact dioramaref09_Ints.mono _ _ _
   | exact dioramaref09_Led.mono _ _ _ _
   | exact dioramaref09_Refs.mono _ _ _
   | exact LeO.none _
   | refine LeO.ite ?_ ?_
   | refine LeO.bind ?_ (fun _ => ?_)
set_option maxHeartbeats 8000000 in
set_option maxRecDepth 100000 in
theorem dioramalaw09_GraphBelow.calls (k : Nat) (A0_0 : Option Addr) (c0_0 : Nat) (l0_0 : List (S40)) (a0_1 : Int) (a1 : Int) (r : Bool) (w : World) (hr0_0 : Kd.C k40 w A0_0 l0_0.length l0_0) (hc0_0 : l0_0.length ≤ c0_0) (h : dioramalaw09_GraphBelow.f k l0_0 a0_1 a1 = some r) :
  Calls Try.prog 10 #[.agg #[.slice A0_0 l0_0.length c0_0, .int .i64 a0_1], .int .i64 a1] w fun e w' => e = .returned (.bool r) ∧ Below w.heap.size w w' := by
 have hu24 := Try.underlying24
 have HR0_0 := Aside0.mk hr0_0
 have HC0_0 := Aside0.mk hc0_0
 clear hr0_0 hc0_0
 have HB := Aside0.mk (Below.refl w.heap.size w)
 have H : ((dioramalaw09_awake.f k).bind fun t232 => (if t232 = true then ((dioramaref09_Great.f k l0_0 a0_1).bind fun t233 => (dioramalaw09_GraphBelow.j0 k a1 t233 l0_0 a0_1)) else (dioramalaw09_GraphBelow.j0 k a1 true l0_0 a0_1))) = some r := h
 clear h
 have HC3 := Aside0.mk H
 clear H
 go_enter Try.func10, Try.ntmps10
 go_upto_region 1 with (first | ((with_reducible refine gate_dst (N := 2) rfl ?_); refine box_event ?hg (N := 2) ?hd (cs := #[.slice A0_0 l0_0.length c0_0, .int .i64 a0_1]) (t := 24) ?hr ?_; (case hd => rfl); (case hg => rfl); (case hr => first | (go_simp; done) | (go_simp; rfl)); intro gb231 hg w4 hbox hb; have n0_ := Aside0.mk (below_step (by repeat (first | (with_reducible first | exact HB.out | apply below_alloc | apply pw_below_drewN | apply below_drew1) | exact HB.out)) hb); have n1_ := Aside0.mk (hbox); have n2_ := Aside0.mk ((by rw [hg]; exact (below_size (by repeat (first | (with_reducible first | exact HB.out | apply below_alloc | apply pw_below_drewN | apply below_drew1) | exact HB.out))) : w.heap.size ≤ gb231)); have n3_ := Aside0.mk ((by rw [hg]; exact (below_size (by repeat (first | (with_reducible first | exact HB.out | apply below_alloc | apply pw_below_drewN | apply below_drew1) | exact HB.out))) : w.heap.size ≤ gb231)); clear HB; have HB := n0_; have BK231 := n1_; have GW231 := n2_; have GE231 := n3_; clear n0_ n1_ n2_ n3_; clear hb hbox hg))
 (try simp only [Act.put, List.setIfInBounds_toArray, List.set_cons_zero, List.set_cons_succ])
 go_cut [14] (fun v14 wc => ∃ (kq : Nat) (x14_2 : Bool), v14 = .bool x14_2 ∧ Aside0 (dioramalaw09_GraphBelow.j0 kq a1 x14_2 l0_0 a0_1 = some r) ∧ Aside0 (kq ≤ k) ∧ Aside0 (wc.heap[gb231]? = some (.cells #[(.slice A0_0 l0_0.length c0_0), .int .i64 a0_1] 24 (0, 0))) ∧ Aside0 (Below w.heap.size w wc))
 case first =>
  have H := HC3.out
  clear HC3
  replace H := Option.bind_eq_some_iff.mp H
  obtain ⟨t232, A50, H⟩ := H
  replace H : (if t232 = true then ((dioramaref09_Great.f k l0_0 a0_1).bind fun t233 => (dioramalaw09_GraphBelow.j0 k a1 t233 l0_0 a0_1)) else (dioramalaw09_GraphBelow.j0 k a1 true l0_0 a0_1)) = some r := H
  have A5 := Aside0.mk A50
  clear A50
  by_cases c6 : t232 = true
  ·subst c6
   have H1 : ((dioramaref09_Great.f k l0_0 a0_1).bind fun t233 => (dioramalaw09_GraphBelow.j0 k a1 t233 l0_0 a0_1)) = some r := by rw [if_pos rfl] at H; exact H
   clear H
   have H := H1
   clear H1
   replace H := Option.bind_eq_some_iff.mp H
   obtain ⟨t233, A70, H⟩ := H
   replace H : (dioramalaw09_GraphBelow.j0 k a1 t233 l0_0 a0_1) = some r := H
   have A7 := Aside0.mk A70
   clear A70
   have H' := Aside0.mk H
   clear H
   go_wp2_with (first | ((with_reducible refine gate_callee (f := 33) rfl ?_); refine goesL_ (some 9) rfl rfl Try.func33 (by kernel_rfl) rfl #[] rfl (by (try simp only [List.map_toArray, List.map_cons, List.map_nil]); first | done | rfl | (simp only [List.length_drop, List.length_take]; rfl)) ?_; (with_reducible refine (dioramalaw09_awake.calls k  true _ A5.out).mono ?_); rintro e w8 ⟨rfl, hb⟩; refine ⟨_, rfl, ?_⟩; have n0_ := Aside0.mk (blk_below (g := gb231) (o := .cells #[.slice A0_0 l0_0.length c0_0, .int .i64 a0_1] 24 (0, 0)) (by (with_reducible repeat (first | refine blk_drewN ?_ _ | refine blk_drew ?_ | refine blk_alloc ?_ _)); exact BK231.out) hb); have n1_ := Aside0.mk (below_step (by repeat (first | (with_reducible first | exact HB.out | apply below_alloc | apply pw_below_drewN | apply below_drew1 | refine below_set ?_ GE231.out) | exact HB.out)) hb); clear BK231; clear HB; have BK231 := n0_; have HB := n1_; clear n0_ n1_; (try clear hb); (try clear hb2); (try clear hk); (try clear hi); have hcz9_0 : w8.cell? ⟨gb231, 0, none⟩ = some (.slice A0_0 l0_0.length c0_0) := (blk_cell BK231.out 0).trans rfl; have hcz9_1 : w8.cell? ⟨gb231, 1, none⟩ = some (.int .i64 a0_1) := (blk_cell BK231.out 1).trans rfl; have hfz9_0 := blk_frozen BK231.out 0; have hfz9_1 := blk_frozen BK231.out 1) | (go_at_call 15; (with_reducible refine (dioramaref09_Great.calls k _ _ l0_0 a0_1 t233 _ ?side1 ?side2 A7.out).mono ?_); (case side1 => repeat (first | exact (Kd.C_below HR0_0.out HB.out) | (with_reducible refine Kd.C_alloc ?_ _) | (with_reducible refine Kd.C_drewN ?_ _) | (with_reducible refine Kd.C_drew ?_))); (case side2 => exact HC0_0.out); rintro e w10 ⟨rfl, hb⟩; have n0_ := Aside0.mk (blk_below (g := gb231) (o := .cells #[.slice A0_0 l0_0.length c0_0, .int .i64 a0_1] 24 (0, 0)) (by (with_reducible repeat (first | refine blk_drewN ?_ _ | refine blk_drew ?_ | refine blk_alloc ?_ _)); exact BK231.out) hb); have n1_ := Aside0.mk (below_step (by repeat (first | (with_reducible first | exact HB.out | apply below_alloc | apply pw_below_drewN | apply below_drew1 | refine below_set ?_ GE231.out) | exact HB.out)) hb); clear BK231; clear HB; have BK231 := n0_; have HB := n1_; clear n0_ n1_; (try clear hb); (try clear hb2); (try clear hk); (try clear hi)))
   go_meet
   case rel => exact ⟨_, (t233), (by first | rfl | (simp; done) | (simp [*]; done)), H', ⟨by first | omega | exact Nat.le_refl _⟩, ⟨by (with_reducible repeat (first | refine blk_drewN ?_ _ | refine blk_drew ?_ | refine blk_alloc ?_ _)); exact BK231.out⟩, ⟨by repeat (first | (with_reducible first | exact HB.out | apply below_alloc | apply pw_below_drewN | apply below_drew1 | refine below_set ?_ GE231.out) | exact HB.out)⟩⟩
  ·replace c6 := Bool.eq_false_iff.mpr c6
   subst c6
   have H1 : (dioramalaw09_GraphBelow.j0 k a1 true l0_0 a0_1) = some r := by rw [if_neg (show ¬ (false = true) by decide)] at H; exact H
   clear H
   have H := H1
   clear H1
   have H' := Aside0.mk H
   clear H
   go_wp2_with (first | ((with_reducible refine gate_callee (f := 33) rfl ?_); refine goesL_ (some 9) rfl rfl Try.func33 (by kernel_rfl) rfl #[] rfl (by (try simp only [List.map_toArray, List.map_cons, List.map_nil]); first | done | rfl | (simp only [List.length_drop, List.length_take]; rfl)) ?_; (with_reducible refine (dioramalaw09_awake.calls k  false _ A5.out).mono ?_); rintro e w11 ⟨rfl, hb⟩; refine ⟨_, rfl, ?_⟩; have n0_ := Aside0.mk (blk_below (g := gb231) (o := .cells #[.slice A0_0 l0_0.length c0_0, .int .i64 a0_1] 24 (0, 0)) (by (with_reducible repeat (first | refine blk_drewN ?_ _ | refine blk_drew ?_ | refine blk_alloc ?_ _)); exact BK231.out) hb); have n1_ := Aside0.mk (below_step (by repeat (first | (with_reducible first | exact HB.out | apply below_alloc | apply pw_below_drewN | apply below_drew1 | refine below_set ?_ GE231.out) | exact HB.out)) hb); clear BK231; clear HB; have BK231 := n0_; have HB := n1_; clear n0_ n1_; (try clear hb); (try clear hb2); (try clear hk); (try clear hi)))
   go_meet
   case rel => exact ⟨_, (true), (by first | rfl | (simp; done) | (simp [*]; done)), H', ⟨by first | omega | exact Nat.le_refl _⟩, ⟨by (with_reducible repeat (first | refine blk_drewN ?_ _ | refine blk_drew ?_ | refine blk_alloc ?_ _)); exact BK231.out⟩, ⟨by repeat (first | (with_reducible first | exact HB.out | apply below_alloc | apply pw_below_drewN | apply below_drew1 | refine below_set ?_ GE231.out) | exact HB.out)⟩⟩
 case rest =>
  clear HC3
  try clear c1
  try clear p2
  try clear c3
  try clear c6
  try clear c10
  try clear hcz9_0
  try clear hcz9_1
  try clear hfz9_0
  try clear hfz9_1
  obtain ⟨kq, x14_2, rfl, HA, HJ2, BK231, HB⟩ := hcut
  cases kq with
  | zero => exact absurd HA.out (by simp [dioramalaw09_GraphBelow.j0])
  | succ kj2 =>
   have H := HA.out
   clear HA
   simp only [dioramalaw09_GraphBelow.j0] at H
   by_cases c12 : x14_2 = true
   ·subst c12
    have H1 : ((dioramalaw09_awake.f kj2).bind fun t234 => (some t234)) = some r := by rw [if_pos rfl] at H; exact H
    clear H
    have H := H1
    clear H1
    replace H := Option.bind_eq_some_iff.mp H
    obtain ⟨t234, A130, H⟩ := H
    replace H : (some t234) = some r := H
    have A13 := Aside0.mk A130
    clear A130
    obtain rfl := Option.some.inj H
    go_wp2_with (first | ((with_reducible refine gate_callee (f := 33) rfl ?_); refine goesL_ (some 15) rfl rfl Try.func33 (by kernel_rfl) rfl #[] rfl (by (try simp only [List.map_toArray, List.map_cons, List.map_nil]); first | done | rfl | (simp only [List.length_drop, List.length_take]; rfl)) ?_; (with_reducible refine (dioramalaw09_awake.calls kj2  t234 _ A13.out).mono ?_); rintro e w14 ⟨rfl, hb⟩; refine ⟨_, rfl, ?_⟩; have n0_ := Aside0.mk (blk_below (g := gb231) (o := .cells #[.slice A0_0 l0_0.length c0_0, .int .i64 a0_1] 24 (0, 0)) (by (with_reducible repeat (first | refine blk_drewN ?_ _ | refine blk_drew ?_ | refine blk_alloc ?_ _)); exact BK231.out) hb); have n1_ := Aside0.mk (below_step (by repeat (first | (with_reducible first | exact HB.out | apply below_alloc | apply pw_below_drewN | apply below_drew1 | refine below_set ?_ GE231.out) | exact HB.out)) hb); clear BK231; clear HB; have BK231 := n0_; have HB := n1_; clear n0_ n1_; (try clear hb); (try clear hb2); (try clear hk); (try clear hi)))
    go_ret
    exact ⟨by first | rfl | (simp [errW_none, errW_some] <;> rfl) | (simp [*, errW_none, errW_some] <;> rfl), by repeat (first | (with_reducible first | exact HB.out | apply below_alloc | apply pw_below_drewN | apply below_drew1 | refine below_set ?_ GE231.out) | exact HB.out)⟩
   ·replace c12 := Bool.eq_false_iff.mpr c12
    subst c12
    have H1 : ((dioramaref09_Copy.f kj2 l0_0 a0_1).bind fun bt235 => ((graph_Below.f bt235.1 bt235.2 a1).bind fun t239 => ((dioramaref09_Place.f l0_0 a0_1 a1).bind fun t242 => (if t242 = true then ((dioramaref09_Place.f l0_0 a0_1 a0_1).bind fun t243 => (if t243 = true then ((dioramaref09_Refs.f kj2 l0_0 a0_1).bind fun t244 => (dioramalaw09_GraphBelow.j1 kj2 a1 t239 (decide (t244 ≥ 0)) l0_0 a0_1)) else (dioramalaw09_GraphBelow.j1 kj2 a1 t239 true l0_0 a0_1))) else (dioramalaw09_GraphBelow.j1 kj2 a1 t239 true l0_0 a0_1))))) = some r := by rw [if_neg (show ¬ (false = true) by decide)] at H; exact H
    clear H
    have H := H1
    clear H1
    replace H := Option.bind_eq_some_iff.mp H
    obtain ⟨⟨t235, t238⟩, A150, H⟩ := H
    replace H : ((graph_Below.f t235 t238 a1).bind fun t239 => ((dioramaref09_Place.f l0_0 a0_1 a1).bind fun t242 => (if t242 = true then ((dioramaref09_Place.f l0_0 a0_1 a0_1).bind fun t243 => (if t243 = true then ((dioramaref09_Refs.f kj2 l0_0 a0_1).bind fun t244 => (dioramalaw09_GraphBelow.j1 kj2 a1 t239 (decide (t244 ≥ 0)) l0_0 a0_1)) else (dioramalaw09_GraphBelow.j1 kj2 a1 t239 true l0_0 a0_1))) else (dioramalaw09_GraphBelow.j1 kj2 a1 t239 true l0_0 a0_1)))) = some r := H
    have A15 := Aside0.mk A150
    clear A150
    replace H := Option.bind_eq_some_iff.mp H
    obtain ⟨t239, A160, H⟩ := H
    replace H : ((dioramaref09_Place.f l0_0 a0_1 a1).bind fun t242 => (if t242 = true then ((dioramaref09_Place.f l0_0 a0_1 a0_1).bind fun t243 => (if t243 = true then ((dioramaref09_Refs.f kj2 l0_0 a0_1).bind fun t244 => (dioramalaw09_GraphBelow.j1 kj2 a1 t239 (decide (t244 ≥ 0)) l0_0 a0_1)) else (dioramalaw09_GraphBelow.j1 kj2 a1 t239 true l0_0 a0_1))) else (dioramalaw09_GraphBelow.j1 kj2 a1 t239 true l0_0 a0_1))) = some r := H
    have A16 := Aside0.mk A160
    clear A160
    have HC17 := Aside0.mk H
    clear H
    have hcz18_0 : wc.cell? ⟨gb231, 0, none⟩ = some (.slice A0_0 l0_0.length c0_0) := (blk_cell BK231.out 0).trans rfl
    have hcz18_1 : wc.cell? ⟨gb231, 1, none⟩ = some (.int .i64 a0_1) := (blk_cell BK231.out 1).trans rfl
    have hfz18_0 := blk_frozen BK231.out 0
    have hfz18_1 := blk_frozen BK231.out 1
    go_upto_region 4 with (first | ((with_reducible refine gate_callee (f := 17) rfl ?_); refine goesL_ (some 17) rfl rfl Try.func17 (by kernel_rfl) rfl #[.agg #[.slice A0_0 l0_0.length c0_0, .int .i64 a0_1]] rfl (by (try simp only [List.map_toArray, List.map_cons, List.map_nil]); first | done | rfl | (simp only [List.length_drop, List.length_take]; rfl)) ?_; (with_reducible refine (dioramaref09_Copy.calls kj2 _ _ l0_0 a0_1 t235 t238 _ ?side1 ?side2 A15.out).mono ?_); (case side1 => repeat (first | exact (Kd.C_below HR0_0.out HB.out) | (with_reducible refine Kd.C_alloc ?_ _) | (with_reducible refine Kd.C_drewN ?_ _) | (with_reducible refine Kd.C_drew ?_))); (case side2 => exact HC0_0.out); rintro e w19 ⟨v236, rfl, ho0, hb⟩; refine ⟨_, rfl, ?_⟩; have n0_ := Aside0.mk (Kd.S_lower ho0 (below_size (by repeat (first | (with_reducible first | exact HB.out | apply below_alloc | apply pw_below_drewN | apply below_drew1 | refine below_set ?_ GE231.out) | exact HB.out)))); have n1_ := Aside0.mk (blk_below (g := gb231) (o := .cells #[.slice A0_0 l0_0.length c0_0, .int .i64 a0_1] 24 (0, 0)) (by (with_reducible repeat (first | refine blk_drewN ?_ _ | refine blk_drew ?_ | refine blk_alloc ?_ _)); exact BK231.out) hb); have n2_ := Aside0.mk (below_step (by repeat (first | (with_reducible first | exact HB.out | apply below_alloc | apply pw_below_drewN | apply below_drew1 | refine below_set ?_ GE231.out) | exact HB.out)) hb); clear BK231; clear HB; have HO237 := n0_; have BK231 := n1_; have HB := n2_; clear n0_ n1_ n2_; (try clear hb); (try clear hb2); (try clear hk); (try clear hi); (try clear ho0); obtain ⟨Ao20, co20, eo20⟩ := Kd.S_slice HO237.out; subst eo20) | ((with_reducible refine gate_callee (f := 36) rfl ?_); refine goesL_ (some 19) rfl rfl Try.func36 (by kernel_rfl) rfl #[.agg #[.slice Ao20 t235.length co20, .int .i64 t238], .int .i64 a1] rfl (by (try simp only [List.map_toArray, List.map_cons, List.map_nil]); first | done | rfl | (simp only [List.length_drop, List.length_take]; rfl)) ?_; (with_reducible refine (graph_Below.calls _ _ t235 t238 a1 t239 _ ?side1 ?side2 A16.out).mono ?_); (case side1 => repeat (first | exact (Kd.S_reads' HO237.out).2.2 | (with_reducible refine Kd.C_alloc ?_ _) | (with_reducible refine Kd.C_drewN ?_ _) | (with_reducible refine Kd.C_drew ?_))); (case side2 => exact (Kd.S_reads' HO237.out).2.1); rintro e w21 ⟨v240, rfl, ho0, hb⟩; refine ⟨_, rfl, ?_⟩; have n0_ := Aside0.mk (Kd.S_elder' (by (with_reducible repeat (first | apply Kd.S_alloc | apply Kd.S_drewN | apply Kd.S_drew)); exact HO237.out) (Kd.R_base ho0) hb); have n1_ := Aside0.mk (Kd.R_lower ho0 (below_size (by repeat (first | (with_reducible first | exact HB.out | apply below_alloc | apply pw_below_drewN | apply below_drew1 | refine below_set ?_ GE231.out) | exact HB.out)))); have n2_ := Aside0.mk (blk_below (g := gb231) (o := .cells #[.slice A0_0 l0_0.length c0_0, .int .i64 a0_1] 24 (0, 0)) (by (with_reducible repeat (first | refine blk_drewN ?_ _ | refine blk_drew ?_ | refine blk_alloc ?_ _)); exact BK231.out) hb); have n3_ := Aside0.mk (below_step (by repeat (first | (with_reducible first | exact HB.out | apply below_alloc | apply pw_below_drewN | apply below_drew1 | refine below_set ?_ GE231.out) | exact HB.out)) hb); clear HO237; clear BK231; clear HB; have HO237 := n0_; have HO241 := n1_; have BK231 := n2_; have HB := n3_; clear n0_ n1_ n2_ n3_; (try clear hb); (try clear hb2); (try clear hk); (try clear hi); (try clear ho0)))
    (try simp only [Act.put, List.setIfInBounds_toArray, List.set_cons_zero, List.set_cons_succ])
    go_cut [35] (fun v35 wc => ∃ (kq : Nat) (x35_16 : Bool), v35 = .bool x35_16 ∧ Aside0 (dioramalaw09_GraphBelow.j1 kq a1 t239 x35_16 l0_0 a0_1 = some r) ∧ Aside0 (kq ≤ kj2) ∧ Aside0 (Kd.R (Kd.int .i64) 3 wc w.heap.size (fun _ => True) v240 t239) ∧ Aside0 (wc.heap[gb231]? = some (.cells #[(.slice A0_0 l0_0.length c0_0), .int .i64 a0_1] 24 (0, 0))) ∧ Aside0 (Below w.heap.size w wc))
    case first =>
     have H := HC17.out
     clear HC17
     replace H := Option.bind_eq_some_iff.mp H
     obtain ⟨t242, A220, H⟩ := H
     replace H : (if t242 = true then ((dioramaref09_Place.f l0_0 a0_1 a0_1).bind fun t243 => (if t243 = true then ((dioramaref09_Refs.f kj2 l0_0 a0_1).bind fun t244 => (dioramalaw09_GraphBelow.j1 kj2 a1 t239 (decide (t244 ≥ 0)) l0_0 a0_1)) else (dioramalaw09_GraphBelow.j1 kj2 a1 t239 true l0_0 a0_1))) else (dioramalaw09_GraphBelow.j1 kj2 a1 t239 true l0_0 a0_1)) = some r := H
     have A22 := Aside0.mk A220
     clear A220
     by_cases c23 : t242 = true
     ·subst c23
      have H1 : ((dioramaref09_Place.f l0_0 a0_1 a0_1).bind fun t243 => (if t243 = true then ((dioramaref09_Refs.f kj2 l0_0 a0_1).bind fun t244 => (dioramalaw09_GraphBelow.j1 kj2 a1 t239 (decide (t244 ≥ 0)) l0_0 a0_1)) else (dioramalaw09_GraphBelow.j1 kj2 a1 t239 true l0_0 a0_1))) = some r := by rw [if_pos rfl] at H; exact H
      clear H
      have H := H1
      clear H1
      replace H := Option.bind_eq_some_iff.mp H
      obtain ⟨t243, A240, H⟩ := H
      replace H : (if t243 = true then ((dioramaref09_Refs.f kj2 l0_0 a0_1).bind fun t244 => (dioramalaw09_GraphBelow.j1 kj2 a1 t239 (decide (t244 ≥ 0)) l0_0 a0_1)) else (dioramalaw09_GraphBelow.j1 kj2 a1 t239 true l0_0 a0_1)) = some r := H
      have A24 := Aside0.mk A240
      clear A240
      by_cases c25 : t243 = true
      ·subst c25
       have H1 : ((dioramaref09_Refs.f kj2 l0_0 a0_1).bind fun t244 => (dioramalaw09_GraphBelow.j1 kj2 a1 t239 (decide (t244 ≥ 0)) l0_0 a0_1)) = some r := by rw [if_pos rfl] at H; exact H
       clear H
       have H := H1
       clear H1
       replace H := Option.bind_eq_some_iff.mp H
       obtain ⟨t244, A260, H⟩ := H
       replace H : (dioramalaw09_GraphBelow.j1 kj2 a1 t239 (decide (t244 ≥ 0)) l0_0 a0_1) = some r := H
       have A26 := Aside0.mk A260
       clear A260
       have H' := Aside0.mk H
       clear H
       have hcz27_0 : w21.cell? ⟨gb231, 0, none⟩ = some (.slice A0_0 l0_0.length c0_0) := (blk_cell BK231.out 0).trans rfl
       have hcz27_1 : w21.cell? ⟨gb231, 1, none⟩ = some (.int .i64 a0_1) := (blk_cell BK231.out 1).trans rfl
       have hfz27_0 := blk_frozen BK231.out 0
       have hfz27_1 := blk_frozen BK231.out 1
       go_wp2_with (first | ((with_reducible refine gate_callee (f := 27) rfl ?_); refine goesL_ (some 22) rfl rfl Try.func27 (by kernel_rfl) rfl #[.agg #[.slice A0_0 l0_0.length c0_0, .int .i64 a0_1], .int .i64 a1] rfl (by (try simp only [List.map_toArray, List.map_cons, List.map_nil]); first | done | rfl | (simp only [List.length_drop, List.length_take]; rfl)) ?_; (with_reducible refine (dioramaref09_Place.calls _ _ l0_0 a0_1 a1 true _ ?side1 ?side2 A22.out).mono ?_); (case side1 => repeat (first | exact (Kd.C_below HR0_0.out HB.out) | (with_reducible refine Kd.C_alloc ?_ _) | (with_reducible refine Kd.C_drewN ?_ _) | (with_reducible refine Kd.C_drew ?_))); (case side2 => exact HC0_0.out); rintro e w28 ⟨rfl, hb⟩; refine ⟨_, rfl, ?_⟩; have n0_ := Aside0.mk (Kd.S_below (by (with_reducible repeat (first | apply Kd.S_alloc | apply Kd.S_drewN | apply Kd.S_drew)); exact HO237.out) hb); have n1_ := Aside0.mk (Kd.R_below (by (with_reducible repeat (first | apply Kd.R_alloc | apply Kd.R_drewN | apply Kd.R_drew)); exact HO241.out) hb); have n2_ := Aside0.mk (blk_below (g := gb231) (o := .cells #[.slice A0_0 l0_0.length c0_0, .int .i64 a0_1] 24 (0, 0)) (by (with_reducible repeat (first | refine blk_drewN ?_ _ | refine blk_drew ?_ | refine blk_alloc ?_ _)); exact BK231.out) hb); have n3_ := Aside0.mk (below_step (by repeat (first | (with_reducible first | exact HB.out | apply below_alloc | apply pw_below_drewN | apply below_drew1 | refine below_set ?_ GE231.out) | exact HB.out)) hb); clear HO237; clear HO241; clear BK231; clear HB; have HO237 := n0_; have HO241 := n1_; have BK231 := n2_; have HB := n3_; clear n0_ n1_ n2_ n3_; (try clear hb); (try clear hb2); (try clear hk); (try clear hi); have hcz29_0 : w28.cell? ⟨gb231, 0, none⟩ = some (.slice A0_0 l0_0.length c0_0) := (blk_cell BK231.out 0).trans rfl; have hcz29_1 : w28.cell? ⟨gb231, 1, none⟩ = some (.int .i64 a0_1) := (blk_cell BK231.out 1).trans rfl; have hfz29_0 := blk_frozen BK231.out 0; have hfz29_1 := blk_frozen BK231.out 1) | (go_at_call 27; (with_reducible refine (dioramaref09_Place.calls _ _ l0_0 a0_1 a0_1 true _ ?side1 ?side2 A24.out).mono ?_); (case side1 => repeat (first | exact (Kd.C_below HR0_0.out HB.out) | (with_reducible refine Kd.C_alloc ?_ _) | (with_reducible refine Kd.C_drewN ?_ _) | (with_reducible refine Kd.C_drew ?_))); (case side2 => exact HC0_0.out); rintro e w30 ⟨rfl, hb⟩; have n0_ := Aside0.mk (Kd.S_below (by (with_reducible repeat (first | apply Kd.S_alloc | apply Kd.S_drewN | apply Kd.S_drew)); exact HO237.out) hb); have n1_ := Aside0.mk (Kd.R_below (by (with_reducible repeat (first | apply Kd.R_alloc | apply Kd.R_drewN | apply Kd.R_drew)); exact HO241.out) hb); have n2_ := Aside0.mk (blk_below (g := gb231) (o := .cells #[.slice A0_0 l0_0.length c0_0, .int .i64 a0_1] 24 (0, 0)) (by (with_reducible repeat (first | refine blk_drewN ?_ _ | refine blk_drew ?_ | refine blk_alloc ?_ _)); exact BK231.out) hb); have n3_ := Aside0.mk (below_step (by repeat (first | (with_reducible first | exact HB.out | apply below_alloc | apply pw_below_drewN | apply below_drew1 | refine below_set ?_ GE231.out) | exact HB.out)) hb); clear HO237; clear HO241; clear BK231; clear HB; have HO237 := n0_; have HO241 := n1_; have BK231 := n2_; have HB := n3_; clear n0_ n1_ n2_ n3_; (try clear hb); (try clear hb2); (try clear hk); (try clear hi); have hcz31_0 : w30.cell? ⟨gb231, 0, none⟩ = some (.slice A0_0 l0_0.length c0_0) := (blk_cell BK231.out 0).trans rfl; have hcz31_1 : w30.cell? ⟨gb231, 1, none⟩ = some (.int .i64 a0_1) := (blk_cell BK231.out 1).trans rfl; have hfz31_0 := blk_frozen BK231.out 0; have hfz31_1 := blk_frozen BK231.out 1) | (go_at_call 37; (with_reducible refine (dioramaref09_Refs.calls kj2 _ _ l0_0 a0_1 t244 _ ?side1 ?side2 A26.out).mono ?_); (case side1 => repeat (first | exact (Kd.C_below HR0_0.out HB.out) | (with_reducible refine Kd.C_alloc ?_ _) | (with_reducible refine Kd.C_drewN ?_ _) | (with_reducible refine Kd.C_drew ?_))); (case side2 => exact HC0_0.out); rintro e w32 ⟨rfl, hb⟩; have n0_ := Aside0.mk (Kd.S_below (by (with_reducible repeat (first | apply Kd.S_alloc | apply Kd.S_drewN | apply Kd.S_drew)); exact HO237.out) hb); have n1_ := Aside0.mk (Kd.R_below (by (with_reducible repeat (first | apply Kd.R_alloc | apply Kd.R_drewN | apply Kd.R_drew)); exact HO241.out) hb); have n2_ := Aside0.mk (blk_below (g := gb231) (o := .cells #[.slice A0_0 l0_0.length c0_0, .int .i64 a0_1] 24 (0, 0)) (by (with_reducible repeat (first | refine blk_drewN ?_ _ | refine blk_drew ?_ | refine blk_alloc ?_ _)); exact BK231.out) hb); have n3_ := Aside0.mk (below_step (by repeat (first | (with_reducible first | exact HB.out | apply below_alloc | apply pw_below_drewN | apply below_drew1 | refine below_set ?_ GE231.out) | exact HB.out)) hb); clear HO237; clear HO241; clear BK231; clear HB; have HO237 := n0_; have HO241 := n1_; have BK231 := n2_; have HB := n3_; clear n0_ n1_ n2_ n3_; (try clear hb); (try clear hb2); (try clear hk); (try clear hi)))
       go_meet
       case rel => exact ⟨_, (decide (t244 ≥ 0)), (by first | rfl | (simp; done) | (simp [*]; done)), H', ⟨by have := HJ2.out; first | omega | exact Nat.le_refl _⟩, ⟨by (with_reducible repeat (first | apply Kd.R_alloc | apply Kd.R_drewN | apply Kd.R_drew)); exact HO241.out⟩, ⟨by (with_reducible repeat (first | refine blk_drewN ?_ _ | refine blk_drew ?_ | refine blk_alloc ?_ _)); exact BK231.out⟩, ⟨by repeat (first | (with_reducible first | exact HB.out | apply below_alloc | apply pw_below_drewN | apply below_drew1 | refine below_set ?_ GE231.out) | exact HB.out)⟩⟩
      ·replace c25 := Bool.eq_false_iff.mpr c25
       subst c25
       have H1 : (dioramalaw09_GraphBelow.j1 kj2 a1 t239 true l0_0 a0_1) = some r := by rw [if_neg (show ¬ (false = true) by decide)] at H; exact H
       clear H
       have H := H1
       clear H1
       have H' := Aside0.mk H
       clear H
       have hcz33_0 : w21.cell? ⟨gb231, 0, none⟩ = some (.slice A0_0 l0_0.length c0_0) := (blk_cell BK231.out 0).trans rfl
       have hcz33_1 : w21.cell? ⟨gb231, 1, none⟩ = some (.int .i64 a0_1) := (blk_cell BK231.out 1).trans rfl
       have hfz33_0 := blk_frozen BK231.out 0
       have hfz33_1 := blk_frozen BK231.out 1
       go_wp2_with (first | ((with_reducible refine gate_callee (f := 27) rfl ?_); refine goesL_ (some 22) rfl rfl Try.func27 (by kernel_rfl) rfl #[.agg #[.slice A0_0 l0_0.length c0_0, .int .i64 a0_1], .int .i64 a1] rfl (by (try simp only [List.map_toArray, List.map_cons, List.map_nil]); first | done | rfl | (simp only [List.length_drop, List.length_take]; rfl)) ?_; (with_reducible refine (dioramaref09_Place.calls _ _ l0_0 a0_1 a1 true _ ?side1 ?side2 A22.out).mono ?_); (case side1 => repeat (first | exact (Kd.C_below HR0_0.out HB.out) | (with_reducible refine Kd.C_alloc ?_ _) | (with_reducible refine Kd.C_drewN ?_ _) | (with_reducible refine Kd.C_drew ?_))); (case side2 => exact HC0_0.out); rintro e w34 ⟨rfl, hb⟩; refine ⟨_, rfl, ?_⟩; have n0_ := Aside0.mk (Kd.S_below (by (with_reducible repeat (first | apply Kd.S_alloc | apply Kd.S_drewN | apply Kd.S_drew)); exact HO237.out) hb); have n1_ := Aside0.mk (Kd.R_below (by (with_reducible repeat (first | apply Kd.R_alloc | apply Kd.R_drewN | apply Kd.R_drew)); exact HO241.out) hb); have n2_ := Aside0.mk (blk_below (g := gb231) (o := .cells #[.slice A0_0 l0_0.length c0_0, .int .i64 a0_1] 24 (0, 0)) (by (with_reducible repeat (first | refine blk_drewN ?_ _ | refine blk_drew ?_ | refine blk_alloc ?_ _)); exact BK231.out) hb); have n3_ := Aside0.mk (below_step (by repeat (first | (with_reducible first | exact HB.out | apply below_alloc | apply pw_below_drewN | apply below_drew1 | refine below_set ?_ GE231.out) | exact HB.out)) hb); clear HO237; clear HO241; clear BK231; clear HB; have HO237 := n0_; have HO241 := n1_; have BK231 := n2_; have HB := n3_; clear n0_ n1_ n2_ n3_; (try clear hb); (try clear hb2); (try clear hk); (try clear hi); have hcz35_0 : w34.cell? ⟨gb231, 0, none⟩ = some (.slice A0_0 l0_0.length c0_0) := (blk_cell BK231.out 0).trans rfl; have hcz35_1 : w34.cell? ⟨gb231, 1, none⟩ = some (.int .i64 a0_1) := (blk_cell BK231.out 1).trans rfl; have hfz35_0 := blk_frozen BK231.out 0; have hfz35_1 := blk_frozen BK231.out 1) | (go_at_call 27; (with_reducible refine (dioramaref09_Place.calls _ _ l0_0 a0_1 a0_1 false _ ?side1 ?side2 A24.out).mono ?_); (case side1 => repeat (first | exact (Kd.C_below HR0_0.out HB.out) | (with_reducible refine Kd.C_alloc ?_ _) | (with_reducible refine Kd.C_drewN ?_ _) | (with_reducible refine Kd.C_drew ?_))); (case side2 => exact HC0_0.out); rintro e w36 ⟨rfl, hb⟩; have n0_ := Aside0.mk (Kd.S_below (by (with_reducible repeat (first | apply Kd.S_alloc | apply Kd.S_drewN | apply Kd.S_drew)); exact HO237.out) hb); have n1_ := Aside0.mk (Kd.R_below (by (with_reducible repeat (first | apply Kd.R_alloc | apply Kd.R_drewN | apply Kd.R_drew)); exact HO241.out) hb); have n2_ := Aside0.mk (blk_below (g := gb231) (o := .cells #[.slice A0_0 l0_0.length c0_0, .int .i64 a0_1] 24 (0, 0)) (by (with_reducible repeat (first | refine blk_drewN ?_ _ | refine blk_drew ?_ | refine blk_alloc ?_ _)); exact BK231.out) hb); have n3_ := Aside0.mk (below_step (by repeat (first | (with_reducible first | exact HB.out | apply below_alloc | apply pw_below_drewN | apply below_drew1 | refine below_set ?_ GE231.out) | exact HB.out)) hb); clear HO237; clear HO241; clear BK231; clear HB; have HO237 := n0_; have HO241 := n1_; have BK231 := n2_; have HB := n3_; clear n0_ n1_ n2_ n3_; (try clear hb); (try clear hb2); (try clear hk); (try clear hi)))
       go_meet
       case rel => exact ⟨_, (true), (by first | rfl | (simp; done) | (simp [*]; done)), H', ⟨by have := HJ2.out; first | omega | exact Nat.le_refl _⟩, ⟨by (with_reducible repeat (first | apply Kd.R_alloc | apply Kd.R_drewN | apply Kd.R_drew)); exact HO241.out⟩, ⟨by (with_reducible repeat (first | refine blk_drewN ?_ _ | refine blk_drew ?_ | refine blk_alloc ?_ _)); exact BK231.out⟩, ⟨by repeat (first | (with_reducible first | exact HB.out | apply below_alloc | apply pw_below_drewN | apply below_drew1 | refine below_set ?_ GE231.out) | exact HB.out)⟩⟩
     ·replace c23 := Bool.eq_false_iff.mpr c23
      subst c23
      have H1 : (dioramalaw09_GraphBelow.j1 kj2 a1 t239 true l0_0 a0_1) = some r := by rw [if_neg (show ¬ (false = true) by decide)] at H; exact H
      clear H
      have H := H1
      clear H1
      have H' := Aside0.mk H
      clear H
      have hcz37_0 : w21.cell? ⟨gb231, 0, none⟩ = some (.slice A0_0 l0_0.length c0_0) := (blk_cell BK231.out 0).trans rfl
      have hcz37_1 : w21.cell? ⟨gb231, 1, none⟩ = some (.int .i64 a0_1) := (blk_cell BK231.out 1).trans rfl
      have hfz37_0 := blk_frozen BK231.out 0
      have hfz37_1 := blk_frozen BK231.out 1
      go_wp2_with (first | ((with_reducible refine gate_callee (f := 27) rfl ?_); refine goesL_ (some 22) rfl rfl Try.func27 (by kernel_rfl) rfl #[.agg #[.slice A0_0 l0_0.length c0_0, .int .i64 a0_1], .int .i64 a1] rfl (by (try simp only [List.map_toArray, List.map_cons, List.map_nil]); first | done | rfl | (simp only [List.length_drop, List.length_take]; rfl)) ?_; (with_reducible refine (dioramaref09_Place.calls _ _ l0_0 a0_1 a1 false _ ?side1 ?side2 A22.out).mono ?_); (case side1 => repeat (first | exact (Kd.C_below HR0_0.out HB.out) | (with_reducible refine Kd.C_alloc ?_ _) | (with_reducible refine Kd.C_drewN ?_ _) | (with_reducible refine Kd.C_drew ?_))); (case side2 => exact HC0_0.out); rintro e w38 ⟨rfl, hb⟩; refine ⟨_, rfl, ?_⟩; have n0_ := Aside0.mk (Kd.S_below (by (with_reducible repeat (first | apply Kd.S_alloc | apply Kd.S_drewN | apply Kd.S_drew)); exact HO237.out) hb); have n1_ := Aside0.mk (Kd.R_below (by (with_reducible repeat (first | apply Kd.R_alloc | apply Kd.R_drewN | apply Kd.R_drew)); exact HO241.out) hb); have n2_ := Aside0.mk (blk_below (g := gb231) (o := .cells #[.slice A0_0 l0_0.length c0_0, .int .i64 a0_1] 24 (0, 0)) (by (with_reducible repeat (first | refine blk_drewN ?_ _ | refine blk_drew ?_ | refine blk_alloc ?_ _)); exact BK231.out) hb); have n3_ := Aside0.mk (below_step (by repeat (first | (with_reducible first | exact HB.out | apply below_alloc | apply pw_below_drewN | apply below_drew1 | refine below_set ?_ GE231.out) | exact HB.out)) hb); clear HO237; clear HO241; clear BK231; clear HB; have HO237 := n0_; have HO241 := n1_; have BK231 := n2_; have HB := n3_; clear n0_ n1_ n2_ n3_; (try clear hb); (try clear hb2); (try clear hk); (try clear hi)))
      go_meet
      case rel => exact ⟨_, (true), (by first | rfl | (simp; done) | (simp [*]; done)), H', ⟨by have := HJ2.out; first | omega | exact Nat.le_refl _⟩, ⟨by (with_reducible repeat (first | apply Kd.R_alloc | apply Kd.R_drewN | apply Kd.R_drew)); exact HO241.out⟩, ⟨by (with_reducible repeat (first | refine blk_drewN ?_ _ | refine blk_drew ?_ | refine blk_alloc ?_ _)); exact BK231.out⟩, ⟨by repeat (first | (with_reducible first | exact HB.out | apply below_alloc | apply pw_below_drewN | apply below_drew1 | refine below_set ?_ GE231.out) | exact HB.out)⟩⟩
    case rest =>
     clear HC17
     try clear c1
     try clear c2
     try clear p2
     try clear c3
     try clear c6
     try clear c10
     try clear c12
     try clear c17
     try clear c23
     try clear c25
     try clear c27
     try clear c33
     try clear c36
     try clear hcz18_0
     try clear hcz18_1
     try clear hcz27_0
     try clear hcz27_1
     try clear hcz29_0
     try clear hcz29_1
     try clear hcz31_0
     try clear hcz31_1
     try clear hcz33_0
     try clear hcz33_1
     try clear hcz35_0
     try clear hcz35_1
     try clear hcz37_0
     try clear hcz37_1
     try clear hcz9_0
     try clear hcz9_1
     try clear hfz18_0
     try clear hfz18_1
     try clear hfz27_0
     try clear hfz27_1
     try clear hfz29_0
     try clear hfz29_1
     try clear hfz31_0
     try clear hfz31_1
     try clear hfz33_0
     try clear hfz33_1
     try clear hfz35_0
     try clear hfz35_1
     try clear hfz37_0
     try clear hfz37_1
     try clear hfz9_0
     try clear hfz9_1
     try clear p2
     obtain ⟨kq, x35_16, rfl, HA, HJ16, HO_5, BK231, HB⟩ := hcut
     cases kq with
     | zero => exact absurd HA.out (by simp [dioramalaw09_GraphBelow.j1])
     | succ kj16 =>
      have H := HA.out
      clear HA
      simp only [dioramalaw09_GraphBelow.j1] at H
      by_cases c39 : x35_16 = true
      ·subst c39
       have H1 : (some ((t239.length : Int) == 0)) = some r := by rw [if_pos rfl] at H; exact H
       clear H
       have H := H1
       clear H1
       obtain rfl := Option.some.inj H
       obtain ⟨Ao40, co40, eo40⟩ := Kd.R_slice HO_5.out
       subst eo40
       go_wp2
       go_ret
       exact ⟨by first | rfl | (simp [errW_none, errW_some] <;> rfl) | (simp [*, errW_none, errW_some] <;> rfl), by repeat (first | (with_reducible first | exact HB.out | apply below_alloc | apply pw_below_drewN | apply below_drew1 | refine below_set ?_ GE231.out) | exact HB.out)⟩
      ·replace c39 := Bool.eq_false_iff.mpr c39
       subst c39
       have H1 : ((dioramaref09_Led.f kj16 l0_0 a0_1 a1).bind fun t245 => (dioramalaw09_GraphBelow.l0 kj16 a1 t239 ([] : List Int) t245 (t245.length : Int) 0)) = some r := by rw [if_neg (show ¬ (false = true) by decide)] at H; exact H
       clear H
       have H := H1
       clear H1
       replace H := Option.bind_eq_some_iff.mp H
       obtain ⟨t245, A410, H⟩ := H
       replace H : (dioramalaw09_GraphBelow.l0 kj16 a1 t239 ([] : List Int) t245 (t245.length : Int) 0) = some r := H
       have A41 := Aside0.mk A410
       clear A410
       have H' := Aside0.mk H
       clear H
       have hcz42_0 : wc.cell? ⟨gb231, 0, none⟩ = some (.slice A0_0 l0_0.length c0_0) := (blk_cell BK231.out 0).trans rfl
       have hcz42_1 : wc.cell? ⟨gb231, 1, none⟩ = some (.int .i64 a0_1) := (blk_cell BK231.out 1).trans rfl
       have hfz42_0 := blk_frozen BK231.out 0
       have hfz42_1 := blk_frozen BK231.out 1
       go_wp2_with (first | ((with_reducible refine gate_callee (f := 38) rfl ?_); refine goesL_ (some 41) rfl rfl Try.func38 (by kernel_rfl) rfl #[.agg #[.slice A0_0 l0_0.length c0_0, .int .i64 a0_1], .int .i64 a1] rfl (by (try simp only [List.map_toArray, List.map_cons, List.map_nil]); first | done | rfl | (simp only [List.length_drop, List.length_take]; rfl)) ?_; (with_reducible refine (dioramaref09_Led.calls kj16 _ _ l0_0 a0_1 a1 t245 _ ?side1 ?side2 A41.out).mono ?_); (case side1 => repeat (first | exact (Kd.C_below HR0_0.out HB.out) | (with_reducible refine Kd.C_alloc ?_ _) | (with_reducible refine Kd.C_drewN ?_ _) | (with_reducible refine Kd.C_drew ?_))); (case side2 => exact HC0_0.out); rintro e w43 ⟨v246, rfl, ho0, hb⟩; refine ⟨_, rfl, ?_⟩; have n0_ := Aside0.mk (Kd.R_below (by (with_reducible repeat (first | apply Kd.R_alloc | apply Kd.R_drewN | apply Kd.R_drew)); exact HO_5.out) hb); have n1_ := Aside0.mk (Kd.R_lower ho0 (below_size (by repeat (first | (with_reducible first | exact HB.out | apply below_alloc | apply pw_below_drewN | apply below_drew1 | refine below_set ?_ GE231.out) | exact HB.out)))); have n2_ := Aside0.mk (blk_below (g := gb231) (o := .cells #[.slice A0_0 l0_0.length c0_0, .int .i64 a0_1] 24 (0, 0)) (by (with_reducible repeat (first | refine blk_drewN ?_ _ | refine blk_drew ?_ | refine blk_alloc ?_ _)); exact BK231.out) hb); have n3_ := Aside0.mk (below_step (by repeat (first | (with_reducible first | exact HB.out | apply below_alloc | apply pw_below_drewN | apply below_drew1 | refine below_set ?_ GE231.out) | exact HB.out)) hb); clear HO_5; clear BK231; clear HB; have HO_5 := n0_; have HO247 := n1_; have BK231 := n2_; have HB := n3_; clear n0_ n1_ n2_ n3_; (try clear hb); (try clear hb2); (try clear hk); (try clear hi); (try clear ho0); obtain ⟨Ao44, co44, eo44⟩ := Kd.R_slice HO247.out; subst eo44))
       go_loopg [6, 43] kj16 (fun kq v6 v43 w' => ∃ (x6_3 : List Int) (x43_3 : Int), v43 = .int .i64 x43_3 ∧ Aside0 (dioramalaw09_GraphBelow.l0 kq a1 t239 x6_3 t245 (t245.length : Int) x43_3 = some r) ∧ Aside0 (kq ≤ kj16) ∧ Aside0 (Kd.R (Kd.int .i64) 3 w' w.heap.size (fun k_ => some k_ ≠ (v6 : Value).ownBlock) v240 t239) ∧ Aside0 (Kd.R (Kd.int .i64) 3 w' w.heap.size (fun k_ => some k_ ≠ (v240 : Value).ownBlock) v6 x6_3) ∧ Aside0 (Kd.R Kd.bool 4 w' w.heap.size (fun _ => True) (.slice Ao44 t245.length co44) t245) ∧ Aside0 (w'.heap[gb231]? = some (.cells #[(.slice A0_0 l0_0.length c0_0), .int .i64 a0_1] 24 (0, 0))) ∧ Aside0 (Below w.heap.size w w'))
       case atStart => exact ⟨(([] : List Int)), (0), (by first | rfl | (simp; done) | (simp [*]; done)), H', ⟨Nat.le_refl _⟩, ⟨by (with_reducible repeat (first | apply Kd.R_alloc | apply Kd.R_drewN | apply Kd.R_drew)); exact Kd.R_mono HO_5.out (fun _ hk => (by simp [Value.ownBlock]))⟩, ⟨by first | exact Kd.R_nil _ _ _ _ _ | exact Kd.N_nil _ _ _ _ _ | exact Kd.V_nil _ _ _ _ _ | exact Kd.Q_nil _ _ _ _ _ | exact Kd.S_nil _ _ _ _ _⟩, ⟨by (with_reducible repeat (first | apply Kd.R_alloc | apply Kd.R_drewN | apply Kd.R_drew)); exact HO247.out⟩, ⟨by (with_reducible repeat (first | refine blk_drewN ?_ _ | refine blk_drew ?_ | refine blk_alloc ?_ _)); exact BK231.out⟩, ⟨by repeat (first | (with_reducible first | exact HB.out | apply below_alloc | apply pw_below_drewN | apply below_drew1 | refine below_set ?_ GE231.out) | exact HB.out)⟩⟩
       case round =>
        clear H'
        try clear c1
        try clear c2
        try clear p2
        try clear c3
        try clear c6
        try clear c10
        try clear c12
        try clear c17
        try clear c23
        try clear c25
        try clear c27
        try clear c33
        try clear c36
        try clear c38
        try clear c39
        try clear hcz18_0
        try clear hcz18_1
        try clear hcz27_0
        try clear hcz27_1
        try clear hcz29_0
        try clear hcz29_1
        try clear hcz31_0
        try clear hcz31_1
        try clear hcz33_0
        try clear hcz33_1
        try clear hcz35_0
        try clear hcz35_1
        try clear hcz37_0
        try clear hcz37_1
        try clear hcz42_0
        try clear hcz42_1
        try clear hcz9_0
        try clear hcz9_1
        try clear hfz18_0
        try clear hfz18_1
        try clear hfz27_0
        try clear hfz27_1
        try clear hfz29_0
        try clear hfz29_1
        try clear hfz31_0
        try clear hfz31_1
        try clear hfz33_0
        try clear hfz33_1
        try clear hfz35_0
        try clear hfz35_1
        try clear hfz37_0
        try clear hfz37_1
        try clear hfz42_0
        try clear hfz42_1
        try clear hfz9_0
        try clear hfz9_1
        try clear p2
        obtain ⟨x6_3, x43_3, rfl, HA, HK3, HO_5, HO_6, HO_41, BK231, HB⟩ := hrel
        cases gk with
        | zero => exact absurd HA.out (by simp [dioramalaw09_GraphBelow.l0])
        | succ k3 =>
         have H := HA.out
         clear HA
         simp only [dioramalaw09_GraphBelow.l0] at H
         by_cases c45 : x43_3 < (t245.length : Int)
         ·rw [if_pos c45] at H
          have c45b0 : decide (x43_3 < (t245.length : Int)) = true := decide_eq_true c45
          clear c45
          by_cases c46 : 0 ≤ x43_3
          ·rw [if_pos c46] at H
           have c46b0 : decide (0 ≤ x43_3) = true := decide_eq_true c46
           clear c46
           by_cases c47 : x43_3 < (t245.length : Int)
           ·rw [if_pos c47] at H
            have c47b0 : decide (x43_3 < (t245.length : Int)) = true := decide_eq_true c47
            clear c47
            obtain ⟨bq48, hbq48⟩ : ∃ b_ : Bool, b_ = (rdOf false t245 x43_3) := ⟨_, rfl⟩
            replace H : (if bq48 = true then (if x6_3.length < 17592186044416 then (dioramalaw09_GraphBelow.l0 k3 a1 t239 (x6_3 ++ [x43_3]) t245 (t245.length : Int) (wrap64 (x43_3 + 1))) else (none)) else (if x43_3 = a1 then (if x6_3.length < 17592186044416 then (dioramalaw09_GraphBelow.l0 k3 a1 t239 (x6_3 ++ [x43_3]) t245 (t245.length : Int) (wrap64 (x43_3 + 1))) else (none)) else (dioramalaw09_GraphBelow.l0 k3 a1 t239 x6_3 t245 (t245.length : Int) (wrap64 (x43_3 + 1))))) = some r := by rw [← hbq48] at H; exact H
            have Nbq48 := Aside0.mk hbq48
            clear hbq48
            by_cases c49 : bq48 = true
            ·subst c49
             have H1 : (if x6_3.length < 17592186044416 then (dioramalaw09_GraphBelow.l0 k3 a1 t239 (x6_3 ++ [x43_3]) t245 (t245.length : Int) (wrap64 (x43_3 + 1))) else (none)) = some r := by rw [if_pos rfl] at H; exact H
             clear H
             have H := H1
             clear H1
             by_cases c50 : x6_3.length < 17592186044416
             ·rw [if_pos c50] at H
              have LMc50 := Aside0.mk c50
              clear c50
              obtain ⟨y249, hy249⟩ : ∃ y_ : List Int, y_ = (x6_3 ++ [x43_3]) := ⟨_, rfl⟩
              replace H : (dioramalaw09_GraphBelow.l0 k3 a1 t239 y249 t245 (t245.length : Int) (wrap64 (x43_3 + 1))) = some r := by first | (rw [hy249]; with_reducible exact H) | (have H2_ := (Option.bind_some _ _).symm.trans H; rw [hy249]; with_reducible exact H2_) | (have H2_ := (Option.bind_some _ _).symm.trans H; with_reducible exact H2_) | with_reducible exact H | (rw [hy249]; exact H) | exact H
              have Ny249 := Aside0.mk hy249
              clear hy249
              have H' := Aside0.mk H
              clear H
              have p248 : 0 ≤ (x43_3 : Int) := of_decide_eq_true (by first | (with_reducible assumption) | assumption)
              have q248 : x43_3 < (t245.length : Int) := of_decide_eq_true (by first | (with_reducible assumption) | assumption)
              obtain ⟨ad248, e248, hx248_0⟩ := Kd.at_bool (Kd.R_reads' HO_41.out).2.2 x43_3 p248 q248
              (try rw [← Nbq48.out] at hx248_0)
              cases e248
              replace p248 := eq_true p248
              replace q248 := eq_true q248
              go_wp2_with (first | ((with_reducible refine gate_builtin (b := .append) (xs := #[.tmp 54, .tmp 56]) rfl ?_); at_builtin; refine Kd.R_append (Kd.int .i64) (w0 := w) w.heap.size rfl (.tmp 54) (.tmp 56) 31 3 (.int .i64 0) 8 rfl Try.underlying31 info3 rfl (by decide) (by omega) u6 x6_3 x43_3 [.int .i64 x43_3] (fun k_ => some k_ ≠ (v240 : Value).ownBlock) (fun _ => False) rfl rfl ?aP (fun _ hk => hk.elim) ?aF ?aO ?aB ?aS ?aL ?_; (case aP => exact rfl); (case aB => exact (by repeat (first | (with_reducible first | exact HB.out | apply below_alloc | apply pw_below_drewN | apply below_drew1 | refine below_set ?_ GE231.out) | exact HB.out))); (case aF => exact (fun k_ hk => Kd.fresh' (Kd.R_lt (by (with_reducible repeat (first | apply Kd.R_alloc | apply Kd.R_drewN | apply Kd.R_drew)); exact HO_5.out)) k_ hk)); (case aO => exact (by (with_reducible repeat (first | apply Kd.R_alloc | apply Kd.R_drewN | apply Kd.R_drew)); exact HO_6.out)); (case aS => exact (below_size (by repeat (first | (with_reducible first | exact HB.out | apply below_alloc | apply pw_below_drewN | apply below_drew1 | refine below_set ?_ GE231.out) | exact HB.out)))); (case aL => have := LMc50.out; omega); intro v250 w51 ho hb hg hat; rw [← Ny249.out] at ho; have n0_ := Aside0.mk (Kd.R_after (ok := (fun _ => True)) (by (with_reducible repeat (first | apply Kd.R_alloc | apply Kd.R_drewN | apply Kd.R_drew)); exact Kd.R_mono HO_5.out (fun _ hk => ⟨trivial, hk⟩)) hg hat); have n1_ := Aside0.mk (Kd.R_over' (by (with_reducible repeat (first | apply Kd.R_alloc | apply Kd.R_drewN | apply Kd.R_drew)); exact HO_41.out) (Kd.R_typed (by (with_reducible repeat (first | apply Kd.R_alloc | apply Kd.R_drewN | apply Kd.R_drew)); exact HO_6.out)) (by decide) hg); have n2_ := Aside0.mk (blk_grown (g := gb231) (o := .cells #[.slice A0_0 l0_0.length c0_0, .int .i64 a0_1] 24 (0, 0)) (by (with_reducible repeat (first | refine blk_drewN ?_ _ | refine blk_drew ?_ | refine blk_alloc ?_ _)); exact BK231.out) hg (Kd.R_ne HO_6.out BK231.out (by decide))); have n3_ := Aside0.mk (hb); have n4_ := Aside0.mk (ho); clear HO_5; clear HO_41; clear BK231; clear HB; clear HO_6; have HO_5 := n0_; have HO_41 := n1_; have BK231 := n2_; have HB := n3_; have HO251 := n4_; clear n0_ n1_ n2_ n3_ n4_; clear ho hb hg hat))
              go_roundg k3
              case measure => have := HJ2.out; have := HJ16.out; have := HK3.out; omega
              case rel => exact ⟨(y249), (wrap64 (x43_3 + 1)), (by first | rfl | (simp; done) | (simp [*]; done)), H', ⟨by have := HJ2.out; have := HJ16.out; have := HK3.out; omega⟩, ⟨by (with_reducible repeat (first | apply Kd.R_alloc | apply Kd.R_drewN | apply Kd.R_drew)); exact Kd.R_mono HO_5.out (fun _ hk => hk.2)⟩, ⟨by (with_reducible repeat (first | apply Kd.R_alloc | apply Kd.R_drewN | apply Kd.R_drew)); exact HO251.out⟩, ⟨by (with_reducible repeat (first | apply Kd.R_alloc | apply Kd.R_drewN | apply Kd.R_drew)); exact HO_41.out⟩, ⟨by (with_reducible repeat (first | refine blk_drewN ?_ _ | refine blk_drew ?_ | refine blk_alloc ?_ _)); exact BK231.out⟩, ⟨by repeat (first | (with_reducible first | exact HB.out | apply below_alloc | apply pw_below_drewN | apply below_drew1 | refine below_set ?_ GE231.out) | exact HB.out)⟩⟩
             ·rw [if_neg c50] at H
              exact absurd H (by simp)
            ·replace c49 := Bool.eq_false_iff.mpr c49
             subst c49
             have H1 : (if x43_3 = a1 then (if x6_3.length < 17592186044416 then (dioramalaw09_GraphBelow.l0 k3 a1 t239 (x6_3 ++ [x43_3]) t245 (t245.length : Int) (wrap64 (x43_3 + 1))) else (none)) else (dioramalaw09_GraphBelow.l0 k3 a1 t239 x6_3 t245 (t245.length : Int) (wrap64 (x43_3 + 1)))) = some r := by rw [if_neg (show ¬ (false = true) by decide)] at H; exact H
             clear H
             have H := H1
             clear H1
             by_cases c52 : x43_3 = a1
             ·rw [if_pos c52] at H
              have c52b0 : (x43_3 == a1) = true := beq_iff_eq.mpr c52
              have c52b1 : (x43_3 != a1) = false := bne_eq_false_iff_eq.mpr c52
              clear c52
              by_cases c53 : x6_3.length < 17592186044416
              ·rw [if_pos c53] at H
               have LMc53 := Aside0.mk c53
               clear c53
               obtain ⟨y252, hy252⟩ : ∃ y_ : List Int, y_ = (x6_3 ++ [x43_3]) := ⟨_, rfl⟩
               replace H : (dioramalaw09_GraphBelow.l0 k3 a1 t239 y252 t245 (t245.length : Int) (wrap64 (x43_3 + 1))) = some r := by first | (rw [hy252]; with_reducible exact H) | (have H2_ := (Option.bind_some _ _).symm.trans H; rw [hy252]; with_reducible exact H2_) | (have H2_ := (Option.bind_some _ _).symm.trans H; with_reducible exact H2_) | with_reducible exact H | (rw [hy252]; exact H) | exact H
               have Ny252 := Aside0.mk hy252
               clear hy252
               have H' := Aside0.mk H
               clear H
               have p248 : 0 ≤ (x43_3 : Int) := of_decide_eq_true (by first | (with_reducible assumption) | assumption)
               have q248 : x43_3 < (t245.length : Int) := of_decide_eq_true (by first | (with_reducible assumption) | assumption)
               obtain ⟨ad248, e248, hx248_0⟩ := Kd.at_bool (Kd.R_reads' HO_41.out).2.2 x43_3 p248 q248
               (try rw [← Nbq48.out] at hx248_0)
               cases e248
               replace p248 := eq_true p248
               replace q248 := eq_true q248
               go_wp2_with (first | ((with_reducible refine gate_builtin (b := .append) (xs := #[.tmp 54, .tmp 56]) rfl ?_); at_builtin; refine Kd.R_append (Kd.int .i64) (w0 := w) w.heap.size rfl (.tmp 54) (.tmp 56) 31 3 (.int .i64 0) 8 rfl Try.underlying31 info3 rfl (by decide) (by omega) u6 x6_3 x43_3 [.int .i64 x43_3] (fun k_ => some k_ ≠ (v240 : Value).ownBlock) (fun _ => False) rfl rfl ?aP (fun _ hk => hk.elim) ?aF ?aO ?aB ?aS ?aL ?_; (case aP => exact rfl); (case aB => exact (by repeat (first | (with_reducible first | exact HB.out | apply below_alloc | apply pw_below_drewN | apply below_drew1 | refine below_set ?_ GE231.out) | exact HB.out))); (case aF => exact (fun k_ hk => Kd.fresh' (Kd.R_lt (by (with_reducible repeat (first | apply Kd.R_alloc | apply Kd.R_drewN | apply Kd.R_drew)); exact HO_5.out)) k_ hk)); (case aO => exact (by (with_reducible repeat (first | apply Kd.R_alloc | apply Kd.R_drewN | apply Kd.R_drew)); exact HO_6.out)); (case aS => exact (below_size (by repeat (first | (with_reducible first | exact HB.out | apply below_alloc | apply pw_below_drewN | apply below_drew1 | refine below_set ?_ GE231.out) | exact HB.out)))); (case aL => have := LMc53.out; omega); intro v253 w54 ho hb hg hat; rw [← Ny252.out] at ho; have n0_ := Aside0.mk (Kd.R_after (ok := (fun _ => True)) (by (with_reducible repeat (first | apply Kd.R_alloc | apply Kd.R_drewN | apply Kd.R_drew)); exact Kd.R_mono HO_5.out (fun _ hk => ⟨trivial, hk⟩)) hg hat); have n1_ := Aside0.mk (Kd.R_over' (by (with_reducible repeat (first | apply Kd.R_alloc | apply Kd.R_drewN | apply Kd.R_drew)); exact HO_41.out) (Kd.R_typed (by (with_reducible repeat (first | apply Kd.R_alloc | apply Kd.R_drewN | apply Kd.R_drew)); exact HO_6.out)) (by decide) hg); have n2_ := Aside0.mk (blk_grown (g := gb231) (o := .cells #[.slice A0_0 l0_0.length c0_0, .int .i64 a0_1] 24 (0, 0)) (by (with_reducible repeat (first | refine blk_drewN ?_ _ | refine blk_drew ?_ | refine blk_alloc ?_ _)); exact BK231.out) hg (Kd.R_ne HO_6.out BK231.out (by decide))); have n3_ := Aside0.mk (hb); have n4_ := Aside0.mk (ho); clear HO_5; clear HO_41; clear BK231; clear HB; clear HO_6; have HO_5 := n0_; have HO_41 := n1_; have BK231 := n2_; have HB := n3_; have HO254 := n4_; clear n0_ n1_ n2_ n3_ n4_; clear ho hb hg hat))
               go_roundg k3
               case measure => have := HJ2.out; have := HJ16.out; have := HK3.out; omega
               case rel => exact ⟨(y252), (wrap64 (x43_3 + 1)), (by first | rfl | (simp; done) | (simp [*]; done)), H', ⟨by have := HJ2.out; have := HJ16.out; have := HK3.out; omega⟩, ⟨by (with_reducible repeat (first | apply Kd.R_alloc | apply Kd.R_drewN | apply Kd.R_drew)); exact Kd.R_mono HO_5.out (fun _ hk => hk.2)⟩, ⟨by (with_reducible repeat (first | apply Kd.R_alloc | apply Kd.R_drewN | apply Kd.R_drew)); exact HO254.out⟩, ⟨by (with_reducible repeat (first | apply Kd.R_alloc | apply Kd.R_drewN | apply Kd.R_drew)); exact HO_41.out⟩, ⟨by (with_reducible repeat (first | refine blk_drewN ?_ _ | refine blk_drew ?_ | refine blk_alloc ?_ _)); exact BK231.out⟩, ⟨by repeat (first | (with_reducible first | exact HB.out | apply below_alloc | apply pw_below_drewN | apply below_drew1 | refine below_set ?_ GE231.out) | exact HB.out)⟩⟩
              ·rw [if_neg c53] at H
               exact absurd H (by simp)
             ·rw [if_neg c52] at H
              have c52b0 : (x43_3 == a1) = false := beq_eq_false_iff_ne.mpr c52
              have c52b1 : (x43_3 != a1) = true := bne_iff_ne.mpr c52
              have H' := Aside0.mk H
              clear H
              have p248 : 0 ≤ (x43_3 : Int) := of_decide_eq_true (by first | (with_reducible assumption) | assumption)
              have q248 : x43_3 < (t245.length : Int) := of_decide_eq_true (by first | (with_reducible assumption) | assumption)
              obtain ⟨ad248, e248, hx248_0⟩ := Kd.at_bool (Kd.R_reads' HO_41.out).2.2 x43_3 p248 q248
              (try rw [← Nbq48.out] at hx248_0)
              cases e248
              replace p248 := eq_true p248
              replace q248 := eq_true q248
              go_wp2
              go_roundg k3
              case measure => have := HJ2.out; have := HJ16.out; have := HK3.out; omega
              case rel => exact ⟨(x6_3), (wrap64 (x43_3 + 1)), (by first | rfl | (simp; done) | (simp [*]; done)), H', ⟨by have := HJ2.out; have := HJ16.out; have := HK3.out; omega⟩, ⟨by (with_reducible repeat (first | apply Kd.R_alloc | apply Kd.R_drewN | apply Kd.R_drew)); exact HO_5.out⟩, ⟨by (with_reducible repeat (first | apply Kd.R_alloc | apply Kd.R_drewN | apply Kd.R_drew)); exact HO_6.out⟩, ⟨by (with_reducible repeat (first | apply Kd.R_alloc | apply Kd.R_drewN | apply Kd.R_drew)); exact HO_41.out⟩, ⟨by (with_reducible repeat (first | refine blk_drewN ?_ _ | refine blk_drew ?_ | refine blk_alloc ?_ _)); exact BK231.out⟩, ⟨by repeat (first | (with_reducible first | exact HB.out | apply below_alloc | apply pw_below_drewN | apply below_drew1 | refine below_set ?_ GE231.out) | exact HB.out)⟩⟩
           ·rw [if_neg c47] at H
            exact absurd H (by simp)
          ·rw [if_neg c46] at H
           exact absurd H (by simp)
         ·rw [if_neg c45] at H
          have c45b0 : decide (x43_3 < (t245.length : Int)) = false := decide_eq_false c45
          clear c45
          replace H := Option.bind_eq_some_iff.mp H
          obtain ⟨t255, A550, H⟩ := H
          replace H : (some t255) = some r := H
          have A55 := Aside0.mk A550
          clear A550
          obtain rfl := Option.some.inj H
          obtain ⟨Ao56, co56, eo56⟩ := Kd.R_slice HO_5.out
          subst eo56
          obtain ⟨Ao57, co57, eo57⟩ := Kd.R_slice HO_6.out
          subst eo57
          go_wp2_with (first | ((with_reducible refine gate_callee (f := 22) rfl ?_); refine goesL_ (some 61) rfl rfl Try.func22 (by kernel_rfl) rfl #[.slice Ao56 t239.length co56, .slice Ao57 x6_3.length co57] rfl (by (try simp only [List.map_toArray, List.map_cons, List.map_nil]); first | done | rfl | (simp only [List.length_drop, List.length_take]; rfl)) ?_; (with_reducible refine (dioramaref09_Ints.calls k3 _ _ t239 _ _ x6_3 t255 _ ?side1 ?side2 ?side3 ?side4 A55.out).mono ?_); (case side1 => repeat (first | exact (Kd.R_reads' HO_5.out).2.2 | (with_reducible refine Kd.C_alloc ?_ _) | (with_reducible refine Kd.C_drewN ?_ _) | (with_reducible refine Kd.C_drew ?_))); (case side2 => exact (Kd.R_reads' HO_5.out).2.1); (case side3 => repeat (first | exact (Kd.R_reads' HO_6.out).2.2 | (with_reducible refine Kd.C_alloc ?_ _) | (with_reducible refine Kd.C_drewN ?_ _) | (with_reducible refine Kd.C_drew ?_))); (case side4 => exact (Kd.R_reads' HO_6.out).2.1); rintro e w' ⟨rfl, ⟨nd, rfl⟩⟩; refine ⟨_, rfl, ?_⟩))
          go_ret
          exact ⟨by first | rfl | (simp [errW_none, errW_some] <;> rfl) | (simp [*, errW_none, errW_some] <;> rfl), by repeat (first | (with_reducible first | exact HB.out | apply below_alloc | apply pw_below_drewN | apply below_drew1 | refine below_set ?_ GE231.out) | exact HB.out)⟩

end Go.Proofs.Ytlfjjapndlkamaa.GB
