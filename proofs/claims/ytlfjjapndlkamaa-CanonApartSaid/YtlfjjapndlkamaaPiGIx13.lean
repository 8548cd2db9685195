-- Printed by a program of the session (wip/gen/tprint.py, over a turned copy of the kit's print): Lean checks it.
import Derived.Test.YtlfjjapndlkamaaPiGIx0
import Derived.Test.YtlfjjapndlkamaaPiGIx4
import Derived.Test.YtlfjjapndlkamaaPiGIx5
import Derived.Test.YtlfjjapndlkamaaPiGIx6
import Derived.Test.YtlfjjapndlkamaaPiGIx9
import Derived.Test.YtlfjjapndlkamaaPiGIx12
namespace Go.Proofs.Ytlfjjapndlkamaa.GI
open Go.RowKit Go.Proofs.YtlfjjapndlkamaaW.PrintWords Go.Proofs.YtlfjjapndlkamaaW.PrintLast Go.Proofs.YtlfjjapndlkamaaW.PrintMore
attribute [local go_sem] max2_int min2_int max_two min_two max_three min_three max_four min_four   -- for this text's walks alone
set_option linter.unusedVariables false
set_option linter.unusedSimpArgs false

/-! ### dioramalaw10_CanonApart: function 7 -/
def dioramalaw10_CanonApart.j0 : Nat → Int → Int → Bool → List (S40) → Int → Option (Bool)
 | 0, _, _, _, _, _ => none
 | k + 1, x1, x2, x43, x260000, x260001 => if x43 = true then ((dioramalaw10_awake.f k).bind fun t265 => (some t265)) else ((dioramaref09_Copy.f k x260000 x260001).bind fun bt266 => (if 0 ≤ x1 then (if x1 < (x260000.length : Int) then (if 0 ≤ x2 then (if x2 < (((rd_T40 x260000 x1).f3).length : Int) then (if 0 ≤ (rd ((rd_T40 x260000 x1).f3) x2) then (if (rd ((rd_T40 x260000 x1).f3) x2) < (x260000.length : Int) then ((dioramaref08_Copy.f ((rd_T40 x260000 (rd ((rd_T40 x260000 x1).f3) x2)).f0) ((rd_T40 x260000 (rd ((rd_T40 x260000 x1).f3) x2)).f1) ((rd_T40 x260000 (rd ((rd_T40 x260000 x1).f3) x2)).f2) ((rd_T40 x260000 (rd ((rd_T40 x260000 x1).f3) x2)).f3)).bind fun bt274 => (if bt266.1.length < 1759218604441 then ((some (bt266.1 ++ [(⟨bt274.1, bt274.2.1, bt274.2.2.1, bt274.2.2.2⟩ : S40)] : List (S40))).bind fun y284 => (if x1 < (y284.length : Int) then (if x2 < (((rd_T40 y284 x1).f3).length : Int) then ((canon_Canon.f k x260000 x260001).bind fun bt291 => ((canon_Canon.f k (y284.set (x1 : Int).toNat (⟨(rd_T40 y284 x1).f0, (rd_T40 y284 x1).f1, (rd_T40 y284 x1).f2, (((rd_T40 y284 x1).f3).set (x2 : Int).toNat (wrap64 ((y284.length : Int) - 1)))⟩ : S40)) bt266.2).bind fun bt297 => (if bt297.2.2 = 0 then (if (bt297.1.length : Int) = (wrap64 ((bt291.1.length : Int) + 1)) then ((dioramaref09_Same.f k bt291.1 bt291.2.1 bt297.1 bt297.2.1).bind fun t303 => (some (!t303))) else (some false)) else (some (bt297.2.2 == 15))))) else (none)) else (none))) else (none))) else (none)) else (none)) else (none)) else (none)) else (none)) else (none)))
def dioramalaw10_CanonApart.f (k : Nat) (l0_0 : List (S40)) (a0_1 : Int) (a1 : Int) (a2 : Int) : Option (Bool) := (dioramalaw10_awake.f k).bind fun t260 => (if t260 = true then ((dioramaref09_Great.f k l0_0 a0_1).bind fun t261 => (if t261 = true then (dioramalaw10_CanonApart.j0 k a1 a2 true l0_0 a0_1) else ((dioramaref09_Right.f k l0_0 a0_1).bind fun t262 => (if t262 = true then ((dioramaref09_Place.f l0_0 a0_1 a1).bind fun t263 => (if t263 = true then (if a2 < 0 then (dioramalaw10_CanonApart.j0 k a1 a2 true l0_0 a0_1) else (if 0 ≤ a1 then (if a1 < (l0_0.length : Int) then (dioramalaw10_CanonApart.j0 k a1 a2 (decide (a2 ≥ (((rd_T40 l0_0 a1).f3).length : Int))) l0_0 a0_1) else (none)) else (none))) else (dioramalaw10_CanonApart.j0 k a1 a2 true l0_0 a0_1))) else (dioramalaw10_CanonApart.j0 k a1 a2 true l0_0 a0_1))))) else (dioramalaw10_CanonApart.j0 k a1 a2 true l0_0 a0_1))
theorem dioramalaw10_CanonApart.mono_l : ∀ k, (∀ y0 y1 y2 y3 y4, LeO (dioramalaw10_CanonApart.j0 k y0 y1 y2 y3 y4) (dioramalaw10_CanonApart.j0 (k + 1) y0 y1 y2 y3 y4))
 | 0 => fun _ _ _ _ _ r h => by simp [dioramalaw10_CanonApart.j0] at h
 | k + 1 => by
  have ih0 := dioramalaw10_CanonApart.mono_l k
  ·intro y0 y1 y2 y3 y4
   unfold dioramalaw10_CanonApart.j0
   repeat' first
   | (with_reducible exact ih0 _ _ _ _ _)
   | (with_reducible exact canon_Canon.mono _ _ _)
   | (with_reducible exact dioramalaw10_awake.mono _)
   | (with_reducible exact dioramaref09_Copy.mono _ _ _)
   | (with_reducible exact dioramaref09_Great.mono _ _ _)
   | (with_reducible exact dioramaref09_Right.mono _ _ _)
   | (with_reducible exact dioramaref09_Same.mono _ _ _ _ _)
   | (with_reducible exact LeO.refl _)
   | (with_reducible exact LeO.none _)
   | (with_reducible refine LeO.ite ?_ ?_)
   | (with_reducible refine LeO.bind ?_ (fun _ => ?_))
   | exact ih0 _ _ _ _ _
   | exact canon_Canon.mono _ _ _
   | exact dioramalaw10_awake.mono _
   | exact dioramaref09_Copy.mono _ _ _
   | exact dioramaref09_Great.mono _ _ _
   | exact dioramaref09_Right.mono _ _ _
   | exact dioramaref09_Same.mono _ _ _ _ _
   | exact LeO.none _
   | refine LeO.ite ?_ ?_
   | refine LeO.bind ?_ (fun _ => ?_)
theorem dioramalaw10_CanonApart.mono : ∀ a0 a1 a2 a3 k, LeO (dioramalaw10_CanonApart.f k a0 a1 a2 a3) (dioramalaw10_CanonApart.f (k + 1) a0 a1 a2 a3) := by
 intro a0 a1 a2 a3 k
 have ih0 := dioramalaw10_CanonApart.mono_l k
 unfold dioramalaw10_CanonApart.f
 repeat' first
   | (with_reducible exact ih0 _ _ _ _ _)
   | (with_reducible exact canon_Canon.mono _ _ _)
   | (with_reducible exact dioramalaw10_awake.mono _)
   | (with_reducible exact dioramaref09_Copy.mono _ _ _)
   | (with_reducible exact dioramaref09_Great.mono _ _ _)
   | (with_reducible exact dioramaref09_Right.mono _ _ _)
   | (with_reducible exact dioramaref09_Same.mono _ _ _ _ _)
   | (with_reducible exact LeO.refl _)
   | (with_reducible exact LeO.none _)
   | (with_reducible refine LeO.ite ?_ ?_)
   | (with_reducible refine LeO.bind ?_ (fun _ => ?_))
   | exact ih0 _ _ _ _ _
   | exact canon_Canon.mono _ _ _
   | exact dioramalaw10_awake.mono _
   | exact dioramaref09_Copy.mono _ _ _
   | exact dioramaref09_Great.mono _ _ _
   | exact dioramaref09_Right.mono _ _ _
   | exact dioramaref09_Same.mono _ _ _ _ _
   | exact LeO.none _
   | refine LeO.ite ?_ ?_
   | refine LeO.bind ?_ (fun _ => ?_)
def dioramalaw10_CanonApart.T4 : Bool × List (List Nat × List Nat) := (true, [([], []), ([0], [0]), ([], []), ([2], [2]), ([], []), ([4], [4]), ([], []), ([5, 6], [5, 6]), ([7], [7]), ([8], [8]), ([], []), ([9, 10], [9, 10]), ([11], [11]), ([3, 12], [3, 12]), ([13], [13]), ([14], [14]), ([15], [15]), ([1, 16, 15], [1, 16]), ([0, 1, 2, 3, 4, 5, 6, 7, 8, 9, 10, 11, 12, 13, 14, 15, 16, 17], []), ([18, 17, 17, 0, 1, 2, 3, 4, 5, 6, 7, 8, 9, 10, 11, 12, 13, 14, 15, 16, 17], [17, 18])])
def dioramalaw10_CanonApart.B4 : List Nat := [0, 1, 0, 4, 0, 16, 0, 112, 240, 496, 0, 2032, 4080, 8188, 16380, 32764, 65532, 131071, 262143, 524287]
theorem dioramalaw10_CanonApart.tab4 : rtab .any (opsOf Try.f7 4) = dioramalaw10_CanonApart.T4 := by kernel_rfl
theorem dioramalaw10_CanonApart.bits4 : waitsOk dioramalaw10_CanonApart.T4.2 dioramalaw10_CanonApart.B4 = true := by kernel_rfl
def dioramalaw10_CanonApart.T5 : Bool × List (List Nat × List Nat) := (true, [([], []), ([0], [0]), ([], []), ([1, 2], [1, 2]), ([3], [3]), ([4], [4]), ([], []), ([], []), ([7], [7]), ([8], [8]), ([9], [9]), ([5, 6, 0, 1, 2, 3, 4, 5, 6, 7, 8, 9, 10], [5, 6]), ([11, 10, 0, 1, 2, 3, 4, 5, 6, 7, 8, 9, 10], [10, 11])])
def dioramalaw10_CanonApart.B5 : List Nat := [0, 1, 0, 7, 15, 31, 0, 0, 128, 384, 896, 2047, 4095]
theorem dioramalaw10_CanonApart.tab5 : rtab .any (opsOf Try.f7 5) = dioramalaw10_CanonApart.T5 := by kernel_rfl
theorem dioramalaw10_CanonApart.bits5 : waitsOk dioramalaw10_CanonApart.T5.2 dioramalaw10_CanonApart.B5 = true := by kernel_rfl
set_option maxHeartbeats 8000000 in
set_option maxRecDepth 100000 in
theorem dioramalaw10_CanonApart.calls (k : Nat) (A0_0 : Option Addr) (c0_0 : Nat) (l0_0 : List (S40)) (a0_1 : Int) (a1 : Int) (a2 : Int) (r : Bool) (w : World) (hr0_0 : Kd.C k40 w A0_0 l0_0.length l0_0) (hc0_0 : l0_0.length ≤ c0_0) (h : dioramalaw10_CanonApart.f k l0_0 a0_1 a1 a2 = some r) :
  Calls Try.prog 7 #[.agg #[.slice A0_0 l0_0.length c0_0, .int .i64 a0_1], .int .i64 a1, .int .i64 a2] w fun e w' => e = .returned (.bool r) ∧ Below w.heap.size w w' := by
 have hu24 := Try.underlying24
 have hu40 := Try.underlying40
 have HR0_0 := Aside0.mk hr0_0
 have HC0_0 := Aside0.mk hc0_0
 clear hr0_0 hc0_0
 have HB := Aside0.mk (Below.refl w.heap.size w)
 have H : ((dioramalaw10_awake.f k).bind fun t260 => (if t260 = true then ((dioramaref09_Great.f k l0_0 a0_1).bind fun t261 => (if t261 = true then (dioramalaw10_CanonApart.j0 k a1 a2 true l0_0 a0_1) else ((dioramaref09_Right.f k l0_0 a0_1).bind fun t262 => (if t262 = true then ((dioramaref09_Place.f l0_0 a0_1 a1).bind fun t263 => (if t263 = true then (if a2 < 0 then (dioramalaw10_CanonApart.j0 k a1 a2 true l0_0 a0_1) else (if 0 ≤ a1 then (if a1 < (l0_0.length : Int) then (dioramalaw10_CanonApart.j0 k a1 a2 (decide (a2 ≥ (((rd_T40 l0_0 a1).f3).length : Int))) l0_0 a0_1) else (none)) else (none))) else (dioramalaw10_CanonApart.j0 k a1 a2 true l0_0 a0_1))) else (dioramalaw10_CanonApart.j0 k a1 a2 true l0_0 a0_1))))) else (dioramalaw10_CanonApart.j0 k a1 a2 true l0_0 a0_1))) = some r := h
 clear h
 have HC4 := Aside0.mk H
 clear H
 go_enter Try.func7, Try.ntmps7
 go_upto_region 1 with (first | ((with_reducible refine gate_dst (N := 3) rfl ?_); refine box_event ?hg (N := 3) ?hd (cs := #[.slice A0_0 l0_0.length c0_0, .int .i64 a0_1]) (t := 24) ?hr ?_; (case hd => rfl); (case hg => rfl); (case hr => first | (go_simp; done) | (go_simp; rfl)); intro gb259 hg w5 hbox hb; have n0_ := Aside0.mk (below_step (BB HB) hb); have n1_ := Aside0.mk (hbox); have n2_ := Aside0.mk ((by rw [hg]; exact (below_size (BB HB)) : w.heap.size ≤ gb259)); have n3_ := Aside0.mk ((by rw [hg]; exact (below_size (BB HB)) : w.heap.size ≤ gb259)); clear HB; have HB := n0_; have BK259 := n1_; have GW259 := n2_; have GE259 := n3_; clear n0_ n1_ n2_ n3_; clear hb hbox hg))
 (try simp only [Act.put, List.setIfInBounds_toArray, List.set_cons_zero, List.set_cons_succ])
 go_cut [43] (fun v43 wc => ∃ (kq : Nat) (x43_3 : Bool), v43 = .bool x43_3 ∧ Aside0 (dioramalaw10_CanonApart.j0 kq a1 a2 x43_3 l0_0 a0_1 = some r) ∧ Aside0 (kq ≤ k) ∧ Aside0 (wc.heap[gb259]? = some (.cells #[(.slice A0_0 l0_0.length c0_0), .int .i64 a0_1] 24 (0, 0))) ∧ Aside0 (Below w.heap.size w wc))
 case first =>
  have H := HC4.out
  clear HC4
  replace H := Option.bind_eq_some_iff.mp H
  obtain ⟨t260, A60, H⟩ := H
  replace H : (if t260 = true then ((dioramaref09_Great.f k l0_0 a0_1).bind fun t261 => (if t261 = true then (dioramalaw10_CanonApart.j0 k a1 a2 true l0_0 a0_1) else ((dioramaref09_Right.f k l0_0 a0_1).bind fun t262 => (if t262 = true then ((dioramaref09_Place.f l0_0 a0_1 a1).bind fun t263 => (if t263 = true then (if a2 < 0 then (dioramalaw10_CanonApart.j0 k a1 a2 true l0_0 a0_1) else (if 0 ≤ a1 then (if a1 < (l0_0.length : Int) then (dioramalaw10_CanonApart.j0 k a1 a2 (decide (a2 ≥ (((rd_T40 l0_0 a1).f3).length : Int))) l0_0 a0_1) else (none)) else (none))) else (dioramalaw10_CanonApart.j0 k a1 a2 true l0_0 a0_1))) else (dioramalaw10_CanonApart.j0 k a1 a2 true l0_0 a0_1))))) else (dioramalaw10_CanonApart.j0 k a1 a2 true l0_0 a0_1)) = some r := H
  have A6 := Aside0.mk A60
  clear A60
  by_cases c7 : t260 = true
  ·subst c7
   have H1 : ((dioramaref09_Great.f k l0_0 a0_1).bind fun t261 => (if t261 = true then (dioramalaw10_CanonApart.j0 k a1 a2 true l0_0 a0_1) else ((dioramaref09_Right.f k l0_0 a0_1).bind fun t262 => (if t262 = true then ((dioramaref09_Place.f l0_0 a0_1 a1).bind fun t263 => (if t263 = true then (if a2 < 0 then (dioramalaw10_CanonApart.j0 k a1 a2 true l0_0 a0_1) else (if 0 ≤ a1 then (if a1 < (l0_0.length : Int) then (dioramalaw10_CanonApart.j0 k a1 a2 (decide (a2 ≥ (((rd_T40 l0_0 a1).f3).length : Int))) l0_0 a0_1) else (none)) else (none))) else (dioramalaw10_CanonApart.j0 k a1 a2 true l0_0 a0_1))) else (dioramalaw10_CanonApart.j0 k a1 a2 true l0_0 a0_1))))) = some r := by rw [if_pos rfl] at H; exact H
   clear H
   have H := H1
   clear H1
   replace H := Option.bind_eq_some_iff.mp H
   obtain ⟨t261, A80, H⟩ := H
   replace H : (if t261 = true then (dioramalaw10_CanonApart.j0 k a1 a2 true l0_0 a0_1) else ((dioramaref09_Right.f k l0_0 a0_1).bind fun t262 => (if t262 = true then ((dioramaref09_Place.f l0_0 a0_1 a1).bind fun t263 => (if t263 = true then (if a2 < 0 then (dioramalaw10_CanonApart.j0 k a1 a2 true l0_0 a0_1) else (if 0 ≤ a1 then (if a1 < (l0_0.length : Int) then (dioramalaw10_CanonApart.j0 k a1 a2 (decide (a2 ≥ (((rd_T40 l0_0 a1).f3).length : Int))) l0_0 a0_1) else (none)) else (none))) else (dioramalaw10_CanonApart.j0 k a1 a2 true l0_0 a0_1))) else (dioramalaw10_CanonApart.j0 k a1 a2 true l0_0 a0_1)))) = some r := H
   have A8 := Aside0.mk A80
   clear A80
   by_cases c9 : t261 = true
   ·subst c9
    have H1 : (dioramalaw10_CanonApart.j0 k a1 a2 true l0_0 a0_1) = some r := by rw [if_pos rfl] at H; exact H
    clear H
    have H := H1
    clear H1
    have H' := Aside0.mk H
    clear H
    go_wp2_with (first | ((with_reducible refine gate_callee (f := 14) rfl ?_); refine goesL_ (some 12) rfl rfl Try.func14 (by kernel_rfl) rfl #[] rfl (by (try simp only [List.map_toArray, List.map_cons, List.map_nil]); first | done | rfl | (simp only [List.length_drop, List.length_take]; rfl)) ?_; (with_reducible refine (dioramalaw10_awake.calls k  true _ A6.out).mono ?_); rintro e w10 ⟨rfl, hb⟩; refine ⟨_, rfl, ?_⟩; have n0_ := BE BK259 hb; have n1_ := Aside0.mk (below_step (BB HB) hb); clear BK259; clear HB; have BK259 := n0_; have HB := n1_; clear n0_ n1_; (try clear hb); (try clear hb2); (try clear hk); (try clear hi); have hcz11_0 : w10.cell? ⟨gb259, 0, none⟩ = some (.slice A0_0 l0_0.length c0_0) := (blk_cell BK259.out 0).trans rfl; have hcz11_1 : w10.cell? ⟨gb259, 1, none⟩ = some (.int .i64 a0_1) := (blk_cell BK259.out 1).trans rfl; have hfz11_0 := blk_frozen BK259.out 0; have hfz11_1 := blk_frozen BK259.out 1) | (go_at_call 15; (with_reducible refine (dioramaref09_Great.calls k _ _ l0_0 a0_1 true _ ?side1 ?side2 A8.out).mono ?_); (case side1 => repeat (first | exact (Kd.C_below HR0_0.out HB.out) | (with_reducible refine Kd.C_alloc ?_ _) | (with_reducible refine Kd.C_drewN ?_ _) | (with_reducible refine Kd.C_drew ?_))); (case side2 => exact HC0_0.out); rintro e w12 ⟨rfl, hb⟩; have n0_ := BE BK259 hb; have n1_ := Aside0.mk (below_step (BB HB) hb); clear BK259; clear HB; have BK259 := n0_; have HB := n1_; clear n0_ n1_; (try clear hb); (try clear hb2); (try clear hk); (try clear hi)))
    go_meet
    case rel => exact ⟨_, (true), (by first | rfl | (simp; done) | (simp [*]; done)), H', ⟨by first | omega | exact Nat.le_refl _⟩, ⟨BL BK259⟩, ⟨BB HB⟩⟩
   ·replace c9 := Bool.eq_false_iff.mpr c9
    subst c9
    have H1 : ((dioramaref09_Right.f k l0_0 a0_1).bind fun t262 => (if t262 = true then ((dioramaref09_Place.f l0_0 a0_1 a1).bind fun t263 => (if t263 = true then (if a2 < 0 then (dioramalaw10_CanonApart.j0 k a1 a2 true l0_0 a0_1) else (if 0 ≤ a1 then (if a1 < (l0_0.length : Int) then (dioramalaw10_CanonApart.j0 k a1 a2 (decide (a2 ≥ (((rd_T40 l0_0 a1).f3).length : Int))) l0_0 a0_1) else (none)) else (none))) else (dioramalaw10_CanonApart.j0 k a1 a2 true l0_0 a0_1))) else (dioramalaw10_CanonApart.j0 k a1 a2 true l0_0 a0_1))) = some r := by rw [if_neg (show ¬ (false = true) by decide)] at H; exact H
    clear H
    have H := H1
    clear H1
    replace H := Option.bind_eq_some_iff.mp H
    obtain ⟨t262, A130, H⟩ := H
    replace H : (if t262 = true then ((dioramaref09_Place.f l0_0 a0_1 a1).bind fun t263 => (if t263 = true then (if a2 < 0 then (dioramalaw10_CanonApart.j0 k a1 a2 true l0_0 a0_1) else (if 0 ≤ a1 then (if a1 < (l0_0.length : Int) then (dioramalaw10_CanonApart.j0 k a1 a2 (decide (a2 ≥ (((rd_T40 l0_0 a1).f3).length : Int))) l0_0 a0_1) else (none)) else (none))) else (dioramalaw10_CanonApart.j0 k a1 a2 true l0_0 a0_1))) else (dioramalaw10_CanonApart.j0 k a1 a2 true l0_0 a0_1)) = some r := H
    have A13 := Aside0.mk A130
    clear A130
    by_cases c14 : t262 = true
    ·subst c14
     have H1 : ((dioramaref09_Place.f l0_0 a0_1 a1).bind fun t263 => (if t263 = true then (if a2 < 0 then (dioramalaw10_CanonApart.j0 k a1 a2 true l0_0 a0_1) else (if 0 ≤ a1 then (if a1 < (l0_0.length : Int) then (dioramalaw10_CanonApart.j0 k a1 a2 (decide (a2 ≥ (((rd_T40 l0_0 a1).f3).length : Int))) l0_0 a0_1) else (none)) else (none))) else (dioramalaw10_CanonApart.j0 k a1 a2 true l0_0 a0_1))) = some r := by rw [if_pos rfl] at H; exact H
     clear H
     have H := H1
     clear H1
     replace H := Option.bind_eq_some_iff.mp H
     obtain ⟨t263, A150, H⟩ := H
     replace H : (if t263 = true then (if a2 < 0 then (dioramalaw10_CanonApart.j0 k a1 a2 true l0_0 a0_1) else (if 0 ≤ a1 then (if a1 < (l0_0.length : Int) then (dioramalaw10_CanonApart.j0 k a1 a2 (decide (a2 ≥ (((rd_T40 l0_0 a1).f3).length : Int))) l0_0 a0_1) else (none)) else (none))) else (dioramalaw10_CanonApart.j0 k a1 a2 true l0_0 a0_1)) = some r := H
     have A15 := Aside0.mk A150
     clear A150
     by_cases c16 : t263 = true
     ·subst c16
      have H1 : (if a2 < 0 then (dioramalaw10_CanonApart.j0 k a1 a2 true l0_0 a0_1) else (if 0 ≤ a1 then (if a1 < (l0_0.length : Int) then (dioramalaw10_CanonApart.j0 k a1 a2 (decide (a2 ≥ (((rd_T40 l0_0 a1).f3).length : Int))) l0_0 a0_1) else (none)) else (none))) = some r := by rw [if_pos rfl] at H; exact H
      clear H
      have H := H1
      clear H1
      by_cases c17 : a2 < 0
      ·rw [if_pos c17] at H
       have c17b0 : decide (a2 < 0) = true := decide_eq_true c17
       clear c17
       (first | rw [c17b0] | (simp only [i64_w, i32_w]; rw [c17b0]) | skip)
       have H' := Aside0.mk H
       clear H
       go_wp2_with (first | ((with_reducible refine gate_callee (f := 14) rfl ?_); refine goesL_ (some 12) rfl rfl Try.func14 (by kernel_rfl) rfl #[] rfl (by (try simp only [List.map_toArray, List.map_cons, List.map_nil]); first | done | rfl | (simp only [List.length_drop, List.length_take]; rfl)) ?_; (with_reducible refine (dioramalaw10_awake.calls k  true _ A6.out).mono ?_); rintro e w18 ⟨rfl, hb⟩; refine ⟨_, rfl, ?_⟩; have n0_ := BE BK259 hb; have n1_ := Aside0.mk (below_step (BB HB) hb); clear BK259; clear HB; have BK259 := n0_; have HB := n1_; clear n0_ n1_; (try clear hb); (try clear hb2); (try clear hk); (try clear hi); have hcz19_0 : w18.cell? ⟨gb259, 0, none⟩ = some (.slice A0_0 l0_0.length c0_0) := (blk_cell BK259.out 0).trans rfl; have hcz19_1 : w18.cell? ⟨gb259, 1, none⟩ = some (.int .i64 a0_1) := (blk_cell BK259.out 1).trans rfl; have hfz19_0 := blk_frozen BK259.out 0; have hfz19_1 := blk_frozen BK259.out 1) | (go_at_call 15; (with_reducible refine (dioramaref09_Great.calls k _ _ l0_0 a0_1 false _ ?side1 ?side2 A8.out).mono ?_); (case side1 => repeat (first | exact (Kd.C_below HR0_0.out HB.out) | (with_reducible refine Kd.C_alloc ?_ _) | (with_reducible refine Kd.C_drewN ?_ _) | (with_reducible refine Kd.C_drew ?_))); (case side2 => exact HC0_0.out); rintro e w20 ⟨rfl, hb⟩; have n0_ := BE BK259 hb; have n1_ := Aside0.mk (below_step (BB HB) hb); clear BK259; clear HB; have BK259 := n0_; have HB := n1_; clear n0_ n1_; (try clear hb); (try clear hb2); (try clear hk); (try clear hi); have hcz21_0 : w20.cell? ⟨gb259, 0, none⟩ = some (.slice A0_0 l0_0.length c0_0) := (blk_cell BK259.out 0).trans rfl; have hcz21_1 : w20.cell? ⟨gb259, 1, none⟩ = some (.int .i64 a0_1) := (blk_cell BK259.out 1).trans rfl; have hfz21_0 := blk_frozen BK259.out 0; have hfz21_1 := blk_frozen BK259.out 1) | (go_at_call 26; (with_reducible refine (dioramaref09_Right.calls k _ _ l0_0 a0_1 true _ ?side1 ?side2 A13.out).mono ?_); (case side1 => repeat (first | exact (Kd.C_below HR0_0.out HB.out) | (with_reducible refine Kd.C_alloc ?_ _) | (with_reducible refine Kd.C_drewN ?_ _) | (with_reducible refine Kd.C_drew ?_))); (case side2 => exact HC0_0.out); rintro e w22 ⟨rfl, hb⟩; have n0_ := BE BK259 hb; have n1_ := Aside0.mk (below_step (BB HB) hb); clear BK259; clear HB; have BK259 := n0_; have HB := n1_; clear n0_ n1_; (try clear hb); (try clear hb2); (try clear hk); (try clear hi); have hcz23_0 : w22.cell? ⟨gb259, 0, none⟩ = some (.slice A0_0 l0_0.length c0_0) := (blk_cell BK259.out 0).trans rfl; have hcz23_1 : w22.cell? ⟨gb259, 1, none⟩ = some (.int .i64 a0_1) := (blk_cell BK259.out 1).trans rfl; have hfz23_0 := blk_frozen BK259.out 0; have hfz23_1 := blk_frozen BK259.out 1) | (go_at_call 27; (with_reducible refine (dioramaref09_Place.calls _ _ l0_0 a0_1 a1 true _ ?side1 ?side2 A15.out).mono ?_); (case side1 => repeat (first | exact (Kd.C_below HR0_0.out HB.out) | (with_reducible refine Kd.C_alloc ?_ _) | (with_reducible refine Kd.C_drewN ?_ _) | (with_reducible refine Kd.C_drew ?_))); (case side2 => exact HC0_0.out); rintro e w24 ⟨rfl, hb⟩; have n0_ := BE BK259 hb; have n1_ := Aside0.mk (below_step (BB HB) hb); clear BK259; clear HB; have BK259 := n0_; have HB := n1_; clear n0_ n1_; (try clear hb); (try clear hb2); (try clear hk); (try clear hi)))
       go_meet
       case rel => exact ⟨_, (true), (by first | rfl | (simp; done) | (simp [*]; done)), H', ⟨by first | omega | exact Nat.le_refl _⟩, ⟨BL BK259⟩, ⟨BB HB⟩⟩
      ·rw [if_neg c17] at H
       have c17b0 : decide (a2 < 0) = false := decide_eq_false c17
       clear c17
       (first | rw [c17b0] | (simp only [i64_w, i32_w]; rw [c17b0]) | skip)
       by_cases c25 : 0 ≤ a1
       ·rw [if_pos c25] at H
        have c25b0 : decide (0 ≤ a1) = true := decide_eq_true c25
        clear c25
        by_cases c26 : a1 < (l0_0.length : Int)
        ·rw [if_pos c26] at H
         have c26b0 : decide (a1 < (l0_0.length : Int)) = true := decide_eq_true c26
         clear c26
         have H' := Aside0.mk H
         clear H
         go_wp2_with (first | ((with_reducible refine gate_callee (f := 14) rfl ?_); refine goesL_ (some 12) rfl rfl Try.func14 (by kernel_rfl) rfl #[] rfl (by (try simp only [List.map_toArray, List.map_cons, List.map_nil]); first | done | rfl | (simp only [List.length_drop, List.length_take]; rfl)) ?_; (with_reducible refine (dioramalaw10_awake.calls k  true _ A6.out).mono ?_); rintro e w27 ⟨rfl, hb⟩; refine ⟨_, rfl, ?_⟩; have n0_ := BE BK259 hb; have n1_ := Aside0.mk (below_step (BB HB) hb); clear BK259; clear HB; have BK259 := n0_; have HB := n1_; clear n0_ n1_; (try clear hb); (try clear hb2); (try clear hk); (try clear hi); have hcz28_0 : w27.cell? ⟨gb259, 0, none⟩ = some (.slice A0_0 l0_0.length c0_0) := (blk_cell BK259.out 0).trans rfl; have hcz28_1 : w27.cell? ⟨gb259, 1, none⟩ = some (.int .i64 a0_1) := (blk_cell BK259.out 1).trans rfl; have hfz28_0 := blk_frozen BK259.out 0; have hfz28_1 := blk_frozen BK259.out 1) | (go_at_call 15; (with_reducible refine (dioramaref09_Great.calls k _ _ l0_0 a0_1 false _ ?side1 ?side2 A8.out).mono ?_); (case side1 => repeat (first | exact (Kd.C_below HR0_0.out HB.out) | (with_reducible refine Kd.C_alloc ?_ _) | (with_reducible refine Kd.C_drewN ?_ _) | (with_reducible refine Kd.C_drew ?_))); (case side2 => exact HC0_0.out); rintro e w29 ⟨rfl, hb⟩; have n0_ := BE BK259 hb; have n1_ := Aside0.mk (below_step (BB HB) hb); clear BK259; clear HB; have BK259 := n0_; have HB := n1_; clear n0_ n1_; (try clear hb); (try clear hb2); (try clear hk); (try clear hi); have hcz30_0 : w29.cell? ⟨gb259, 0, none⟩ = some (.slice A0_0 l0_0.length c0_0) := (blk_cell BK259.out 0).trans rfl; have hcz30_1 : w29.cell? ⟨gb259, 1, none⟩ = some (.int .i64 a0_1) := (blk_cell BK259.out 1).trans rfl; have hfz30_0 := blk_frozen BK259.out 0; have hfz30_1 := blk_frozen BK259.out 1) | (go_at_call 26; (with_reducible refine (dioramaref09_Right.calls k _ _ l0_0 a0_1 true _ ?side1 ?side2 A13.out).mono ?_); (case side1 => repeat (first | exact (Kd.C_below HR0_0.out HB.out) | (with_reducible refine Kd.C_alloc ?_ _) | (with_reducible refine Kd.C_drewN ?_ _) | (with_reducible refine Kd.C_drew ?_))); (case side2 => exact HC0_0.out); rintro e w31 ⟨rfl, hb⟩; have n0_ := BE BK259 hb; have n1_ := Aside0.mk (below_step (BB HB) hb); clear BK259; clear HB; have BK259 := n0_; have HB := n1_; clear n0_ n1_; (try clear hb); (try clear hb2); (try clear hk); (try clear hi); have hcz32_0 : w31.cell? ⟨gb259, 0, none⟩ = some (.slice A0_0 l0_0.length c0_0) := (blk_cell BK259.out 0).trans rfl; have hcz32_1 : w31.cell? ⟨gb259, 1, none⟩ = some (.int .i64 a0_1) := (blk_cell BK259.out 1).trans rfl; have hfz32_0 := blk_frozen BK259.out 0; have hfz32_1 := blk_frozen BK259.out 1) | (go_at_call 27; (with_reducible refine (dioramaref09_Place.calls _ _ l0_0 a0_1 a1 true _ ?side1 ?side2 A15.out).mono ?_); (case side1 => repeat (first | exact (Kd.C_below HR0_0.out HB.out) | (with_reducible refine Kd.C_alloc ?_ _) | (with_reducible refine Kd.C_drewN ?_ _) | (with_reducible refine Kd.C_drew ?_))); (case side2 => exact HC0_0.out); rintro e w33 ⟨rfl, hb⟩; have n0_ := BE BK259 hb; have n1_ := Aside0.mk (below_step (BB HB) hb); clear BK259; clear HB; have BK259 := n0_; have HB := n1_; clear n0_ n1_; (try clear hb); (try clear hb2); (try clear hk); (try clear hi); have hcz34_0 : w33.cell? ⟨gb259, 0, none⟩ = some (.slice A0_0 l0_0.length c0_0) := (blk_cell BK259.out 0).trans rfl; have hcz34_1 : w33.cell? ⟨gb259, 1, none⟩ = some (.int .i64 a0_1) := (blk_cell BK259.out 1).trans rfl; have hfz34_0 := blk_frozen BK259.out 0; have hfz34_1 := blk_frozen BK259.out 1; have p264 : 0 ≤ (a1 : Int) := of_decide_eq_true (by first | (with_reducible assumption) | assumption); have q264 : a1 < (l0_0.length : Int) := of_decide_eq_true (by first | (with_reducible assumption) | assumption); obtain ⟨ad264, A264_1, c264_1, A264_2, c264_2, A264_3, c264_3, e264, hx264_0, hx264_1, hx264_2, hx264_3, hl264_1, hi264_1, hl264_2, hi264_2, hl264_3, hi264_3⟩ := at_T40 HR0_0.out a1 p264 q264; cases e264; replace hx264_0 := (HB.out.cell (World.block_lt_of_cell? w _ hx264_0)).trans hx264_0; replace hx264_1 := (HB.out.cell (World.block_lt_of_cell? w _ hx264_1)).trans hx264_1; replace hx264_2 := (HB.out.cell (World.block_lt_of_cell? w _ hx264_2)).trans hx264_2; replace hx264_3 := (HB.out.cell (World.block_lt_of_cell? w _ hx264_3)).trans hx264_3; have HR264_1 := Aside0.mk hi264_1; have HC264_1 := Aside0.mk hl264_1; clear hi264_1 hl264_1; have HR264_2 := Aside0.mk hi264_2; have HC264_2 := Aside0.mk hl264_2; clear hi264_2 hl264_2; have HR264_3 := Aside0.mk hi264_3; have HC264_3 := Aside0.mk hl264_3; clear hi264_3 hl264_3; replace p264 := eq_true p264; replace q264 := eq_true q264))
         go_meet
         case rel => exact ⟨_, (decide (a2 ≥ (((rd_T40 l0_0 a1).f3).length : Int))), (by first | rfl | (simp; done) | (simp [*]; done)), H', ⟨by first | omega | exact Nat.le_refl _⟩, ⟨BL BK259⟩, ⟨BB HB⟩⟩
        ·rw [if_neg c26] at H
         exact absurd H (by simp)
       ·rw [if_neg c25] at H
        exact absurd H (by simp)
     ·replace c16 := Bool.eq_false_iff.mpr c16
      subst c16
      have H1 : (dioramalaw10_CanonApart.j0 k a1 a2 true l0_0 a0_1) = some r := by rw [if_neg (show ¬ (false = true) by decide)] at H; exact H
      clear H
      have H := H1
      clear H1
      have H' := Aside0.mk H
      clear H
      go_wp2_with (first | ((with_reducible refine gate_callee (f := 14) rfl ?_); refine goesL_ (some 12) rfl rfl Try.func14 (by kernel_rfl) rfl #[] rfl (by (try simp only [List.map_toArray, List.map_cons, List.map_nil]); first | done | rfl | (simp only [List.length_drop, List.length_take]; rfl)) ?_; (with_reducible refine (dioramalaw10_awake.calls k  true _ A6.out).mono ?_); rintro e w35 ⟨rfl, hb⟩; refine ⟨_, rfl, ?_⟩; have n0_ := BE BK259 hb; have n1_ := Aside0.mk (below_step (BB HB) hb); clear BK259; clear HB; have BK259 := n0_; have HB := n1_; clear n0_ n1_; (try clear hb); (try clear hb2); (try clear hk); (try clear hi); have hcz36_0 : w35.cell? ⟨gb259, 0, none⟩ = some (.slice A0_0 l0_0.length c0_0) := (blk_cell BK259.out 0).trans rfl; have hcz36_1 : w35.cell? ⟨gb259, 1, none⟩ = some (.int .i64 a0_1) := (blk_cell BK259.out 1).trans rfl; have hfz36_0 := blk_frozen BK259.out 0; have hfz36_1 := blk_frozen BK259.out 1) | (go_at_call 15; (with_reducible refine (dioramaref09_Great.calls k _ _ l0_0 a0_1 false _ ?side1 ?side2 A8.out).mono ?_); (case side1 => repeat (first | exact (Kd.C_below HR0_0.out HB.out) | (with_reducible refine Kd.C_alloc ?_ _) | (with_reducible refine Kd.C_drewN ?_ _) | (with_reducible refine Kd.C_drew ?_))); (case side2 => exact HC0_0.out); rintro e w37 ⟨rfl, hb⟩; have n0_ := BE BK259 hb; have n1_ := Aside0.mk (below_step (BB HB) hb); clear BK259; clear HB; have BK259 := n0_; have HB := n1_; clear n0_ n1_; (try clear hb); (try clear hb2); (try clear hk); (try clear hi); have hcz38_0 : w37.cell? ⟨gb259, 0, none⟩ = some (.slice A0_0 l0_0.length c0_0) := (blk_cell BK259.out 0).trans rfl; have hcz38_1 : w37.cell? ⟨gb259, 1, none⟩ = some (.int .i64 a0_1) := (blk_cell BK259.out 1).trans rfl; have hfz38_0 := blk_frozen BK259.out 0; have hfz38_1 := blk_frozen BK259.out 1) | (go_at_call 26; (with_reducible refine (dioramaref09_Right.calls k _ _ l0_0 a0_1 true _ ?side1 ?side2 A13.out).mono ?_); (case side1 => repeat (first | exact (Kd.C_below HR0_0.out HB.out) | (with_reducible refine Kd.C_alloc ?_ _) | (with_reducible refine Kd.C_drewN ?_ _) | (with_reducible refine Kd.C_drew ?_))); (case side2 => exact HC0_0.out); rintro e w39 ⟨rfl, hb⟩; have n0_ := BE BK259 hb; have n1_ := Aside0.mk (below_step (BB HB) hb); clear BK259; clear HB; have BK259 := n0_; have HB := n1_; clear n0_ n1_; (try clear hb); (try clear hb2); (try clear hk); (try clear hi); have hcz40_0 : w39.cell? ⟨gb259, 0, none⟩ = some (.slice A0_0 l0_0.length c0_0) := (blk_cell BK259.out 0).trans rfl; have hcz40_1 : w39.cell? ⟨gb259, 1, none⟩ = some (.int .i64 a0_1) := (blk_cell BK259.out 1).trans rfl; have hfz40_0 := blk_frozen BK259.out 0; have hfz40_1 := blk_frozen BK259.out 1) | (go_at_call 27; (with_reducible refine (dioramaref09_Place.calls _ _ l0_0 a0_1 a1 false _ ?side1 ?side2 A15.out).mono ?_); (case side1 => repeat (first | exact (Kd.C_below HR0_0.out HB.out) | (with_reducible refine Kd.C_alloc ?_ _) | (with_reducible refine Kd.C_drewN ?_ _) | (with_reducible refine Kd.C_drew ?_))); (case side2 => exact HC0_0.out); rintro e w41 ⟨rfl, hb⟩; have n0_ := BE BK259 hb; have n1_ := Aside0.mk (below_step (BB HB) hb); clear BK259; clear HB; have BK259 := n0_; have HB := n1_; clear n0_ n1_; (try clear hb); (try clear hb2); (try clear hk); (try clear hi)))
      go_meet
      case rel => exact ⟨_, (true), (by first | rfl | (simp; done) | (simp [*]; done)), H', ⟨by first | omega | exact Nat.le_refl _⟩, ⟨BL BK259⟩, ⟨BB HB⟩⟩
    ·replace c14 := Bool.eq_false_iff.mpr c14
     subst c14
     have H1 : (dioramalaw10_CanonApart.j0 k a1 a2 true l0_0 a0_1) = some r := by rw [if_neg (show ¬ (false = true) by decide)] at H; exact H
     clear H
     have H := H1
     clear H1
     have H' := Aside0.mk H
     clear H
     go_wp2_with (first | ((with_reducible refine gate_callee (f := 14) rfl ?_); refine goesL_ (some 12) rfl rfl Try.func14 (by kernel_rfl) rfl #[] rfl (by (try simp only [List.map_toArray, List.map_cons, List.map_nil]); first | done | rfl | (simp only [List.length_drop, List.length_take]; rfl)) ?_; (with_reducible refine (dioramalaw10_awake.calls k  true _ A6.out).mono ?_); rintro e w42 ⟨rfl, hb⟩; refine ⟨_, rfl, ?_⟩; have n0_ := BE BK259 hb; have n1_ := Aside0.mk (below_step (BB HB) hb); clear BK259; clear HB; have BK259 := n0_; have HB := n1_; clear n0_ n1_; (try clear hb); (try clear hb2); (try clear hk); (try clear hi); have hcz43_0 : w42.cell? ⟨gb259, 0, none⟩ = some (.slice A0_0 l0_0.length c0_0) := (blk_cell BK259.out 0).trans rfl; have hcz43_1 : w42.cell? ⟨gb259, 1, none⟩ = some (.int .i64 a0_1) := (blk_cell BK259.out 1).trans rfl; have hfz43_0 := blk_frozen BK259.out 0; have hfz43_1 := blk_frozen BK259.out 1) | (go_at_call 15; (with_reducible refine (dioramaref09_Great.calls k _ _ l0_0 a0_1 false _ ?side1 ?side2 A8.out).mono ?_); (case side1 => repeat (first | exact (Kd.C_below HR0_0.out HB.out) | (with_reducible refine Kd.C_alloc ?_ _) | (with_reducible refine Kd.C_drewN ?_ _) | (with_reducible refine Kd.C_drew ?_))); (case side2 => exact HC0_0.out); rintro e w44 ⟨rfl, hb⟩; have n0_ := BE BK259 hb; have n1_ := Aside0.mk (below_step (BB HB) hb); clear BK259; clear HB; have BK259 := n0_; have HB := n1_; clear n0_ n1_; (try clear hb); (try clear hb2); (try clear hk); (try clear hi); have hcz45_0 : w44.cell? ⟨gb259, 0, none⟩ = some (.slice A0_0 l0_0.length c0_0) := (blk_cell BK259.out 0).trans rfl; have hcz45_1 : w44.cell? ⟨gb259, 1, none⟩ = some (.int .i64 a0_1) := (blk_cell BK259.out 1).trans rfl; have hfz45_0 := blk_frozen BK259.out 0; have hfz45_1 := blk_frozen BK259.out 1) | (go_at_call 26; (with_reducible refine (dioramaref09_Right.calls k _ _ l0_0 a0_1 false _ ?side1 ?side2 A13.out).mono ?_); (case side1 => repeat (first | exact (Kd.C_below HR0_0.out HB.out) | (with_reducible refine Kd.C_alloc ?_ _) | (with_reducible refine Kd.C_drewN ?_ _) | (with_reducible refine Kd.C_drew ?_))); (case side2 => exact HC0_0.out); rintro e w46 ⟨rfl, hb⟩; have n0_ := BE BK259 hb; have n1_ := Aside0.mk (below_step (BB HB) hb); clear BK259; clear HB; have BK259 := n0_; have HB := n1_; clear n0_ n1_; (try clear hb); (try clear hb2); (try clear hk); (try clear hi)))
     go_meet
     case rel => exact ⟨_, (true), (by first | rfl | (simp; done) | (simp [*]; done)), H', ⟨by first | omega | exact Nat.le_refl _⟩, ⟨BL BK259⟩, ⟨BB HB⟩⟩
  ·replace c7 := Bool.eq_false_iff.mpr c7
   subst c7
   have H1 : (dioramalaw10_CanonApart.j0 k a1 a2 true l0_0 a0_1) = some r := by rw [if_neg (show ¬ (false = true) by decide)] at H; exact H
   clear H
   have H := H1
   clear H1
   have H' := Aside0.mk H
   clear H
   go_wp2_with (first | ((with_reducible refine gate_callee (f := 14) rfl ?_); refine goesL_ (some 12) rfl rfl Try.func14 (by kernel_rfl) rfl #[] rfl (by (try simp only [List.map_toArray, List.map_cons, List.map_nil]); first | done | rfl | (simp only [List.length_drop, List.length_take]; rfl)) ?_; (with_reducible refine (dioramalaw10_awake.calls k  false _ A6.out).mono ?_); rintro e w47 ⟨rfl, hb⟩; refine ⟨_, rfl, ?_⟩; have n0_ := BE BK259 hb; have n1_ := Aside0.mk (below_step (BB HB) hb); clear BK259; clear HB; have BK259 := n0_; have HB := n1_; clear n0_ n1_; (try clear hb); (try clear hb2); (try clear hk); (try clear hi)))
   go_meet
   case rel => exact ⟨_, (true), (by first | rfl | (simp; done) | (simp [*]; done)), H', ⟨by first | omega | exact Nat.le_refl _⟩, ⟨BL BK259⟩, ⟨BB HB⟩⟩
 case rest =>
  clear HC4
  try clear c1
  try clear c2
  try clear p2
  try clear q2
  try clear hx2
  try clear c7
  try clear c9
  try clear c14
  try clear c16
  try clear c17
  try clear c17b0
  try clear c25
  try clear c25b0
  try clear c26
  try clear c26b0
  try clear p26
  try clear q26
  try clear hx26
  try clear hcz11_0
  try clear hcz11_1
  try clear hcz19_0
  try clear hcz19_1
  try clear hcz21_0
  try clear hcz21_1
  try clear hcz23_0
  try clear hcz23_1
  try clear hcz28_0
  try clear hcz28_1
  try clear hcz30_0
  try clear hcz30_1
  try clear hcz32_0
  try clear hcz32_1
  try clear hcz34_0
  try clear hcz34_1
  try clear hcz36_0
  try clear hcz36_1
  try clear hcz38_0
  try clear hcz38_1
  try clear hcz40_0
  try clear hcz40_1
  try clear hcz43_0
  try clear hcz43_1
  try clear hcz45_0
  try clear hcz45_1
  try clear hfz11_0
  try clear hfz11_1
  try clear hfz19_0
  try clear hfz19_1
  try clear hfz21_0
  try clear hfz21_1
  try clear hfz23_0
  try clear hfz23_1
  try clear hfz28_0
  try clear hfz28_1
  try clear hfz30_0
  try clear hfz30_1
  try clear hfz32_0
  try clear hfz32_1
  try clear hfz34_0
  try clear hfz34_1
  try clear hfz36_0
  try clear hfz36_1
  try clear hfz38_0
  try clear hfz38_1
  try clear hfz40_0
  try clear hfz40_1
  try clear hfz43_0
  try clear hfz43_1
  try clear hfz45_0
  try clear hfz45_1
  try clear hx264_0
  try clear hx264_1
  try clear hx264_2
  try clear hx264_3
  try clear p264
  try clear q264
  obtain ⟨kq, x43_3, rfl, HA, HJ3, BK259, HB⟩ := hcut
  cases kq with
  | zero => exact absurd HA.out (by simp [dioramalaw10_CanonApart.j0])
  | succ kj3 =>
   have H := HA.out
   clear HA
   simp only [dioramalaw10_CanonApart.j0] at H
   by_cases c48 : x43_3 = true
   ·subst c48
    have H1 : ((dioramalaw10_awake.f kj3).bind fun t265 => (some t265)) = some r := by rw [if_pos rfl] at H; exact H
    clear H
    have H := H1
    clear H1
    replace H := Option.bind_eq_some_iff.mp H
    obtain ⟨t265, A490, H⟩ := H
    replace H : (some t265) = some r := H
    have A49 := Aside0.mk A490
    clear A490
    obtain rfl := Option.some.inj H
    go_wp2_with (first | ((with_reducible refine gate_callee (f := 14) rfl ?_); refine goesL_ (some 44) rfl rfl Try.func14 (by kernel_rfl) rfl #[] rfl (by (try simp only [List.map_toArray, List.map_cons, List.map_nil]); first | done | rfl | (simp only [List.length_drop, List.length_take]; rfl)) ?_; (with_reducible refine (dioramalaw10_awake.calls kj3  t265 _ A49.out).mono ?_); rintro e w50 ⟨rfl, hb⟩; refine ⟨_, rfl, ?_⟩; have n0_ := BE BK259 hb; have n1_ := Aside0.mk (below_step (BB HB) hb); clear BK259; clear HB; have BK259 := n0_; have HB := n1_; clear n0_ n1_; (try clear hb); (try clear hb2); (try clear hk); (try clear hi)))
    go_ret
    exact ⟨by first | rfl | (simp [errW_none, errW_some] <;> rfl) | (simp [*, errW_none, errW_some] <;> rfl), BB HB⟩
   ·replace c48 := Bool.eq_false_iff.mpr c48
    subst c48
    have H1 : ((dioramaref09_Copy.f kj3 l0_0 a0_1).bind fun bt266 => (if 0 ≤ a1 then (if a1 < (l0_0.length : Int) then (if 0 ≤ a2 then (if a2 < (((rd_T40 l0_0 a1).f3).length : Int) then (if 0 ≤ (rd ((rd_T40 l0_0 a1).f3) a2) then (if (rd ((rd_T40 l0_0 a1).f3) a2) < (l0_0.length : Int) then ((dioramaref08_Copy.f ((rd_T40 l0_0 (rd ((rd_T40 l0_0 a1).f3) a2)).f0) ((rd_T40 l0_0 (rd ((rd_T40 l0_0 a1).f3) a2)).f1) ((rd_T40 l0_0 (rd ((rd_T40 l0_0 a1).f3) a2)).f2) ((rd_T40 l0_0 (rd ((rd_T40 l0_0 a1).f3) a2)).f3)).bind fun bt274 => (if bt266.1.length < 1759218604441 then ((some (bt266.1 ++ [(⟨bt274.1, bt274.2.1, bt274.2.2.1, bt274.2.2.2⟩ : S40)] : List (S40))).bind fun y284 => (if a1 < (y284.length : Int) then (if a2 < (((rd_T40 y284 a1).f3).length : Int) then ((canon_Canon.f kj3 l0_0 a0_1).bind fun bt291 => ((canon_Canon.f kj3 (y284.set (a1 : Int).toNat (⟨(rd_T40 y284 a1).f0, (rd_T40 y284 a1).f1, (rd_T40 y284 a1).f2, (((rd_T40 y284 a1).f3).set (a2 : Int).toNat (wrap64 ((y284.length : Int) - 1)))⟩ : S40)) bt266.2).bind fun bt297 => (if bt297.2.2 = 0 then (if (bt297.1.length : Int) = (wrap64 ((bt291.1.length : Int) + 1)) then ((dioramaref09_Same.f kj3 bt291.1 bt291.2.1 bt297.1 bt297.2.1).bind fun t303 => (some (!t303))) else (some false)) else (some (bt297.2.2 == 15))))) else (none)) else (none))) else (none))) else (none)) else (none)) else (none)) else (none)) else (none)) else (none))) = some r := by rw [if_neg (show ¬ (false = true) by decide)] at H; exact H
    clear H
    have H := H1
    clear H1
    replace H := Option.bind_eq_some_iff.mp H
    obtain ⟨⟨t266, t269⟩, A510, H⟩ := H
    replace H : (if 0 ≤ a1 then (if a1 < (l0_0.length : Int) then (if 0 ≤ a2 then (if a2 < (((rd_T40 l0_0 a1).f3).length : Int) then (if 0 ≤ (rd ((rd_T40 l0_0 a1).f3) a2) then (if (rd ((rd_T40 l0_0 a1).f3) a2) < (l0_0.length : Int) then ((dioramaref08_Copy.f ((rd_T40 l0_0 (rd ((rd_T40 l0_0 a1).f3) a2)).f0) ((rd_T40 l0_0 (rd ((rd_T40 l0_0 a1).f3) a2)).f1) ((rd_T40 l0_0 (rd ((rd_T40 l0_0 a1).f3) a2)).f2) ((rd_T40 l0_0 (rd ((rd_T40 l0_0 a1).f3) a2)).f3)).bind fun bt274 => (if t266.length < 1759218604441 then ((some (t266 ++ [(⟨bt274.1, bt274.2.1, bt274.2.2.1, bt274.2.2.2⟩ : S40)] : List (S40))).bind fun y284 => (if a1 < (y284.length : Int) then (if a2 < (((rd_T40 y284 a1).f3).length : Int) then ((canon_Canon.f kj3 l0_0 a0_1).bind fun bt291 => ((canon_Canon.f kj3 (y284.set (a1 : Int).toNat (⟨(rd_T40 y284 a1).f0, (rd_T40 y284 a1).f1, (rd_T40 y284 a1).f2, (((rd_T40 y284 a1).f3).set (a2 : Int).toNat (wrap64 ((y284.length : Int) - 1)))⟩ : S40)) t269).bind fun bt297 => (if bt297.2.2 = 0 then (if (bt297.1.length : Int) = (wrap64 ((bt291.1.length : Int) + 1)) then ((dioramaref09_Same.f kj3 bt291.1 bt291.2.1 bt297.1 bt297.2.1).bind fun t303 => (some (!t303))) else (some false)) else (some (bt297.2.2 == 15))))) else (none)) else (none))) else (none))) else (none)) else (none)) else (none)) else (none)) else (none)) else (none)) = some r := H
    have A51 := Aside0.mk A510
    clear A510
    by_cases c52 : 0 ≤ a1
    ·rw [if_pos c52] at H
     have c52b0 : decide (0 ≤ a1) = true := decide_eq_true c52
     clear c52
     by_cases c53 : a1 < (l0_0.length : Int)
     ·rw [if_pos c53] at H
      have c53b0 : decide (a1 < (l0_0.length : Int)) = true := decide_eq_true c53
      clear c53
      by_cases c54 : 0 ≤ a2
      ·rw [if_pos c54] at H
       have c54b0 : decide (0 ≤ a2) = true := decide_eq_true c54
       clear c54
       by_cases c55 : a2 < (((rd_T40 l0_0 a1).f3).length : Int)
       ·rw [if_pos c55] at H
        have c55b0 : decide (a2 < (((rd_T40 l0_0 a1).f3).length : Int)) = true := decide_eq_true c55
        clear c55
        by_cases c56 : 0 ≤ (rd ((rd_T40 l0_0 a1).f3) a2)
        ·rw [if_pos c56] at H
         have c56b0 : decide (0 ≤ (rd ((rd_T40 l0_0 a1).f3) a2)) = true := decide_eq_true c56
         clear c56
         by_cases c57 : (rd ((rd_T40 l0_0 a1).f3) a2) < (l0_0.length : Int)
         ·rw [if_pos c57] at H
          have c57b0 : decide ((rd ((rd_T40 l0_0 a1).f3) a2) < (l0_0.length : Int)) = true := decide_eq_true c57
          clear c57
          replace H := Option.bind_eq_some_iff.mp H
          obtain ⟨⟨t274, t275, t278, t281⟩, A580, H⟩ := H
          replace H : (if t266.length < 1759218604441 then ((some (t266 ++ [(⟨t274, t275, t278, t281⟩ : S40)] : List (S40))).bind fun y284 => (if a1 < (y284.length : Int) then (if a2 < (((rd_T40 y284 a1).f3).length : Int) then ((canon_Canon.f kj3 l0_0 a0_1).bind fun bt291 => ((canon_Canon.f kj3 (y284.set (a1 : Int).toNat (⟨(rd_T40 y284 a1).f0, (rd_T40 y284 a1).f1, (rd_T40 y284 a1).f2, (((rd_T40 y284 a1).f3).set (a2 : Int).toNat (wrap64 ((y284.length : Int) - 1)))⟩ : S40)) t269).bind fun bt297 => (if bt297.2.2 = 0 then (if (bt297.1.length : Int) = (wrap64 ((bt291.1.length : Int) + 1)) then ((dioramaref09_Same.f kj3 bt291.1 bt291.2.1 bt297.1 bt297.2.1).bind fun t303 => (some (!t303))) else (some false)) else (some (bt297.2.2 == 15))))) else (none)) else (none))) else (none)) = some r := H
          have A58 := Aside0.mk A580
          clear A580
          by_cases c59 : t266.length < 1759218604441
          ·rw [if_pos c59] at H
           have LMc59 := Aside0.mk c59
           clear c59
           obtain ⟨y284, hy284⟩ : ∃ y_ : List (S40), y_ = (t266 ++ [(⟨t274, t275, t278, t281⟩ : S40)]) := ⟨_, rfl⟩
           replace H : (if a1 < (y284.length : Int) then (if a2 < (((rd_T40 y284 a1).f3).length : Int) then ((canon_Canon.f kj3 l0_0 a0_1).bind fun bt291 => ((canon_Canon.f kj3 (y284.set (a1 : Int).toNat (⟨(rd_T40 y284 a1).f0, (rd_T40 y284 a1).f1, (rd_T40 y284 a1).f2, (((rd_T40 y284 a1).f3).set (a2 : Int).toNat (wrap64 ((y284.length : Int) - 1)))⟩ : S40)) t269).bind fun bt297 => (if bt297.2.2 = 0 then (if (bt297.1.length : Int) = (wrap64 ((bt291.1.length : Int) + 1)) then ((dioramaref09_Same.f kj3 bt291.1 bt291.2.1 bt297.1 bt297.2.1).bind fun t303 => (some (!t303))) else (some false)) else (some (bt297.2.2 == 15))))) else (none)) else (none)) = some r := by first | (rw [hy284]; with_reducible exact H) | (have H2_ := (Option.bind_some _ _).symm.trans H; rw [hy284]; with_reducible exact H2_) | (have H2_ := (Option.bind_some _ _).symm.trans H; with_reducible exact H2_) | with_reducible exact H | (rw [hy284]; exact H) | exact H
           have Ny284 := Aside0.mk hy284
           clear hy284
           by_cases c60 : a1 < (y284.length : Int)
           ·rw [if_pos c60] at H
            have c60b0 : decide (a1 < (y284.length : Int)) = true := decide_eq_true c60
            clear c60
            by_cases c61 : a2 < (((rd_T40 y284 a1).f3).length : Int)
            ·rw [if_pos c61] at H
             have c61b0 : decide (a2 < (((rd_T40 y284 a1).f3).length : Int)) = true := decide_eq_true c61
             clear c61
             obtain ⟨y288, hy288⟩ : ∃ y_ : List Int, y_ = (((rd_T40 y284 a1).f3).set (a2 : Int).toNat (wrap64 ((y284.length : Int) - 1))) := ⟨_, rfl⟩
             replace H : ((canon_Canon.f kj3 l0_0 a0_1).bind fun bt291 => ((canon_Canon.f kj3 (y284.set (a1 : Int).toNat (⟨(rd_T40 y284 a1).f0, (rd_T40 y284 a1).f1, (rd_T40 y284 a1).f2, y288⟩ : S40)) t269).bind fun bt297 => (if bt297.2.2 = 0 then (if (bt297.1.length : Int) = (wrap64 ((bt291.1.length : Int) + 1)) then ((dioramaref09_Same.f kj3 bt291.1 bt291.2.1 bt297.1 bt297.2.1).bind fun t303 => (some (!t303))) else (some false)) else (some (bt297.2.2 == 15))))) = some r := by first | (rw [hy288]; with_reducible exact H) | (have H2_ := (Option.bind_some _ _).symm.trans H; rw [hy288]; with_reducible exact H2_) | (have H2_ := (Option.bind_some _ _).symm.trans H; with_reducible exact H2_) | with_reducible exact H | (rw [hy288]; exact H) | exact H
             have Ny288 := Aside0.mk hy288
             clear hy288
             obtain ⟨y290, hy290⟩ : ∃ y_ : List (S40), y_ = (y284.set (a1 : Int).toNat (⟨(rd_T40 y284 a1).f0, (rd_T40 y284 a1).f1, (rd_T40 y284 a1).f2, y288⟩ : S40)) := ⟨_, rfl⟩
             replace H : ((canon_Canon.f kj3 l0_0 a0_1).bind fun bt291 => ((canon_Canon.f kj3 y290 t269).bind fun bt297 => (if bt297.2.2 = 0 then (if (bt297.1.length : Int) = (wrap64 ((bt291.1.length : Int) + 1)) then ((dioramaref09_Same.f kj3 bt291.1 bt291.2.1 bt297.1 bt297.2.1).bind fun t303 => (some (!t303))) else (some false)) else (some (bt297.2.2 == 15))))) = some r := by first | (rw [hy290]; with_reducible exact H) | (have H2_ := (Option.bind_some _ _).symm.trans H; rw [hy290]; with_reducible exact H2_) | (have H2_ := (Option.bind_some _ _).symm.trans H; with_reducible exact H2_) | with_reducible exact H | (rw [hy290]; exact H) | exact H
             have Ny290 := Aside0.mk hy290
             clear hy290
             replace H := Option.bind_eq_some_iff.mp H
             obtain ⟨⟨t291, t294, t295⟩, A630, H⟩ := H
             replace H : ((canon_Canon.f kj3 y290 t269).bind fun bt297 => (if bt297.2.2 = 0 then (if (bt297.1.length : Int) = (wrap64 ((t291.length : Int) + 1)) then ((dioramaref09_Same.f kj3 t291 t294 bt297.1 bt297.2.1).bind fun t303 => (some (!t303))) else (some false)) else (some (bt297.2.2 == 15)))) = some r := H
             have A63 := Aside0.mk A630
             clear A630
             replace H := Option.bind_eq_some_iff.mp H
             obtain ⟨⟨t297, t300, t301⟩, A640, H⟩ := H
             replace H : (if t301 = 0 then (if (t297.length : Int) = (wrap64 ((t291.length : Int) + 1)) then ((dioramaref09_Same.f kj3 t291 t294 t297 t300).bind fun t303 => (some (!t303))) else (some false)) else (some (t301 == 15))) = some r := H
             have A64 := Aside0.mk A640
             clear A640
             by_cases c65 : t301 = 0
             ·rw [if_pos c65] at H
              have c65b0 : (t301 == 0) = true := beq_iff_eq.mpr c65
              have c65b1 : (t301 != 0) = false := bne_eq_false_iff_eq.mpr c65
              clear c65
              by_cases c66 : (t297.length : Int) = (wrap64 ((t291.length : Int) + 1))
              ·rw [if_pos c66] at H
               have c66b0 : ((t297.length : Int) == (wrap64 ((t291.length : Int) + 1))) = true := beq_iff_eq.mpr c66
               have c66b1 : ((t297.length : Int) != (wrap64 ((t291.length : Int) + 1))) = false := bne_eq_false_iff_eq.mpr c66
               clear c66
               replace H := Option.bind_eq_some_iff.mp H
               obtain ⟨t303, A670, H⟩ := H
               replace H : (some (!t303)) = some r := H
               have A67 := Aside0.mk A670
               clear A670
               obtain rfl := Option.some.inj H
               have hcz68_0 : wc.cell? ⟨gb259, 0, none⟩ = some (.slice A0_0 l0_0.length c0_0) := (blk_cell BK259.out 0).trans rfl
               have hcz68_1 : wc.cell? ⟨gb259, 1, none⟩ = some (.int .i64 a0_1) := (blk_cell BK259.out 1).trans rfl
               have hfz68_0 := blk_frozen BK259.out 0
               have hfz68_1 := blk_frozen BK259.out 1
               try go_wp2_with (first | ((with_reducible refine gate_callee (f := 17) rfl ?_); refine goesL_ (some 46) rfl rfl Try.func17 (by kernel_rfl) rfl #[.agg #[.slice A0_0 l0_0.length c0_0, .int .i64 a0_1]] rfl (by (try simp only [List.map_toArray, List.map_cons, List.map_nil]); first | done | rfl | (simp only [List.length_drop, List.length_take]; rfl)) ?_; (with_reducible refine (dioramaref09_Copy.calls kj3 _ _ l0_0 a0_1 t266 t269 _ ?side1 ?side2 A51.out).mono ?_); (case side1 => repeat (first | exact (Kd.C_below HR0_0.out HB.out) | (with_reducible refine Kd.C_alloc ?_ _) | (with_reducible refine Kd.C_drewN ?_ _) | (with_reducible refine Kd.C_drew ?_))); (case side2 => exact HC0_0.out); rintro e w69 ⟨v267, rfl, ho0, hb⟩; refine ⟨_, rfl, ?_⟩; have n0_ := Aside0.mk (Kd.S_lower ho0 (below_size (BB HB))); have n1_ := BE BK259 hb; have n2_ := Aside0.mk (below_step (BB HB) hb); clear BK259; clear HB; have HO268 := n0_; have BK259 := n1_; have HB := n2_; clear n0_ n1_ n2_; (try clear hb); (try clear hb2); (try clear hk); (try clear hi); (try clear ho0)) | ((with_reducible refine gate_dst (N := 7) rfl ?_); refine box_event ?hg (N := 7) ?hd (cs := #[.slice none 0 0, .int .i64 0]) (t := 24) ?hr ?_; (case hd => rfl); (case hg => rfl); (case hr => first | (go_simp; done) | (go_simp; rfl)); intro gb270 hg w70 hbox hb; have n0_ := Aside0.mk (Kd.S_below (by (with_reducible repeat (first | apply Kd.S_alloc | apply Kd.S_drewN | apply Kd.S_drew)); exact HO268.out) hb); have n1_ := BE BK259 hb; have n2_ := Aside0.mk (below_step (BB HB) hb); have n3_ := Aside0.mk (hbox); have n4_ := Aside0.mk ((by rw [hg]; exact (below_size (BB HB)) : w.heap.size ≤ gb270)); have n5_ := Aside0.mk ((by rw [hg]; exact (below_size (BB HB)) : w.heap.size ≤ gb270)); have n6_ := Aside0.mk ((by rw [hg]; exact Nat.ne_of_lt (blk_lt (g := gb259) (o := .cells #[.slice A0_0 l0_0.length c0_0, .int .i64 a0_1] 24 (0, 0)) (BL BK259)) : gb259 ≠ gb270)); have n7_ := Aside0.mk ((by rw [hg]; exact Nat.ne_of_gt (blk_lt (g := gb259) (o := .cells #[.slice A0_0 l0_0.length c0_0, .int .i64 a0_1] 24 (0, 0)) (BL BK259)) : gb270 ≠ gb259)); clear HO268; clear BK259; clear HB; have HO268 := n0_; have BK259 := n1_; have HB := n2_; have BK270 := n3_; have GW270 := n4_; have GE270 := n5_; have NB259_270 := n6_; have NB270_259 := n7_; clear n0_ n1_ n2_ n3_ n4_ n5_ n6_ n7_; clear hb hbox hg; obtain ⟨Ao71, co71, eo71⟩ := Kd.S_slice HO268.out; subst eo71; have hnb72 := NB270_259.out; have hnc72 := NB259_270.out; have hcz73_0 : w70.cell? ⟨gb270, 0, none⟩ = some (.slice none 0 0) := (blk_cell BK270.out 0).trans rfl; have hcz73_1 : w70.cell? ⟨gb270, 1, none⟩ = some (.int .i64 0) := (blk_cell BK270.out 1).trans rfl; have hfz73_0 := blk_frozen BK270.out 0; have hfz73_1 := blk_frozen BK270.out 1))
               have n0_ : Aside0 (Kd.S k40 40 ((w70.setCell ⟨gb270, 0, none⟩ (.slice Ao71 t266.length co71)).setCell ⟨gb270, 1, none⟩ (.int .i64 t269)) w.heap.size (fun _ => True) (.slice Ao71 t266.length co71) t266) := ⟨by (with_reducible repeat (first | apply Kd.S_alloc | apply Kd.S_drewN | apply Kd.S_drew)); exact Kd.S_mono (Kd.S_far (p := ⟨gb270, 1, none⟩) (Kd.S_far (p := ⟨gb270, 0, none⟩) (Kd.S_types HO268.out BK270.out (by decide)) (fun _ hk => hk.2) (.slice Ao71 t266.length co71)) (fun _ hk => hk.2) (.int .i64 t269)) (fun _ hk => trivial)⟩
               have n1_ : Aside0 (((w70.setCell ⟨gb270, 0, none⟩ (.slice Ao71 t266.length co71)).setCell ⟨gb270, 1, none⟩ (.int .i64 t269)).heap[gb259]? = some (.cells #[.slice A0_0 l0_0.length c0_0, .int .i64 a0_1] 24 (0, 0))) := ⟨by refine blk_far ?_ NB259_270.out _; refine blk_far ?_ NB259_270.out _; (with_reducible repeat (first | refine blk_drewN ?_ _ | refine blk_drew ?_ | refine blk_alloc ?_ _)); exact BK259.out⟩
               have n2_ : Aside0 (((w70.setCell ⟨gb270, 0, none⟩ (.slice Ao71 t266.length co71)).setCell ⟨gb270, 1, none⟩ (.int .i64 t269)).heap[gb270]? = some (.cells #[.slice Ao71 t266.length co71, .int .i64 t269] 24 (0, 0))) := ⟨by refine blk_put (cs := #[.slice Ao71 t266.length co71, .int .i64 0]) ?_ 1 _ rfl; refine blk_put (cs := #[.slice none 0 0, .int .i64 0]) ?_ 0 _ rfl; (with_reducible repeat (first | refine blk_drewN ?_ _ | refine blk_drew ?_ | refine blk_alloc ?_ _)); exact BK270.out⟩
               have n3_ : Aside0 (Below w.heap.size w ((w70.setCell ⟨gb270, 0, none⟩ (.slice Ao71 t266.length co71)).setCell ⟨gb270, 1, none⟩ (.int .i64 t269))) := ⟨BB HB⟩
               (try clear HO268)
               (try clear BK259)
               (try clear BK270)
               (try clear HB)
               generalize ((w70.setCell ⟨gb270, 0, none⟩ (.slice Ao71 t266.length co71)).setCell ⟨gb270, 1, none⟩ (.int .i64 t269)) = w74 at n0_ n1_ n2_ n3_ ⊢
               have HO268 := n0_
               have BK259 := n1_
               have BK270 := n2_
               have HB := n3_
               clear n0_ n1_ n2_ n3_
               have n0_ := Aside0.mk (Kd.S_drew HO268.out)
               have n1_ := Aside0.mk (blk_drew BK259.out)
               have n2_ := Aside0.mk (blk_drew BK270.out)
               have n3_ := Aside0.mk (below_drew1 HB.out)
               clear HO268
               clear BK259
               clear BK270
               clear HB
               have HO268 := n0_
               have BK259 := n1_
               have BK270 := n2_
               have HB := n3_
               clear n0_ n1_ n2_ n3_
               have p271 : 0 ≤ (a1 : Int) := of_decide_eq_true (by first | (with_reducible assumption) | assumption)
               have q271 : a1 < (l0_0.length : Int) := of_decide_eq_true (by first | (with_reducible assumption) | assumption)
               obtain ⟨ad271, A271_1, c271_1, A271_2, c271_2, A271_3, c271_3, e271, hx271_0, hx271_1, hx271_2, hx271_3, hl271_1, hi271_1, hl271_2, hi271_2, hl271_3, hi271_3⟩ := at_T40 HR0_0.out a1 p271 q271
               have hw271_3 := hx271_3
               have hw271_2 := hx271_2
               have hw271_1 := hx271_1
               have hw271_0 := hx271_0
               cases e271
               replace hx271_0 := (HB.out.cell (World.block_lt_of_cell? w _ hx271_0)).trans hx271_0
               replace hx271_1 := (HB.out.cell (World.block_lt_of_cell? w _ hx271_1)).trans hx271_1
               replace hx271_2 := (HB.out.cell (World.block_lt_of_cell? w _ hx271_2)).trans hx271_2
               replace hx271_3 := (HB.out.cell (World.block_lt_of_cell? w _ hx271_3)).trans hx271_3
               have HR271_1 := Aside0.mk hi271_1
               have HC271_1 := Aside0.mk hl271_1
               clear hi271_1 hl271_1
               have HR271_2 := Aside0.mk hi271_2
               have HC271_2 := Aside0.mk hl271_2
               clear hi271_2 hl271_2
               have HR271_3 := Aside0.mk hi271_3
               have HC271_3 := Aside0.mk hl271_3
               clear hi271_3 hl271_3
               replace p271 := eq_true p271
               replace q271 := eq_true q271
               have p272 : 0 ≤ (a2 : Int) := of_decide_eq_true (by first | (with_reducible assumption) | assumption)
               have q272 : a2 < (((rd_T40 l0_0 a1).f3).length : Int) := of_decide_eq_true (by first | (with_reducible assumption) | assumption)
               obtain ⟨ad272, e272, hx272_0⟩ := Kd.at_int HR271_3.out a2 p272 q272
               have hw272_0 := hx272_0
               cases e272
               replace hx272_0 := (HB.out.cell (World.block_lt_of_cell? w _ hx272_0)).trans hx272_0
               replace p272 := eq_true p272
               replace q272 := eq_true q272
               have p273 : 0 ≤ ((rd ((rd_T40 l0_0 a1).f3) a2) : Int) := of_decide_eq_true (by first | (with_reducible assumption) | assumption)
               have q273 : (rd ((rd_T40 l0_0 a1).f3) a2) < (l0_0.length : Int) := of_decide_eq_true (by first | (with_reducible assumption) | assumption)
               obtain ⟨ad273, A273_1, c273_1, A273_2, c273_2, A273_3, c273_3, e273, hx273_0, hx273_1, hx273_2, hx273_3, hl273_1, hi273_1, hl273_2, hi273_2, hl273_3, hi273_3⟩ := at_T40 HR0_0.out (rd ((rd_T40 l0_0 a1).f3) a2) p273 q273
               have hw273_3 := hx273_3
               have hw273_2 := hx273_2
               have hw273_1 := hx273_1
               have hw273_0 := hx273_0
               obtain rfl : ad271 = ad273 := (by injection e273)
               replace hx273_0 := (HB.out.cell (World.block_lt_of_cell? w _ hx273_0)).trans hx273_0
               replace hx273_1 := (HB.out.cell (World.block_lt_of_cell? w _ hx273_1)).trans hx273_1
               replace hx273_2 := (HB.out.cell (World.block_lt_of_cell? w _ hx273_2)).trans hx273_2
               replace hx273_3 := (HB.out.cell (World.block_lt_of_cell? w _ hx273_3)).trans hx273_3
               have HR273_1 := Aside0.mk hi273_1
               have HC273_1 := Aside0.mk hl273_1
               clear hi273_1 hl273_1
               have HR273_2 := Aside0.mk hi273_2
               have HC273_2 := Aside0.mk hl273_2
               clear hi273_2 hl273_2
               have HR273_3 := Aside0.mk hi273_3
               have HC273_3 := Aside0.mk hl273_3
               clear hi273_3 hl273_3
               replace p273 := eq_true p273
               replace q273 := eq_true q273
               refine start_ (n := 20) (S := fun w' => w'.cell? ⟨gb270, 0, none⟩ = some (.slice Ao71 t266.length co71) ∧ w'.cell? ⟨gb270, 1, none⟩ = some (.int .i64 t269) ∧ w'.cell? ⟨gb259, 0, none⟩ = some (.slice (some ad271) l0_0.length c0_0) ∧ w'.cell? ⟨gb259, 1, none⟩ = some (.int .i64 a0_1) ∧ w'.cell? (ad271.add ((a1).toNat * 4)) = some (.int .i64 ((rd_T40 l0_0 a1).f0)) ∧ w'.cell? ⟨(ad271.add ((a1).toNat * 4)).block, (ad271.add ((a1).toNat * 4)).off + 1, none⟩ = some (.slice A271_1 ((rd_T40 l0_0 a1).f1).length c271_1) ∧ w'.cell? ⟨(ad271.add ((a1).toNat * 4)).block, (ad271.add ((a1).toNat * 4)).off + 2, none⟩ = some (.slice A271_2 ((rd_T40 l0_0 a1).f2).length c271_2) ∧ w'.cell? ⟨(ad271.add ((a1).toNat * 4)).block, (ad271.add ((a1).toNat * 4)).off + 3, none⟩ = some (.slice (some ad272) ((rd_T40 l0_0 a1).f3).length c271_3) ∧ w'.cell? (ad272.add (a2).toNat) = some (.int .i64 (rd ((rd_T40 l0_0 a1).f3) a2)) ∧ w'.cell? (ad271.add (((rd ((rd_T40 l0_0 a1).f3) a2)).toNat * 4)) = some (.int .i64 ((rd_T40 l0_0 (rd ((rd_T40 l0_0 a1).f3) a2)).f0)) ∧ w'.cell? ⟨(ad271.add (((rd ((rd_T40 l0_0 a1).f3) a2)).toNat * 4)).block, (ad271.add (((rd ((rd_T40 l0_0 a1).f3) a2)).toNat * 4)).off + 1, none⟩ = some (.slice A273_1 ((rd_T40 l0_0 (rd ((rd_T40 l0_0 a1).f3) a2)).f1).length c273_1) ∧ w'.cell? ⟨(ad271.add (((rd ((rd_T40 l0_0 a1).f3) a2)).toNat * 4)).block, (ad271.add (((rd ((rd_T40 l0_0 a1).f3) a2)).toNat * 4)).off + 2, none⟩ = some (.slice A273_2 ((rd_T40 l0_0 (rd ((rd_T40 l0_0 a1).f3) a2)).f2).length c273_2) ∧ w'.cell? ⟨(ad271.add (((rd ((rd_T40 l0_0 a1).f3) a2)).toNat * 4)).block, (ad271.add (((rd ((rd_T40 l0_0 a1).f3) a2)).toNat * 4)).off + 3, none⟩ = some (.slice A273_3 ((rd_T40 l0_0 (rd ((rd_T40 l0_0 a1).f3) a2)).f3).length c273_3)) (ds := [19]) #[false, false, false, false, false, false, false, false, false, false, false, false, false, false, false, false, false, false, false, false] (by kernel_rfl) rfl rfl ⟨(blk_cell BK270.out 0).trans rfl, (blk_cell BK270.out 1).trans rfl, (blk_cell BK259.out 0).trans rfl, (blk_cell BK259.out 1).trans rfl, ((HB.out.cell (World.block_lt_of_cell? w _ hw271_0)).trans hw271_0), ((HB.out.cell (World.block_lt_of_cell? w _ hw271_1)).trans hw271_1), ((HB.out.cell (World.block_lt_of_cell? w _ hw271_2)).trans hw271_2), ((HB.out.cell (World.block_lt_of_cell? w _ hw271_3)).trans hw271_3), ((HB.out.cell (World.block_lt_of_cell? w _ hw272_0)).trans hw272_0), ((HB.out.cell (World.block_lt_of_cell? w _ hw273_0)).trans hw273_0), ((HB.out.cell (World.block_lt_of_cell? w _ hw273_1)).trans hw273_1), ((HB.out.cell (World.block_lt_of_cell? w _ hw273_2)).trans hw273_2), ((HB.out.cell (World.block_lt_of_cell? w _ hw273_3)).trans hw273_3)⟩ (fun hHeld => ?_); refine with_tabW dioramalaw10_CanonApart.tab4 dioramalaw10_CanonApart.bits4 (fun HT_ HW_ => ?_)
               generalize w74.drew = w75 at HO268 BK259 BK270 HB HR271_1 HR271_2 HR271_3 HR273_1 HR273_2 HR273_3 hx271_0 hx271_1 hx271_2 hx271_3 hx272_0 hx273_0 hx273_1 hx273_2 hx273_3 hHeld ⊢
               refine pure_ (i := 0) (N := some 47) (v := ?_) (a' := ?_) #[true, false, false, false, false, false, false, false, false, false, false, false, false, false, false, false, false, false, false, false] rfl rfl (any_of HT_.out (by kernel_rfl)) (fun _ _ _ h => h) (Or.inl ⟨by rfl, ?_⟩) ?_ ?_
               rotate_left
               ·intro w'
                go_simp
                with_reducible rfl
               rotate_left
               ·simp only [Act.put, List.setIfInBounds_toArray, List.set_cons_zero, List.set_cons_succ, i64_w, i32_w]
                rfl
               refine pure_ (i := 2) (N := some 49) (v := ?_) (a' := ?_) #[true, false, true, false, false, false, false, false, false, false, false, false, false, false, false, false, false, false, false, false] rfl rfl (any_of HT_.out (by kernel_rfl)) (fun _ _ _ h => h) (Or.inl ⟨by rfl, ?_⟩) ?_ ?_
               rotate_left
               ·intro w'
                go_simp
                with_reducible rfl
               rotate_left
               ·simp only [Act.put, List.setIfInBounds_toArray, List.set_cons_zero, List.set_cons_succ, i64_w, i32_w]
                rfl
               refine pure_ (i := 4) (N := some 51) (v := ?_) (a' := ?_) #[true, false, true, false, true, false, false, false, false, false, false, false, false, false, false, false, false, false, false, false] rfl rfl (any_of HT_.out (by kernel_rfl)) (fun _ _ _ h => h) (Or.inl ⟨by rfl, ?_⟩) ?_ ?_
               rotate_left
               ·intro w'
                go_simp
                with_reducible rfl
               rotate_left
               ·simp only [Act.put, List.setIfInBounds_toArray, List.set_cons_zero, List.set_cons_succ, i64_w, i32_w]
                rfl
               refine pure_ (i := 6) (N := some 53) (v := ?_) (a' := ?_) #[true, false, true, false, true, false, true, false, false, false, false, false, false, false, false, false, false, false, false, false] rfl rfl (any_of HT_.out (by kernel_rfl)) (fun _ _ _ h => h) (Or.inl ⟨by rfl, ?_⟩) ?_ ?_
               rotate_left
               ·intro w'
                go_simp
                with_reducible rfl
               rotate_left
               ·simp only [Act.put, List.setIfInBounds_toArray, List.set_cons_zero, List.set_cons_succ, i64_w, i32_w]
                rfl
               refine pure_ (i := 10) (N := some 57) (v := ?_) (a' := ?_) #[true, false, true, false, true, false, true, false, false, false, true, false, false, false, false, false, false, false, false, false] rfl rfl (any_of HT_.out (by kernel_rfl)) (fun _ _ _ h => h) (Or.inl ⟨by rfl, ?_⟩) ?_ ?_
               rotate_left
               ·intro w'
                go_simp
                with_reducible rfl
               rotate_left
               ·simp only [Act.put, List.setIfInBounds_toArray, List.set_cons_zero, List.set_cons_succ, i64_w, i32_w]
                rfl
               refine take_ (i := 1) (N := some 48) (v := ?_) (a' := ?_) #[true, true, true, false, true, false, true, false, false, false, true, false, false, false, false, false, false, false, false, false] rfl rfl (take_ofW HT_.out HW_.out (by kernel_rfl)) (fun _ _ _ h => h) (Or.inl ⟨by rfl, ?_⟩) hHeld ?_ ?_
               rotate_left
               ·rintro w' ⟨s0, s1, s2, s3, s4, s5, s6, s7, s8, s9, s10, s11, s12⟩
                go_simp
                with_reducible rfl
               rotate_left
               ·simp only [Act.put, List.setIfInBounds_toArray, List.set_cons_zero, List.set_cons_succ, i64_w, i32_w]
                rfl
               refine take_ (i := 3) (N := some 50) (v := ?_) (a' := ?_) #[true, true, true, true, true, false, true, false, false, false, true, false, false, false, false, false, false, false, false, false] rfl rfl (take_ofW HT_.out HW_.out (by kernel_rfl)) (fun _ _ _ h => h) (Or.inl ⟨by rfl, ?_⟩) hHeld ?_ ?_
               rotate_left
               ·rintro w' ⟨s0, s1, s2, s3, s4, s5, s6, s7, s8, s9, s10, s11, s12⟩
                go_simp
                with_reducible rfl
               rotate_left
               ·simp only [Act.put, List.setIfInBounds_toArray, List.set_cons_zero, List.set_cons_succ, i64_w, i32_w]
                rfl
               refine take_ (i := 5) (N := some 52) (v := ?_) (a' := ?_) #[true, true, true, true, true, true, true, false, false, false, true, false, false, false, false, false, false, false, false, false] rfl rfl (take_ofW HT_.out HW_.out (by kernel_rfl)) (fun _ _ _ h => h) (Or.inl ⟨by rfl, ?_⟩) hHeld ?_ ?_
               rotate_left
               ·rintro w' ⟨s0, s1, s2, s3, s4, s5, s6, s7, s8, s9, s10, s11, s12⟩
                go_simp
                with_reducible rfl
               rotate_left
               ·simp only [Act.put, List.setIfInBounds_toArray, List.set_cons_zero, List.set_cons_succ, i64_w, i32_w]
                rfl
               refine pure_ (i := 7) (N := some 54) (v := ?_) (a' := ?_) #[true, true, true, true, true, true, true, true, false, false, true, false, false, false, false, false, false, false, false, false] rfl rfl (any_of HT_.out (by kernel_rfl)) (fun _ _ _ h => h) (Or.inl ⟨by rfl, ?_⟩) ?_ ?_
               rotate_left
               ·intro w'
                go_simp
                with_reducible rfl
               rotate_left
               ·simp only [Act.put, List.setIfInBounds_toArray, List.set_cons_zero, List.set_cons_succ, i64_w, i32_w]
                rfl
               refine pure_ (i := 8) (N := some 55) (v := ?_) (a' := ?_) #[true, true, true, true, true, true, true, true, true, false, true, false, false, false, false, false, false, false, false, false] rfl rfl (any_of HT_.out (by kernel_rfl)) (fun _ _ _ h => h) (Or.inl ⟨by rfl, ?_⟩) ?_ ?_
               rotate_left
               ·intro w'
                go_simp
                with_reducible rfl
               rotate_left
               ·simp only [Act.put, List.setIfInBounds_toArray, List.set_cons_zero, List.set_cons_succ, i64_w, i32_w]
                rfl
               refine take_ (i := 9) (N := some 56) (v := ?_) (a' := ?_) #[true, true, true, true, true, true, true, true, true, true, true, false, false, false, false, false, false, false, false, false] rfl rfl (take_ofW HT_.out HW_.out (by kernel_rfl)) (fun _ _ _ h => h) (Or.inl ⟨by rfl, ?_⟩) hHeld ?_ ?_
               rotate_left
               ·rintro w' ⟨s0, s1, s2, s3, s4, s5, s6, s7, s8, s9, s10, s11, s12⟩
                go_simp
                with_reducible rfl
               rotate_left
               ·simp only [Act.put, List.setIfInBounds_toArray, List.set_cons_zero, List.set_cons_succ, i64_w, i32_w]
                rfl
               refine pure_ (i := 11) (N := some 58) (v := ?_) (a' := ?_) #[true, true, true, true, true, true, true, true, true, true, true, true, false, false, false, false, false, false, false, false] rfl rfl (any_of HT_.out (by kernel_rfl)) (fun _ _ _ h => h) (Or.inl ⟨by rfl, ?_⟩) ?_ ?_
               rotate_left
               ·intro w'
                go_simp
                with_reducible rfl
               rotate_left
               ·simp only [Act.put, List.setIfInBounds_toArray, List.set_cons_zero, List.set_cons_succ, i64_w, i32_w]
                rfl
               refine take_ (i := 12) (N := some 59) (v := ?_) (a' := ?_) #[true, true, true, true, true, true, true, true, true, true, true, true, true, false, false, false, false, false, false, false] rfl rfl (take_ofW HT_.out HW_.out (by kernel_rfl)) (fun _ _ _ h => h) (Or.inl ⟨by rfl, ?_⟩) hHeld ?_ ?_
               rotate_left
               ·rintro w' ⟨s0, s1, s2, s3, s4, s5, s6, s7, s8, s9, s10, s11, s12⟩
                go_simp
                with_reducible rfl
               rotate_left
               ·simp only [Act.put, List.setIfInBounds_toArray, List.set_cons_zero, List.set_cons_succ, i64_w, i32_w]
                rfl
               refine pure_ (i := 13) (N := some 60) (v := ?_) (a' := ?_) #[true, true, true, true, true, true, true, true, true, true, true, true, true, true, false, false, false, false, false, false] rfl rfl (any_of HT_.out (by kernel_rfl)) (fun _ _ _ h => h) (Or.inl ⟨by rfl, ?_⟩) ?_ ?_
               rotate_left
               ·intro w'
                go_simp
                with_reducible rfl
               rotate_left
               ·simp only [Act.put, List.setIfInBounds_toArray, List.set_cons_zero, List.set_cons_succ, i64_w, i32_w]
                rfl
               refine take_ (i := 14) (N := some 61) (v := ?_) (a' := ?_) #[true, true, true, true, true, true, true, true, true, true, true, true, true, true, true, false, false, false, false, false] rfl rfl (take_ofW HT_.out HW_.out (by kernel_rfl)) (fun _ _ _ h => h) (Or.inl ⟨by rfl, ?_⟩) hHeld ?_ ?_
               rotate_left
               ·rintro w' ⟨s0, s1, s2, s3, s4, s5, s6, s7, s8, s9, s10, s11, s12⟩
                go_simp
                with_reducible rfl
               rotate_left
               ·simp only [Act.put, List.setIfInBounds_toArray, List.set_cons_zero, List.set_cons_succ, i64_w, i32_w]
                rfl
               refine one_ (i := 15) (N := some 62) #[true, true, true, true, true, true, true, true, true, true, true, true, true, true, true, true, false, false, false, false] rfl rfl (one_of HT_.out (by kernel_rfl)) (by decide) (fun K hK => ?_)
               refine goes_ Try.func29 (by kernel_rfl) rfl #[.agg #[.int .i64 ((rd_T40 l0_0 (rd ((rd_T40 l0_0 a1).f3) a2)).f0), .slice A273_1 ((rd_T40 l0_0 (rd ((rd_T40 l0_0 a1).f3) a2)).f1).length c273_1, .slice A273_2 ((rd_T40 l0_0 (rd ((rd_T40 l0_0 a1).f3) a2)).f2).length c273_2, .slice A273_3 ((rd_T40 l0_0 (rd ((rd_T40 l0_0 a1).f3) a2)).f3).length c273_3]] (by rfl) rfl rfl (by (try simp only [List.map_toArray, List.map_cons, List.map_nil]); first | done | rfl | (simp only [List.length_drop, List.length_take]; rfl)) ?_
               with_reducible refine (dioramaref08_Copy.calls ((rd_T40 l0_0 (rd ((rd_T40 l0_0 a1).f3) a2)).f0) _ _ ((rd_T40 l0_0 (rd ((rd_T40 l0_0 a1).f3) a2)).f1) _ _ ((rd_T40 l0_0 (rd ((rd_T40 l0_0 a1).f3) a2)).f2) _ _ ((rd_T40 l0_0 (rd ((rd_T40 l0_0 a1).f3) a2)).f3) t274 t275 t278 t281 _ ?side1 ?side2 ?side3 ?side4 ?side5 ?side6 A58.out).mono ?_
               (case side1 => repeat (first | exact (Kd.C_below HR273_1.out HB.out) | (with_reducible refine Kd.C_alloc ?_ _) | (with_reducible refine Kd.C_drewN ?_ _) | (with_reducible refine Kd.C_drew ?_)))
               (case side2 => exact HC273_1.out)
               (case side3 => repeat (first | exact (Kd.C_below HR273_2.out HB.out) | (with_reducible refine Kd.C_alloc ?_ _) | (with_reducible refine Kd.C_drewN ?_ _) | (with_reducible refine Kd.C_drew ?_)))
               (case side4 => exact HC273_2.out)
               (case side5 => repeat (first | exact (Kd.C_below HR273_3.out HB.out) | (with_reducible refine Kd.C_alloc ?_ _) | (with_reducible refine Kd.C_drewN ?_ _) | (with_reducible refine Kd.C_drew ?_)))
               (case side6 => exact HC273_3.out)
               rintro e w76 ⟨v276, v279, v282, rfl, ho0, ho1, ho2, hb⟩
               refine ⟨_, rfl, ?_⟩
               have n0_ := Aside0.mk (Kd.S_mono (Kd.S_told (Kd.S_told (Kd.S_told (Kd.S_old (by (with_reducible repeat (first | apply Kd.S_alloc | apply Kd.S_drewN | apply Kd.S_drew)); exact HO268.out) hb) (Kd.R_base ho0)) (Kd.R_base ho1)) (Kd.R_base ho2)) (fun _ h_ => h_.1))
               have n1_ := Aside0.mk (Kd.R_lower ho0 (below_size (BB HB)))
               have n2_ := Aside0.mk (Kd.R_lower ho1 (below_size (BB HB)))
               have n3_ := Aside0.mk (Kd.R_lower ho2 (below_size (BB HB)))
               have n4_ := BE BK259 hb
               have n5_ := BE BK270 hb
               have n6_ := Aside0.mk (below_step (BB HB) hb)
               clear HO268
               clear BK259
               clear BK270
               clear HB
               have HO268 := n0_
               have HO277 := n1_
               have HO280 := n2_
               have HO283 := n3_
               have BK259 := n4_
               have BK270 := n5_
               have HB := n6_
               clear n0_ n1_ n2_ n3_ n4_ n5_ n6_
               (try clear hb)
               (try clear hb2)
               (try clear hk)
               (try clear hi)
               (try clear ho0)
               (try clear ho1)
               (try clear ho2)
               obtain ⟨Ao78, co78, eo78⟩ := Kd.R_slice HO277.out
               (first | subst eo78 | (injection eo78 with f1_ f2_ f3_; have f4_ := f1_.symm; have f5_ := f3_.symm; clear f1_ f2_ f3_; subst f4_; subst f5_))
               obtain ⟨Ao79, co79, eo79⟩ := Kd.R_slice HO280.out
               (first | subst eo79 | (injection eo79 with f1_ f2_ f3_; have f4_ := f1_.symm; have f5_ := f3_.symm; clear f1_ f2_ f3_; subst f4_; subst f5_))
               obtain ⟨Ao80, co80, eo80⟩ := Kd.R_slice HO283.out
               (first | subst eo80 | (injection eo80 with f1_ f2_ f3_; have f4_ := f1_.symm; have f5_ := f3_.symm; clear f1_ f2_ f3_; subst f4_; subst f5_))
               refine hK.out _ _ ⟨(blk_cell BK270.out 0).trans rfl, (blk_cell BK270.out 1).trans rfl, (blk_cell BK259.out 0).trans rfl, (blk_cell BK259.out 1).trans rfl, ((HB.out.cell (World.block_lt_of_cell? w _ hw271_0)).trans hw271_0), ((HB.out.cell (World.block_lt_of_cell? w _ hw271_1)).trans hw271_1), ((HB.out.cell (World.block_lt_of_cell? w _ hw271_2)).trans hw271_2), ((HB.out.cell (World.block_lt_of_cell? w _ hw271_3)).trans hw271_3), ((HB.out.cell (World.block_lt_of_cell? w _ hw272_0)).trans hw272_0), ((HB.out.cell (World.block_lt_of_cell? w _ hw273_0)).trans hw273_0), ((HB.out.cell (World.block_lt_of_cell? w _ hw273_1)).trans hw273_1), ((HB.out.cell (World.block_lt_of_cell? w _ hw273_2)).trans hw273_2), ((HB.out.cell (World.block_lt_of_cell? w _ hw273_3)).trans hw273_3)⟩ (fun hHeld => ?_)
               clear hK K
               refine norm_ (a' := ?_) ?_ ?_
               rotate_left
               ·show Act.put _ (some 62) _ = _
                simp only [Act.put, List.setIfInBounds_toArray, List.set_cons_zero, List.set_cons_succ, i64_w, i32_w]
                rfl
               refine one_ (i := 16) (N := some 63) #[true, true, true, true, true, true, true, true, true, true, true, true, true, true, true, true, true, false, false, false] rfl rfl (one_of HT_.out (by kernel_rfl)) (by decide) (fun K hK => ?_)
               refine value_ (w1 := ?_) (v := ?_) (by rfl) rfl ?_ ?_
               rotate_left 2
               ·go_simp
                constructor
                ·rfl
                ·rfl
               refine hK.out _ _ ⟨(blk_cell (blk_alloc BK270.out _) 0).trans rfl, (blk_cell (blk_alloc BK270.out _) 1).trans rfl, (blk_cell (blk_alloc BK259.out _) 0).trans rfl, (blk_cell (blk_alloc BK259.out _) 1).trans rfl, (World.cell?_alloc_lt _ _ _ (World.block_lt_of_cell? _ _ (((HB.out.cell (World.block_lt_of_cell? w _ hw271_0)).trans hw271_0)))).trans (((HB.out.cell (World.block_lt_of_cell? w _ hw271_0)).trans hw271_0)), (World.cell?_alloc_lt _ _ _ (World.block_lt_of_cell? _ _ (((HB.out.cell (World.block_lt_of_cell? w _ hw271_1)).trans hw271_1)))).trans (((HB.out.cell (World.block_lt_of_cell? w _ hw271_1)).trans hw271_1)), (World.cell?_alloc_lt _ _ _ (World.block_lt_of_cell? _ _ (((HB.out.cell (World.block_lt_of_cell? w _ hw271_2)).trans hw271_2)))).trans (((HB.out.cell (World.block_lt_of_cell? w _ hw271_2)).trans hw271_2)), (World.cell?_alloc_lt _ _ _ (World.block_lt_of_cell? _ _ (((HB.out.cell (World.block_lt_of_cell? w _ hw271_3)).trans hw271_3)))).trans (((HB.out.cell (World.block_lt_of_cell? w _ hw271_3)).trans hw271_3)), (World.cell?_alloc_lt _ _ _ (World.block_lt_of_cell? _ _ (((HB.out.cell (World.block_lt_of_cell? w _ hw272_0)).trans hw272_0)))).trans (((HB.out.cell (World.block_lt_of_cell? w _ hw272_0)).trans hw272_0)), (World.cell?_alloc_lt _ _ _ (World.block_lt_of_cell? _ _ (((HB.out.cell (World.block_lt_of_cell? w _ hw273_0)).trans hw273_0)))).trans (((HB.out.cell (World.block_lt_of_cell? w _ hw273_0)).trans hw273_0)), (World.cell?_alloc_lt _ _ _ (World.block_lt_of_cell? _ _ (((HB.out.cell (World.block_lt_of_cell? w _ hw273_1)).trans hw273_1)))).trans (((HB.out.cell (World.block_lt_of_cell? w _ hw273_1)).trans hw273_1)), (World.cell?_alloc_lt _ _ _ (World.block_lt_of_cell? _ _ (((HB.out.cell (World.block_lt_of_cell? w _ hw273_2)).trans hw273_2)))).trans (((HB.out.cell (World.block_lt_of_cell? w _ hw273_2)).trans hw273_2)), (World.cell?_alloc_lt _ _ _ (World.block_lt_of_cell? _ _ (((HB.out.cell (World.block_lt_of_cell? w _ hw273_3)).trans hw273_3)))).trans (((HB.out.cell (World.block_lt_of_cell? w _ hw273_3)).trans hw273_3))⟩ (fun hHeld => ?_)
               clear hK K
               refine norm_ (a' := ?_) ?_ ?_
               rotate_left
               ·show Act.put _ (some 63) _ = _
                simp only [Act.put, List.setIfInBounds_toArray, List.set_cons_zero, List.set_cons_succ, i64_w, i32_w]
                rfl
               refine one_ (i := 17) (N := some 64) #[true, true, true, true, true, true, true, true, true, true, true, true, true, true, true, true, true, true, false, false] rfl rfl (one_of HT_.out (by kernel_rfl)) (by decide) (fun K hK => ?_)
               refine Kd.S_append_step k40 (w0 := w) w.heap.size (by rfl) (.tmp 48) (.tmp 63) 22 40 (.agg #[(.int .i64 0), (.slice none 0 0), (.slice none 0 0), (.slice none 0 0)]) 80 rfl Try.underlying22 info40 rfl (by decide) (by omega) (.slice Ao71 t266.length co71) t266 (⟨t274, t275, t278, t281⟩ : S40) [.int .i64 t274, .slice Ao78 t275.length co78, .slice Ao79 t278.length co79, .slice Ao80 t281.length co80] (fun _ => True) (fun k_ => some k_ = (.slice Ao78 t275.length co78 : Value).ownBlock ∨ some k_ = (.slice Ao79 t278.length co79 : Value).ownBlock ∨ some k_ = (.slice Ao80 t281.length co80 : Value).ownBlock) rfl rfl ?aP (fun k_ hk_ => hk_.elim (fun h_ => ((Kd.R_mono (ok' := fun k_ => ((fun _ => True)) k_ ∧ some k_ ≠ (.slice Ao71 t266.length co71 : Value).ownBlock) (Kd.R_apart' (HO277.out) (Kd.S_typed HO268.out) (by decide)) (fun k_ hk => ⟨trivial, hk.2⟩))).1 k_ h_.symm) (fun h_ => h_.elim (fun h_ => ((Kd.R_mono (ok' := fun k_ => ((fun _ => True)) k_ ∧ some k_ ≠ (.slice Ao71 t266.length co71 : Value).ownBlock) (Kd.R_apart' (HO280.out) (Kd.S_typed HO268.out) (by decide)) (fun k_ hk => ⟨trivial, hk.2⟩))).1 k_ h_.symm) (fun h_ => ((Kd.R_mono (ok' := fun k_ => ((fun _ => True)) k_ ∧ some k_ ≠ (.slice Ao71 t266.length co71 : Value).ownBlock) (Kd.R_apart' (HO283.out) (Kd.S_typed HO268.out) (by decide)) (fun k_ hk => ⟨trivial, hk.2⟩))).1 k_ h_.symm))) ?aF ?aO ?aB ?aS ?aL ?_
               (case aP => exact k40_mkM _ _ _ (⟨t274, t275, t278, t281⟩ : S40) (Kd.R_mono (Kd.R_tight rfl (Kd.R_mono (ok' := fun k_ => ((fun _ => True)) k_ ∧ some k_ ≠ (.slice Ao71 t266.length co71 : Value).ownBlock) (Kd.R_apart' (HO277.out) (Kd.S_typed HO268.out) (by decide)) (fun k_ hk => ⟨trivial, hk.2⟩))) (fun _ h_ => Or.inl h_)) (Kd.R_mono (Kd.R_tight rfl (Kd.R_mono (ok' := fun k_ => ((fun _ => True)) k_ ∧ some k_ ≠ (.slice Ao71 t266.length co71 : Value).ownBlock) (Kd.R_apart' (HO280.out) (Kd.S_typed HO268.out) (by decide)) (fun k_ hk => ⟨trivial, hk.2⟩))) (fun _ h_ => Or.inr (Or.inl h_))) (Kd.R_mono (Kd.R_tight rfl (Kd.R_mono (ok' := fun k_ => ((fun _ => True)) k_ ∧ some k_ ≠ (.slice Ao71 t266.length co71 : Value).ownBlock) (Kd.R_apart' (HO283.out) (Kd.S_typed HO268.out) (by decide)) (fun k_ hk => ⟨trivial, hk.2⟩))) (fun _ h_ => Or.inr (Or.inr (h_)))))
               (case aB => exact (BB HB))
               (case aF => exact (fun _ _ => trivial))
               (case aO => exact (by (with_reducible repeat (first | apply Kd.S_alloc | apply Kd.S_drewN | apply Kd.S_drew)); exact Kd.S_mono HO268.out (fun k_ hk => ⟨trivial, fun e_ => e_.elim (fun h_ => hk.1.1.2 h_) (fun h_ => h_.elim (fun h_ => hk.1.2 h_) (fun h_ => hk.2 h_))⟩)))
               (case aS => exact (below_size (BB HB)))
               (case aL => have := LMc59.out; omega)
               intro v285 w77 ho hb hg hat
               rw [← Ny284.out] at ho
               have n0_ := Aside0.mk (blk_grown (g := gb259) (o := .cells #[.slice (some ad271) l0_0.length c0_0, .int .i64 a0_1] 24 (0, 0)) (BL BK259) hg (Kd.S_ne HO268.out BK259.out (by decide)))
               have n1_ := Aside0.mk (blk_grown (g := gb270) (o := .cells #[.slice Ao71 t266.length co71, .int .i64 t269] 24 (0, 0)) (BL BK270) hg (Kd.S_ne HO268.out BK270.out (by decide)))
               have n2_ := Aside0.mk (hb)
               have n3_ := Aside0.mk (ho)
               clear BK259
               clear BK270
               clear HB
               clear HO268
               clear HO277
               clear HO280
               clear HO283
               have BK259 := n0_
               have BK270 := n1_
               have HB := n2_
               have HO286 := n3_
               clear n0_ n1_ n2_ n3_
               clear ho hb hg hat
               obtain ⟨Ao81, co81, eo81⟩ := Kd.S_slice HO286.out
               (first | subst eo81 | (injection eo81 with f1_ f2_ f3_; have f4_ := f1_.symm; have f5_ := f3_.symm; clear f1_ f2_ f3_; subst f4_; subst f5_))
               refine hK.out _ _ ⟨(blk_cell BK270.out 0).trans rfl, (blk_cell BK270.out 1).trans rfl, (blk_cell BK259.out 0).trans rfl, (blk_cell BK259.out 1).trans rfl, ((HB.out.cell (World.block_lt_of_cell? w _ hw271_0)).trans hw271_0), ((HB.out.cell (World.block_lt_of_cell? w _ hw271_1)).trans hw271_1), ((HB.out.cell (World.block_lt_of_cell? w _ hw271_2)).trans hw271_2), ((HB.out.cell (World.block_lt_of_cell? w _ hw271_3)).trans hw271_3), ((HB.out.cell (World.block_lt_of_cell? w _ hw272_0)).trans hw272_0), ((HB.out.cell (World.block_lt_of_cell? w _ hw273_0)).trans hw273_0), ((HB.out.cell (World.block_lt_of_cell? w _ hw273_1)).trans hw273_1), ((HB.out.cell (World.block_lt_of_cell? w _ hw273_2)).trans hw273_2), ((HB.out.cell (World.block_lt_of_cell? w _ hw273_3)).trans hw273_3)⟩ (fun hHeld => ?_)
               clear hK K
               refine norm_ (a' := ?_) ?_ ?_
               rotate_left
               ·show Act.put _ (some 64) _ = _
                simp only [Act.put, List.setIfInBounds_toArray, List.set_cons_zero, List.set_cons_succ, i64_w, i32_w]
                rfl
               refine pure_ (i := 18) (N := some 65) (v := ?_) (a' := ?_) #[true, true, true, true, true, true, true, true, true, true, true, true, true, true, true, true, true, true, true, false] rfl rfl (any_of HT_.out (by kernel_rfl)) (fun _ _ _ h => h) (Or.inl ⟨by rfl, ?_⟩) ?_ ?_
               rotate_left
               ·intro w'
                go_simp
                with_reducible rfl
               rotate_left
               ·simp only [Act.put, List.setIfInBounds_toArray, List.set_cons_zero, List.set_cons_succ, i64_w, i32_w]
                rfl
               refine last_ (i := 19) (N := none) #[true, true, true, true, true, true, true, true, true, true, true, true, true, true, true, true, true, true, true, true] rfl rfl (one_of HT_.out (by kernel_rfl)) (by decide) (fun K hK => ?_)
               have hs82 : w77.cell? ⟨gb270, 0, none⟩ = some (.slice Ao71 t266.length co71) := (blk_cell BK270.out 0).trans rfl
               have hfs82 := blk_frozen BK270.out 0
               have hns82_0 := NB259_270.out
               have hms82_0 := NB270_259.out
               refine skip_ (w1 := ?_) (by rfl) rfl ?_ ?_
               rotate_left
               ·go_simp
                rfl
               refine hK.out _ _ ?_
               clear hK K
               refine done_ (done_of HT_.out (by kernel_rfl)) ?_
               try go_wp2
               have n0_ : Aside0 (Kd.S k40 40 (w77.setCell ⟨gb270, 0, none⟩ (.slice Ao81 y284.length co81)) w.heap.size (fun _ => True) (.slice Ao81 y284.length co81) y284) := ⟨by (with_reducible repeat (first | apply Kd.S_alloc | apply Kd.S_drewN | apply Kd.S_drew)); exact Kd.S_mono (Kd.S_far (p := ⟨gb270, 0, none⟩) (Kd.S_types HO286.out BK270.out (by decide)) (fun _ hk => hk.2) (.slice Ao81 y284.length co81)) (fun _ hk => trivial)⟩
               have n1_ : Aside0 ((w77.setCell ⟨gb270, 0, none⟩ (.slice Ao81 y284.length co81)).heap[gb259]? = some (.cells #[.slice (some ad271) l0_0.length c0_0, .int .i64 a0_1] 24 (0, 0))) := ⟨by refine blk_far ?_ NB259_270.out _; (with_reducible repeat (first | refine blk_drewN ?_ _ | refine blk_drew ?_ | refine blk_alloc ?_ _)); exact BK259.out⟩
               have n2_ : Aside0 ((w77.setCell ⟨gb270, 0, none⟩ (.slice Ao81 y284.length co81)).heap[gb270]? = some (.cells #[.slice Ao81 y284.length co81, .int .i64 t269] 24 (0, 0))) := ⟨by refine blk_put (cs := #[.slice Ao71 t266.length co71, .int .i64 t269]) ?_ 0 _ rfl; (with_reducible repeat (first | refine blk_drewN ?_ _ | refine blk_drew ?_ | refine blk_alloc ?_ _)); exact BK270.out⟩
               have n3_ : Aside0 (Below w.heap.size w (w77.setCell ⟨gb270, 0, none⟩ (.slice Ao81 y284.length co81))) := ⟨BB HB⟩
               (try clear HO286)
               (try clear BK259)
               (try clear BK270)
               (try clear HB)
               generalize (w77.setCell ⟨gb270, 0, none⟩ (.slice Ao81 y284.length co81)) = w83 at n0_ n1_ n2_ n3_ ⊢
               have HO286 := n0_
               have BK259 := n1_
               have BK270 := n2_
               have HB := n3_
               clear n0_ n1_ n2_ n3_
               have n0_ := Aside0.mk (Kd.S_drew HO286.out)
               have n1_ := Aside0.mk (blk_drew BK259.out)
               have n2_ := Aside0.mk (blk_drew BK270.out)
               have n3_ := Aside0.mk (below_drew1 HB.out)
               clear HO286
               clear BK259
               clear BK270
               clear HB
               have HO286 := n0_
               have BK259 := n1_
               have BK270 := n2_
               have HB := n3_
               clear n0_ n1_ n2_ n3_
               have p287 : 0 ≤ (a1 : Int) := of_decide_eq_true (by first | (with_reducible assumption) | assumption)
               have q287 : a1 < (y284.length : Int) := of_decide_eq_true (by first | (with_reducible assumption) | assumption)
               obtain ⟨ad287, A287_1, c287_1, A287_2, c287_2, A287_3, c287_3, e287, hx287_0, hx287_1, hx287_2, hx287_3, hl287_1, hi287_1, hl287_2, hi287_2, hl287_3, hi287_3⟩ := at_T40 (Kd.S_reads' HO286.out).2.2 a1 p287 q287
               cases e287
               obtain ⟨ce287, hce287, hMe287, hcc287⟩ := Kd.S_get HO286.out z40 a1 p287 (by first | exact q287 | exact of_decide_eq_true (by first | (with_reducible assumption) | assumption) | (have e_ := (Kd.S_reads' HO286.out).1; omega))
               obtain ⟨ve287_1, ve287_2, ve287_3, rfl, ge287_1, ge287_2, ge287_3⟩ := k40_openM hMe287
               have hv287_1 := hcc287 1 _ rfl
               rw [add_field _ _ 1 (by omega)] at hv287_1
               replace hv287_1 := Option.some.inj (hv287_1.symm.trans hx287_1)
               rw [hv287_1] at ge287_1
               have HL287_1 := Aside0.mk (show Kd.R (Kd.int .i64) 2 _ _ _ _ ((rd_T40 y284 a1).f1) from ge287_1)
               clear hv287_1 ge287_1
               have HX287_1 := Aside0.mk hx287_1
               have hv287_2 := hcc287 2 _ rfl
               rw [add_field _ _ 2 (by omega)] at hv287_2
               replace hv287_2 := Option.some.inj (hv287_2.symm.trans hx287_2)
               rw [hv287_2] at ge287_2
               have HL287_2 := Aside0.mk (show Kd.R Kd.string 9 _ _ _ _ ((rd_T40 y284 a1).f2) from ge287_2)
               clear hv287_2 ge287_2
               have HX287_2 := Aside0.mk hx287_2
               have hv287_3 := hcc287 3 _ rfl
               rw [add_field _ _ 3 (by omega)] at hv287_3
               replace hv287_3 := Option.some.inj (hv287_3.symm.trans hx287_3)
               rw [hv287_3] at ge287_3
               have HL287_3 := Aside0.mk (show Kd.R (Kd.int .i64) 3 _ _ _ _ ((rd_T40 y284 a1).f3) from ge287_3)
               clear hv287_3 ge287_3
               have HX287_3 := Aside0.mk hx287_3
               clear hcc287 hce287
               have HR287_1 := Aside0.mk hi287_1
               have HC287_1 := Aside0.mk hl287_1
               clear hi287_1 hl287_1
               have HR287_2 := Aside0.mk hi287_2
               have HC287_2 := Aside0.mk hl287_2
               clear hi287_2 hl287_2
               have HR287_3 := Aside0.mk hi287_3
               have HC287_3 := Aside0.mk hl287_3
               clear hi287_3 hl287_3
               replace p287 := eq_true p287
               replace q287 := eq_true q287
               have p62 : 0 ≤ (a2 : Int) := of_decide_eq_true (by first | (with_reducible assumption) | assumption)
               have q62 : (a2 : Int) < ((((rd_T40 y284 a1).f3).length : Int) : Int) := of_decide_eq_true (by first | (with_reducible assumption) | assumption)
               obtain ⟨go62, co62, eo62, gb62, gl62, cl62, HG62⟩ := Kd.R_form HL287_3.out (by omega)
               (first | cases eo62 | (injection eo62 with ea_ en_ ec_; (first | subst ea_ | (injection ea_ with ea_; subst ea_)); subst ec_; clear en_))
               have GB62 := Aside0.mk gb62
               have GG62 := Aside0.mk HG62
               clear gb62 gl62 HG62
               obtain ⟨hx62_0, hf62_0⟩ := Kd.R_celln 0 HL287_3.out (a2 : Int) p62 q62
               replace p62 := eq_true p62
               replace q62 := eq_true q62
               have hq85 : (a1 : Int) < (y284.length : Int) := (by have h_ : (a1 : Int) < ((y284.length : Int) : Int) := of_decide_eq_true (by first | (with_reducible assumption) | assumption); first | exact h_ | (have e_ := (Kd.S_reads' HO286.out).1; omega) | simpa only [List.length_set, List.length_set] using h_)
               obtain ⟨oki85, ce85, hcl85, hM85, hcc85, hok85, hbk85⟩ := Kd.S_borrow HO286.out z40 (a1 : Int) (of_decide_eq_true (by first | (with_reducible assumption) | assumption)) hq85
               obtain ⟨ve85_1, ve85_2, ve85_3, rfl, ge85_1, ge85_2, ge85_3⟩ := k40_openM hM85
               have hv85 := hcc85 3 _ rfl
               rw [add_field _ _ 3 (by omega)] at hv85
               replace hv85 := Option.some.inj (hv85.symm.trans HX287_3.out)
               subst hv85
               clear hcc85 hcl85
               replace ge85_3 := (show Kd.R (Kd.int .i64) 3 _ _ _ _ ((rd_T40 y284 a1).f3) from ge85_3)
               have HP85 := Kd.R_putg ge85_3 (a2 : Int) (wrap64 ((y284.length : Int) - 1))
               rw [← Ny288.out] at HP85
               have HS85 := hbk85 HP85.2 (fun k_ e_ => by injection e_ with e_; subst e_; exact ge85_3.1 _ rfl) (x' := (⟨(rd_T40 y284 a1).f0, (rd_T40 y284 a1).f1, (rd_T40 y284 a1).f2, y288⟩ : S40)) (k40_mkM _ _ _ (⟨(rd_T40 y284 a1).f0, (rd_T40 y284 a1).f1, (rd_T40 y284 a1).f2, y288⟩ : S40) (Kd.R_over' (v := (.slice (some ⟨go62, 0, none⟩) ((rd_T40 y284 a1).f3).length c287_3)) ge85_1 (Kd.R_typed ge85_3) (by decide) HP85.2) (Kd.R_over' (v := (.slice (some ⟨go62, 0, none⟩) ((rd_T40 y284 a1).f3).length c287_3)) ge85_2 (Kd.R_typed ge85_3) (by decide) HP85.2) HP85.1)
               rw [← Ny290.out] at HS85
               have HQ85 := Aside0.mk HS85
               clear HP85 HS85 hbk85 hok85
               refine start_ (n := 13) (S := fun w' => w'.cell? ⟨gb270, 0, none⟩ = some (.slice (some ad287) y284.length co81) ∧ w'.cell? ⟨gb270, 1, none⟩ = some (.int .i64 t269) ∧ w'.cell? (ad287.add ((a1).toNat * 4)) = some (.int .i64 ((rd_T40 y284 a1).f0)) ∧ w'.cell? ⟨(ad287.add ((a1).toNat * 4)).block, (ad287.add ((a1).toNat * 4)).off + 1, none⟩ = some (.slice A287_1 ((rd_T40 y284 a1).f1).length c287_1) ∧ w'.cell? ⟨(ad287.add ((a1).toNat * 4)).block, (ad287.add ((a1).toNat * 4)).off + 2, none⟩ = some (.slice A287_2 ((rd_T40 y284 a1).f2).length c287_2) ∧ w'.cell? ⟨(ad287.add ((a1).toNat * 4)).block, (ad287.add ((a1).toNat * 4)).off + 3, none⟩ = some (.slice (some ⟨go62, 0, none⟩) ((rd_T40 y284 a1).f3).length c287_3)) (ds := [12]) #[false, false, false, false, false, false, false, false, false, false, false, false, false] (by kernel_rfl) rfl rfl ⟨(blk_cell BK270.out 0).trans rfl, (blk_cell BK270.out 1).trans rfl, hx287_0, hx287_1, hx287_2, hx287_3⟩ (fun hHeld => ?_); refine with_tabW dioramalaw10_CanonApart.tab5 dioramalaw10_CanonApart.bits5 (fun HT_ HW_ => ?_)
               generalize w83.drew = w84 at HO286 BK259 BK270 HB GG62 HL287_1 HL287_2 HL287_3 HQ85 HR287_1 HR287_2 HR287_3 HX287_1 HX287_2 HX287_3 hf62_0 hx287_0 hx287_1 hx287_2 hx287_3 hx62_0 hHeld ⊢
               refine pure_ (i := 0) (N := some 66) (v := ?_) (a' := ?_) #[true, false, false, false, false, false, false, false, false, false, false, false, false] rfl rfl (any_of HT_.out (by kernel_rfl)) (fun _ _ _ h => h) (Or.inl ⟨by rfl, ?_⟩) ?_ ?_
               rotate_left
               ·intro w'
                go_simp
                with_reducible rfl
               rotate_left
               ·simp only [Act.put, List.setIfInBounds_toArray, List.set_cons_zero, List.set_cons_succ, i64_w, i32_w]
                rfl
               refine pure_ (i := 2) (N := some 68) (v := ?_) (a' := ?_) #[true, false, true, false, false, false, false, false, false, false, false, false, false] rfl rfl (any_of HT_.out (by kernel_rfl)) (fun _ _ _ h => h) (Or.inl ⟨by rfl, ?_⟩) ?_ ?_
               rotate_left
               ·intro w'
                go_simp
                with_reducible rfl
               rotate_left
               ·simp only [Act.put, List.setIfInBounds_toArray, List.set_cons_zero, List.set_cons_succ, i64_w, i32_w]
                rfl
               refine pure_ (i := 6) (N := some 72) (v := ?_) (a' := ?_) #[true, false, true, false, false, false, true, false, false, false, false, false, false] rfl rfl (any_of HT_.out (by kernel_rfl)) (fun _ _ _ h => h) (Or.inl ⟨by rfl, ?_⟩) ?_ ?_
               rotate_left
               ·intro w'
                go_simp
                with_reducible rfl
               rotate_left
               ·simp only [Act.put, List.setIfInBounds_toArray, List.set_cons_zero, List.set_cons_succ, i64_w, i32_w]
                rfl
               refine pure_ (i := 7) (N := some 73) (v := ?_) (a' := ?_) #[true, false, true, false, false, false, true, true, false, false, false, false, false] rfl rfl (any_of HT_.out (by kernel_rfl)) (fun _ _ _ h => h) (Or.inl ⟨by rfl, ?_⟩) ?_ ?_
               rotate_left
               ·intro w'
                go_simp
                with_reducible rfl
               rotate_left
               ·simp only [Act.put, List.setIfInBounds_toArray, List.set_cons_zero, List.set_cons_succ, i64_w, i32_w]
                rfl
               refine take_ (i := 1) (N := some 67) (v := ?_) (a' := ?_) #[true, true, true, false, false, false, true, true, false, false, false, false, false] rfl rfl (take_ofW HT_.out HW_.out (by kernel_rfl)) (fun _ _ _ h => h) (Or.inl ⟨by rfl, ?_⟩) hHeld ?_ ?_
               rotate_left
               ·rintro w' ⟨s0, s1, s2, s3, s4, s5⟩
                go_simp
                with_reducible rfl
               rotate_left
               ·simp only [Act.put, List.setIfInBounds_toArray, List.set_cons_zero, List.set_cons_succ, i64_w, i32_w]
                rfl
               refine pure_ (i := 3) (N := some 69) (v := ?_) (a' := ?_) #[true, true, true, true, false, false, true, true, false, false, false, false, false] rfl rfl (any_of HT_.out (by kernel_rfl)) (fun _ _ _ h => h) (Or.inl ⟨by rfl, ?_⟩) ?_ ?_
               rotate_left
               ·intro w'
                go_simp
                with_reducible rfl
               rotate_left
               ·simp only [Act.put, List.setIfInBounds_toArray, List.set_cons_zero, List.set_cons_succ, i64_w, i32_w]
                rfl
               refine pure_ (i := 4) (N := some 70) (v := ?_) (a' := ?_) #[true, true, true, true, true, false, true, true, false, false, false, false, false] rfl rfl (any_of HT_.out (by kernel_rfl)) (fun _ _ _ h => h) (Or.inl ⟨by rfl, ?_⟩) ?_ ?_
               rotate_left
               ·intro w'
                go_simp
                with_reducible rfl
               rotate_left
               ·simp only [Act.put, List.setIfInBounds_toArray, List.set_cons_zero, List.set_cons_succ, i64_w, i32_w]
                rfl
               refine take_ (i := 5) (N := some 71) (v := ?_) (a' := ?_) #[true, true, true, true, true, true, true, true, false, false, false, false, false] rfl rfl (take_ofW HT_.out HW_.out (by kernel_rfl)) (fun _ _ _ h => h) (Or.inl ⟨by rfl, ?_⟩) hHeld ?_ ?_
               rotate_left
               ·rintro w' ⟨s0, s1, s2, s3, s4, s5⟩
                go_simp
                with_reducible rfl
               rotate_left
               ·simp only [Act.put, List.setIfInBounds_toArray, List.set_cons_zero, List.set_cons_succ, i64_w, i32_w]
                rfl
               refine take_ (i := 8) (N := some 74) (v := ?_) (a' := ?_) #[true, true, true, true, true, true, true, true, true, false, false, false, false] rfl rfl (take_ofW HT_.out HW_.out (by kernel_rfl)) (fun _ _ _ h => h) (Or.inl ⟨by rfl, ?_⟩) hHeld ?_ ?_
               rotate_left
               ·rintro w' ⟨s0, s1, s2, s3, s4, s5⟩
                go_simp
                with_reducible rfl
               rotate_left
               ·simp only [Act.put, List.setIfInBounds_toArray, List.set_cons_zero, List.set_cons_succ, i64_w, i32_w]
                rfl
               refine pure_ (i := 9) (N := some 75) (v := ?_) (a' := ?_) #[true, true, true, true, true, true, true, true, true, true, false, false, false] rfl rfl (any_of HT_.out (by kernel_rfl)) (fun _ _ _ h => h) (Or.inl ⟨by rfl, ?_⟩) ?_ ?_
               rotate_left
               ·intro w'
                go_simp
                with_reducible rfl
               rotate_left
               ·simp only [Act.put, List.setIfInBounds_toArray, List.set_cons_zero, List.set_cons_succ, i64_w, i32_w]
                rfl
               refine pure_ (i := 10) (N := some 76) (v := ?_) (a' := ?_) #[true, true, true, true, true, true, true, true, true, true, true, false, false] rfl rfl (any_of HT_.out (by kernel_rfl)) (fun _ _ _ h => h) (Or.inl ⟨by rfl, ?_⟩) ?_ ?_
               rotate_left
               ·intro w'
                go_simp
                with_reducible rfl
               rotate_left
               ·simp only [Act.put, List.setIfInBounds_toArray, List.set_cons_zero, List.set_cons_succ, i64_w, i32_w]
                rfl
               refine pure_ (i := 11) (N := some 77) (v := ?_) (a' := ?_) #[true, true, true, true, true, true, true, true, true, true, true, true, false] rfl rfl (any_of HT_.out (by kernel_rfl)) (fun _ _ _ h => h) (Or.inl ⟨by rfl, ?_⟩) ?_ ?_
               rotate_left
               ·intro w'
                go_simp
                with_reducible rfl
               rotate_left
               ·simp only [Act.put, List.setIfInBounds_toArray, List.set_cons_zero, List.set_cons_succ, i64_w, i32_w]
                rfl
               refine last_ (i := 12) (N := none) #[true, true, true, true, true, true, true, true, true, true, true, true, true] rfl rfl (one_of HT_.out (by kernel_rfl)) (by decide) (fun K hK => ?_)
               refine skip_ (w1 := ?_) (by rfl) rfl ?_ ?_
               rotate_left
               ·go_simp
                rfl
               refine hK.out _ _ ?_
               clear hK K
               refine done_ (done_of HT_.out (by kernel_rfl)) ?_
               have n0_ : Aside0 (Kd.S k40 40 (w84.setCell ⟨go62, (a2 : Int).toNat, none⟩ (.int .i64 (wrap64 ((y284.length : Int) - 1)))) w.heap.size (fun _ => True) (.slice (some ad287) y284.length co81) y290) := ⟨by (with_reducible repeat (first | apply Kd.S_alloc | apply Kd.S_drewN | apply Kd.S_drew)); exact HQ85.out⟩
               have n1_ : Aside0 ((w84.setCell ⟨go62, (a2 : Int).toNat, none⟩ (.int .i64 (wrap64 ((y284.length : Int) - 1)))).heap[gb259]? = some (.cells #[.slice (some ad271) l0_0.length c0_0, .int .i64 a0_1] 24 (0, 0))) := ⟨by refine blk_far ?_ (by have h_ := Kd.R_ne HL287_3.out BK259.out (by decide); intro e_; exact h_ (by rw [e_]; rfl)) _; (with_reducible repeat (first | refine blk_drewN ?_ _ | refine blk_drew ?_ | refine blk_alloc ?_ _)); exact BK259.out⟩
               have n2_ : Aside0 ((w84.setCell ⟨go62, (a2 : Int).toNat, none⟩ (.int .i64 (wrap64 ((y284.length : Int) - 1)))).heap[gb270]? = some (.cells #[.slice (some ad287) y284.length co81, .int .i64 t269] 24 (0, 0))) := ⟨by refine blk_far ?_ (by have h_ := Kd.R_ne HL287_3.out BK270.out (by decide); intro e_; exact h_ (by rw [e_]; rfl)) _; (with_reducible repeat (first | refine blk_drewN ?_ _ | refine blk_drew ?_ | refine blk_alloc ?_ _)); exact BK270.out⟩
               have n3_ : Aside0 (Below w.heap.size w (w84.setCell ⟨go62, (a2 : Int).toNat, none⟩ (.int .i64 (wrap64 ((y284.length : Int) - 1))))) := ⟨BB HB⟩
               (try clear HO286)
               (try clear BK259)
               (try clear BK270)
               (try clear HB)
               generalize (w84.setCell ⟨go62, (a2 : Int).toNat, none⟩ (.int .i64 (wrap64 ((y284.length : Int) - 1)))) = w87 at n0_ n1_ n2_ n3_ ⊢
               have HO286 := n0_
               have BK259 := n1_
               have BK270 := n2_
               have HB := n3_
               clear n0_ n1_ n2_ n3_
               have hcz88_0 : w87.cell? ⟨gb259, 0, none⟩ = some (.slice (some ad271) l0_0.length c0_0) := (blk_cell BK259.out 0).trans rfl
               have hcz88_1 : w87.cell? ⟨gb259, 1, none⟩ = some (.int .i64 a0_1) := (blk_cell BK259.out 1).trans rfl
               have hfz88_0 := blk_frozen BK259.out 0
               have hfz88_1 := blk_frozen BK259.out 1
               try go_wp2_with (first | ((with_reducible refine gate_callee (f := 16) rfl ?_); refine goesL_ (some 80) rfl rfl Try.func16 (by kernel_rfl) rfl #[.agg #[.slice (some ad271) l0_0.length c0_0, .int .i64 a0_1]] rfl (by (try simp only [List.map_toArray, List.map_cons, List.map_nil]); first | done | rfl | (simp only [List.length_drop, List.length_take]; rfl)) ?_; (with_reducible refine (canon_Canon.calls kj3 _ _ l0_0 a0_1 t291 t294 t295 _ ?side1 ?side2 A63.out).mono ?_); (case side1 => repeat (first | exact (Kd.C_below HR0_0.out HB.out) | (with_reducible refine Kd.C_alloc ?_ _) | (with_reducible refine Kd.C_drewN ?_ _) | (with_reducible refine Kd.C_drew ?_))); (case side2 => exact HC0_0.out); rintro e w89 ⟨v292, rfl, ho0, hb⟩; refine ⟨_, rfl, ?_⟩; have n0_ := Aside0.mk (Kd.S_elder' (by (with_reducible repeat (first | apply Kd.S_alloc | apply Kd.S_drewN | apply Kd.S_drew)); exact HO286.out) (Kd.R_base ho0) hb); have n1_ := Aside0.mk (Kd.R_lower (Kd.R_new' ho0 (Kd.S_lt (by (with_reducible repeat (first | apply Kd.S_alloc | apply Kd.S_drewN | apply Kd.S_drew)); exact HO286.out))) (below_size (BB HB))); have n2_ := BE BK259 hb; have n3_ := BE BK270 hb; have n4_ := Aside0.mk (below_step (BB HB) hb); clear HO286; clear BK259; clear BK270; clear HB; have HO286 := n0_; have HO293 := n1_; have BK259 := n2_; have BK270 := n3_; have HB := n4_; clear n0_ n1_ n2_ n3_ n4_; (try clear hb); (try clear hb2); (try clear hk); (try clear hi); (try clear ho0)) | ((with_reducible refine gate_dst (N := 8) rfl ?_); refine box_event ?hg (N := 8) ?hd (cs := #[.slice none 0 0, .int .i64 0]) (t := 24) ?hr ?_; (case hd => rfl); (case hg => rfl); (case hr => first | (go_simp; done) | (go_simp; rfl)); intro gb296 hg w90 hbox hb; have n0_ := Aside0.mk (Kd.S_below (by (with_reducible repeat (first | apply Kd.S_alloc | apply Kd.S_drewN | apply Kd.S_drew)); exact HO286.out) hb); have n1_ := Aside0.mk (Kd.R_below (by (with_reducible repeat (first | apply Kd.R_alloc | apply Kd.R_drewN | apply Kd.R_drew)); exact HO293.out) hb); have n2_ := BE BK259 hb; have n3_ := BE BK270 hb; have n4_ := Aside0.mk (below_step (BB HB) hb); have n5_ := Aside0.mk (hbox); have n6_ := Aside0.mk ((by rw [hg]; exact (below_size (BB HB)) : w.heap.size ≤ gb296)); have n7_ := Aside0.mk ((by rw [hg]; exact (below_size (BB HB)) : w.heap.size ≤ gb296)); have n8_ := Aside0.mk ((by rw [hg]; exact Nat.ne_of_lt (blk_lt (g := gb259) (o := .cells #[.slice (some ad271) l0_0.length c0_0, .int .i64 a0_1] 24 (0, 0)) (BL BK259)) : gb259 ≠ gb296)); have n9_ := Aside0.mk ((by rw [hg]; exact Nat.ne_of_gt (blk_lt (g := gb259) (o := .cells #[.slice (some ad271) l0_0.length c0_0, .int .i64 a0_1] 24 (0, 0)) (BL BK259)) : gb296 ≠ gb259)); have n10_ := Aside0.mk ((by rw [hg]; exact Nat.ne_of_lt (blk_lt (g := gb270) (o := .cells #[.slice (some ad287) y284.length co81, .int .i64 t269] 24 (0, 0)) (BL BK270)) : gb270 ≠ gb296)); have n11_ := Aside0.mk ((by rw [hg]; exact Nat.ne_of_gt (blk_lt (g := gb270) (o := .cells #[.slice (some ad287) y284.length co81, .int .i64 t269] 24 (0, 0)) (BL BK270)) : gb296 ≠ gb270)); clear HO286; clear HO293; clear BK259; clear BK270; clear HB; have HO286 := n0_; have HO293 := n1_; have BK259 := n2_; have BK270 := n3_; have HB := n4_; have BK296 := n5_; have GW296 := n6_; have GE296 := n7_; have NB259_296 := n8_; have NB296_259 := n9_; have NB270_296 := n10_; have NB296_270 := n11_; clear n0_ n1_ n2_ n3_ n4_ n5_ n6_ n7_ n8_ n9_ n10_ n11_; clear hb hbox hg; obtain ⟨Ao91, co91, eo91⟩ := Kd.R_slice HO293.out; subst eo91; have hnb92 := NB296_259.out; have hnc92 := NB259_296.out; have hnb93 := NB296_270.out; have hnc93 := NB270_296.out; have hcz94_0 : w90.cell? ⟨gb296, 0, none⟩ = some (.slice none 0 0) := (blk_cell BK296.out 0).trans rfl; have hcz94_1 : w90.cell? ⟨gb296, 1, none⟩ = some (.int .i64 0) := (blk_cell BK296.out 1).trans rfl; have hfz94_0 := blk_frozen BK296.out 0; have hfz94_1 := blk_frozen BK296.out 1; have hcz95_0 : w90.cell? ⟨gb270, 0, none⟩ = some (.slice (some ad287) y284.length co81) := (blk_cell BK270.out 0).trans rfl; have hcz95_1 : w90.cell? ⟨gb270, 1, none⟩ = some (.int .i64 t269) := (blk_cell BK270.out 1).trans rfl; have hfz95_0 := blk_frozen BK270.out 0; have hfz95_1 := blk_frozen BK270.out 1) | ((with_reducible refine gate_callee (f := 16) rfl ?_); refine goesL_ (some 85) rfl rfl Try.func16 (by kernel_rfl) rfl #[.agg #[.slice (some ad287) y290.length co81, .int .i64 t269]] rfl (by (try simp only [List.map_toArray, List.map_cons, List.map_nil]); first | done | (rw [show y290.length = y284.length from (Kd.S_reads' HO286.out).1.symm] <;> rfl) | rfl | (simp only [List.length_drop, List.length_take]; rfl)) ?_; (with_reducible refine (canon_Canon.calls kj3 _ _ y290 t269 t297 t300 t301 _ ?side1 ?side2 A64.out).mono ?_); (case side1 => refine (Kd.S_reads' (e := 40) (base := w.heap.size) (ok := fun k_ => (True ∧ some k_ ≠ (.slice Ao91 t291.length co91 : Value).ownBlock)) (n := y284.length) (c := co81) ?_).2.2; exact (by (with_reducible repeat (first | apply Kd.S_alloc | apply Kd.S_drewN | apply Kd.S_drew)); exact (Kd.S_mono (Kd.S_far (p := ⟨gb296, 1, none⟩) (Kd.S_far (p := ⟨gb296, 0, none⟩) (Kd.S_types HO286.out BK296.out (by decide)) (fun _ hk => hk.2) (.slice Ao91 t291.length co91)) (fun _ hk => hk.2) (.int .i64 t294)) (fun _ h_ => h_.1)))); (case side2 => rw [show y290.length = y284.length from (Kd.S_reads' HO286.out).1.symm]; exact (Kd.S_reads' HO286.out).2.1); rintro e w96 ⟨v298, rfl, ho0, hb⟩; refine ⟨_, rfl, ?_⟩; have n0_ := Aside0.mk (Kd.S_elder' (by (with_reducible repeat (first | apply Kd.S_alloc | apply Kd.S_drewN | apply Kd.S_drew)); exact (Kd.S_mono (Kd.S_far (p := ⟨gb296, 1, none⟩) (Kd.S_far (p := ⟨gb296, 0, none⟩) (Kd.S_types HO286.out BK296.out (by decide)) (fun _ hk => hk.2) (.slice Ao91 t291.length co91)) (fun _ hk => hk.2) (.int .i64 t294)) (fun _ h_ => h_.1))) (Kd.R_base ho0) hb); have n1_ := Aside0.mk (Kd.R_elder' (by (with_reducible repeat (first | apply Kd.R_alloc | apply Kd.R_drewN | apply Kd.R_drew)); exact (Kd.R_mono (Kd.R_far (p := ⟨gb296, 1, none⟩) (Kd.R_far (p := ⟨gb296, 0, none⟩) (Kd.R_types HO293.out BK296.out (by decide)) (fun _ hk => hk.2) (.slice Ao91 t291.length co91)) (fun _ hk => hk.2) (.int .i64 t294)) (fun _ h_ => h_.1))) (Kd.R_base ho0) hb); have n2_ := Aside0.mk (Kd.R_lower (Kd.R_new' (Kd.R_new' ho0 (Kd.S_lt (by (with_reducible repeat (first | apply Kd.S_alloc | apply Kd.S_drewN | apply Kd.S_drew)); exact (Kd.S_mono (Kd.S_far (p := ⟨gb296, 1, none⟩) (Kd.S_far (p := ⟨gb296, 0, none⟩) (Kd.S_types HO286.out BK296.out (by decide)) (fun _ hk => hk.2) (.slice Ao91 t291.length co91)) (fun _ hk => hk.2) (.int .i64 t294)) (fun _ h_ => h_.1))))) (Kd.R_lt (by (with_reducible repeat (first | apply Kd.R_alloc | apply Kd.R_drewN | apply Kd.R_drew)); exact (Kd.R_mono (Kd.R_far (p := ⟨gb296, 1, none⟩) (Kd.R_far (p := ⟨gb296, 0, none⟩) (Kd.R_types HO293.out BK296.out (by decide)) (fun _ hk => hk.2) (.slice Ao91 t291.length co91)) (fun _ hk => hk.2) (.int .i64 t294)) (fun _ h_ => h_.1))))) (below_size (BB HB))); have n3_ := Aside0.mk (blk_below (g := gb259) (o := .cells #[.slice (some ad271) l0_0.length c0_0, .int .i64 a0_1] 24 (0, 0)) (by refine blk_far ?_ NB259_296.out _; refine blk_far ?_ NB259_296.out _; (with_reducible repeat (first | refine blk_drewN ?_ _ | refine blk_drew ?_ | refine blk_alloc ?_ _)); exact BK259.out) hb); have n4_ := Aside0.mk (blk_below (g := gb270) (o := .cells #[.slice (some ad287) y284.length co81, .int .i64 t269] 24 (0, 0)) (by refine blk_far ?_ NB270_296.out _; refine blk_far ?_ NB270_296.out _; (with_reducible repeat (first | refine blk_drewN ?_ _ | refine blk_drew ?_ | refine blk_alloc ?_ _)); exact BK270.out) hb); have n5_ := Aside0.mk (blk_below (g := gb296) (o := .cells #[.slice Ao91 t291.length co91, .int .i64 t294] 24 (0, 0)) (by refine blk_put (cs := #[.slice Ao91 t291.length co91, .int .i64 0]) ?_ 1 _ rfl; refine blk_put (cs := #[.slice none 0 0, .int .i64 0]) ?_ 0 _ rfl; (with_reducible repeat (first | refine blk_drewN ?_ _ | refine blk_drew ?_ | refine blk_alloc ?_ _)); exact BK296.out) hb); have n6_ := Aside0.mk (below_step (BB HB) hb); clear HO286; clear HO293; clear BK259; clear BK270; clear BK296; clear HB; have HO286 := n0_; have HO293 := n1_; have HO299 := n2_; have BK259 := n3_; have BK270 := n4_; have BK296 := n5_; have HB := n6_; clear n0_ n1_ n2_ n3_ n4_ n5_ n6_; (try clear hb); (try clear hb2); (try clear hk); (try clear hi); (try clear ho0)) | ((with_reducible refine gate_dst (N := 10) rfl ?_); refine box_event ?hg (N := 10) ?hd (cs := #[.slice none 0 0, .int .i64 0]) (t := 24) ?hr ?_; (case hd => rfl); (case hg => rfl); (case hr => first | (go_simp; done) | (go_simp; rfl)); intro gb302 hg w97 hbox hb; have n0_ := Aside0.mk (Kd.S_below (by (with_reducible repeat (first | apply Kd.S_alloc | apply Kd.S_drewN | apply Kd.S_drew)); exact HO286.out) hb); have n1_ := Aside0.mk (Kd.R_below (by (with_reducible repeat (first | apply Kd.R_alloc | apply Kd.R_drewN | apply Kd.R_drew)); exact HO293.out) hb); have n2_ := Aside0.mk (Kd.R_below (by (with_reducible repeat (first | apply Kd.R_alloc | apply Kd.R_drewN | apply Kd.R_drew)); exact HO299.out) hb); have n3_ := BE BK259 hb; have n4_ := BE BK270 hb; have n5_ := BE BK296 hb; have n6_ := Aside0.mk (below_step (BB HB) hb); have n7_ := Aside0.mk (hbox); have n8_ := Aside0.mk ((by rw [hg]; exact (below_size (BB HB)) : w.heap.size ≤ gb302)); have n9_ := Aside0.mk ((by rw [hg]; exact (below_size (BB HB)) : w.heap.size ≤ gb302)); have n10_ := Aside0.mk ((by rw [hg]; exact Nat.ne_of_lt (blk_lt (g := gb259) (o := .cells #[.slice (some ad271) l0_0.length c0_0, .int .i64 a0_1] 24 (0, 0)) (BL BK259)) : gb259 ≠ gb302)); have n11_ := Aside0.mk ((by rw [hg]; exact Nat.ne_of_gt (blk_lt (g := gb259) (o := .cells #[.slice (some ad271) l0_0.length c0_0, .int .i64 a0_1] 24 (0, 0)) (BL BK259)) : gb302 ≠ gb259)); have n12_ := Aside0.mk ((by rw [hg]; exact Nat.ne_of_lt (blk_lt (g := gb270) (o := .cells #[.slice (some ad287) y284.length co81, .int .i64 t269] 24 (0, 0)) (BL BK270)) : gb270 ≠ gb302)); have n13_ := Aside0.mk ((by rw [hg]; exact Nat.ne_of_gt (blk_lt (g := gb270) (o := .cells #[.slice (some ad287) y284.length co81, .int .i64 t269] 24 (0, 0)) (BL BK270)) : gb302 ≠ gb270)); have n14_ := Aside0.mk ((by rw [hg]; exact Nat.ne_of_lt (blk_lt (g := gb296) (o := .cells #[.slice Ao91 t291.length co91, .int .i64 t294] 24 (0, 0)) (BL BK296)) : gb296 ≠ gb302)); have n15_ := Aside0.mk ((by rw [hg]; exact Nat.ne_of_gt (blk_lt (g := gb296) (o := .cells #[.slice Ao91 t291.length co91, .int .i64 t294] 24 (0, 0)) (BL BK296)) : gb302 ≠ gb296)); clear HO286; clear HO293; clear HO299; clear BK259; clear BK270; clear BK296; clear HB; have HO286 := n0_; have HO293 := n1_; have HO299 := n2_; have BK259 := n3_; have BK270 := n4_; have BK296 := n5_; have HB := n6_; have BK302 := n7_; have GW302 := n8_; have GE302 := n9_; have NB259_302 := n10_; have NB302_259 := n11_; have NB270_302 := n12_; have NB302_270 := n13_; have NB296_302 := n14_; have NB302_296 := n15_; clear n0_ n1_ n2_ n3_ n4_ n5_ n6_ n7_ n8_ n9_ n10_ n11_ n12_ n13_ n14_ n15_; clear hb hbox hg; obtain ⟨Ao98, co98, eo98⟩ := Kd.R_slice HO299.out; subst eo98; have hnb99 := NB302_259.out; have hnc99 := NB259_302.out; have hnb100 := NB302_270.out; have hnc100 := NB270_302.out; have hnb101 := NB302_296.out; have hnc101 := NB296_302.out; have hcz102_0 : w97.cell? ⟨gb302, 0, none⟩ = some (.slice none 0 0) := (blk_cell BK302.out 0).trans rfl; have hcz102_1 : w97.cell? ⟨gb302, 1, none⟩ = some (.int .i64 0) := (blk_cell BK302.out 1).trans rfl; have hfz102_0 := blk_frozen BK302.out 0; have hfz102_1 := blk_frozen BK302.out 1; have hcz103_0 : w97.cell? ⟨gb296, 0, none⟩ = some (.slice Ao91 t291.length co91) := (blk_cell BK296.out 0).trans rfl; have hcz103_1 : w97.cell? ⟨gb296, 1, none⟩ = some (.int .i64 t294) := (blk_cell BK296.out 1).trans rfl; have hfz103_0 := blk_frozen BK296.out 0; have hfz103_1 := blk_frozen BK296.out 1) | (go_at_call 20; (with_reducible refine (dioramaref09_Same.calls kj3 _ _ t291 t294 _ _ t297 t300 t303 _ ?side1 ?side2 ?side3 ?side4 A67.out).mono ?_); (case side1 => refine (Kd.R_reads' (e := 40) (base := w.heap.size) (ok := fun k_ => ((True ∧ some k_ ≠ (.slice (some ad287) y284.length co81 : Value).ownBlock) ∧ some k_ ≠ (.slice Ao98 t297.length co98 : Value).ownBlock)) (n := t291.length) (c := co91) ?_).2.2; exact (by (with_reducible repeat (first | apply Kd.R_alloc | apply Kd.R_drewN | apply Kd.R_drew)); exact (Kd.R_mono (Kd.R_far (p := ⟨gb302, 1, none⟩) (Kd.R_far (p := ⟨gb302, 0, none⟩) (Kd.R_types HO293.out BK302.out (by decide)) (fun _ hk => hk.2) (.slice Ao98 t297.length co98)) (fun _ hk => hk.2) (.int .i64 t300)) (fun _ h_ => h_.1)))); (case side2 => exact (Kd.R_reads' HO293.out).2.1); (case side3 => refine (Kd.R_reads' (e := 40) (base := w.heap.size) (ok := fun k_ => ((True ∧ some k_ ≠ (.slice (some ad287) y284.length co81 : Value).ownBlock) ∧ some k_ ≠ (.slice Ao91 t291.length co91 : Value).ownBlock)) (n := t297.length) (c := co98) ?_).2.2; exact (by (with_reducible repeat (first | apply Kd.R_alloc | apply Kd.R_drewN | apply Kd.R_drew)); exact (Kd.R_mono (Kd.R_far (p := ⟨gb302, 1, none⟩) (Kd.R_far (p := ⟨gb302, 0, none⟩) (Kd.R_types HO299.out BK302.out (by decide)) (fun _ hk => hk.2) (.slice Ao98 t297.length co98)) (fun _ hk => hk.2) (.int .i64 t300)) (fun _ h_ => h_.1)))); (case side4 => exact (Kd.R_reads' HO299.out).2.1); rintro e w104 ⟨rfl, hb⟩; have n0_ := Aside0.mk (Kd.S_below (by (with_reducible repeat (first | apply Kd.S_alloc | apply Kd.S_drewN | apply Kd.S_drew)); exact (Kd.S_mono (Kd.S_far (p := ⟨gb302, 1, none⟩) (Kd.S_far (p := ⟨gb302, 0, none⟩) (Kd.S_types HO286.out BK302.out (by decide)) (fun _ hk => hk.2) (.slice Ao98 t297.length co98)) (fun _ hk => hk.2) (.int .i64 t300)) (fun _ h_ => h_.1))) hb); have n1_ := Aside0.mk (Kd.R_below (by (with_reducible repeat (first | apply Kd.R_alloc | apply Kd.R_drewN | apply Kd.R_drew)); exact (Kd.R_mono (Kd.R_far (p := ⟨gb302, 1, none⟩) (Kd.R_far (p := ⟨gb302, 0, none⟩) (Kd.R_types HO293.out BK302.out (by decide)) (fun _ hk => hk.2) (.slice Ao98 t297.length co98)) (fun _ hk => hk.2) (.int .i64 t300)) (fun _ h_ => h_.1))) hb); have n2_ := Aside0.mk (Kd.R_below (by (with_reducible repeat (first | apply Kd.R_alloc | apply Kd.R_drewN | apply Kd.R_drew)); exact (Kd.R_mono (Kd.R_far (p := ⟨gb302, 1, none⟩) (Kd.R_far (p := ⟨gb302, 0, none⟩) (Kd.R_types HO299.out BK302.out (by decide)) (fun _ hk => hk.2) (.slice Ao98 t297.length co98)) (fun _ hk => hk.2) (.int .i64 t300)) (fun _ h_ => h_.1))) hb); have n3_ := Aside0.mk (blk_below (g := gb259) (o := .cells #[.slice (some ad271) l0_0.length c0_0, .int .i64 a0_1] 24 (0, 0)) (by refine blk_far ?_ NB259_302.out _; refine blk_far ?_ NB259_302.out _; (with_reducible repeat (first | refine blk_drewN ?_ _ | refine blk_drew ?_ | refine blk_alloc ?_ _)); exact BK259.out) hb); have n4_ := Aside0.mk (blk_below (g := gb270) (o := .cells #[.slice (some ad287) y284.length co81, .int .i64 t269] 24 (0, 0)) (by refine blk_far ?_ NB270_302.out _; refine blk_far ?_ NB270_302.out _; (with_reducible repeat (first | refine blk_drewN ?_ _ | refine blk_drew ?_ | refine blk_alloc ?_ _)); exact BK270.out) hb); have n5_ := Aside0.mk (blk_below (g := gb296) (o := .cells #[.slice Ao91 t291.length co91, .int .i64 t294] 24 (0, 0)) (by refine blk_far ?_ NB296_302.out _; refine blk_far ?_ NB296_302.out _; (with_reducible repeat (first | refine blk_drewN ?_ _ | refine blk_drew ?_ | refine blk_alloc ?_ _)); exact BK296.out) hb); have n6_ := Aside0.mk (blk_below (g := gb302) (o := .cells #[.slice Ao98 t297.length co98, .int .i64 t300] 24 (0, 0)) (by refine blk_put (cs := #[.slice Ao98 t297.length co98, .int .i64 0]) ?_ 1 _ rfl; refine blk_put (cs := #[.slice none 0 0, .int .i64 0]) ?_ 0 _ rfl; (with_reducible repeat (first | refine blk_drewN ?_ _ | refine blk_drew ?_ | refine blk_alloc ?_ _)); exact BK302.out) hb); have n7_ := Aside0.mk (below_step (BB HB) hb); clear HO286; clear HO293; clear HO299; clear BK259; clear BK270; clear BK296; clear BK302; clear HB; have HO286 := n0_; have HO293 := n1_; have HO299 := n2_; have BK259 := n3_; have BK270 := n4_; have BK296 := n5_; have BK302 := n6_; have HB := n7_; clear n0_ n1_ n2_ n3_ n4_ n5_ n6_ n7_; (try clear hb); (try clear hb2); (try clear hk); (try clear hi)))
               go_ret
               exact ⟨by first | rfl | (simp [errW_none, errW_some] <;> rfl) | (simp [*, errW_none, errW_some] <;> rfl), BB HB⟩
              ·rw [if_neg c66] at H
               have c66b0 : ((t297.length : Int) == (wrap64 ((t291.length : Int) + 1))) = false := beq_eq_false_iff_ne.mpr c66
               have c66b1 : ((t297.length : Int) != (wrap64 ((t291.length : Int) + 1))) = true := bne_iff_ne.mpr c66
               obtain rfl := Option.some.inj H
               have hcz105_0 : wc.cell? ⟨gb259, 0, none⟩ = some (.slice A0_0 l0_0.length c0_0) := (blk_cell BK259.out 0).trans rfl
               have hcz105_1 : wc.cell? ⟨gb259, 1, none⟩ = some (.int .i64 a0_1) := (blk_cell BK259.out 1).trans rfl
               have hfz105_0 := blk_frozen BK259.out 0
               have hfz105_1 := blk_frozen BK259.out 1
               try go_wp2_with (first | ((with_reducible refine gate_callee (f := 17) rfl ?_); refine goesL_ (some 46) rfl rfl Try.func17 (by kernel_rfl) rfl #[.agg #[.slice A0_0 l0_0.length c0_0, .int .i64 a0_1]] rfl (by (try simp only [List.map_toArray, List.map_cons, List.map_nil]); first | done | rfl | (simp only [List.length_drop, List.length_take]; rfl)) ?_; (with_reducible refine (dioramaref09_Copy.calls kj3 _ _ l0_0 a0_1 t266 t269 _ ?side1 ?side2 A51.out).mono ?_); (case side1 => repeat (first | exact (Kd.C_below HR0_0.out HB.out) | (with_reducible refine Kd.C_alloc ?_ _) | (with_reducible refine Kd.C_drewN ?_ _) | (with_reducible refine Kd.C_drew ?_))); (case side2 => exact HC0_0.out); rintro e w106 ⟨v267, rfl, ho0, hb⟩; refine ⟨_, rfl, ?_⟩; have n0_ := Aside0.mk (Kd.S_lower ho0 (below_size (BB HB))); have n1_ := BE BK259 hb; have n2_ := Aside0.mk (below_step (BB HB) hb); clear BK259; clear HB; have HO268 := n0_; have BK259 := n1_; have HB := n2_; clear n0_ n1_ n2_; (try clear hb); (try clear hb2); (try clear hk); (try clear hi); (try clear ho0)) | ((with_reducible refine gate_dst (N := 7) rfl ?_); refine box_event ?hg (N := 7) ?hd (cs := #[.slice none 0 0, .int .i64 0]) (t := 24) ?hr ?_; (case hd => rfl); (case hg => rfl); (case hr => first | (go_simp; done) | (go_simp; rfl)); intro gb270 hg w107 hbox hb; have n0_ := Aside0.mk (Kd.S_below (by (with_reducible repeat (first | apply Kd.S_alloc | apply Kd.S_drewN | apply Kd.S_drew)); exact HO268.out) hb); have n1_ := BE BK259 hb; have n2_ := Aside0.mk (below_step (BB HB) hb); have n3_ := Aside0.mk (hbox); have n4_ := Aside0.mk ((by rw [hg]; exact (below_size (BB HB)) : w.heap.size ≤ gb270)); have n5_ := Aside0.mk ((by rw [hg]; exact (below_size (BB HB)) : w.heap.size ≤ gb270)); have n6_ := Aside0.mk ((by rw [hg]; exact Nat.ne_of_lt (blk_lt (g := gb259) (o := .cells #[.slice A0_0 l0_0.length c0_0, .int .i64 a0_1] 24 (0, 0)) (BL BK259)) : gb259 ≠ gb270)); have n7_ := Aside0.mk ((by rw [hg]; exact Nat.ne_of_gt (blk_lt (g := gb259) (o := .cells #[.slice A0_0 l0_0.length c0_0, .int .i64 a0_1] 24 (0, 0)) (BL BK259)) : gb270 ≠ gb259)); clear HO268; clear BK259; clear HB; have HO268 := n0_; have BK259 := n1_; have HB := n2_; have BK270 := n3_; have GW270 := n4_; have GE270 := n5_; have NB259_270 := n6_; have NB270_259 := n7_; clear n0_ n1_ n2_ n3_ n4_ n5_ n6_ n7_; clear hb hbox hg; obtain ⟨Ao108, co108, eo108⟩ := Kd.S_slice HO268.out; subst eo108; have hnb109 := NB270_259.out; have hnc109 := NB259_270.out; have hcz110_0 : w107.cell? ⟨gb270, 0, none⟩ = some (.slice none 0 0) := (blk_cell BK270.out 0).trans rfl; have hcz110_1 : w107.cell? ⟨gb270, 1, none⟩ = some (.int .i64 0) := (blk_cell BK270.out 1).trans rfl; have hfz110_0 := blk_frozen BK270.out 0; have hfz110_1 := blk_frozen BK270.out 1))
               have n0_ : Aside0 (Kd.S k40 40 ((w107.setCell ⟨gb270, 0, none⟩ (.slice Ao108 t266.length co108)).setCell ⟨gb270, 1, none⟩ (.int .i64 t269)) w.heap.size (fun _ => True) (.slice Ao108 t266.length co108) t266) := ⟨by (with_reducible repeat (first | apply Kd.S_alloc | apply Kd.S_drewN | apply Kd.S_drew)); exact Kd.S_mono (Kd.S_far (p := ⟨gb270, 1, none⟩) (Kd.S_far (p := ⟨gb270, 0, none⟩) (Kd.S_types HO268.out BK270.out (by decide)) (fun _ hk => hk.2) (.slice Ao108 t266.length co108)) (fun _ hk => hk.2) (.int .i64 t269)) (fun _ hk => trivial)⟩
               have n1_ : Aside0 (((w107.setCell ⟨gb270, 0, none⟩ (.slice Ao108 t266.length co108)).setCell ⟨gb270, 1, none⟩ (.int .i64 t269)).heap[gb259]? = some (.cells #[.slice A0_0 l0_0.length c0_0, .int .i64 a0_1] 24 (0, 0))) := ⟨by refine blk_far ?_ NB259_270.out _; refine blk_far ?_ NB259_270.out _; (with_reducible repeat (first | refine blk_drewN ?_ _ | refine blk_drew ?_ | refine blk_alloc ?_ _)); exact BK259.out⟩
               have n2_ : Aside0 (((w107.setCell ⟨gb270, 0, none⟩ (.slice Ao108 t266.length co108)).setCell ⟨gb270, 1, none⟩ (.int .i64 t269)).heap[gb270]? = some (.cells #[.slice Ao108 t266.length co108, .int .i64 t269] 24 (0, 0))) := ⟨by refine blk_put (cs := #[.slice Ao108 t266.length co108, .int .i64 0]) ?_ 1 _ rfl; refine blk_put (cs := #[.slice none 0 0, .int .i64 0]) ?_ 0 _ rfl; (with_reducible repeat (first | refine blk_drewN ?_ _ | refine blk_drew ?_ | refine blk_alloc ?_ _)); exact BK270.out⟩
               have n3_ : Aside0 (Below w.heap.size w ((w107.setCell ⟨gb270, 0, none⟩ (.slice Ao108 t266.length co108)).setCell ⟨gb270, 1, none⟩ (.int .i64 t269))) := ⟨BB HB⟩
               (try clear HO268)
               (try clear BK259)
               (try clear BK270)
               (try clear HB)
               generalize ((w107.setCell ⟨gb270, 0, none⟩ (.slice Ao108 t266.length co108)).setCell ⟨gb270, 1, none⟩ (.int .i64 t269)) = w111 at n0_ n1_ n2_ n3_ ⊢
               have HO268 := n0_
               have BK259 := n1_
               have BK270 := n2_
               have HB := n3_
               clear n0_ n1_ n2_ n3_
               have n0_ := Aside0.mk (Kd.S_drew HO268.out)
               have n1_ := Aside0.mk (blk_drew BK259.out)
               have n2_ := Aside0.mk (blk_drew BK270.out)
               have n3_ := Aside0.mk (below_drew1 HB.out)
               clear HO268
               clear BK259
               clear BK270
               clear HB
               have HO268 := n0_
               have BK259 := n1_
               have BK270 := n2_
               have HB := n3_
               clear n0_ n1_ n2_ n3_
               have p271 : 0 ≤ (a1 : Int) := of_decide_eq_true (by first | (with_reducible assumption) | assumption)
               have q271 : a1 < (l0_0.length : Int) := of_decide_eq_true (by first | (with_reducible assumption) | assumption)
               obtain ⟨ad271, A271_1, c271_1, A271_2, c271_2, A271_3, c271_3, e271, hx271_0, hx271_1, hx271_2, hx271_3, hl271_1, hi271_1, hl271_2, hi271_2, hl271_3, hi271_3⟩ := at_T40 HR0_0.out a1 p271 q271
               have hw271_3 := hx271_3
               have hw271_2 := hx271_2
               have hw271_1 := hx271_1
               have hw271_0 := hx271_0
               cases e271
               replace hx271_0 := (HB.out.cell (World.block_lt_of_cell? w _ hx271_0)).trans hx271_0
               replace hx271_1 := (HB.out.cell (World.block_lt_of_cell? w _ hx271_1)).trans hx271_1
               replace hx271_2 := (HB.out.cell (World.block_lt_of_cell? w _ hx271_2)).trans hx271_2
               replace hx271_3 := (HB.out.cell (World.block_lt_of_cell? w _ hx271_3)).trans hx271_3
               have HR271_1 := Aside0.mk hi271_1
               have HC271_1 := Aside0.mk hl271_1
               clear hi271_1 hl271_1
               have HR271_2 := Aside0.mk hi271_2
               have HC271_2 := Aside0.mk hl271_2
               clear hi271_2 hl271_2
               have HR271_3 := Aside0.mk hi271_3
               have HC271_3 := Aside0.mk hl271_3
               clear hi271_3 hl271_3
               replace p271 := eq_true p271
               replace q271 := eq_true q271
               have p272 : 0 ≤ (a2 : Int) := of_decide_eq_true (by first | (with_reducible assumption) | assumption)
               have q272 : a2 < (((rd_T40 l0_0 a1).f3).length : Int) := of_decide_eq_true (by first | (with_reducible assumption) | assumption)
               obtain ⟨ad272, e272, hx272_0⟩ := Kd.at_int HR271_3.out a2 p272 q272
               have hw272_0 := hx272_0
               cases e272
               replace hx272_0 := (HB.out.cell (World.block_lt_of_cell? w _ hx272_0)).trans hx272_0
               replace p272 := eq_true p272
               replace q272 := eq_true q272
               have p273 : 0 ≤ ((rd ((rd_T40 l0_0 a1).f3) a2) : Int) := of_decide_eq_true (by first | (with_reducible assumption) | assumption)
               have q273 : (rd ((rd_T40 l0_0 a1).f3) a2) < (l0_0.length : Int) := of_decide_eq_true (by first | (with_reducible assumption) | assumption)
               obtain ⟨ad273, A273_1, c273_1, A273_2, c273_2, A273_3, c273_3, e273, hx273_0, hx273_1, hx273_2, hx273_3, hl273_1, hi273_1, hl273_2, hi273_2, hl273_3, hi273_3⟩ := at_T40 HR0_0.out (rd ((rd_T40 l0_0 a1).f3) a2) p273 q273
               have hw273_3 := hx273_3
               have hw273_2 := hx273_2
               have hw273_1 := hx273_1
               have hw273_0 := hx273_0
               obtain rfl : ad271 = ad273 := (by injection e273)
               replace hx273_0 := (HB.out.cell (World.block_lt_of_cell? w _ hx273_0)).trans hx273_0
               replace hx273_1 := (HB.out.cell (World.block_lt_of_cell? w _ hx273_1)).trans hx273_1
               replace hx273_2 := (HB.out.cell (World.block_lt_of_cell? w _ hx273_2)).trans hx273_2
               replace hx273_3 := (HB.out.cell (World.block_lt_of_cell? w _ hx273_3)).trans hx273_3
               have HR273_1 := Aside0.mk hi273_1
               have HC273_1 := Aside0.mk hl273_1
               clear hi273_1 hl273_1
               have HR273_2 := Aside0.mk hi273_2
               have HC273_2 := Aside0.mk hl273_2
               clear hi273_2 hl273_2
               have HR273_3 := Aside0.mk hi273_3
               have HC273_3 := Aside0.mk hl273_3
               clear hi273_3 hl273_3
               replace p273 := eq_true p273
               replace q273 := eq_true q273
               refine start_ (n := 20) (S := fun w' => w'.cell? ⟨gb270, 0, none⟩ = some (.slice Ao108 t266.length co108) ∧ w'.cell? ⟨gb270, 1, none⟩ = some (.int .i64 t269) ∧ w'.cell? ⟨gb259, 0, none⟩ = some (.slice (some ad271) l0_0.length c0_0) ∧ w'.cell? ⟨gb259, 1, none⟩ = some (.int .i64 a0_1) ∧ w'.cell? (ad271.add ((a1).toNat * 4)) = some (.int .i64 ((rd_T40 l0_0 a1).f0)) ∧ w'.cell? ⟨(ad271.add ((a1).toNat * 4)).block, (ad271.add ((a1).toNat * 4)).off + 1, none⟩ = some (.slice A271_1 ((rd_T40 l0_0 a1).f1).length c271_1) ∧ w'.cell? ⟨(ad271.add ((a1).toNat * 4)).block, (ad271.add ((a1).toNat * 4)).off + 2, none⟩ = some (.slice A271_2 ((rd_T40 l0_0 a1).f2).length c271_2) ∧ w'.cell? ⟨(ad271.add ((a1).toNat * 4)).block, (ad271.add ((a1).toNat * 4)).off + 3, none⟩ = some (.slice (some ad272) ((rd_T40 l0_0 a1).f3).length c271_3) ∧ w'.cell? (ad272.add (a2).toNat) = some (.int .i64 (rd ((rd_T40 l0_0 a1).f3) a2)) ∧ w'.cell? (ad271.add (((rd ((rd_T40 l0_0 a1).f3) a2)).toNat * 4)) = some (.int .i64 ((rd_T40 l0_0 (rd ((rd_T40 l0_0 a1).f3) a2)).f0)) ∧ w'.cell? ⟨(ad271.add (((rd ((rd_T40 l0_0 a1).f3) a2)).toNat * 4)).block, (ad271.add (((rd ((rd_T40 l0_0 a1).f3) a2)).toNat * 4)).off + 1, none⟩ = some (.slice A273_1 ((rd_T40 l0_0 (rd ((rd_T40 l0_0 a1).f3) a2)).f1).length c273_1) ∧ w'.cell? ⟨(ad271.add (((rd ((rd_T40 l0_0 a1).f3) a2)).toNat * 4)).block, (ad271.add (((rd ((rd_T40 l0_0 a1).f3) a2)).toNat * 4)).off + 2, none⟩ = some (.slice A273_2 ((rd_T40 l0_0 (rd ((rd_T40 l0_0 a1).f3) a2)).f2).length c273_2) ∧ w'.cell? ⟨(ad271.add (((rd ((rd_T40 l0_0 a1).f3) a2)).toNat * 4)).block, (ad271.add (((rd ((rd_T40 l0_0 a1).f3) a2)).toNat * 4)).off + 3, none⟩ = some (.slice A273_3 ((rd_T40 l0_0 (rd ((rd_T40 l0_0 a1).f3) a2)).f3).length c273_3)) (ds := [19]) #[false, false, false, false, false, false, false, false, false, false, false, false, false, false, false, false, false, false, false, false] (by kernel_rfl) rfl rfl ⟨(blk_cell BK270.out 0).trans rfl, (blk_cell BK270.out 1).trans rfl, (blk_cell BK259.out 0).trans rfl, (blk_cell BK259.out 1).trans rfl, ((HB.out.cell (World.block_lt_of_cell? w _ hw271_0)).trans hw271_0), ((HB.out.cell (World.block_lt_of_cell? w _ hw271_1)).trans hw271_1), ((HB.out.cell (World.block_lt_of_cell? w _ hw271_2)).trans hw271_2), ((HB.out.cell (World.block_lt_of_cell? w _ hw271_3)).trans hw271_3), ((HB.out.cell (World.block_lt_of_cell? w _ hw272_0)).trans hw272_0), ((HB.out.cell (World.block_lt_of_cell? w _ hw273_0)).trans hw273_0), ((HB.out.cell (World.block_lt_of_cell? w _ hw273_1)).trans hw273_1), ((HB.out.cell (World.block_lt_of_cell? w _ hw273_2)).trans hw273_2), ((HB.out.cell (World.block_lt_of_cell? w _ hw273_3)).trans hw273_3)⟩ (fun hHeld => ?_); refine with_tabW dioramalaw10_CanonApart.tab4 dioramalaw10_CanonApart.bits4 (fun HT_ HW_ => ?_)
               generalize w111.drew = w112 at HO268 BK259 BK270 HB HR271_1 HR271_2 HR271_3 HR273_1 HR273_2 HR273_3 hx271_0 hx271_1 hx271_2 hx271_3 hx272_0 hx273_0 hx273_1 hx273_2 hx273_3 hHeld ⊢
               refine pure_ (i := 0) (N := some 47) (v := ?_) (a' := ?_) #[true, false, false, false, false, false, false, false, false, false, false, false, false, false, false, false, false, false, false, false] rfl rfl (any_of HT_.out (by kernel_rfl)) (fun _ _ _ h => h) (Or.inl ⟨by rfl, ?_⟩) ?_ ?_
               rotate_left
               ·intro w'
                go_simp
                with_reducible rfl
               rotate_left
               ·simp only [Act.put, List.setIfInBounds_toArray, List.set_cons_zero, List.set_cons_succ, i64_w, i32_w]
                rfl
               refine pure_ (i := 2) (N := some 49) (v := ?_) (a' := ?_) #[true, false, true, false, false, false, false, false, false, false, false, false, false, false, false, false, false, false, false, false] rfl rfl (any_of HT_.out (by kernel_rfl)) (fun _ _ _ h => h) (Or.inl ⟨by rfl, ?_⟩) ?_ ?_
               rotate_left
               ·intro w'
                go_simp
                with_reducible rfl
               rotate_left
               ·simp only [Act.put, List.setIfInBounds_toArray, List.set_cons_zero, List.set_cons_succ, i64_w, i32_w]
                rfl
               refine pure_ (i := 4) (N := some 51) (v := ?_) (a' := ?_) #[true, false, true, false, true, false, false, false, false, false, false, false, false, false, false, false, false, false, false, false] rfl rfl (any_of HT_.out (by kernel_rfl)) (fun _ _ _ h => h) (Or.inl ⟨by rfl, ?_⟩) ?_ ?_
               rotate_left
               ·intro w'
                go_simp
                with_reducible rfl
               rotate_left
               ·simp only [Act.put, List.setIfInBounds_toArray, List.set_cons_zero, List.set_cons_succ, i64_w, i32_w]
                rfl
               refine pure_ (i := 6) (N := some 53) (v := ?_) (a' := ?_) #[true, false, true, false, true, false, true, false, false, false, false, false, false, false, false, false, false, false, false, false] rfl rfl (any_of HT_.out (by kernel_rfl)) (fun _ _ _ h => h) (Or.inl ⟨by rfl, ?_⟩) ?_ ?_
               rotate_left
               ·intro w'
                go_simp
                with_reducible rfl
               rotate_left
               ·simp only [Act.put, List.setIfInBounds_toArray, List.set_cons_zero, List.set_cons_succ, i64_w, i32_w]
                rfl
               refine pure_ (i := 10) (N := some 57) (v := ?_) (a' := ?_) #[true, false, true, false, true, false, true, false, false, false, true, false, false, false, false, false, false, false, false, false] rfl rfl (any_of HT_.out (by kernel_rfl)) (fun _ _ _ h => h) (Or.inl ⟨by rfl, ?_⟩) ?_ ?_
               rotate_left
               ·intro w'
                go_simp
                with_reducible rfl
               rotate_left
               ·simp only [Act.put, List.setIfInBounds_toArray, List.set_cons_zero, List.set_cons_succ, i64_w, i32_w]
                rfl
               refine take_ (i := 1) (N := some 48) (v := ?_) (a' := ?_) #[true, true, true, false, true, false, true, false, false, false, true, false, false, false, false, false, false, false, false, false] rfl rfl (take_ofW HT_.out HW_.out (by kernel_rfl)) (fun _ _ _ h => h) (Or.inl ⟨by rfl, ?_⟩) hHeld ?_ ?_
               rotate_left
               ·rintro w' ⟨s0, s1, s2, s3, s4, s5, s6, s7, s8, s9, s10, s11, s12⟩
                go_simp
                with_reducible rfl
               rotate_left
               ·simp only [Act.put, List.setIfInBounds_toArray, List.set_cons_zero, List.set_cons_succ, i64_w, i32_w]
                rfl
               refine take_ (i := 3) (N := some 50) (v := ?_) (a' := ?_) #[true, true, true, true, true, false, true, false, false, false, true, false, false, false, false, false, false, false, false, false] rfl rfl (take_ofW HT_.out HW_.out (by kernel_rfl)) (fun _ _ _ h => h) (Or.inl ⟨by rfl, ?_⟩) hHeld ?_ ?_
               rotate_left
               ·rintro w' ⟨s0, s1, s2, s3, s4, s5, s6, s7, s8, s9, s10, s11, s12⟩
                go_simp
                with_reducible rfl
               rotate_left
               ·simp only [Act.put, List.setIfInBounds_toArray, List.set_cons_zero, List.set_cons_succ, i64_w, i32_w]
                rfl
               refine take_ (i := 5) (N := some 52) (v := ?_) (a' := ?_) #[true, true, true, true, true, true, true, false, false, false, true, false, false, false, false, false, false, false, false, false] rfl rfl (take_ofW HT_.out HW_.out (by kernel_rfl)) (fun _ _ _ h => h) (Or.inl ⟨by rfl, ?_⟩) hHeld ?_ ?_
               rotate_left
               ·rintro w' ⟨s0, s1, s2, s3, s4, s5, s6, s7, s8, s9, s10, s11, s12⟩
                go_simp
                with_reducible rfl
               rotate_left
               ·simp only [Act.put, List.setIfInBounds_toArray, List.set_cons_zero, List.set_cons_succ, i64_w, i32_w]
                rfl
               refine pure_ (i := 7) (N := some 54) (v := ?_) (a' := ?_) #[true, true, true, true, true, true, true, true, false, false, true, false, false, false, false, false, false, false, false, false] rfl rfl (any_of HT_.out (by kernel_rfl)) (fun _ _ _ h => h) (Or.inl ⟨by rfl, ?_⟩) ?_ ?_
               rotate_left
               ·intro w'
                go_simp
                with_reducible rfl
               rotate_left
               ·simp only [Act.put, List.setIfInBounds_toArray, List.set_cons_zero, List.set_cons_succ, i64_w, i32_w]
                rfl
               refine pure_ (i := 8) (N := some 55) (v := ?_) (a' := ?_) #[true, true, true, true, true, true, true, true, true, false, true, false, false, false, false, false, false, false, false, false] rfl rfl (any_of HT_.out (by kernel_rfl)) (fun _ _ _ h => h) (Or.inl ⟨by rfl, ?_⟩) ?_ ?_
               rotate_left
               ·intro w'
                go_simp
                with_reducible rfl
               rotate_left
               ·simp only [Act.put, List.setIfInBounds_toArray, List.set_cons_zero, List.set_cons_succ, i64_w, i32_w]
                rfl
               refine take_ (i := 9) (N := some 56) (v := ?_) (a' := ?_) #[true, true, true, true, true, true, true, true, true, true, true, false, false, false, false, false, false, false, false, false] rfl rfl (take_ofW HT_.out HW_.out (by kernel_rfl)) (fun _ _ _ h => h) (Or.inl ⟨by rfl, ?_⟩) hHeld ?_ ?_
               rotate_left
               ·rintro w' ⟨s0, s1, s2, s3, s4, s5, s6, s7, s8, s9, s10, s11, s12⟩
                go_simp
                with_reducible rfl
               rotate_left
               ·simp only [Act.put, List.setIfInBounds_toArray, List.set_cons_zero, List.set_cons_succ, i64_w, i32_w]
                rfl
               refine pure_ (i := 11) (N := some 58) (v := ?_) (a' := ?_) #[true, true, true, true, true, true, true, true, true, true, true, true, false, false, false, false, false, false, false, false] rfl rfl (any_of HT_.out (by kernel_rfl)) (fun _ _ _ h => h) (Or.inl ⟨by rfl, ?_⟩) ?_ ?_
               rotate_left
               ·intro w'
                go_simp
                with_reducible rfl
               rotate_left
               ·simp only [Act.put, List.setIfInBounds_toArray, List.set_cons_zero, List.set_cons_succ, i64_w, i32_w]
                rfl
               refine take_ (i := 12) (N := some 59) (v := ?_) (a' := ?_) #[true, true, true, true, true, true, true, true, true, true, true, true, true, false, false, false, false, false, false, false] rfl rfl (take_ofW HT_.out HW_.out (by kernel_rfl)) (fun _ _ _ h => h) (Or.inl ⟨by rfl, ?_⟩) hHeld ?_ ?_
               rotate_left
               ·rintro w' ⟨s0, s1, s2, s3, s4, s5, s6, s7, s8, s9, s10, s11, s12⟩
                go_simp
                with_reducible rfl
               rotate_left
               ·simp only [Act.put, List.setIfInBounds_toArray, List.set_cons_zero, List.set_cons_succ, i64_w, i32_w]
                rfl
               refine pure_ (i := 13) (N := some 60) (v := ?_) (a' := ?_) #[true, true, true, true, true, true, true, true, true, true, true, true, true, true, false, false, false, false, false, false] rfl rfl (any_of HT_.out (by kernel_rfl)) (fun _ _ _ h => h) (Or.inl ⟨by rfl, ?_⟩) ?_ ?_
               rotate_left
               ·intro w'
                go_simp
                with_reducible rfl
               rotate_left
               ·simp only [Act.put, List.setIfInBounds_toArray, List.set_cons_zero, List.set_cons_succ, i64_w, i32_w]
                rfl
               refine take_ (i := 14) (N := some 61) (v := ?_) (a' := ?_) #[true, true, true, true, true, true, true, true, true, true, true, true, true, true, true, false, false, false, false, false] rfl rfl (take_ofW HT_.out HW_.out (by kernel_rfl)) (fun _ _ _ h => h) (Or.inl ⟨by rfl, ?_⟩) hHeld ?_ ?_
               rotate_left
               ·rintro w' ⟨s0, s1, s2, s3, s4, s5, s6, s7, s8, s9, s10, s11, s12⟩
                go_simp
                with_reducible rfl
               rotate_left
               ·simp only [Act.put, List.setIfInBounds_toArray, List.set_cons_zero, List.set_cons_succ, i64_w, i32_w]
                rfl
               refine one_ (i := 15) (N := some 62) #[true, true, true, true, true, true, true, true, true, true, true, true, true, true, true, true, false, false, false, false] rfl rfl (one_of HT_.out (by kernel_rfl)) (by decide) (fun K hK => ?_)
               refine goes_ Try.func29 (by kernel_rfl) rfl #[.agg #[.int .i64 ((rd_T40 l0_0 (rd ((rd_T40 l0_0 a1).f3) a2)).f0), .slice A273_1 ((rd_T40 l0_0 (rd ((rd_T40 l0_0 a1).f3) a2)).f1).length c273_1, .slice A273_2 ((rd_T40 l0_0 (rd ((rd_T40 l0_0 a1).f3) a2)).f2).length c273_2, .slice A273_3 ((rd_T40 l0_0 (rd ((rd_T40 l0_0 a1).f3) a2)).f3).length c273_3]] (by rfl) rfl rfl (by (try simp only [List.map_toArray, List.map_cons, List.map_nil]); first | done | rfl | (simp only [List.length_drop, List.length_take]; rfl)) ?_
               with_reducible refine (dioramaref08_Copy.calls ((rd_T40 l0_0 (rd ((rd_T40 l0_0 a1).f3) a2)).f0) _ _ ((rd_T40 l0_0 (rd ((rd_T40 l0_0 a1).f3) a2)).f1) _ _ ((rd_T40 l0_0 (rd ((rd_T40 l0_0 a1).f3) a2)).f2) _ _ ((rd_T40 l0_0 (rd ((rd_T40 l0_0 a1).f3) a2)).f3) t274 t275 t278 t281 _ ?side1 ?side2 ?side3 ?side4 ?side5 ?side6 A58.out).mono ?_
               (case side1 => repeat (first | exact (Kd.C_below HR273_1.out HB.out) | (with_reducible refine Kd.C_alloc ?_ _) | (with_reducible refine Kd.C_drewN ?_ _) | (with_reducible refine Kd.C_drew ?_)))
               (case side2 => exact HC273_1.out)
               (case side3 => repeat (first | exact (Kd.C_below HR273_2.out HB.out) | (with_reducible refine Kd.C_alloc ?_ _) | (with_reducible refine Kd.C_drewN ?_ _) | (with_reducible refine Kd.C_drew ?_)))
               (case side4 => exact HC273_2.out)
               (case side5 => repeat (first | exact (Kd.C_below HR273_3.out HB.out) | (with_reducible refine Kd.C_alloc ?_ _) | (with_reducible refine Kd.C_drewN ?_ _) | (with_reducible refine Kd.C_drew ?_)))
               (case side6 => exact HC273_3.out)
               rintro e w113 ⟨v276, v279, v282, rfl, ho0, ho1, ho2, hb⟩
               refine ⟨_, rfl, ?_⟩
               have n0_ := Aside0.mk (Kd.S_mono (Kd.S_told (Kd.S_told (Kd.S_told (Kd.S_old (by (with_reducible repeat (first | apply Kd.S_alloc | apply Kd.S_drewN | apply Kd.S_drew)); exact HO268.out) hb) (Kd.R_base ho0)) (Kd.R_base ho1)) (Kd.R_base ho2)) (fun _ h_ => h_.1))
               have n1_ := Aside0.mk (Kd.R_lower ho0 (below_size (BB HB)))
               have n2_ := Aside0.mk (Kd.R_lower ho1 (below_size (BB HB)))
               have n3_ := Aside0.mk (Kd.R_lower ho2 (below_size (BB HB)))
               have n4_ := BE BK259 hb
               have n5_ := BE BK270 hb
               have n6_ := Aside0.mk (below_step (BB HB) hb)
               clear HO268
               clear BK259
               clear BK270
               clear HB
               have HO268 := n0_
               have HO277 := n1_
               have HO280 := n2_
               have HO283 := n3_
               have BK259 := n4_
               have BK270 := n5_
               have HB := n6_
               clear n0_ n1_ n2_ n3_ n4_ n5_ n6_
               (try clear hb)
               (try clear hb2)
               (try clear hk)
               (try clear hi)
               (try clear ho0)
               (try clear ho1)
               (try clear ho2)
               obtain ⟨Ao115, co115, eo115⟩ := Kd.R_slice HO277.out
               (first | subst eo115 | (injection eo115 with f1_ f2_ f3_; have f4_ := f1_.symm; have f5_ := f3_.symm; clear f1_ f2_ f3_; subst f4_; subst f5_))
               obtain ⟨Ao116, co116, eo116⟩ := Kd.R_slice HO280.out
               (first | subst eo116 | (injection eo116 with f1_ f2_ f3_; have f4_ := f1_.symm; have f5_ := f3_.symm; clear f1_ f2_ f3_; subst f4_; subst f5_))
               obtain ⟨Ao117, co117, eo117⟩ := Kd.R_slice HO283.out
               (first | subst eo117 | (injection eo117 with f1_ f2_ f3_; have f4_ := f1_.symm; have f5_ := f3_.symm; clear f1_ f2_ f3_; subst f4_; subst f5_))
               refine hK.out _ _ ⟨(blk_cell BK270.out 0).trans rfl, (blk_cell BK270.out 1).trans rfl, (blk_cell BK259.out 0).trans rfl, (blk_cell BK259.out 1).trans rfl, ((HB.out.cell (World.block_lt_of_cell? w _ hw271_0)).trans hw271_0), ((HB.out.cell (World.block_lt_of_cell? w _ hw271_1)).trans hw271_1), ((HB.out.cell (World.block_lt_of_cell? w _ hw271_2)).trans hw271_2), ((HB.out.cell (World.block_lt_of_cell? w _ hw271_3)).trans hw271_3), ((HB.out.cell (World.block_lt_of_cell? w _ hw272_0)).trans hw272_0), ((HB.out.cell (World.block_lt_of_cell? w _ hw273_0)).trans hw273_0), ((HB.out.cell (World.block_lt_of_cell? w _ hw273_1)).trans hw273_1), ((HB.out.cell (World.block_lt_of_cell? w _ hw273_2)).trans hw273_2), ((HB.out.cell (World.block_lt_of_cell? w _ hw273_3)).trans hw273_3)⟩ (fun hHeld => ?_)
               clear hK K
               refine norm_ (a' := ?_) ?_ ?_
               rotate_left
               ·show Act.put _ (some 62) _ = _
                simp only [Act.put, List.setIfInBounds_toArray, List.set_cons_zero, List.set_cons_succ, i64_w, i32_w]
                rfl
               refine one_ (i := 16) (N := some 63) #[true, true, true, true, true, true, true, true, true, true, true, true, true, true, true, true, true, false, false, false] rfl rfl (one_of HT_.out (by kernel_rfl)) (by decide) (fun K hK => ?_)
               refine value_ (w1 := ?_) (v := ?_) (by rfl) rfl ?_ ?_
               rotate_left 2
               ·go_simp
                constructor
                ·rfl
                ·rfl
               refine hK.out _ _ ⟨(blk_cell (blk_alloc BK270.out _) 0).trans rfl, (blk_cell (blk_alloc BK270.out _) 1).trans rfl, (blk_cell (blk_alloc BK259.out _) 0).trans rfl, (blk_cell (blk_alloc BK259.out _) 1).trans rfl, (World.cell?_alloc_lt _ _ _ (World.block_lt_of_cell? _ _ (((HB.out.cell (World.block_lt_of_cell? w _ hw271_0)).trans hw271_0)))).trans (((HB.out.cell (World.block_lt_of_cell? w _ hw271_0)).trans hw271_0)), (World.cell?_alloc_lt _ _ _ (World.block_lt_of_cell? _ _ (((HB.out.cell (World.block_lt_of_cell? w _ hw271_1)).trans hw271_1)))).trans (((HB.out.cell (World.block_lt_of_cell? w _ hw271_1)).trans hw271_1)), (World.cell?_alloc_lt _ _ _ (World.block_lt_of_cell? _ _ (((HB.out.cell (World.block_lt_of_cell? w _ hw271_2)).trans hw271_2)))).trans (((HB.out.cell (World.block_lt_of_cell? w _ hw271_2)).trans hw271_2)), (World.cell?_alloc_lt _ _ _ (World.block_lt_of_cell? _ _ (((HB.out.cell (World.block_lt_of_cell? w _ hw271_3)).trans hw271_3)))).trans (((HB.out.cell (World.block_lt_of_cell? w _ hw271_3)).trans hw271_3)), (World.cell?_alloc_lt _ _ _ (World.block_lt_of_cell? _ _ (((HB.out.cell (World.block_lt_of_cell? w _ hw272_0)).trans hw272_0)))).trans (((HB.out.cell (World.block_lt_of_cell? w _ hw272_0)).trans hw272_0)), (World.cell?_alloc_lt _ _ _ (World.block_lt_of_cell? _ _ (((HB.out.cell (World.block_lt_of_cell? w _ hw273_0)).trans hw273_0)))).trans (((HB.out.cell (World.block_lt_of_cell? w _ hw273_0)).trans hw273_0)), (World.cell?_alloc_lt _ _ _ (World.block_lt_of_cell? _ _ (((HB.out.cell (World.block_lt_of_cell? w _ hw273_1)).trans hw273_1)))).trans (((HB.out.cell (World.block_lt_of_cell? w _ hw273_1)).trans hw273_1)), (World.cell?_alloc_lt _ _ _ (World.block_lt_of_cell? _ _ (((HB.out.cell (World.block_lt_of_cell? w _ hw273_2)).trans hw273_2)))).trans (((HB.out.cell (World.block_lt_of_cell? w _ hw273_2)).trans hw273_2)), (World.cell?_alloc_lt _ _ _ (World.block_lt_of_cell? _ _ (((HB.out.cell (World.block_lt_of_cell? w _ hw273_3)).trans hw273_3)))).trans (((HB.out.cell (World.block_lt_of_cell? w _ hw273_3)).trans hw273_3))⟩ (fun hHeld => ?_)
               clear hK K
               refine norm_ (a' := ?_) ?_ ?_
               rotate_left
               ·show Act.put _ (some 63) _ = _
                simp only [Act.put, List.setIfInBounds_toArray, List.set_cons_zero, List.set_cons_succ, i64_w, i32_w]
                rfl
               refine one_ (i := 17) (N := some 64) #[true, true, true, true, true, true, true, true, true, true, true, true, true, true, true, true, true, true, false, false] rfl rfl (one_of HT_.out (by kernel_rfl)) (by decide) (fun K hK => ?_)
               refine Kd.S_append_step k40 (w0 := w) w.heap.size (by rfl) (.tmp 48) (.tmp 63) 22 40 (.agg #[(.int .i64 0), (.slice none 0 0), (.slice none 0 0), (.slice none 0 0)]) 80 rfl Try.underlying22 info40 rfl (by decide) (by omega) (.slice Ao108 t266.length co108) t266 (⟨t274, t275, t278, t281⟩ : S40) [.int .i64 t274, .slice Ao115 t275.length co115, .slice Ao116 t278.length co116, .slice Ao117 t281.length co117] (fun _ => True) (fun k_ => some k_ = (.slice Ao115 t275.length co115 : Value).ownBlock ∨ some k_ = (.slice Ao116 t278.length co116 : Value).ownBlock ∨ some k_ = (.slice Ao117 t281.length co117 : Value).ownBlock) rfl rfl ?aP (fun k_ hk_ => hk_.elim (fun h_ => ((Kd.R_mono (ok' := fun k_ => ((fun _ => True)) k_ ∧ some k_ ≠ (.slice Ao108 t266.length co108 : Value).ownBlock) (Kd.R_apart' (HO277.out) (Kd.S_typed HO268.out) (by decide)) (fun k_ hk => ⟨trivial, hk.2⟩))).1 k_ h_.symm) (fun h_ => h_.elim (fun h_ => ((Kd.R_mono (ok' := fun k_ => ((fun _ => True)) k_ ∧ some k_ ≠ (.slice Ao108 t266.length co108 : Value).ownBlock) (Kd.R_apart' (HO280.out) (Kd.S_typed HO268.out) (by decide)) (fun k_ hk => ⟨trivial, hk.2⟩))).1 k_ h_.symm) (fun h_ => ((Kd.R_mono (ok' := fun k_ => ((fun _ => True)) k_ ∧ some k_ ≠ (.slice Ao108 t266.length co108 : Value).ownBlock) (Kd.R_apart' (HO283.out) (Kd.S_typed HO268.out) (by decide)) (fun k_ hk => ⟨trivial, hk.2⟩))).1 k_ h_.symm))) ?aF ?aO ?aB ?aS ?aL ?_
               (case aP => exact k40_mkM _ _ _ (⟨t274, t275, t278, t281⟩ : S40) (Kd.R_mono (Kd.R_tight rfl (Kd.R_mono (ok' := fun k_ => ((fun _ => True)) k_ ∧ some k_ ≠ (.slice Ao108 t266.length co108 : Value).ownBlock) (Kd.R_apart' (HO277.out) (Kd.S_typed HO268.out) (by decide)) (fun k_ hk => ⟨trivial, hk.2⟩))) (fun _ h_ => Or.inl h_)) (Kd.R_mono (Kd.R_tight rfl (Kd.R_mono (ok' := fun k_ => ((fun _ => True)) k_ ∧ some k_ ≠ (.slice Ao108 t266.length co108 : Value).ownBlock) (Kd.R_apart' (HO280.out) (Kd.S_typed HO268.out) (by decide)) (fun k_ hk => ⟨trivial, hk.2⟩))) (fun _ h_ => Or.inr (Or.inl h_))) (Kd.R_mono (Kd.R_tight rfl (Kd.R_mono (ok' := fun k_ => ((fun _ => True)) k_ ∧ some k_ ≠ (.slice Ao108 t266.length co108 : Value).ownBlock) (Kd.R_apart' (HO283.out) (Kd.S_typed HO268.out) (by decide)) (fun k_ hk => ⟨trivial, hk.2⟩))) (fun _ h_ => Or.inr (Or.inr (h_)))))
               (case aB => exact (BB HB))
               (case aF => exact (fun _ _ => trivial))
               (case aO => exact (by (with_reducible repeat (first | apply Kd.S_alloc | apply Kd.S_drewN | apply Kd.S_drew)); exact Kd.S_mono HO268.out (fun k_ hk => ⟨trivial, fun e_ => e_.elim (fun h_ => hk.1.1.2 h_) (fun h_ => h_.elim (fun h_ => hk.1.2 h_) (fun h_ => hk.2 h_))⟩)))
               (case aS => exact (below_size (BB HB)))
               (case aL => have := LMc59.out; omega)
               intro v285 w114 ho hb hg hat
               rw [← Ny284.out] at ho
               have n0_ := Aside0.mk (blk_grown (g := gb259) (o := .cells #[.slice (some ad271) l0_0.length c0_0, .int .i64 a0_1] 24 (0, 0)) (BL BK259) hg (Kd.S_ne HO268.out BK259.out (by decide)))
               have n1_ := Aside0.mk (blk_grown (g := gb270) (o := .cells #[.slice Ao108 t266.length co108, .int .i64 t269] 24 (0, 0)) (BL BK270) hg (Kd.S_ne HO268.out BK270.out (by decide)))
               have n2_ := Aside0.mk (hb)
               have n3_ := Aside0.mk (ho)
               clear BK259
               clear BK270
               clear HB
               clear HO268
               clear HO277
               clear HO280
               clear HO283
               have BK259 := n0_
               have BK270 := n1_
               have HB := n2_
               have HO286 := n3_
               clear n0_ n1_ n2_ n3_
               clear ho hb hg hat
               obtain ⟨Ao118, co118, eo118⟩ := Kd.S_slice HO286.out
               (first | subst eo118 | (injection eo118 with f1_ f2_ f3_; have f4_ := f1_.symm; have f5_ := f3_.symm; clear f1_ f2_ f3_; subst f4_; subst f5_))
               refine hK.out _ _ ⟨(blk_cell BK270.out 0).trans rfl, (blk_cell BK270.out 1).trans rfl, (blk_cell BK259.out 0).trans rfl, (blk_cell BK259.out 1).trans rfl, ((HB.out.cell (World.block_lt_of_cell? w _ hw271_0)).trans hw271_0), ((HB.out.cell (World.block_lt_of_cell? w _ hw271_1)).trans hw271_1), ((HB.out.cell (World.block_lt_of_cell? w _ hw271_2)).trans hw271_2), ((HB.out.cell (World.block_lt_of_cell? w _ hw271_3)).trans hw271_3), ((HB.out.cell (World.block_lt_of_cell? w _ hw272_0)).trans hw272_0), ((HB.out.cell (World.block_lt_of_cell? w _ hw273_0)).trans hw273_0), ((HB.out.cell (World.block_lt_of_cell? w _ hw273_1)).trans hw273_1), ((HB.out.cell (World.block_lt_of_cell? w _ hw273_2)).trans hw273_2), ((HB.out.cell (World.block_lt_of_cell? w _ hw273_3)).trans hw273_3)⟩ (fun hHeld => ?_)
               clear hK K
               refine norm_ (a' := ?_) ?_ ?_
               rotate_left
               ·show Act.put _ (some 64) _ = _
                simp only [Act.put, List.setIfInBounds_toArray, List.set_cons_zero, List.set_cons_succ, i64_w, i32_w]
                rfl
               refine pure_ (i := 18) (N := some 65) (v := ?_) (a' := ?_) #[true, true, true, true, true, true, true, true, true, true, true, true, true, true, true, true, true, true, true, false] rfl rfl (any_of HT_.out (by kernel_rfl)) (fun _ _ _ h => h) (Or.inl ⟨by rfl, ?_⟩) ?_ ?_
               rotate_left
               ·intro w'
                go_simp
                with_reducible rfl
               rotate_left
               ·simp only [Act.put, List.setIfInBounds_toArray, List.set_cons_zero, List.set_cons_succ, i64_w, i32_w]
                rfl
               refine last_ (i := 19) (N := none) #[true, true, true, true, true, true, true, true, true, true, true, true, true, true, true, true, true, true, true, true] rfl rfl (one_of HT_.out (by kernel_rfl)) (by decide) (fun K hK => ?_)
               have hs119 : w114.cell? ⟨gb270, 0, none⟩ = some (.slice Ao108 t266.length co108) := (blk_cell BK270.out 0).trans rfl
               have hfs119 := blk_frozen BK270.out 0
               have hns119_0 := NB259_270.out
               have hms119_0 := NB270_259.out
               refine skip_ (w1 := ?_) (by rfl) rfl ?_ ?_
               rotate_left
               ·go_simp
                rfl
               refine hK.out _ _ ?_
               clear hK K
               refine done_ (done_of HT_.out (by kernel_rfl)) ?_
               try go_wp2
               have n0_ : Aside0 (Kd.S k40 40 (w114.setCell ⟨gb270, 0, none⟩ (.slice Ao118 y284.length co118)) w.heap.size (fun _ => True) (.slice Ao118 y284.length co118) y284) := ⟨by (with_reducible repeat (first | apply Kd.S_alloc | apply Kd.S_drewN | apply Kd.S_drew)); exact Kd.S_mono (Kd.S_far (p := ⟨gb270, 0, none⟩) (Kd.S_types HO286.out BK270.out (by decide)) (fun _ hk => hk.2) (.slice Ao118 y284.length co118)) (fun _ hk => trivial)⟩
               have n1_ : Aside0 ((w114.setCell ⟨gb270, 0, none⟩ (.slice Ao118 y284.length co118)).heap[gb259]? = some (.cells #[.slice (some ad271) l0_0.length c0_0, .int .i64 a0_1] 24 (0, 0))) := ⟨by refine blk_far ?_ NB259_270.out _; (with_reducible repeat (first | refine blk_drewN ?_ _ | refine blk_drew ?_ | refine blk_alloc ?_ _)); exact BK259.out⟩
               have n2_ : Aside0 ((w114.setCell ⟨gb270, 0, none⟩ (.slice Ao118 y284.length co118)).heap[gb270]? = some (.cells #[.slice Ao118 y284.length co118, .int .i64 t269] 24 (0, 0))) := ⟨by refine blk_put (cs := #[.slice Ao108 t266.length co108, .int .i64 t269]) ?_ 0 _ rfl; (with_reducible repeat (first | refine blk_drewN ?_ _ | refine blk_drew ?_ | refine blk_alloc ?_ _)); exact BK270.out⟩
               have n3_ : Aside0 (Below w.heap.size w (w114.setCell ⟨gb270, 0, none⟩ (.slice Ao118 y284.length co118))) := ⟨BB HB⟩
               (try clear HO286)
               (try clear BK259)
               (try clear BK270)
               (try clear HB)
               generalize (w114.setCell ⟨gb270, 0, none⟩ (.slice Ao118 y284.length co118)) = w120 at n0_ n1_ n2_ n3_ ⊢
               have HO286 := n0_
               have BK259 := n1_
               have BK270 := n2_
               have HB := n3_
               clear n0_ n1_ n2_ n3_
               have n0_ := Aside0.mk (Kd.S_drew HO286.out)
               have n1_ := Aside0.mk (blk_drew BK259.out)
               have n2_ := Aside0.mk (blk_drew BK270.out)
               have n3_ := Aside0.mk (below_drew1 HB.out)
               clear HO286
               clear BK259
               clear BK270
               clear HB
               have HO286 := n0_
               have BK259 := n1_
               have BK270 := n2_
               have HB := n3_
               clear n0_ n1_ n2_ n3_
               have p287 : 0 ≤ (a1 : Int) := of_decide_eq_true (by first | (with_reducible assumption) | assumption)
               have q287 : a1 < (y284.length : Int) := of_decide_eq_true (by first | (with_reducible assumption) | assumption)
               obtain ⟨ad287, A287_1, c287_1, A287_2, c287_2, A287_3, c287_3, e287, hx287_0, hx287_1, hx287_2, hx287_3, hl287_1, hi287_1, hl287_2, hi287_2, hl287_3, hi287_3⟩ := at_T40 (Kd.S_reads' HO286.out).2.2 a1 p287 q287
               cases e287
               obtain ⟨ce287, hce287, hMe287, hcc287⟩ := Kd.S_get HO286.out z40 a1 p287 (by first | exact q287 | exact of_decide_eq_true (by first | (with_reducible assumption) | assumption) | (have e_ := (Kd.S_reads' HO286.out).1; omega))
               obtain ⟨ve287_1, ve287_2, ve287_3, rfl, ge287_1, ge287_2, ge287_3⟩ := k40_openM hMe287
               have hv287_1 := hcc287 1 _ rfl
               rw [add_field _ _ 1 (by omega)] at hv287_1
               replace hv287_1 := Option.some.inj (hv287_1.symm.trans hx287_1)
               rw [hv287_1] at ge287_1
               have HL287_1 := Aside0.mk (show Kd.R (Kd.int .i64) 2 _ _ _ _ ((rd_T40 y284 a1).f1) from ge287_1)
               clear hv287_1 ge287_1
               have HX287_1 := Aside0.mk hx287_1
               have hv287_2 := hcc287 2 _ rfl
               rw [add_field _ _ 2 (by omega)] at hv287_2
               replace hv287_2 := Option.some.inj (hv287_2.symm.trans hx287_2)
               rw [hv287_2] at ge287_2
               have HL287_2 := Aside0.mk (show Kd.R Kd.string 9 _ _ _ _ ((rd_T40 y284 a1).f2) from ge287_2)
               clear hv287_2 ge287_2
               have HX287_2 := Aside0.mk hx287_2
               have hv287_3 := hcc287 3 _ rfl
               rw [add_field _ _ 3 (by omega)] at hv287_3
               replace hv287_3 := Option.some.inj (hv287_3.symm.trans hx287_3)
               rw [hv287_3] at ge287_3
               have HL287_3 := Aside0.mk (show Kd.R (Kd.int .i64) 3 _ _ _ _ ((rd_T40 y284 a1).f3) from ge287_3)
               clear hv287_3 ge287_3
               have HX287_3 := Aside0.mk hx287_3
               clear hcc287 hce287
               have HR287_1 := Aside0.mk hi287_1
               have HC287_1 := Aside0.mk hl287_1
               clear hi287_1 hl287_1
               have HR287_2 := Aside0.mk hi287_2
               have HC287_2 := Aside0.mk hl287_2
               clear hi287_2 hl287_2
               have HR287_3 := Aside0.mk hi287_3
               have HC287_3 := Aside0.mk hl287_3
               clear hi287_3 hl287_3
               replace p287 := eq_true p287
               replace q287 := eq_true q287
               have p62 : 0 ≤ (a2 : Int) := of_decide_eq_true (by first | (with_reducible assumption) | assumption)
               have q62 : (a2 : Int) < ((((rd_T40 y284 a1).f3).length : Int) : Int) := of_decide_eq_true (by first | (with_reducible assumption) | assumption)
               obtain ⟨go62, co62, eo62, gb62, gl62, cl62, HG62⟩ := Kd.R_form HL287_3.out (by omega)
               (first | cases eo62 | (injection eo62 with ea_ en_ ec_; (first | subst ea_ | (injection ea_ with ea_; subst ea_)); subst ec_; clear en_))
               have GB62 := Aside0.mk gb62
               have GG62 := Aside0.mk HG62
               clear gb62 gl62 HG62
               obtain ⟨hx62_0, hf62_0⟩ := Kd.R_celln 0 HL287_3.out (a2 : Int) p62 q62
               replace p62 := eq_true p62
               replace q62 := eq_true q62
               have hq122 : (a1 : Int) < (y284.length : Int) := (by have h_ : (a1 : Int) < ((y284.length : Int) : Int) := of_decide_eq_true (by first | (with_reducible assumption) | assumption); first | exact h_ | (have e_ := (Kd.S_reads' HO286.out).1; omega) | simpa only [List.length_set, List.length_set] using h_)
               obtain ⟨oki122, ce122, hcl122, hM122, hcc122, hok122, hbk122⟩ := Kd.S_borrow HO286.out z40 (a1 : Int) (of_decide_eq_true (by first | (with_reducible assumption) | assumption)) hq122
               obtain ⟨ve122_1, ve122_2, ve122_3, rfl, ge122_1, ge122_2, ge122_3⟩ := k40_openM hM122
               have hv122 := hcc122 3 _ rfl
               rw [add_field _ _ 3 (by omega)] at hv122
               replace hv122 := Option.some.inj (hv122.symm.trans HX287_3.out)
               subst hv122
               clear hcc122 hcl122
               replace ge122_3 := (show Kd.R (Kd.int .i64) 3 _ _ _ _ ((rd_T40 y284 a1).f3) from ge122_3)
               have HP122 := Kd.R_putg ge122_3 (a2 : Int) (wrap64 ((y284.length : Int) - 1))
               rw [← Ny288.out] at HP122
               have HS122 := hbk122 HP122.2 (fun k_ e_ => by injection e_ with e_; subst e_; exact ge122_3.1 _ rfl) (x' := (⟨(rd_T40 y284 a1).f0, (rd_T40 y284 a1).f1, (rd_T40 y284 a1).f2, y288⟩ : S40)) (k40_mkM _ _ _ (⟨(rd_T40 y284 a1).f0, (rd_T40 y284 a1).f1, (rd_T40 y284 a1).f2, y288⟩ : S40) (Kd.R_over' (v := (.slice (some ⟨go62, 0, none⟩) ((rd_T40 y284 a1).f3).length c287_3)) ge122_1 (Kd.R_typed ge122_3) (by decide) HP122.2) (Kd.R_over' (v := (.slice (some ⟨go62, 0, none⟩) ((rd_T40 y284 a1).f3).length c287_3)) ge122_2 (Kd.R_typed ge122_3) (by decide) HP122.2) HP122.1)
               rw [← Ny290.out] at HS122
               have HQ122 := Aside0.mk HS122
               clear HP122 HS122 hbk122 hok122
               refine start_ (n := 13) (S := fun w' => w'.cell? ⟨gb270, 0, none⟩ = some (.slice (some ad287) y284.length co118) ∧ w'.cell? ⟨gb270, 1, none⟩ = some (.int .i64 t269) ∧ w'.cell? (ad287.add ((a1).toNat * 4)) = some (.int .i64 ((rd_T40 y284 a1).f0)) ∧ w'.cell? ⟨(ad287.add ((a1).toNat * 4)).block, (ad287.add ((a1).toNat * 4)).off + 1, none⟩ = some (.slice A287_1 ((rd_T40 y284 a1).f1).length c287_1) ∧ w'.cell? ⟨(ad287.add ((a1).toNat * 4)).block, (ad287.add ((a1).toNat * 4)).off + 2, none⟩ = some (.slice A287_2 ((rd_T40 y284 a1).f2).length c287_2) ∧ w'.cell? ⟨(ad287.add ((a1).toNat * 4)).block, (ad287.add ((a1).toNat * 4)).off + 3, none⟩ = some (.slice (some ⟨go62, 0, none⟩) ((rd_T40 y284 a1).f3).length c287_3)) (ds := [12]) #[false, false, false, false, false, false, false, false, false, false, false, false, false] (by kernel_rfl) rfl rfl ⟨(blk_cell BK270.out 0).trans rfl, (blk_cell BK270.out 1).trans rfl, hx287_0, hx287_1, hx287_2, hx287_3⟩ (fun hHeld => ?_); refine with_tabW dioramalaw10_CanonApart.tab5 dioramalaw10_CanonApart.bits5 (fun HT_ HW_ => ?_)
               generalize w120.drew = w121 at HO286 BK259 BK270 HB GG62 HL287_1 HL287_2 HL287_3 HQ122 HR287_1 HR287_2 HR287_3 HX287_1 HX287_2 HX287_3 hf62_0 hx287_0 hx287_1 hx287_2 hx287_3 hx62_0 hHeld ⊢
               refine pure_ (i := 0) (N := some 66) (v := ?_) (a' := ?_) #[true, false, false, false, false, false, false, false, false, false, false, false, false] rfl rfl (any_of HT_.out (by kernel_rfl)) (fun _ _ _ h => h) (Or.inl ⟨by rfl, ?_⟩) ?_ ?_
               rotate_left
               ·intro w'
                go_simp
                with_reducible rfl
               rotate_left
               ·simp only [Act.put, List.setIfInBounds_toArray, List.set_cons_zero, List.set_cons_succ, i64_w, i32_w]
                rfl
               refine pure_ (i := 2) (N := some 68) (v := ?_) (a' := ?_) #[true, false, true, false, false, false, false, false, false, false, false, false, false] rfl rfl (any_of HT_.out (by kernel_rfl)) (fun _ _ _ h => h) (Or.inl ⟨by rfl, ?_⟩) ?_ ?_
               rotate_left
               ·intro w'
                go_simp
                with_reducible rfl
               rotate_left
               ·simp only [Act.put, List.setIfInBounds_toArray, List.set_cons_zero, List.set_cons_succ, i64_w, i32_w]
                rfl
               refine pure_ (i := 6) (N := some 72) (v := ?_) (a' := ?_) #[true, false, true, false, false, false, true, false, false, false, false, false, false] rfl rfl (any_of HT_.out (by kernel_rfl)) (fun _ _ _ h => h) (Or.inl ⟨by rfl, ?_⟩) ?_ ?_
               rotate_left
               ·intro w'
                go_simp
                with_reducible rfl
               rotate_left
               ·simp only [Act.put, List.setIfInBounds_toArray, List.set_cons_zero, List.set_cons_succ, i64_w, i32_w]
                rfl
               refine pure_ (i := 7) (N := some 73) (v := ?_) (a' := ?_) #[true, false, true, false, false, false, true, true, false, false, false, false, false] rfl rfl (any_of HT_.out (by kernel_rfl)) (fun _ _ _ h => h) (Or.inl ⟨by rfl, ?_⟩) ?_ ?_
               rotate_left
               ·intro w'
                go_simp
                with_reducible rfl
               rotate_left
               ·simp only [Act.put, List.setIfInBounds_toArray, List.set_cons_zero, List.set_cons_succ, i64_w, i32_w]
                rfl
               refine take_ (i := 1) (N := some 67) (v := ?_) (a' := ?_) #[true, true, true, false, false, false, true, true, false, false, false, false, false] rfl rfl (take_ofW HT_.out HW_.out (by kernel_rfl)) (fun _ _ _ h => h) (Or.inl ⟨by rfl, ?_⟩) hHeld ?_ ?_
               rotate_left
               ·rintro w' ⟨s0, s1, s2, s3, s4, s5⟩
                go_simp
                with_reducible rfl
               rotate_left
               ·simp only [Act.put, List.setIfInBounds_toArray, List.set_cons_zero, List.set_cons_succ, i64_w, i32_w]
                rfl
               refine pure_ (i := 3) (N := some 69) (v := ?_) (a' := ?_) #[true, true, true, true, false, false, true, true, false, false, false, false, false] rfl rfl (any_of HT_.out (by kernel_rfl)) (fun _ _ _ h => h) (Or.inl ⟨by rfl, ?_⟩) ?_ ?_
               rotate_left
               ·intro w'
                go_simp
                with_reducible rfl
               rotate_left
               ·simp only [Act.put, List.setIfInBounds_toArray, List.set_cons_zero, List.set_cons_succ, i64_w, i32_w]
                rfl
               refine pure_ (i := 4) (N := some 70) (v := ?_) (a' := ?_) #[true, true, true, true, true, false, true, true, false, false, false, false, false] rfl rfl (any_of HT_.out (by kernel_rfl)) (fun _ _ _ h => h) (Or.inl ⟨by rfl, ?_⟩) ?_ ?_
               rotate_left
               ·intro w'
                go_simp
                with_reducible rfl
               rotate_left
               ·simp only [Act.put, List.setIfInBounds_toArray, List.set_cons_zero, List.set_cons_succ, i64_w, i32_w]
                rfl
               refine take_ (i := 5) (N := some 71) (v := ?_) (a' := ?_) #[true, true, true, true, true, true, true, true, false, false, false, false, false] rfl rfl (take_ofW HT_.out HW_.out (by kernel_rfl)) (fun _ _ _ h => h) (Or.inl ⟨by rfl, ?_⟩) hHeld ?_ ?_
               rotate_left
               ·rintro w' ⟨s0, s1, s2, s3, s4, s5⟩
                go_simp
                with_reducible rfl
               rotate_left
               ·simp only [Act.put, List.setIfInBounds_toArray, List.set_cons_zero, List.set_cons_succ, i64_w, i32_w]
                rfl
               refine take_ (i := 8) (N := some 74) (v := ?_) (a' := ?_) #[true, true, true, true, true, true, true, true, true, false, false, false, false] rfl rfl (take_ofW HT_.out HW_.out (by kernel_rfl)) (fun _ _ _ h => h) (Or.inl ⟨by rfl, ?_⟩) hHeld ?_ ?_
               rotate_left
               ·rintro w' ⟨s0, s1, s2, s3, s4, s5⟩
                go_simp
                with_reducible rfl
               rotate_left
               ·simp only [Act.put, List.setIfInBounds_toArray, List.set_cons_zero, List.set_cons_succ, i64_w, i32_w]
                rfl
               refine pure_ (i := 9) (N := some 75) (v := ?_) (a' := ?_) #[true, true, true, true, true, true, true, true, true, true, false, false, false] rfl rfl (any_of HT_.out (by kernel_rfl)) (fun _ _ _ h => h) (Or.inl ⟨by rfl, ?_⟩) ?_ ?_
               rotate_left
               ·intro w'
                go_simp
                with_reducible rfl
               rotate_left
               ·simp only [Act.put, List.setIfInBounds_toArray, List.set_cons_zero, List.set_cons_succ, i64_w, i32_w]
                rfl
               refine pure_ (i := 10) (N := some 76) (v := ?_) (a' := ?_) #[true, true, true, true, true, true, true, true, true, true, true, false, false] rfl rfl (any_of HT_.out (by kernel_rfl)) (fun _ _ _ h => h) (Or.inl ⟨by rfl, ?_⟩) ?_ ?_
               rotate_left
               ·intro w'
                go_simp
                with_reducible rfl
               rotate_left
               ·simp only [Act.put, List.setIfInBounds_toArray, List.set_cons_zero, List.set_cons_succ, i64_w, i32_w]
                rfl
               refine pure_ (i := 11) (N := some 77) (v := ?_) (a' := ?_) #[true, true, true, true, true, true, true, true, true, true, true, true, false] rfl rfl (any_of HT_.out (by kernel_rfl)) (fun _ _ _ h => h) (Or.inl ⟨by rfl, ?_⟩) ?_ ?_
               rotate_left
               ·intro w'
                go_simp
                with_reducible rfl
               rotate_left
               ·simp only [Act.put, List.setIfInBounds_toArray, List.set_cons_zero, List.set_cons_succ, i64_w, i32_w]
                rfl
               refine last_ (i := 12) (N := none) #[true, true, true, true, true, true, true, true, true, true, true, true, true] rfl rfl (one_of HT_.out (by kernel_rfl)) (by decide) (fun K hK => ?_)
               refine skip_ (w1 := ?_) (by rfl) rfl ?_ ?_
               rotate_left
               ·go_simp
                rfl
               refine hK.out _ _ ?_
               clear hK K
               refine done_ (done_of HT_.out (by kernel_rfl)) ?_
               have n0_ : Aside0 (Kd.S k40 40 (w121.setCell ⟨go62, (a2 : Int).toNat, none⟩ (.int .i64 (wrap64 ((y284.length : Int) - 1)))) w.heap.size (fun _ => True) (.slice (some ad287) y284.length co118) y290) := ⟨by (with_reducible repeat (first | apply Kd.S_alloc | apply Kd.S_drewN | apply Kd.S_drew)); exact HQ122.out⟩
               have n1_ : Aside0 ((w121.setCell ⟨go62, (a2 : Int).toNat, none⟩ (.int .i64 (wrap64 ((y284.length : Int) - 1)))).heap[gb259]? = some (.cells #[.slice (some ad271) l0_0.length c0_0, .int .i64 a0_1] 24 (0, 0))) := ⟨by refine blk_far ?_ (by have h_ := Kd.R_ne HL287_3.out BK259.out (by decide); intro e_; exact h_ (by rw [e_]; rfl)) _; (with_reducible repeat (first | refine blk_drewN ?_ _ | refine blk_drew ?_ | refine blk_alloc ?_ _)); exact BK259.out⟩
               have n2_ : Aside0 ((w121.setCell ⟨go62, (a2 : Int).toNat, none⟩ (.int .i64 (wrap64 ((y284.length : Int) - 1)))).heap[gb270]? = some (.cells #[.slice (some ad287) y284.length co118, .int .i64 t269] 24 (0, 0))) := ⟨by refine blk_far ?_ (by have h_ := Kd.R_ne HL287_3.out BK270.out (by decide); intro e_; exact h_ (by rw [e_]; rfl)) _; (with_reducible repeat (first | refine blk_drewN ?_ _ | refine blk_drew ?_ | refine blk_alloc ?_ _)); exact BK270.out⟩
               have n3_ : Aside0 (Below w.heap.size w (w121.setCell ⟨go62, (a2 : Int).toNat, none⟩ (.int .i64 (wrap64 ((y284.length : Int) - 1))))) := ⟨BB HB⟩
               (try clear HO286)
               (try clear BK259)
               (try clear BK270)
               (try clear HB)
               generalize (w121.setCell ⟨go62, (a2 : Int).toNat, none⟩ (.int .i64 (wrap64 ((y284.length : Int) - 1)))) = w124 at n0_ n1_ n2_ n3_ ⊢
               have HO286 := n0_
               have BK259 := n1_
               have BK270 := n2_
               have HB := n3_
               clear n0_ n1_ n2_ n3_
               have hcz125_0 : w124.cell? ⟨gb259, 0, none⟩ = some (.slice (some ad271) l0_0.length c0_0) := (blk_cell BK259.out 0).trans rfl
               have hcz125_1 : w124.cell? ⟨gb259, 1, none⟩ = some (.int .i64 a0_1) := (blk_cell BK259.out 1).trans rfl
               have hfz125_0 := blk_frozen BK259.out 0
               have hfz125_1 := blk_frozen BK259.out 1
               try go_wp2_with (first | ((with_reducible refine gate_callee (f := 16) rfl ?_); refine goesL_ (some 80) rfl rfl Try.func16 (by kernel_rfl) rfl #[.agg #[.slice (some ad271) l0_0.length c0_0, .int .i64 a0_1]] rfl (by (try simp only [List.map_toArray, List.map_cons, List.map_nil]); first | done | rfl | (simp only [List.length_drop, List.length_take]; rfl)) ?_; (with_reducible refine (canon_Canon.calls kj3 _ _ l0_0 a0_1 t291 t294 t295 _ ?side1 ?side2 A63.out).mono ?_); (case side1 => repeat (first | exact (Kd.C_below HR0_0.out HB.out) | (with_reducible refine Kd.C_alloc ?_ _) | (with_reducible refine Kd.C_drewN ?_ _) | (with_reducible refine Kd.C_drew ?_))); (case side2 => exact HC0_0.out); rintro e w126 ⟨v292, rfl, ho0, hb⟩; refine ⟨_, rfl, ?_⟩; have n0_ := Aside0.mk (Kd.S_elder' (by (with_reducible repeat (first | apply Kd.S_alloc | apply Kd.S_drewN | apply Kd.S_drew)); exact HO286.out) (Kd.R_base ho0) hb); have n1_ := Aside0.mk (Kd.R_lower (Kd.R_new' ho0 (Kd.S_lt (by (with_reducible repeat (first | apply Kd.S_alloc | apply Kd.S_drewN | apply Kd.S_drew)); exact HO286.out))) (below_size (BB HB))); have n2_ := BE BK259 hb; have n3_ := BE BK270 hb; have n4_ := Aside0.mk (below_step (BB HB) hb); clear HO286; clear BK259; clear BK270; clear HB; have HO286 := n0_; have HO293 := n1_; have BK259 := n2_; have BK270 := n3_; have HB := n4_; clear n0_ n1_ n2_ n3_ n4_; (try clear hb); (try clear hb2); (try clear hk); (try clear hi); (try clear ho0)) | ((with_reducible refine gate_dst (N := 8) rfl ?_); refine box_event ?hg (N := 8) ?hd (cs := #[.slice none 0 0, .int .i64 0]) (t := 24) ?hr ?_; (case hd => rfl); (case hg => rfl); (case hr => first | (go_simp; done) | (go_simp; rfl)); intro gb296 hg w127 hbox hb; have n0_ := Aside0.mk (Kd.S_below (by (with_reducible repeat (first | apply Kd.S_alloc | apply Kd.S_drewN | apply Kd.S_drew)); exact HO286.out) hb); have n1_ := Aside0.mk (Kd.R_below (by (with_reducible repeat (first | apply Kd.R_alloc | apply Kd.R_drewN | apply Kd.R_drew)); exact HO293.out) hb); have n2_ := BE BK259 hb; have n3_ := BE BK270 hb; have n4_ := Aside0.mk (below_step (BB HB) hb); have n5_ := Aside0.mk (hbox); have n6_ := Aside0.mk ((by rw [hg]; exact (below_size (BB HB)) : w.heap.size ≤ gb296)); have n7_ := Aside0.mk ((by rw [hg]; exact (below_size (BB HB)) : w.heap.size ≤ gb296)); have n8_ := Aside0.mk ((by rw [hg]; exact Nat.ne_of_lt (blk_lt (g := gb259) (o := .cells #[.slice (some ad271) l0_0.length c0_0, .int .i64 a0_1] 24 (0, 0)) (BL BK259)) : gb259 ≠ gb296)); have n9_ := Aside0.mk ((by rw [hg]; exact Nat.ne_of_gt (blk_lt (g := gb259) (o := .cells #[.slice (some ad271) l0_0.length c0_0, .int .i64 a0_1] 24 (0, 0)) (BL BK259)) : gb296 ≠ gb259)); have n10_ := Aside0.mk ((by rw [hg]; exact Nat.ne_of_lt (blk_lt (g := gb270) (o := .cells #[.slice (some ad287) y284.length co118, .int .i64 t269] 24 (0, 0)) (BL BK270)) : gb270 ≠ gb296)); have n11_ := Aside0.mk ((by rw [hg]; exact Nat.ne_of_gt (blk_lt (g := gb270) (o := .cells #[.slice (some ad287) y284.length co118, .int .i64 t269] 24 (0, 0)) (BL BK270)) : gb296 ≠ gb270)); clear HO286; clear HO293; clear BK259; clear BK270; clear HB; have HO286 := n0_; have HO293 := n1_; have BK259 := n2_; have BK270 := n3_; have HB := n4_; have BK296 := n5_; have GW296 := n6_; have GE296 := n7_; have NB259_296 := n8_; have NB296_259 := n9_; have NB270_296 := n10_; have NB296_270 := n11_; clear n0_ n1_ n2_ n3_ n4_ n5_ n6_ n7_ n8_ n9_ n10_ n11_; clear hb hbox hg; obtain ⟨Ao128, co128, eo128⟩ := Kd.R_slice HO293.out; subst eo128; have hnb129 := NB296_259.out; have hnc129 := NB259_296.out; have hnb130 := NB296_270.out; have hnc130 := NB270_296.out; have hcz131_0 : w127.cell? ⟨gb296, 0, none⟩ = some (.slice none 0 0) := (blk_cell BK296.out 0).trans rfl; have hcz131_1 : w127.cell? ⟨gb296, 1, none⟩ = some (.int .i64 0) := (blk_cell BK296.out 1).trans rfl; have hfz131_0 := blk_frozen BK296.out 0; have hfz131_1 := blk_frozen BK296.out 1; have hcz132_0 : w127.cell? ⟨gb270, 0, none⟩ = some (.slice (some ad287) y284.length co118) := (blk_cell BK270.out 0).trans rfl; have hcz132_1 : w127.cell? ⟨gb270, 1, none⟩ = some (.int .i64 t269) := (blk_cell BK270.out 1).trans rfl; have hfz132_0 := blk_frozen BK270.out 0; have hfz132_1 := blk_frozen BK270.out 1) | ((with_reducible refine gate_callee (f := 16) rfl ?_); refine goesL_ (some 85) rfl rfl Try.func16 (by kernel_rfl) rfl #[.agg #[.slice (some ad287) y290.length co118, .int .i64 t269]] rfl (by (try simp only [List.map_toArray, List.map_cons, List.map_nil]); first | done | (rw [show y290.length = y284.length from (Kd.S_reads' HO286.out).1.symm] <;> rfl) | rfl | (simp only [List.length_drop, List.length_take]; rfl)) ?_; (with_reducible refine (canon_Canon.calls kj3 _ _ y290 t269 t297 t300 t301 _ ?side1 ?side2 A64.out).mono ?_); (case side1 => refine (Kd.S_reads' (e := 40) (base := w.heap.size) (ok := fun k_ => (True ∧ some k_ ≠ (.slice Ao128 t291.length co128 : Value).ownBlock)) (n := y284.length) (c := co118) ?_).2.2; exact (by (with_reducible repeat (first | apply Kd.S_alloc | apply Kd.S_drewN | apply Kd.S_drew)); exact (Kd.S_mono (Kd.S_far (p := ⟨gb296, 1, none⟩) (Kd.S_far (p := ⟨gb296, 0, none⟩) (Kd.S_types HO286.out BK296.out (by decide)) (fun _ hk => hk.2) (.slice Ao128 t291.length co128)) (fun _ hk => hk.2) (.int .i64 t294)) (fun _ h_ => h_.1)))); (case side2 => rw [show y290.length = y284.length from (Kd.S_reads' HO286.out).1.symm]; exact (Kd.S_reads' HO286.out).2.1); rintro e w133 ⟨v298, rfl, ho0, hb⟩; refine ⟨_, rfl, ?_⟩; have n0_ := Aside0.mk (Kd.S_elder' (by (with_reducible repeat (first | apply Kd.S_alloc | apply Kd.S_drewN | apply Kd.S_drew)); exact (Kd.S_mono (Kd.S_far (p := ⟨gb296, 1, none⟩) (Kd.S_far (p := ⟨gb296, 0, none⟩) (Kd.S_types HO286.out BK296.out (by decide)) (fun _ hk => hk.2) (.slice Ao128 t291.length co128)) (fun _ hk => hk.2) (.int .i64 t294)) (fun _ h_ => h_.1))) (Kd.R_base ho0) hb); have n1_ := Aside0.mk (Kd.R_elder' (by (with_reducible repeat (first | apply Kd.R_alloc | apply Kd.R_drewN | apply Kd.R_drew)); exact (Kd.R_mono (Kd.R_far (p := ⟨gb296, 1, none⟩) (Kd.R_far (p := ⟨gb296, 0, none⟩) (Kd.R_types HO293.out BK296.out (by decide)) (fun _ hk => hk.2) (.slice Ao128 t291.length co128)) (fun _ hk => hk.2) (.int .i64 t294)) (fun _ h_ => h_.1))) (Kd.R_base ho0) hb); have n2_ := Aside0.mk (Kd.R_lower (Kd.R_new' (Kd.R_new' ho0 (Kd.S_lt (by (with_reducible repeat (first | apply Kd.S_alloc | apply Kd.S_drewN | apply Kd.S_drew)); exact (Kd.S_mono (Kd.S_far (p := ⟨gb296, 1, none⟩) (Kd.S_far (p := ⟨gb296, 0, none⟩) (Kd.S_types HO286.out BK296.out (by decide)) (fun _ hk => hk.2) (.slice Ao128 t291.length co128)) (fun _ hk => hk.2) (.int .i64 t294)) (fun _ h_ => h_.1))))) (Kd.R_lt (by (with_reducible repeat (first | apply Kd.R_alloc | apply Kd.R_drewN | apply Kd.R_drew)); exact (Kd.R_mono (Kd.R_far (p := ⟨gb296, 1, none⟩) (Kd.R_far (p := ⟨gb296, 0, none⟩) (Kd.R_types HO293.out BK296.out (by decide)) (fun _ hk => hk.2) (.slice Ao128 t291.length co128)) (fun _ hk => hk.2) (.int .i64 t294)) (fun _ h_ => h_.1))))) (below_size (BB HB))); have n3_ := Aside0.mk (blk_below (g := gb259) (o := .cells #[.slice (some ad271) l0_0.length c0_0, .int .i64 a0_1] 24 (0, 0)) (by refine blk_far ?_ NB259_296.out _; refine blk_far ?_ NB259_296.out _; (with_reducible repeat (first | refine blk_drewN ?_ _ | refine blk_drew ?_ | refine blk_alloc ?_ _)); exact BK259.out) hb); have n4_ := Aside0.mk (blk_below (g := gb270) (o := .cells #[.slice (some ad287) y284.length co118, .int .i64 t269] 24 (0, 0)) (by refine blk_far ?_ NB270_296.out _; refine blk_far ?_ NB270_296.out _; (with_reducible repeat (first | refine blk_drewN ?_ _ | refine blk_drew ?_ | refine blk_alloc ?_ _)); exact BK270.out) hb); have n5_ := Aside0.mk (blk_below (g := gb296) (o := .cells #[.slice Ao128 t291.length co128, .int .i64 t294] 24 (0, 0)) (by refine blk_put (cs := #[.slice Ao128 t291.length co128, .int .i64 0]) ?_ 1 _ rfl; refine blk_put (cs := #[.slice none 0 0, .int .i64 0]) ?_ 0 _ rfl; (with_reducible repeat (first | refine blk_drewN ?_ _ | refine blk_drew ?_ | refine blk_alloc ?_ _)); exact BK296.out) hb); have n6_ := Aside0.mk (below_step (BB HB) hb); clear HO286; clear HO293; clear BK259; clear BK270; clear BK296; clear HB; have HO286 := n0_; have HO293 := n1_; have HO299 := n2_; have BK259 := n3_; have BK270 := n4_; have BK296 := n5_; have HB := n6_; clear n0_ n1_ n2_ n3_ n4_ n5_ n6_; (try clear hb); (try clear hb2); (try clear hk); (try clear hi); (try clear ho0)) | ((with_reducible refine gate_dst (N := 10) rfl ?_); refine box_event ?hg (N := 10) ?hd (cs := #[.slice none 0 0, .int .i64 0]) (t := 24) ?hr ?_; (case hd => rfl); (case hg => rfl); (case hr => first | (go_simp; done) | (go_simp; rfl)); intro gb302 hg w134 hbox hb; have n0_ := Aside0.mk (Kd.S_below (by (with_reducible repeat (first | apply Kd.S_alloc | apply Kd.S_drewN | apply Kd.S_drew)); exact HO286.out) hb); have n1_ := Aside0.mk (Kd.R_below (by (with_reducible repeat (first | apply Kd.R_alloc | apply Kd.R_drewN | apply Kd.R_drew)); exact HO293.out) hb); have n2_ := Aside0.mk (Kd.R_below (by (with_reducible repeat (first | apply Kd.R_alloc | apply Kd.R_drewN | apply Kd.R_drew)); exact HO299.out) hb); have n3_ := BE BK259 hb; have n4_ := BE BK270 hb; have n5_ := BE BK296 hb; have n6_ := Aside0.mk (below_step (BB HB) hb); have n7_ := Aside0.mk (hbox); have n8_ := Aside0.mk ((by rw [hg]; exact (below_size (BB HB)) : w.heap.size ≤ gb302)); have n9_ := Aside0.mk ((by rw [hg]; exact (below_size (BB HB)) : w.heap.size ≤ gb302)); have n10_ := Aside0.mk ((by rw [hg]; exact Nat.ne_of_lt (blk_lt (g := gb259) (o := .cells #[.slice (some ad271) l0_0.length c0_0, .int .i64 a0_1] 24 (0, 0)) (BL BK259)) : gb259 ≠ gb302)); have n11_ := Aside0.mk ((by rw [hg]; exact Nat.ne_of_gt (blk_lt (g := gb259) (o := .cells #[.slice (some ad271) l0_0.length c0_0, .int .i64 a0_1] 24 (0, 0)) (BL BK259)) : gb302 ≠ gb259)); have n12_ := Aside0.mk ((by rw [hg]; exact Nat.ne_of_lt (blk_lt (g := gb270) (o := .cells #[.slice (some ad287) y284.length co118, .int .i64 t269] 24 (0, 0)) (BL BK270)) : gb270 ≠ gb302)); have n13_ := Aside0.mk ((by rw [hg]; exact Nat.ne_of_gt (blk_lt (g := gb270) (o := .cells #[.slice (some ad287) y284.length co118, .int .i64 t269] 24 (0, 0)) (BL BK270)) : gb302 ≠ gb270)); have n14_ := Aside0.mk ((by rw [hg]; exact Nat.ne_of_lt (blk_lt (g := gb296) (o := .cells #[.slice Ao128 t291.length co128, .int .i64 t294] 24 (0, 0)) (BL BK296)) : gb296 ≠ gb302)); have n15_ := Aside0.mk ((by rw [hg]; exact Nat.ne_of_gt (blk_lt (g := gb296) (o := .cells #[.slice Ao128 t291.length co128, .int .i64 t294] 24 (0, 0)) (BL BK296)) : gb302 ≠ gb296)); clear HO286; clear HO293; clear HO299; clear BK259; clear BK270; clear BK296; clear HB; have HO286 := n0_; have HO293 := n1_; have HO299 := n2_; have BK259 := n3_; have BK270 := n4_; have BK296 := n5_; have HB := n6_; have BK302 := n7_; have GW302 := n8_; have GE302 := n9_; have NB259_302 := n10_; have NB302_259 := n11_; have NB270_302 := n12_; have NB302_270 := n13_; have NB296_302 := n14_; have NB302_296 := n15_; clear n0_ n1_ n2_ n3_ n4_ n5_ n6_ n7_ n8_ n9_ n10_ n11_ n12_ n13_ n14_ n15_; clear hb hbox hg; obtain ⟨Ao135, co135, eo135⟩ := Kd.R_slice HO299.out; subst eo135; have hnb136 := NB302_259.out; have hnc136 := NB259_302.out; have hnb137 := NB302_270.out; have hnc137 := NB270_302.out; have hnb138 := NB302_296.out; have hnc138 := NB296_302.out; have hcz139_0 : w134.cell? ⟨gb302, 0, none⟩ = some (.slice none 0 0) := (blk_cell BK302.out 0).trans rfl; have hcz139_1 : w134.cell? ⟨gb302, 1, none⟩ = some (.int .i64 0) := (blk_cell BK302.out 1).trans rfl; have hfz139_0 := blk_frozen BK302.out 0; have hfz139_1 := blk_frozen BK302.out 1; have hcz140_0 : w134.cell? ⟨gb296, 0, none⟩ = some (.slice Ao128 t291.length co128) := (blk_cell BK296.out 0).trans rfl; have hcz140_1 : w134.cell? ⟨gb296, 1, none⟩ = some (.int .i64 t294) := (blk_cell BK296.out 1).trans rfl; have hfz140_0 := blk_frozen BK296.out 0; have hfz140_1 := blk_frozen BK296.out 1))
               go_ret
               exact ⟨by first | rfl | (simp [errW_none, errW_some] <;> rfl) | (simp [*, errW_none, errW_some] <;> rfl), BB HB⟩
             ·rw [if_neg c65] at H
              have c65b0 : (t301 == 0) = false := beq_eq_false_iff_ne.mpr c65
              have c65b1 : (t301 != 0) = true := bne_iff_ne.mpr c65
              obtain rfl := Option.some.inj H
              have hcz141_0 : wc.cell? ⟨gb259, 0, none⟩ = some (.slice A0_0 l0_0.length c0_0) := (blk_cell BK259.out 0).trans rfl
              have hcz141_1 : wc.cell? ⟨gb259, 1, none⟩ = some (.int .i64 a0_1) := (blk_cell BK259.out 1).trans rfl
              have hfz141_0 := blk_frozen BK259.out 0
              have hfz141_1 := blk_frozen BK259.out 1
              try go_wp2_with (first | ((with_reducible refine gate_callee (f := 17) rfl ?_); refine goesL_ (some 46) rfl rfl Try.func17 (by kernel_rfl) rfl #[.agg #[.slice A0_0 l0_0.length c0_0, .int .i64 a0_1]] rfl (by (try simp only [List.map_toArray, List.map_cons, List.map_nil]); first | done | rfl | (simp only [List.length_drop, List.length_take]; rfl)) ?_; (with_reducible refine (dioramaref09_Copy.calls kj3 _ _ l0_0 a0_1 t266 t269 _ ?side1 ?side2 A51.out).mono ?_); (case side1 => repeat (first | exact (Kd.C_below HR0_0.out HB.out) | (with_reducible refine Kd.C_alloc ?_ _) | (with_reducible refine Kd.C_drewN ?_ _) | (with_reducible refine Kd.C_drew ?_))); (case side2 => exact HC0_0.out); rintro e w142 ⟨v267, rfl, ho0, hb⟩; refine ⟨_, rfl, ?_⟩; have n0_ := Aside0.mk (Kd.S_lower ho0 (below_size (BB HB))); have n1_ := BE BK259 hb; have n2_ := Aside0.mk (below_step (BB HB) hb); clear BK259; clear HB; have HO268 := n0_; have BK259 := n1_; have HB := n2_; clear n0_ n1_ n2_; (try clear hb); (try clear hb2); (try clear hk); (try clear hi); (try clear ho0)) | ((with_reducible refine gate_dst (N := 7) rfl ?_); refine box_event ?hg (N := 7) ?hd (cs := #[.slice none 0 0, .int .i64 0]) (t := 24) ?hr ?_; (case hd => rfl); (case hg => rfl); (case hr => first | (go_simp; done) | (go_simp; rfl)); intro gb270 hg w143 hbox hb; have n0_ := Aside0.mk (Kd.S_below (by (with_reducible repeat (first | apply Kd.S_alloc | apply Kd.S_drewN | apply Kd.S_drew)); exact HO268.out) hb); have n1_ := BE BK259 hb; have n2_ := Aside0.mk (below_step (BB HB) hb); have n3_ := Aside0.mk (hbox); have n4_ := Aside0.mk ((by rw [hg]; exact (below_size (BB HB)) : w.heap.size ≤ gb270)); have n5_ := Aside0.mk ((by rw [hg]; exact (below_size (BB HB)) : w.heap.size ≤ gb270)); have n6_ := Aside0.mk ((by rw [hg]; exact Nat.ne_of_lt (blk_lt (g := gb259) (o := .cells #[.slice A0_0 l0_0.length c0_0, .int .i64 a0_1] 24 (0, 0)) (BL BK259)) : gb259 ≠ gb270)); have n7_ := Aside0.mk ((by rw [hg]; exact Nat.ne_of_gt (blk_lt (g := gb259) (o := .cells #[.slice A0_0 l0_0.length c0_0, .int .i64 a0_1] 24 (0, 0)) (BL BK259)) : gb270 ≠ gb259)); clear HO268; clear BK259; clear HB; have HO268 := n0_; have BK259 := n1_; have HB := n2_; have BK270 := n3_; have GW270 := n4_; have GE270 := n5_; have NB259_270 := n6_; have NB270_259 := n7_; clear n0_ n1_ n2_ n3_ n4_ n5_ n6_ n7_; clear hb hbox hg; obtain ⟨Ao144, co144, eo144⟩ := Kd.S_slice HO268.out; subst eo144; have hnb145 := NB270_259.out; have hnc145 := NB259_270.out; have hcz146_0 : w143.cell? ⟨gb270, 0, none⟩ = some (.slice none 0 0) := (blk_cell BK270.out 0).trans rfl; have hcz146_1 : w143.cell? ⟨gb270, 1, none⟩ = some (.int .i64 0) := (blk_cell BK270.out 1).trans rfl; have hfz146_0 := blk_frozen BK270.out 0; have hfz146_1 := blk_frozen BK270.out 1))
              have n0_ : Aside0 (Kd.S k40 40 ((w143.setCell ⟨gb270, 0, none⟩ (.slice Ao144 t266.length co144)).setCell ⟨gb270, 1, none⟩ (.int .i64 t269)) w.heap.size (fun _ => True) (.slice Ao144 t266.length co144) t266) := ⟨by (with_reducible repeat (first | apply Kd.S_alloc | apply Kd.S_drewN | apply Kd.S_drew)); exact Kd.S_mono (Kd.S_far (p := ⟨gb270, 1, none⟩) (Kd.S_far (p := ⟨gb270, 0, none⟩) (Kd.S_types HO268.out BK270.out (by decide)) (fun _ hk => hk.2) (.slice Ao144 t266.length co144)) (fun _ hk => hk.2) (.int .i64 t269)) (fun _ hk => trivial)⟩
              have n1_ : Aside0 (((w143.setCell ⟨gb270, 0, none⟩ (.slice Ao144 t266.length co144)).setCell ⟨gb270, 1, none⟩ (.int .i64 t269)).heap[gb259]? = some (.cells #[.slice A0_0 l0_0.length c0_0, .int .i64 a0_1] 24 (0, 0))) := ⟨by refine blk_far ?_ NB259_270.out _; refine blk_far ?_ NB259_270.out _; (with_reducible repeat (first | refine blk_drewN ?_ _ | refine blk_drew ?_ | refine blk_alloc ?_ _)); exact BK259.out⟩
              have n2_ : Aside0 (((w143.setCell ⟨gb270, 0, none⟩ (.slice Ao144 t266.length co144)).setCell ⟨gb270, 1, none⟩ (.int .i64 t269)).heap[gb270]? = some (.cells #[.slice Ao144 t266.length co144, .int .i64 t269] 24 (0, 0))) := ⟨by refine blk_put (cs := #[.slice Ao144 t266.length co144, .int .i64 0]) ?_ 1 _ rfl; refine blk_put (cs := #[.slice none 0 0, .int .i64 0]) ?_ 0 _ rfl; (with_reducible repeat (first | refine blk_drewN ?_ _ | refine blk_drew ?_ | refine blk_alloc ?_ _)); exact BK270.out⟩
              have n3_ : Aside0 (Below w.heap.size w ((w143.setCell ⟨gb270, 0, none⟩ (.slice Ao144 t266.length co144)).setCell ⟨gb270, 1, none⟩ (.int .i64 t269))) := ⟨BB HB⟩
              (try clear HO268)
              (try clear BK259)
              (try clear BK270)
              (try clear HB)
              generalize ((w143.setCell ⟨gb270, 0, none⟩ (.slice Ao144 t266.length co144)).setCell ⟨gb270, 1, none⟩ (.int .i64 t269)) = w147 at n0_ n1_ n2_ n3_ ⊢
              have HO268 := n0_
              have BK259 := n1_
              have BK270 := n2_
              have HB := n3_
              clear n0_ n1_ n2_ n3_
              have n0_ := Aside0.mk (Kd.S_drew HO268.out)
              have n1_ := Aside0.mk (blk_drew BK259.out)
              have n2_ := Aside0.mk (blk_drew BK270.out)
              have n3_ := Aside0.mk (below_drew1 HB.out)
              clear HO268
              clear BK259
              clear BK270
              clear HB
              have HO268 := n0_
              have BK259 := n1_
              have BK270 := n2_
              have HB := n3_
              clear n0_ n1_ n2_ n3_
              have p271 : 0 ≤ (a1 : Int) := of_decide_eq_true (by first | (with_reducible assumption) | assumption)
              have q271 : a1 < (l0_0.length : Int) := of_decide_eq_true (by first | (with_reducible assumption) | assumption)
              obtain ⟨ad271, A271_1, c271_1, A271_2, c271_2, A271_3, c271_3, e271, hx271_0, hx271_1, hx271_2, hx271_3, hl271_1, hi271_1, hl271_2, hi271_2, hl271_3, hi271_3⟩ := at_T40 HR0_0.out a1 p271 q271
              have hw271_3 := hx271_3
              have hw271_2 := hx271_2
              have hw271_1 := hx271_1
              have hw271_0 := hx271_0
              cases e271
              replace hx271_0 := (HB.out.cell (World.block_lt_of_cell? w _ hx271_0)).trans hx271_0
              replace hx271_1 := (HB.out.cell (World.block_lt_of_cell? w _ hx271_1)).trans hx271_1
              replace hx271_2 := (HB.out.cell (World.block_lt_of_cell? w _ hx271_2)).trans hx271_2
              replace hx271_3 := (HB.out.cell (World.block_lt_of_cell? w _ hx271_3)).trans hx271_3
              have HR271_1 := Aside0.mk hi271_1
              have HC271_1 := Aside0.mk hl271_1
              clear hi271_1 hl271_1
              have HR271_2 := Aside0.mk hi271_2
              have HC271_2 := Aside0.mk hl271_2
              clear hi271_2 hl271_2
              have HR271_3 := Aside0.mk hi271_3
              have HC271_3 := Aside0.mk hl271_3
              clear hi271_3 hl271_3
              replace p271 := eq_true p271
              replace q271 := eq_true q271
              have p272 : 0 ≤ (a2 : Int) := of_decide_eq_true (by first | (with_reducible assumption) | assumption)
              have q272 : a2 < (((rd_T40 l0_0 a1).f3).length : Int) := of_decide_eq_true (by first | (with_reducible assumption) | assumption)
              obtain ⟨ad272, e272, hx272_0⟩ := Kd.at_int HR271_3.out a2 p272 q272
              have hw272_0 := hx272_0
              cases e272
              replace hx272_0 := (HB.out.cell (World.block_lt_of_cell? w _ hx272_0)).trans hx272_0
              replace p272 := eq_true p272
              replace q272 := eq_true q272
              have p273 : 0 ≤ ((rd ((rd_T40 l0_0 a1).f3) a2) : Int) := of_decide_eq_true (by first | (with_reducible assumption) | assumption)
              have q273 : (rd ((rd_T40 l0_0 a1).f3) a2) < (l0_0.length : Int) := of_decide_eq_true (by first | (with_reducible assumption) | assumption)
              obtain ⟨ad273, A273_1, c273_1, A273_2, c273_2, A273_3, c273_3, e273, hx273_0, hx273_1, hx273_2, hx273_3, hl273_1, hi273_1, hl273_2, hi273_2, hl273_3, hi273_3⟩ := at_T40 HR0_0.out (rd ((rd_T40 l0_0 a1).f3) a2) p273 q273
              have hw273_3 := hx273_3
              have hw273_2 := hx273_2
              have hw273_1 := hx273_1
              have hw273_0 := hx273_0
              obtain rfl : ad271 = ad273 := (by injection e273)
              replace hx273_0 := (HB.out.cell (World.block_lt_of_cell? w _ hx273_0)).trans hx273_0
              replace hx273_1 := (HB.out.cell (World.block_lt_of_cell? w _ hx273_1)).trans hx273_1
              replace hx273_2 := (HB.out.cell (World.block_lt_of_cell? w _ hx273_2)).trans hx273_2
              replace hx273_3 := (HB.out.cell (World.block_lt_of_cell? w _ hx273_3)).trans hx273_3
              have HR273_1 := Aside0.mk hi273_1
              have HC273_1 := Aside0.mk hl273_1
              clear hi273_1 hl273_1
              have HR273_2 := Aside0.mk hi273_2
              have HC273_2 := Aside0.mk hl273_2
              clear hi273_2 hl273_2
              have HR273_3 := Aside0.mk hi273_3
              have HC273_3 := Aside0.mk hl273_3
              clear hi273_3 hl273_3
              replace p273 := eq_true p273
              replace q273 := eq_true q273
              refine start_ (n := 20) (S := fun w' => w'.cell? ⟨gb270, 0, none⟩ = some (.slice Ao144 t266.length co144) ∧ w'.cell? ⟨gb270, 1, none⟩ = some (.int .i64 t269) ∧ w'.cell? ⟨gb259, 0, none⟩ = some (.slice (some ad271) l0_0.length c0_0) ∧ w'.cell? ⟨gb259, 1, none⟩ = some (.int .i64 a0_1) ∧ w'.cell? (ad271.add ((a1).toNat * 4)) = some (.int .i64 ((rd_T40 l0_0 a1).f0)) ∧ w'.cell? ⟨(ad271.add ((a1).toNat * 4)).block, (ad271.add ((a1).toNat * 4)).off + 1, none⟩ = some (.slice A271_1 ((rd_T40 l0_0 a1).f1).length c271_1) ∧ w'.cell? ⟨(ad271.add ((a1).toNat * 4)).block, (ad271.add ((a1).toNat * 4)).off + 2, none⟩ = some (.slice A271_2 ((rd_T40 l0_0 a1).f2).length c271_2) ∧ w'.cell? ⟨(ad271.add ((a1).toNat * 4)).block, (ad271.add ((a1).toNat * 4)).off + 3, none⟩ = some (.slice (some ad272) ((rd_T40 l0_0 a1).f3).length c271_3) ∧ w'.cell? (ad272.add (a2).toNat) = some (.int .i64 (rd ((rd_T40 l0_0 a1).f3) a2)) ∧ w'.cell? (ad271.add (((rd ((rd_T40 l0_0 a1).f3) a2)).toNat * 4)) = some (.int .i64 ((rd_T40 l0_0 (rd ((rd_T40 l0_0 a1).f3) a2)).f0)) ∧ w'.cell? ⟨(ad271.add (((rd ((rd_T40 l0_0 a1).f3) a2)).toNat * 4)).block, (ad271.add (((rd ((rd_T40 l0_0 a1).f3) a2)).toNat * 4)).off + 1, none⟩ = some (.slice A273_1 ((rd_T40 l0_0 (rd ((rd_T40 l0_0 a1).f3) a2)).f1).length c273_1) ∧ w'.cell? ⟨(ad271.add (((rd ((rd_T40 l0_0 a1).f3) a2)).toNat * 4)).block, (ad271.add (((rd ((rd_T40 l0_0 a1).f3) a2)).toNat * 4)).off + 2, none⟩ = some (.slice A273_2 ((rd_T40 l0_0 (rd ((rd_T40 l0_0 a1).f3) a2)).f2).length c273_2) ∧ w'.cell? ⟨(ad271.add (((rd ((rd_T40 l0_0 a1).f3) a2)).toNat * 4)).block, (ad271.add (((rd ((rd_T40 l0_0 a1).f3) a2)).toNat * 4)).off + 3, none⟩ = some (.slice A273_3 ((rd_T40 l0_0 (rd ((rd_T40 l0_0 a1).f3) a2)).f3).length c273_3)) (ds := [19]) #[false, false, false, false, false, false, false, false, false, false, false, false, false, false, false, false, false, false, false, false] (by kernel_rfl) rfl rfl ⟨(blk_cell BK270.out 0).trans rfl, (blk_cell BK270.out 1).trans rfl, (blk_cell BK259.out 0).trans rfl, (blk_cell BK259.out 1).trans rfl, ((HB.out.cell (World.block_lt_of_cell? w _ hw271_0)).trans hw271_0), ((HB.out.cell (World.block_lt_of_cell? w _ hw271_1)).trans hw271_1), ((HB.out.cell (World.block_lt_of_cell? w _ hw271_2)).trans hw271_2), ((HB.out.cell (World.block_lt_of_cell? w _ hw271_3)).trans hw271_3), ((HB.out.cell (World.block_lt_of_cell? w _ hw272_0)).trans hw272_0), ((HB.out.cell (World.block_lt_of_cell? w _ hw273_0)).trans hw273_0), ((HB.out.cell (World.block_lt_of_cell? w _ hw273_1)).trans hw273_1), ((HB.out.cell (World.block_lt_of_cell? w _ hw273_2)).trans hw273_2), ((HB.out.cell (World.block_lt_of_cell? w _ hw273_3)).trans hw273_3)⟩ (fun hHeld => ?_); refine with_tabW dioramalaw10_CanonApart.tab4 dioramalaw10_CanonApart.bits4 (fun HT_ HW_ => ?_)
              generalize w147.drew = w148 at HO268 BK259 BK270 HB HR271_1 HR271_2 HR271_3 HR273_1 HR273_2 HR273_3 hx271_0 hx271_1 hx271_2 hx271_3 hx272_0 hx273_0 hx273_1 hx273_2 hx273_3 hHeld ⊢
              refine pure_ (i := 0) (N := some 47) (v := ?_) (a' := ?_) #[true, false, false, false, false, false, false, false, false, false, false, false, false, false, false, false, false, false, false, false] rfl rfl (any_of HT_.out (by kernel_rfl)) (fun _ _ _ h => h) (Or.inl ⟨by rfl, ?_⟩) ?_ ?_
              rotate_left
              ·intro w'
               go_simp
               with_reducible rfl
              rotate_left
              ·simp only [Act.put, List.setIfInBounds_toArray, List.set_cons_zero, List.set_cons_succ, i64_w, i32_w]
               rfl
              refine pure_ (i := 2) (N := some 49) (v := ?_) (a' := ?_) #[true, false, true, false, false, false, false, false, false, false, false, false, false, false, false, false, false, false, false, false] rfl rfl (any_of HT_.out (by kernel_rfl)) (fun _ _ _ h => h) (Or.inl ⟨by rfl, ?_⟩) ?_ ?_
              rotate_left
              ·intro w'
               go_simp
               with_reducible rfl
              rotate_left
              ·simp only [Act.put, List.setIfInBounds_toArray, List.set_cons_zero, List.set_cons_succ, i64_w, i32_w]
               rfl
              refine pure_ (i := 4) (N := some 51) (v := ?_) (a' := ?_) #[true, false, true, false, true, false, false, false, false, false, false, false, false, false, false, false, false, false, false, false] rfl rfl (any_of HT_.out (by kernel_rfl)) (fun _ _ _ h => h) (Or.inl ⟨by rfl, ?_⟩) ?_ ?_
              rotate_left
              ·intro w'
               go_simp
               with_reducible rfl
              rotate_left
              ·simp only [Act.put, List.setIfInBounds_toArray, List.set_cons_zero, List.set_cons_succ, i64_w, i32_w]
               rfl
              refine pure_ (i := 6) (N := some 53) (v := ?_) (a' := ?_) #[true, false, true, false, true, false, true, false, false, false, false, false, false, false, false, false, false, false, false, false] rfl rfl (any_of HT_.out (by kernel_rfl)) (fun _ _ _ h => h) (Or.inl ⟨by rfl, ?_⟩) ?_ ?_
              rotate_left
              ·intro w'
               go_simp
               with_reducible rfl
              rotate_left
              ·simp only [Act.put, List.setIfInBounds_toArray, List.set_cons_zero, List.set_cons_succ, i64_w, i32_w]
               rfl
              refine pure_ (i := 10) (N := some 57) (v := ?_) (a' := ?_) #[true, false, true, false, true, false, true, false, false, false, true, false, false, false, false, false, false, false, false, false] rfl rfl (any_of HT_.out (by kernel_rfl)) (fun _ _ _ h => h) (Or.inl ⟨by rfl, ?_⟩) ?_ ?_
              rotate_left
              ·intro w'
               go_simp
               with_reducible rfl
              rotate_left
              ·simp only [Act.put, List.setIfInBounds_toArray, List.set_cons_zero, List.set_cons_succ, i64_w, i32_w]
               rfl
              refine take_ (i := 1) (N := some 48) (v := ?_) (a' := ?_) #[true, true, true, false, true, false, true, false, false, false, true, false, false, false, false, false, false, false, false, false] rfl rfl (take_ofW HT_.out HW_.out (by kernel_rfl)) (fun _ _ _ h => h) (Or.inl ⟨by rfl, ?_⟩) hHeld ?_ ?_
              rotate_left
              ·rintro w' ⟨s0, s1, s2, s3, s4, s5, s6, s7, s8, s9, s10, s11, s12⟩
               go_simp
               with_reducible rfl
              rotate_left
              ·simp only [Act.put, List.setIfInBounds_toArray, List.set_cons_zero, List.set_cons_succ, i64_w, i32_w]
               rfl
              refine take_ (i := 3) (N := some 50) (v := ?_) (a' := ?_) #[true, true, true, true, true, false, true, false, false, false, true, false, false, false, false, false, false, false, false, false] rfl rfl (take_ofW HT_.out HW_.out (by kernel_rfl)) (fun _ _ _ h => h) (Or.inl ⟨by rfl, ?_⟩) hHeld ?_ ?_
              rotate_left
              ·rintro w' ⟨s0, s1, s2, s3, s4, s5, s6, s7, s8, s9, s10, s11, s12⟩
               go_simp
               with_reducible rfl
              rotate_left
              ·simp only [Act.put, List.setIfInBounds_toArray, List.set_cons_zero, List.set_cons_succ, i64_w, i32_w]
               rfl
              refine take_ (i := 5) (N := some 52) (v := ?_) (a' := ?_) #[true, true, true, true, true, true, true, false, false, false, true, false, false, false, false, false, false, false, false, false] rfl rfl (take_ofW HT_.out HW_.out (by kernel_rfl)) (fun _ _ _ h => h) (Or.inl ⟨by rfl, ?_⟩) hHeld ?_ ?_
              rotate_left
              ·rintro w' ⟨s0, s1, s2, s3, s4, s5, s6, s7, s8, s9, s10, s11, s12⟩
               go_simp
               with_reducible rfl
              rotate_left
              ·simp only [Act.put, List.setIfInBounds_toArray, List.set_cons_zero, List.set_cons_succ, i64_w, i32_w]
               rfl
              refine pure_ (i := 7) (N := some 54) (v := ?_) (a' := ?_) #[true, true, true, true, true, true, true, true, false, false, true, false, false, false, false, false, false, false, false, false] rfl rfl (any_of HT_.out (by kernel_rfl)) (fun _ _ _ h => h) (Or.inl ⟨by rfl, ?_⟩) ?_ ?_
              rotate_left
              ·intro w'
               go_simp
               with_reducible rfl
              rotate_left
              ·simp only [Act.put, List.setIfInBounds_toArray, List.set_cons_zero, List.set_cons_succ, i64_w, i32_w]
               rfl
              refine pure_ (i := 8) (N := some 55) (v := ?_) (a' := ?_) #[true, true, true, true, true, true, true, true, true, false, true, false, false, false, false, false, false, false, false, false] rfl rfl (any_of HT_.out (by kernel_rfl)) (fun _ _ _ h => h) (Or.inl ⟨by rfl, ?_⟩) ?_ ?_
              rotate_left
              ·intro w'
               go_simp
               with_reducible rfl
              rotate_left
              ·simp only [Act.put, List.setIfInBounds_toArray, List.set_cons_zero, List.set_cons_succ, i64_w, i32_w]
               rfl
              refine take_ (i := 9) (N := some 56) (v := ?_) (a' := ?_) #[true, true, true, true, true, true, true, true, true, true, true, false, false, false, false, false, false, false, false, false] rfl rfl (take_ofW HT_.out HW_.out (by kernel_rfl)) (fun _ _ _ h => h) (Or.inl ⟨by rfl, ?_⟩) hHeld ?_ ?_
              rotate_left
              ·rintro w' ⟨s0, s1, s2, s3, s4, s5, s6, s7, s8, s9, s10, s11, s12⟩
               go_simp
               with_reducible rfl
              rotate_left
              ·simp only [Act.put, List.setIfInBounds_toArray, List.set_cons_zero, List.set_cons_succ, i64_w, i32_w]
               rfl
              refine pure_ (i := 11) (N := some 58) (v := ?_) (a' := ?_) #[true, true, true, true, true, true, true, true, true, true, true, true, false, false, false, false, false, false, false, false] rfl rfl (any_of HT_.out (by kernel_rfl)) (fun _ _ _ h => h) (Or.inl ⟨by rfl, ?_⟩) ?_ ?_
              rotate_left
              ·intro w'
               go_simp
               with_reducible rfl
              rotate_left
              ·simp only [Act.put, List.setIfInBounds_toArray, List.set_cons_zero, List.set_cons_succ, i64_w, i32_w]
               rfl
              refine take_ (i := 12) (N := some 59) (v := ?_) (a' := ?_) #[true, true, true, true, true, true, true, true, true, true, true, true, true, false, false, false, false, false, false, false] rfl rfl (take_ofW HT_.out HW_.out (by kernel_rfl)) (fun _ _ _ h => h) (Or.inl ⟨by rfl, ?_⟩) hHeld ?_ ?_
              rotate_left
              ·rintro w' ⟨s0, s1, s2, s3, s4, s5, s6, s7, s8, s9, s10, s11, s12⟩
               go_simp
               with_reducible rfl
              rotate_left
              ·simp only [Act.put, List.setIfInBounds_toArray, List.set_cons_zero, List.set_cons_succ, i64_w, i32_w]
               rfl
              refine pure_ (i := 13) (N := some 60) (v := ?_) (a' := ?_) #[true, true, true, true, true, true, true, true, true, true, true, true, true, true, false, false, false, false, false, false] rfl rfl (any_of HT_.out (by kernel_rfl)) (fun _ _ _ h => h) (Or.inl ⟨by rfl, ?_⟩) ?_ ?_
              rotate_left
              ·intro w'
               go_simp
               with_reducible rfl
              rotate_left
              ·simp only [Act.put, List.setIfInBounds_toArray, List.set_cons_zero, List.set_cons_succ, i64_w, i32_w]
               rfl
              refine take_ (i := 14) (N := some 61) (v := ?_) (a' := ?_) #[true, true, true, true, true, true, true, true, true, true, true, true, true, true, true, false, false, false, false, false] rfl rfl (take_ofW HT_.out HW_.out (by kernel_rfl)) (fun _ _ _ h => h) (Or.inl ⟨by rfl, ?_⟩) hHeld ?_ ?_
              rotate_left
              ·rintro w' ⟨s0, s1, s2, s3, s4, s5, s6, s7, s8, s9, s10, s11, s12⟩
               go_simp
               with_reducible rfl
              rotate_left
              ·simp only [Act.put, List.setIfInBounds_toArray, List.set_cons_zero, List.set_cons_succ, i64_w, i32_w]
               rfl
              refine one_ (i := 15) (N := some 62) #[true, true, true, true, true, true, true, true, true, true, true, true, true, true, true, true, false, false, false, false] rfl rfl (one_of HT_.out (by kernel_rfl)) (by decide) (fun K hK => ?_)
              refine goes_ Try.func29 (by kernel_rfl) rfl #[.agg #[.int .i64 ((rd_T40 l0_0 (rd ((rd_T40 l0_0 a1).f3) a2)).f0), .slice A273_1 ((rd_T40 l0_0 (rd ((rd_T40 l0_0 a1).f3) a2)).f1).length c273_1, .slice A273_2 ((rd_T40 l0_0 (rd ((rd_T40 l0_0 a1).f3) a2)).f2).length c273_2, .slice A273_3 ((rd_T40 l0_0 (rd ((rd_T40 l0_0 a1).f3) a2)).f3).length c273_3]] (by rfl) rfl rfl (by (try simp only [List.map_toArray, List.map_cons, List.map_nil]); first | done | rfl | (simp only [List.length_drop, List.length_take]; rfl)) ?_
              with_reducible refine (dioramaref08_Copy.calls ((rd_T40 l0_0 (rd ((rd_T40 l0_0 a1).f3) a2)).f0) _ _ ((rd_T40 l0_0 (rd ((rd_T40 l0_0 a1).f3) a2)).f1) _ _ ((rd_T40 l0_0 (rd ((rd_T40 l0_0 a1).f3) a2)).f2) _ _ ((rd_T40 l0_0 (rd ((rd_T40 l0_0 a1).f3) a2)).f3) t274 t275 t278 t281 _ ?side1 ?side2 ?side3 ?side4 ?side5 ?side6 A58.out).mono ?_
              (case side1 => repeat (first | exact (Kd.C_below HR273_1.out HB.out) | (with_reducible refine Kd.C_alloc ?_ _) | (with_reducible refine Kd.C_drewN ?_ _) | (with_reducible refine Kd.C_drew ?_)))
              (case side2 => exact HC273_1.out)
              (case side3 => repeat (first | exact (Kd.C_below HR273_2.out HB.out) | (with_reducible refine Kd.C_alloc ?_ _) | (with_reducible refine Kd.C_drewN ?_ _) | (with_reducible refine Kd.C_drew ?_)))
              (case side4 => exact HC273_2.out)
              (case side5 => repeat (first | exact (Kd.C_below HR273_3.out HB.out) | (with_reducible refine Kd.C_alloc ?_ _) | (with_reducible refine Kd.C_drewN ?_ _) | (with_reducible refine Kd.C_drew ?_)))
              (case side6 => exact HC273_3.out)
              rintro e w149 ⟨v276, v279, v282, rfl, ho0, ho1, ho2, hb⟩
              refine ⟨_, rfl, ?_⟩
              have n0_ := Aside0.mk (Kd.S_mono (Kd.S_told (Kd.S_told (Kd.S_told (Kd.S_old (by (with_reducible repeat (first | apply Kd.S_alloc | apply Kd.S_drewN | apply Kd.S_drew)); exact HO268.out) hb) (Kd.R_base ho0)) (Kd.R_base ho1)) (Kd.R_base ho2)) (fun _ h_ => h_.1))
              have n1_ := Aside0.mk (Kd.R_lower ho0 (below_size (BB HB)))
              have n2_ := Aside0.mk (Kd.R_lower ho1 (below_size (BB HB)))
              have n3_ := Aside0.mk (Kd.R_lower ho2 (below_size (BB HB)))
              have n4_ := BE BK259 hb
              have n5_ := BE BK270 hb
              have n6_ := Aside0.mk (below_step (BB HB) hb)
              clear HO268
              clear BK259
              clear BK270
              clear HB
              have HO268 := n0_
              have HO277 := n1_
              have HO280 := n2_
              have HO283 := n3_
              have BK259 := n4_
              have BK270 := n5_
              have HB := n6_
              clear n0_ n1_ n2_ n3_ n4_ n5_ n6_
              (try clear hb)
              (try clear hb2)
              (try clear hk)
              (try clear hi)
              (try clear ho0)
              (try clear ho1)
              (try clear ho2)
              obtain ⟨Ao151, co151, eo151⟩ := Kd.R_slice HO277.out
              (first | subst eo151 | (injection eo151 with f1_ f2_ f3_; have f4_ := f1_.symm; have f5_ := f3_.symm; clear f1_ f2_ f3_; subst f4_; subst f5_))
              obtain ⟨Ao152, co152, eo152⟩ := Kd.R_slice HO280.out
              (first | subst eo152 | (injection eo152 with f1_ f2_ f3_; have f4_ := f1_.symm; have f5_ := f3_.symm; clear f1_ f2_ f3_; subst f4_; subst f5_))
              obtain ⟨Ao153, co153, eo153⟩ := Kd.R_slice HO283.out
              (first | subst eo153 | (injection eo153 with f1_ f2_ f3_; have f4_ := f1_.symm; have f5_ := f3_.symm; clear f1_ f2_ f3_; subst f4_; subst f5_))
              refine hK.out _ _ ⟨(blk_cell BK270.out 0).trans rfl, (blk_cell BK270.out 1).trans rfl, (blk_cell BK259.out 0).trans rfl, (blk_cell BK259.out 1).trans rfl, ((HB.out.cell (World.block_lt_of_cell? w _ hw271_0)).trans hw271_0), ((HB.out.cell (World.block_lt_of_cell? w _ hw271_1)).trans hw271_1), ((HB.out.cell (World.block_lt_of_cell? w _ hw271_2)).trans hw271_2), ((HB.out.cell (World.block_lt_of_cell? w _ hw271_3)).trans hw271_3), ((HB.out.cell (World.block_lt_of_cell? w _ hw272_0)).trans hw272_0), ((HB.out.cell (World.block_lt_of_cell? w _ hw273_0)).trans hw273_0), ((HB.out.cell (World.block_lt_of_cell? w _ hw273_1)).trans hw273_1), ((HB.out.cell (World.block_lt_of_cell? w _ hw273_2)).trans hw273_2), ((HB.out.cell (World.block_lt_of_cell? w _ hw273_3)).trans hw273_3)⟩ (fun hHeld => ?_)
              clear hK K
              refine norm_ (a' := ?_) ?_ ?_
              rotate_left
              ·show Act.put _ (some 62) _ = _
               simp only [Act.put, List.setIfInBounds_toArray, List.set_cons_zero, List.set_cons_succ, i64_w, i32_w]
               rfl
              refine one_ (i := 16) (N := some 63) #[true, true, true, true, true, true, true, true, true, true, true, true, true, true, true, true, true, false, false, false] rfl rfl (one_of HT_.out (by kernel_rfl)) (by decide) (fun K hK => ?_)
              refine value_ (w1 := ?_) (v := ?_) (by rfl) rfl ?_ ?_
              rotate_left 2
              ·go_simp
               constructor
               ·rfl
               ·rfl
              refine hK.out _ _ ⟨(blk_cell (blk_alloc BK270.out _) 0).trans rfl, (blk_cell (blk_alloc BK270.out _) 1).trans rfl, (blk_cell (blk_alloc BK259.out _) 0).trans rfl, (blk_cell (blk_alloc BK259.out _) 1).trans rfl, (World.cell?_alloc_lt _ _ _ (World.block_lt_of_cell? _ _ (((HB.out.cell (World.block_lt_of_cell? w _ hw271_0)).trans hw271_0)))).trans (((HB.out.cell (World.block_lt_of_cell? w _ hw271_0)).trans hw271_0)), (World.cell?_alloc_lt _ _ _ (World.block_lt_of_cell? _ _ (((HB.out.cell (World.block_lt_of_cell? w _ hw271_1)).trans hw271_1)))).trans (((HB.out.cell (World.block_lt_of_cell? w _ hw271_1)).trans hw271_1)), (World.cell?_alloc_lt _ _ _ (World.block_lt_of_cell? _ _ (((HB.out.cell (World.block_lt_of_cell? w _ hw271_2)).trans hw271_2)))).trans (((HB.out.cell (World.block_lt_of_cell? w _ hw271_2)).trans hw271_2)), (World.cell?_alloc_lt _ _ _ (World.block_lt_of_cell? _ _ (((HB.out.cell (World.block_lt_of_cell? w _ hw271_3)).trans hw271_3)))).trans (((HB.out.cell (World.block_lt_of_cell? w _ hw271_3)).trans hw271_3)), (World.cell?_alloc_lt _ _ _ (World.block_lt_of_cell? _ _ (((HB.out.cell (World.block_lt_of_cell? w _ hw272_0)).trans hw272_0)))).trans (((HB.out.cell (World.block_lt_of_cell? w _ hw272_0)).trans hw272_0)), (World.cell?_alloc_lt _ _ _ (World.block_lt_of_cell? _ _ (((HB.out.cell (World.block_lt_of_cell? w _ hw273_0)).trans hw273_0)))).trans (((HB.out.cell (World.block_lt_of_cell? w _ hw273_0)).trans hw273_0)), (World.cell?_alloc_lt _ _ _ (World.block_lt_of_cell? _ _ (((HB.out.cell (World.block_lt_of_cell? w _ hw273_1)).trans hw273_1)))).trans (((HB.out.cell (World.block_lt_of_cell? w _ hw273_1)).trans hw273_1)), (World.cell?_alloc_lt _ _ _ (World.block_lt_of_cell? _ _ (((HB.out.cell (World.block_lt_of_cell? w _ hw273_2)).trans hw273_2)))).trans (((HB.out.cell (World.block_lt_of_cell? w _ hw273_2)).trans hw273_2)), (World.cell?_alloc_lt _ _ _ (World.block_lt_of_cell? _ _ (((HB.out.cell (World.block_lt_of_cell? w _ hw273_3)).trans hw273_3)))).trans (((HB.out.cell (World.block_lt_of_cell? w _ hw273_3)).trans hw273_3))⟩ (fun hHeld => ?_)
              clear hK K
              refine norm_ (a' := ?_) ?_ ?_
              rotate_left
              ·show Act.put _ (some 63) _ = _
               simp only [Act.put, List.setIfInBounds_toArray, List.set_cons_zero, List.set_cons_succ, i64_w, i32_w]
               rfl
              refine one_ (i := 17) (N := some 64) #[true, true, true, true, true, true, true, true, true, true, true, true, true, true, true, true, true, true, false, false] rfl rfl (one_of HT_.out (by kernel_rfl)) (by decide) (fun K hK => ?_)
              refine Kd.S_append_step k40 (w0 := w) w.heap.size (by rfl) (.tmp 48) (.tmp 63) 22 40 (.agg #[(.int .i64 0), (.slice none 0 0), (.slice none 0 0), (.slice none 0 0)]) 80 rfl Try.underlying22 info40 rfl (by decide) (by omega) (.slice Ao144 t266.length co144) t266 (⟨t274, t275, t278, t281⟩ : S40) [.int .i64 t274, .slice Ao151 t275.length co151, .slice Ao152 t278.length co152, .slice Ao153 t281.length co153] (fun _ => True) (fun k_ => some k_ = (.slice Ao151 t275.length co151 : Value).ownBlock ∨ some k_ = (.slice Ao152 t278.length co152 : Value).ownBlock ∨ some k_ = (.slice Ao153 t281.length co153 : Value).ownBlock) rfl rfl ?aP (fun k_ hk_ => hk_.elim (fun h_ => ((Kd.R_mono (ok' := fun k_ => ((fun _ => True)) k_ ∧ some k_ ≠ (.slice Ao144 t266.length co144 : Value).ownBlock) (Kd.R_apart' (HO277.out) (Kd.S_typed HO268.out) (by decide)) (fun k_ hk => ⟨trivial, hk.2⟩))).1 k_ h_.symm) (fun h_ => h_.elim (fun h_ => ((Kd.R_mono (ok' := fun k_ => ((fun _ => True)) k_ ∧ some k_ ≠ (.slice Ao144 t266.length co144 : Value).ownBlock) (Kd.R_apart' (HO280.out) (Kd.S_typed HO268.out) (by decide)) (fun k_ hk => ⟨trivial, hk.2⟩))).1 k_ h_.symm) (fun h_ => ((Kd.R_mono (ok' := fun k_ => ((fun _ => True)) k_ ∧ some k_ ≠ (.slice Ao144 t266.length co144 : Value).ownBlock) (Kd.R_apart' (HO283.out) (Kd.S_typed HO268.out) (by decide)) (fun k_ hk => ⟨trivial, hk.2⟩))).1 k_ h_.symm))) ?aF ?aO ?aB ?aS ?aL ?_
              (case aP => exact k40_mkM _ _ _ (⟨t274, t275, t278, t281⟩ : S40) (Kd.R_mono (Kd.R_tight rfl (Kd.R_mono (ok' := fun k_ => ((fun _ => True)) k_ ∧ some k_ ≠ (.slice Ao144 t266.length co144 : Value).ownBlock) (Kd.R_apart' (HO277.out) (Kd.S_typed HO268.out) (by decide)) (fun k_ hk => ⟨trivial, hk.2⟩))) (fun _ h_ => Or.inl h_)) (Kd.R_mono (Kd.R_tight rfl (Kd.R_mono (ok' := fun k_ => ((fun _ => True)) k_ ∧ some k_ ≠ (.slice Ao144 t266.length co144 : Value).ownBlock) (Kd.R_apart' (HO280.out) (Kd.S_typed HO268.out) (by decide)) (fun k_ hk => ⟨trivial, hk.2⟩))) (fun _ h_ => Or.inr (Or.inl h_))) (Kd.R_mono (Kd.R_tight rfl (Kd.R_mono (ok' := fun k_ => ((fun _ => True)) k_ ∧ some k_ ≠ (.slice Ao144 t266.length co144 : Value).ownBlock) (Kd.R_apart' (HO283.out) (Kd.S_typed HO268.out) (by decide)) (fun k_ hk => ⟨trivial, hk.2⟩))) (fun _ h_ => Or.inr (Or.inr (h_)))))
              (case aB => exact (BB HB))
              (case aF => exact (fun _ _ => trivial))
              (case aO => exact (by (with_reducible repeat (first | apply Kd.S_alloc | apply Kd.S_drewN | apply Kd.S_drew)); exact Kd.S_mono HO268.out (fun k_ hk => ⟨trivial, fun e_ => e_.elim (fun h_ => hk.1.1.2 h_) (fun h_ => h_.elim (fun h_ => hk.1.2 h_) (fun h_ => hk.2 h_))⟩)))
              (case aS => exact (below_size (BB HB)))
              (case aL => have := LMc59.out; omega)
              intro v285 w150 ho hb hg hat
              rw [← Ny284.out] at ho
              have n0_ := Aside0.mk (blk_grown (g := gb259) (o := .cells #[.slice (some ad271) l0_0.length c0_0, .int .i64 a0_1] 24 (0, 0)) (BL BK259) hg (Kd.S_ne HO268.out BK259.out (by decide)))
              have n1_ := Aside0.mk (blk_grown (g := gb270) (o := .cells #[.slice Ao144 t266.length co144, .int .i64 t269] 24 (0, 0)) (BL BK270) hg (Kd.S_ne HO268.out BK270.out (by decide)))
              have n2_ := Aside0.mk (hb)
              have n3_ := Aside0.mk (ho)
              clear BK259
              clear BK270
              clear HB
              clear HO268
              clear HO277
              clear HO280
              clear HO283
              have BK259 := n0_
              have BK270 := n1_
              have HB := n2_
              have HO286 := n3_
              clear n0_ n1_ n2_ n3_
              clear ho hb hg hat
              obtain ⟨Ao154, co154, eo154⟩ := Kd.S_slice HO286.out
              (first | subst eo154 | (injection eo154 with f1_ f2_ f3_; have f4_ := f1_.symm; have f5_ := f3_.symm; clear f1_ f2_ f3_; subst f4_; subst f5_))
              refine hK.out _ _ ⟨(blk_cell BK270.out 0).trans rfl, (blk_cell BK270.out 1).trans rfl, (blk_cell BK259.out 0).trans rfl, (blk_cell BK259.out 1).trans rfl, ((HB.out.cell (World.block_lt_of_cell? w _ hw271_0)).trans hw271_0), ((HB.out.cell (World.block_lt_of_cell? w _ hw271_1)).trans hw271_1), ((HB.out.cell (World.block_lt_of_cell? w _ hw271_2)).trans hw271_2), ((HB.out.cell (World.block_lt_of_cell? w _ hw271_3)).trans hw271_3), ((HB.out.cell (World.block_lt_of_cell? w _ hw272_0)).trans hw272_0), ((HB.out.cell (World.block_lt_of_cell? w _ hw273_0)).trans hw273_0), ((HB.out.cell (World.block_lt_of_cell? w _ hw273_1)).trans hw273_1), ((HB.out.cell (World.block_lt_of_cell? w _ hw273_2)).trans hw273_2), ((HB.out.cell (World.block_lt_of_cell? w _ hw273_3)).trans hw273_3)⟩ (fun hHeld => ?_)
              clear hK K
              refine norm_ (a' := ?_) ?_ ?_
              rotate_left
              ·show Act.put _ (some 64) _ = _
               simp only [Act.put, List.setIfInBounds_toArray, List.set_cons_zero, List.set_cons_succ, i64_w, i32_w]
               rfl
              refine pure_ (i := 18) (N := some 65) (v := ?_) (a' := ?_) #[true, true, true, true, true, true, true, true, true, true, true, true, true, true, true, true, true, true, true, false] rfl rfl (any_of HT_.out (by kernel_rfl)) (fun _ _ _ h => h) (Or.inl ⟨by rfl, ?_⟩) ?_ ?_
              rotate_left
              ·intro w'
               go_simp
               with_reducible rfl
              rotate_left
              ·simp only [Act.put, List.setIfInBounds_toArray, List.set_cons_zero, List.set_cons_succ, i64_w, i32_w]
               rfl
              refine last_ (i := 19) (N := none) #[true, true, true, true, true, true, true, true, true, true, true, true, true, true, true, true, true, true, true, true] rfl rfl (one_of HT_.out (by kernel_rfl)) (by decide) (fun K hK => ?_)
              have hs155 : w150.cell? ⟨gb270, 0, none⟩ = some (.slice Ao144 t266.length co144) := (blk_cell BK270.out 0).trans rfl
              have hfs155 := blk_frozen BK270.out 0
              have hns155_0 := NB259_270.out
              have hms155_0 := NB270_259.out
              refine skip_ (w1 := ?_) (by rfl) rfl ?_ ?_
              rotate_left
              ·go_simp
               rfl
              refine hK.out _ _ ?_
              clear hK K
              refine done_ (done_of HT_.out (by kernel_rfl)) ?_
              try go_wp2
              have n0_ : Aside0 (Kd.S k40 40 (w150.setCell ⟨gb270, 0, none⟩ (.slice Ao154 y284.length co154)) w.heap.size (fun _ => True) (.slice Ao154 y284.length co154) y284) := ⟨by (with_reducible repeat (first | apply Kd.S_alloc | apply Kd.S_drewN | apply Kd.S_drew)); exact Kd.S_mono (Kd.S_far (p := ⟨gb270, 0, none⟩) (Kd.S_types HO286.out BK270.out (by decide)) (fun _ hk => hk.2) (.slice Ao154 y284.length co154)) (fun _ hk => trivial)⟩
              have n1_ : Aside0 ((w150.setCell ⟨gb270, 0, none⟩ (.slice Ao154 y284.length co154)).heap[gb259]? = some (.cells #[.slice (some ad271) l0_0.length c0_0, .int .i64 a0_1] 24 (0, 0))) := ⟨by refine blk_far ?_ NB259_270.out _; (with_reducible repeat (first | refine blk_drewN ?_ _ | refine blk_drew ?_ | refine blk_alloc ?_ _)); exact BK259.out⟩
              have n2_ : Aside0 ((w150.setCell ⟨gb270, 0, none⟩ (.slice Ao154 y284.length co154)).heap[gb270]? = some (.cells #[.slice Ao154 y284.length co154, .int .i64 t269] 24 (0, 0))) := ⟨by refine blk_put (cs := #[.slice Ao144 t266.length co144, .int .i64 t269]) ?_ 0 _ rfl; (with_reducible repeat (first | refine blk_drewN ?_ _ | refine blk_drew ?_ | refine blk_alloc ?_ _)); exact BK270.out⟩
              have n3_ : Aside0 (Below w.heap.size w (w150.setCell ⟨gb270, 0, none⟩ (.slice Ao154 y284.length co154))) := ⟨BB HB⟩
              (try clear HO286)
              (try clear BK259)
              (try clear BK270)
              (try clear HB)
              generalize (w150.setCell ⟨gb270, 0, none⟩ (.slice Ao154 y284.length co154)) = w156 at n0_ n1_ n2_ n3_ ⊢
              have HO286 := n0_
              have BK259 := n1_
              have BK270 := n2_
              have HB := n3_
              clear n0_ n1_ n2_ n3_
              have n0_ := Aside0.mk (Kd.S_drew HO286.out)
              have n1_ := Aside0.mk (blk_drew BK259.out)
              have n2_ := Aside0.mk (blk_drew BK270.out)
              have n3_ := Aside0.mk (below_drew1 HB.out)
              clear HO286
              clear BK259
              clear BK270
              clear HB
              have HO286 := n0_
              have BK259 := n1_
              have BK270 := n2_
              have HB := n3_
              clear n0_ n1_ n2_ n3_
              have p287 : 0 ≤ (a1 : Int) := of_decide_eq_true (by first | (with_reducible assumption) | assumption)
              have q287 : a1 < (y284.length : Int) := of_decide_eq_true (by first | (with_reducible assumption) | assumption)
              obtain ⟨ad287, A287_1, c287_1, A287_2, c287_2, A287_3, c287_3, e287, hx287_0, hx287_1, hx287_2, hx287_3, hl287_1, hi287_1, hl287_2, hi287_2, hl287_3, hi287_3⟩ := at_T40 (Kd.S_reads' HO286.out).2.2 a1 p287 q287
              cases e287
              obtain ⟨ce287, hce287, hMe287, hcc287⟩ := Kd.S_get HO286.out z40 a1 p287 (by first | exact q287 | exact of_decide_eq_true (by first | (with_reducible assumption) | assumption) | (have e_ := (Kd.S_reads' HO286.out).1; omega))
              obtain ⟨ve287_1, ve287_2, ve287_3, rfl, ge287_1, ge287_2, ge287_3⟩ := k40_openM hMe287
              have hv287_1 := hcc287 1 _ rfl
              rw [add_field _ _ 1 (by omega)] at hv287_1
              replace hv287_1 := Option.some.inj (hv287_1.symm.trans hx287_1)
              rw [hv287_1] at ge287_1
              have HL287_1 := Aside0.mk (show Kd.R (Kd.int .i64) 2 _ _ _ _ ((rd_T40 y284 a1).f1) from ge287_1)
              clear hv287_1 ge287_1
              have HX287_1 := Aside0.mk hx287_1
              have hv287_2 := hcc287 2 _ rfl
              rw [add_field _ _ 2 (by omega)] at hv287_2
              replace hv287_2 := Option.some.inj (hv287_2.symm.trans hx287_2)
              rw [hv287_2] at ge287_2
              have HL287_2 := Aside0.mk (show Kd.R Kd.string 9 _ _ _ _ ((rd_T40 y284 a1).f2) from ge287_2)
              clear hv287_2 ge287_2
              have HX287_2 := Aside0.mk hx287_2
              have hv287_3 := hcc287 3 _ rfl
              rw [add_field _ _ 3 (by omega)] at hv287_3
              replace hv287_3 := Option.some.inj (hv287_3.symm.trans hx287_3)
              rw [hv287_3] at ge287_3
              have HL287_3 := Aside0.mk (show Kd.R (Kd.int .i64) 3 _ _ _ _ ((rd_T40 y284 a1).f3) from ge287_3)
              clear hv287_3 ge287_3
              have HX287_3 := Aside0.mk hx287_3
              clear hcc287 hce287
              have HR287_1 := Aside0.mk hi287_1
              have HC287_1 := Aside0.mk hl287_1
              clear hi287_1 hl287_1
              have HR287_2 := Aside0.mk hi287_2
              have HC287_2 := Aside0.mk hl287_2
              clear hi287_2 hl287_2
              have HR287_3 := Aside0.mk hi287_3
              have HC287_3 := Aside0.mk hl287_3
              clear hi287_3 hl287_3
              replace p287 := eq_true p287
              replace q287 := eq_true q287
              have p62 : 0 ≤ (a2 : Int) := of_decide_eq_true (by first | (with_reducible assumption) | assumption)
              have q62 : (a2 : Int) < ((((rd_T40 y284 a1).f3).length : Int) : Int) := of_decide_eq_true (by first | (with_reducible assumption) | assumption)
              obtain ⟨go62, co62, eo62, gb62, gl62, cl62, HG62⟩ := Kd.R_form HL287_3.out (by omega)
              (first | cases eo62 | (injection eo62 with ea_ en_ ec_; (first | subst ea_ | (injection ea_ with ea_; subst ea_)); subst ec_; clear en_))
              have GB62 := Aside0.mk gb62
              have GG62 := Aside0.mk HG62
              clear gb62 gl62 HG62
              obtain ⟨hx62_0, hf62_0⟩ := Kd.R_celln 0 HL287_3.out (a2 : Int) p62 q62
              replace p62 := eq_true p62
              replace q62 := eq_true q62
              have hq158 : (a1 : Int) < (y284.length : Int) := (by have h_ : (a1 : Int) < ((y284.length : Int) : Int) := of_decide_eq_true (by first | (with_reducible assumption) | assumption); first | exact h_ | (have e_ := (Kd.S_reads' HO286.out).1; omega) | simpa only [List.length_set, List.length_set] using h_)
              obtain ⟨oki158, ce158, hcl158, hM158, hcc158, hok158, hbk158⟩ := Kd.S_borrow HO286.out z40 (a1 : Int) (of_decide_eq_true (by first | (with_reducible assumption) | assumption)) hq158
              obtain ⟨ve158_1, ve158_2, ve158_3, rfl, ge158_1, ge158_2, ge158_3⟩ := k40_openM hM158
              have hv158 := hcc158 3 _ rfl
              rw [add_field _ _ 3 (by omega)] at hv158
              replace hv158 := Option.some.inj (hv158.symm.trans HX287_3.out)
              subst hv158
              clear hcc158 hcl158
              replace ge158_3 := (show Kd.R (Kd.int .i64) 3 _ _ _ _ ((rd_T40 y284 a1).f3) from ge158_3)
              have HP158 := Kd.R_putg ge158_3 (a2 : Int) (wrap64 ((y284.length : Int) - 1))
              rw [← Ny288.out] at HP158
              have HS158 := hbk158 HP158.2 (fun k_ e_ => by injection e_ with e_; subst e_; exact ge158_3.1 _ rfl) (x' := (⟨(rd_T40 y284 a1).f0, (rd_T40 y284 a1).f1, (rd_T40 y284 a1).f2, y288⟩ : S40)) (k40_mkM _ _ _ (⟨(rd_T40 y284 a1).f0, (rd_T40 y284 a1).f1, (rd_T40 y284 a1).f2, y288⟩ : S40) (Kd.R_over' (v := (.slice (some ⟨go62, 0, none⟩) ((rd_T40 y284 a1).f3).length c287_3)) ge158_1 (Kd.R_typed ge158_3) (by decide) HP158.2) (Kd.R_over' (v := (.slice (some ⟨go62, 0, none⟩) ((rd_T40 y284 a1).f3).length c287_3)) ge158_2 (Kd.R_typed ge158_3) (by decide) HP158.2) HP158.1)
              rw [← Ny290.out] at HS158
              have HQ158 := Aside0.mk HS158
              clear HP158 HS158 hbk158 hok158
              refine start_ (n := 13) (S := fun w' => w'.cell? ⟨gb270, 0, none⟩ = some (.slice (some ad287) y284.length co154) ∧ w'.cell? ⟨gb270, 1, none⟩ = some (.int .i64 t269) ∧ w'.cell? (ad287.add ((a1).toNat * 4)) = some (.int .i64 ((rd_T40 y284 a1).f0)) ∧ w'.cell? ⟨(ad287.add ((a1).toNat * 4)).block, (ad287.add ((a1).toNat * 4)).off + 1, none⟩ = some (.slice A287_1 ((rd_T40 y284 a1).f1).length c287_1) ∧ w'.cell? ⟨(ad287.add ((a1).toNat * 4)).block, (ad287.add ((a1).toNat * 4)).off + 2, none⟩ = some (.slice A287_2 ((rd_T40 y284 a1).f2).length c287_2) ∧ w'.cell? ⟨(ad287.add ((a1).toNat * 4)).block, (ad287.add ((a1).toNat * 4)).off + 3, none⟩ = some (.slice (some ⟨go62, 0, none⟩) ((rd_T40 y284 a1).f3).length c287_3)) (ds := [12]) #[false, false, false, false, false, false, false, false, false, false, false, false, false] (by kernel_rfl) rfl rfl ⟨(blk_cell BK270.out 0).trans rfl, (blk_cell BK270.out 1).trans rfl, hx287_0, hx287_1, hx287_2, hx287_3⟩ (fun hHeld => ?_); refine with_tabW dioramalaw10_CanonApart.tab5 dioramalaw10_CanonApart.bits5 (fun HT_ HW_ => ?_)
              generalize w156.drew = w157 at HO286 BK259 BK270 HB GG62 HL287_1 HL287_2 HL287_3 HQ158 HR287_1 HR287_2 HR287_3 HX287_1 HX287_2 HX287_3 hf62_0 hx287_0 hx287_1 hx287_2 hx287_3 hx62_0 hHeld ⊢
              refine pure_ (i := 0) (N := some 66) (v := ?_) (a' := ?_) #[true, false, false, false, false, false, false, false, false, false, false, false, false] rfl rfl (any_of HT_.out (by kernel_rfl)) (fun _ _ _ h => h) (Or.inl ⟨by rfl, ?_⟩) ?_ ?_
              rotate_left
              ·intro w'
               go_simp
               with_reducible rfl
              rotate_left
              ·simp only [Act.put, List.setIfInBounds_toArray, List.set_cons_zero, List.set_cons_succ, i64_w, i32_w]
               rfl
              refine pure_ (i := 2) (N := some 68) (v := ?_) (a' := ?_) #[true, false, true, false, false, false, false, false, false, false, false, false, false] rfl rfl (any_of HT_.out (by kernel_rfl)) (fun _ _ _ h => h) (Or.inl ⟨by rfl, ?_⟩) ?_ ?_
              rotate_left
              ·intro w'
               go_simp
               with_reducible rfl
              rotate_left
              ·simp only [Act.put, List.setIfInBounds_toArray, List.set_cons_zero, List.set_cons_succ, i64_w, i32_w]
               rfl
              refine pure_ (i := 6) (N := some 72) (v := ?_) (a' := ?_) #[true, false, true, false, false, false, true, false, false, false, false, false, false] rfl rfl (any_of HT_.out (by kernel_rfl)) (fun _ _ _ h => h) (Or.inl ⟨by rfl, ?_⟩) ?_ ?_
              rotate_left
              ·intro w'
               go_simp
               with_reducible rfl
              rotate_left
              ·simp only [Act.put, List.setIfInBounds_toArray, List.set_cons_zero, List.set_cons_succ, i64_w, i32_w]
               rfl
              refine pure_ (i := 7) (N := some 73) (v := ?_) (a' := ?_) #[true, false, true, false, false, false, true, true, false, false, false, false, false] rfl rfl (any_of HT_.out (by kernel_rfl)) (fun _ _ _ h => h) (Or.inl ⟨by rfl, ?_⟩) ?_ ?_
              rotate_left
              ·intro w'
               go_simp
               with_reducible rfl
              rotate_left
              ·simp only [Act.put, List.setIfInBounds_toArray, List.set_cons_zero, List.set_cons_succ, i64_w, i32_w]
               rfl
              refine take_ (i := 1) (N := some 67) (v := ?_) (a' := ?_) #[true, true, true, false, false, false, true, true, false, false, false, false, false] rfl rfl (take_ofW HT_.out HW_.out (by kernel_rfl)) (fun _ _ _ h => h) (Or.inl ⟨by rfl, ?_⟩) hHeld ?_ ?_
              rotate_left
              ·rintro w' ⟨s0, s1, s2, s3, s4, s5⟩
               go_simp
               with_reducible rfl
              rotate_left
              ·simp only [Act.put, List.setIfInBounds_toArray, List.set_cons_zero, List.set_cons_succ, i64_w, i32_w]
               rfl
              refine pure_ (i := 3) (N := some 69) (v := ?_) (a' := ?_) #[true, true, true, true, false, false, true, true, false, false, false, false, false] rfl rfl (any_of HT_.out (by kernel_rfl)) (fun _ _ _ h => h) (Or.inl ⟨by rfl, ?_⟩) ?_ ?_
              rotate_left
              ·intro w'
               go_simp
               with_reducible rfl
              rotate_left
              ·simp only [Act.put, List.setIfInBounds_toArray, List.set_cons_zero, List.set_cons_succ, i64_w, i32_w]
               rfl
              refine pure_ (i := 4) (N := some 70) (v := ?_) (a' := ?_) #[true, true, true, true, true, false, true, true, false, false, false, false, false] rfl rfl (any_of HT_.out (by kernel_rfl)) (fun _ _ _ h => h) (Or.inl ⟨by rfl, ?_⟩) ?_ ?_
              rotate_left
              ·intro w'
               go_simp
               with_reducible rfl
              rotate_left
              ·simp only [Act.put, List.setIfInBounds_toArray, List.set_cons_zero, List.set_cons_succ, i64_w, i32_w]
               rfl
              refine take_ (i := 5) (N := some 71) (v := ?_) (a' := ?_) #[true, true, true, true, true, true, true, true, false, false, false, false, false] rfl rfl (take_ofW HT_.out HW_.out (by kernel_rfl)) (fun _ _ _ h => h) (Or.inl ⟨by rfl, ?_⟩) hHeld ?_ ?_
              rotate_left
              ·rintro w' ⟨s0, s1, s2, s3, s4, s5⟩
               go_simp
               with_reducible rfl
              rotate_left
              ·simp only [Act.put, List.setIfInBounds_toArray, List.set_cons_zero, List.set_cons_succ, i64_w, i32_w]
               rfl
              refine take_ (i := 8) (N := some 74) (v := ?_) (a' := ?_) #[true, true, true, true, true, true, true, true, true, false, false, false, false] rfl rfl (take_ofW HT_.out HW_.out (by kernel_rfl)) (fun _ _ _ h => h) (Or.inl ⟨by rfl, ?_⟩) hHeld ?_ ?_
              rotate_left
              ·rintro w' ⟨s0, s1, s2, s3, s4, s5⟩
               go_simp
               with_reducible rfl
              rotate_left
              ·simp only [Act.put, List.setIfInBounds_toArray, List.set_cons_zero, List.set_cons_succ, i64_w, i32_w]
               rfl
              refine pure_ (i := 9) (N := some 75) (v := ?_) (a' := ?_) #[true, true, true, true, true, true, true, true, true, true, false, false, false] rfl rfl (any_of HT_.out (by kernel_rfl)) (fun _ _ _ h => h) (Or.inl ⟨by rfl, ?_⟩) ?_ ?_
              rotate_left
              ·intro w'
               go_simp
               with_reducible rfl
              rotate_left
              ·simp only [Act.put, List.setIfInBounds_toArray, List.set_cons_zero, List.set_cons_succ, i64_w, i32_w]
               rfl
              refine pure_ (i := 10) (N := some 76) (v := ?_) (a' := ?_) #[true, true, true, true, true, true, true, true, true, true, true, false, false] rfl rfl (any_of HT_.out (by kernel_rfl)) (fun _ _ _ h => h) (Or.inl ⟨by rfl, ?_⟩) ?_ ?_
              rotate_left
              ·intro w'
               go_simp
               with_reducible rfl
              rotate_left
              ·simp only [Act.put, List.setIfInBounds_toArray, List.set_cons_zero, List.set_cons_succ, i64_w, i32_w]
               rfl
              refine pure_ (i := 11) (N := some 77) (v := ?_) (a' := ?_) #[true, true, true, true, true, true, true, true, true, true, true, true, false] rfl rfl (any_of HT_.out (by kernel_rfl)) (fun _ _ _ h => h) (Or.inl ⟨by rfl, ?_⟩) ?_ ?_
              rotate_left
              ·intro w'
               go_simp
               with_reducible rfl
              rotate_left
              ·simp only [Act.put, List.setIfInBounds_toArray, List.set_cons_zero, List.set_cons_succ, i64_w, i32_w]
               rfl
              refine last_ (i := 12) (N := none) #[true, true, true, true, true, true, true, true, true, true, true, true, true] rfl rfl (one_of HT_.out (by kernel_rfl)) (by decide) (fun K hK => ?_)
              refine skip_ (w1 := ?_) (by rfl) rfl ?_ ?_
              rotate_left
              ·go_simp
               rfl
              refine hK.out _ _ ?_
              clear hK K
              refine done_ (done_of HT_.out (by kernel_rfl)) ?_
              have n0_ : Aside0 (Kd.S k40 40 (w157.setCell ⟨go62, (a2 : Int).toNat, none⟩ (.int .i64 (wrap64 ((y284.length : Int) - 1)))) w.heap.size (fun _ => True) (.slice (some ad287) y284.length co154) y290) := ⟨by (with_reducible repeat (first | apply Kd.S_alloc | apply Kd.S_drewN | apply Kd.S_drew)); exact HQ158.out⟩
              have n1_ : Aside0 ((w157.setCell ⟨go62, (a2 : Int).toNat, none⟩ (.int .i64 (wrap64 ((y284.length : Int) - 1)))).heap[gb259]? = some (.cells #[.slice (some ad271) l0_0.length c0_0, .int .i64 a0_1] 24 (0, 0))) := ⟨by refine blk_far ?_ (by have h_ := Kd.R_ne HL287_3.out BK259.out (by decide); intro e_; exact h_ (by rw [e_]; rfl)) _; (with_reducible repeat (first | refine blk_drewN ?_ _ | refine blk_drew ?_ | refine blk_alloc ?_ _)); exact BK259.out⟩
              have n2_ : Aside0 ((w157.setCell ⟨go62, (a2 : Int).toNat, none⟩ (.int .i64 (wrap64 ((y284.length : Int) - 1)))).heap[gb270]? = some (.cells #[.slice (some ad287) y284.length co154, .int .i64 t269] 24 (0, 0))) := ⟨by refine blk_far ?_ (by have h_ := Kd.R_ne HL287_3.out BK270.out (by decide); intro e_; exact h_ (by rw [e_]; rfl)) _; (with_reducible repeat (first | refine blk_drewN ?_ _ | refine blk_drew ?_ | refine blk_alloc ?_ _)); exact BK270.out⟩
              have n3_ : Aside0 (Below w.heap.size w (w157.setCell ⟨go62, (a2 : Int).toNat, none⟩ (.int .i64 (wrap64 ((y284.length : Int) - 1))))) := ⟨BB HB⟩
              (try clear HO286)
              (try clear BK259)
              (try clear BK270)
              (try clear HB)
              generalize (w157.setCell ⟨go62, (a2 : Int).toNat, none⟩ (.int .i64 (wrap64 ((y284.length : Int) - 1)))) = w160 at n0_ n1_ n2_ n3_ ⊢
              have HO286 := n0_
              have BK259 := n1_
              have BK270 := n2_
              have HB := n3_
              clear n0_ n1_ n2_ n3_
              have hcz161_0 : w160.cell? ⟨gb259, 0, none⟩ = some (.slice (some ad271) l0_0.length c0_0) := (blk_cell BK259.out 0).trans rfl
              have hcz161_1 : w160.cell? ⟨gb259, 1, none⟩ = some (.int .i64 a0_1) := (blk_cell BK259.out 1).trans rfl
              have hfz161_0 := blk_frozen BK259.out 0
              have hfz161_1 := blk_frozen BK259.out 1
              try go_wp2_with (first | ((with_reducible refine gate_callee (f := 16) rfl ?_); refine goesL_ (some 80) rfl rfl Try.func16 (by kernel_rfl) rfl #[.agg #[.slice (some ad271) l0_0.length c0_0, .int .i64 a0_1]] rfl (by (try simp only [List.map_toArray, List.map_cons, List.map_nil]); first | done | rfl | (simp only [List.length_drop, List.length_take]; rfl)) ?_; (with_reducible refine (canon_Canon.calls kj3 _ _ l0_0 a0_1 t291 t294 t295 _ ?side1 ?side2 A63.out).mono ?_); (case side1 => repeat (first | exact (Kd.C_below HR0_0.out HB.out) | (with_reducible refine Kd.C_alloc ?_ _) | (with_reducible refine Kd.C_drewN ?_ _) | (with_reducible refine Kd.C_drew ?_))); (case side2 => exact HC0_0.out); rintro e w162 ⟨v292, rfl, ho0, hb⟩; refine ⟨_, rfl, ?_⟩; have n0_ := Aside0.mk (Kd.S_elder' (by (with_reducible repeat (first | apply Kd.S_alloc | apply Kd.S_drewN | apply Kd.S_drew)); exact HO286.out) (Kd.R_base ho0) hb); have n1_ := Aside0.mk (Kd.R_lower (Kd.R_new' ho0 (Kd.S_lt (by (with_reducible repeat (first | apply Kd.S_alloc | apply Kd.S_drewN | apply Kd.S_drew)); exact HO286.out))) (below_size (BB HB))); have n2_ := BE BK259 hb; have n3_ := BE BK270 hb; have n4_ := Aside0.mk (below_step (BB HB) hb); clear HO286; clear BK259; clear BK270; clear HB; have HO286 := n0_; have HO293 := n1_; have BK259 := n2_; have BK270 := n3_; have HB := n4_; clear n0_ n1_ n2_ n3_ n4_; (try clear hb); (try clear hb2); (try clear hk); (try clear hi); (try clear ho0)) | ((with_reducible refine gate_dst (N := 8) rfl ?_); refine box_event ?hg (N := 8) ?hd (cs := #[.slice none 0 0, .int .i64 0]) (t := 24) ?hr ?_; (case hd => rfl); (case hg => rfl); (case hr => first | (go_simp; done) | (go_simp; rfl)); intro gb296 hg w163 hbox hb; have n0_ := Aside0.mk (Kd.S_below (by (with_reducible repeat (first | apply Kd.S_alloc | apply Kd.S_drewN | apply Kd.S_drew)); exact HO286.out) hb); have n1_ := Aside0.mk (Kd.R_below (by (with_reducible repeat (first | apply Kd.R_alloc | apply Kd.R_drewN | apply Kd.R_drew)); exact HO293.out) hb); have n2_ := BE BK259 hb; have n3_ := BE BK270 hb; have n4_ := Aside0.mk (below_step (BB HB) hb); have n5_ := Aside0.mk (hbox); have n6_ := Aside0.mk ((by rw [hg]; exact (below_size (BB HB)) : w.heap.size ≤ gb296)); have n7_ := Aside0.mk ((by rw [hg]; exact (below_size (BB HB)) : w.heap.size ≤ gb296)); have n8_ := Aside0.mk ((by rw [hg]; exact Nat.ne_of_lt (blk_lt (g := gb259) (o := .cells #[.slice (some ad271) l0_0.length c0_0, .int .i64 a0_1] 24 (0, 0)) (BL BK259)) : gb259 ≠ gb296)); have n9_ := Aside0.mk ((by rw [hg]; exact Nat.ne_of_gt (blk_lt (g := gb259) (o := .cells #[.slice (some ad271) l0_0.length c0_0, .int .i64 a0_1] 24 (0, 0)) (BL BK259)) : gb296 ≠ gb259)); have n10_ := Aside0.mk ((by rw [hg]; exact Nat.ne_of_lt (blk_lt (g := gb270) (o := .cells #[.slice (some ad287) y284.length co154, .int .i64 t269] 24 (0, 0)) (BL BK270)) : gb270 ≠ gb296)); have n11_ := Aside0.mk ((by rw [hg]; exact Nat.ne_of_gt (blk_lt (g := gb270) (o := .cells #[.slice (some ad287) y284.length co154, .int .i64 t269] 24 (0, 0)) (BL BK270)) : gb296 ≠ gb270)); clear HO286; clear HO293; clear BK259; clear BK270; clear HB; have HO286 := n0_; have HO293 := n1_; have BK259 := n2_; have BK270 := n3_; have HB := n4_; have BK296 := n5_; have GW296 := n6_; have GE296 := n7_; have NB259_296 := n8_; have NB296_259 := n9_; have NB270_296 := n10_; have NB296_270 := n11_; clear n0_ n1_ n2_ n3_ n4_ n5_ n6_ n7_ n8_ n9_ n10_ n11_; clear hb hbox hg; obtain ⟨Ao164, co164, eo164⟩ := Kd.R_slice HO293.out; subst eo164; have hnb165 := NB296_259.out; have hnc165 := NB259_296.out; have hnb166 := NB296_270.out; have hnc166 := NB270_296.out; have hcz167_0 : w163.cell? ⟨gb296, 0, none⟩ = some (.slice none 0 0) := (blk_cell BK296.out 0).trans rfl; have hcz167_1 : w163.cell? ⟨gb296, 1, none⟩ = some (.int .i64 0) := (blk_cell BK296.out 1).trans rfl; have hfz167_0 := blk_frozen BK296.out 0; have hfz167_1 := blk_frozen BK296.out 1; have hcz168_0 : w163.cell? ⟨gb270, 0, none⟩ = some (.slice (some ad287) y284.length co154) := (blk_cell BK270.out 0).trans rfl; have hcz168_1 : w163.cell? ⟨gb270, 1, none⟩ = some (.int .i64 t269) := (blk_cell BK270.out 1).trans rfl; have hfz168_0 := blk_frozen BK270.out 0; have hfz168_1 := blk_frozen BK270.out 1) | ((with_reducible refine gate_callee (f := 16) rfl ?_); refine goesL_ (some 85) rfl rfl Try.func16 (by kernel_rfl) rfl #[.agg #[.slice (some ad287) y290.length co154, .int .i64 t269]] rfl (by (try simp only [List.map_toArray, List.map_cons, List.map_nil]); first | done | (rw [show y290.length = y284.length from (Kd.S_reads' HO286.out).1.symm] <;> rfl) | rfl | (simp only [List.length_drop, List.length_take]; rfl)) ?_; (with_reducible refine (canon_Canon.calls kj3 _ _ y290 t269 t297 t300 t301 _ ?side1 ?side2 A64.out).mono ?_); (case side1 => refine (Kd.S_reads' (e := 40) (base := w.heap.size) (ok := fun k_ => (True ∧ some k_ ≠ (.slice Ao164 t291.length co164 : Value).ownBlock)) (n := y284.length) (c := co154) ?_).2.2; exact (by (with_reducible repeat (first | apply Kd.S_alloc | apply Kd.S_drewN | apply Kd.S_drew)); exact (Kd.S_mono (Kd.S_far (p := ⟨gb296, 1, none⟩) (Kd.S_far (p := ⟨gb296, 0, none⟩) (Kd.S_types HO286.out BK296.out (by decide)) (fun _ hk => hk.2) (.slice Ao164 t291.length co164)) (fun _ hk => hk.2) (.int .i64 t294)) (fun _ h_ => h_.1)))); (case side2 => rw [show y290.length = y284.length from (Kd.S_reads' HO286.out).1.symm]; exact (Kd.S_reads' HO286.out).2.1); rintro e w169 ⟨v298, rfl, ho0, hb⟩; refine ⟨_, rfl, ?_⟩; have n0_ := Aside0.mk (Kd.S_elder' (by (with_reducible repeat (first | apply Kd.S_alloc | apply Kd.S_drewN | apply Kd.S_drew)); exact (Kd.S_mono (Kd.S_far (p := ⟨gb296, 1, none⟩) (Kd.S_far (p := ⟨gb296, 0, none⟩) (Kd.S_types HO286.out BK296.out (by decide)) (fun _ hk => hk.2) (.slice Ao164 t291.length co164)) (fun _ hk => hk.2) (.int .i64 t294)) (fun _ h_ => h_.1))) (Kd.R_base ho0) hb); have n1_ := Aside0.mk (Kd.R_elder' (by (with_reducible repeat (first | apply Kd.R_alloc | apply Kd.R_drewN | apply Kd.R_drew)); exact (Kd.R_mono (Kd.R_far (p := ⟨gb296, 1, none⟩) (Kd.R_far (p := ⟨gb296, 0, none⟩) (Kd.R_types HO293.out BK296.out (by decide)) (fun _ hk => hk.2) (.slice Ao164 t291.length co164)) (fun _ hk => hk.2) (.int .i64 t294)) (fun _ h_ => h_.1))) (Kd.R_base ho0) hb); have n2_ := Aside0.mk (Kd.R_lower (Kd.R_new' (Kd.R_new' ho0 (Kd.S_lt (by (with_reducible repeat (first | apply Kd.S_alloc | apply Kd.S_drewN | apply Kd.S_drew)); exact (Kd.S_mono (Kd.S_far (p := ⟨gb296, 1, none⟩) (Kd.S_far (p := ⟨gb296, 0, none⟩) (Kd.S_types HO286.out BK296.out (by decide)) (fun _ hk => hk.2) (.slice Ao164 t291.length co164)) (fun _ hk => hk.2) (.int .i64 t294)) (fun _ h_ => h_.1))))) (Kd.R_lt (by (with_reducible repeat (first | apply Kd.R_alloc | apply Kd.R_drewN | apply Kd.R_drew)); exact (Kd.R_mono (Kd.R_far (p := ⟨gb296, 1, none⟩) (Kd.R_far (p := ⟨gb296, 0, none⟩) (Kd.R_types HO293.out BK296.out (by decide)) (fun _ hk => hk.2) (.slice Ao164 t291.length co164)) (fun _ hk => hk.2) (.int .i64 t294)) (fun _ h_ => h_.1))))) (below_size (BB HB))); have n3_ := Aside0.mk (blk_below (g := gb259) (o := .cells #[.slice (some ad271) l0_0.length c0_0, .int .i64 a0_1] 24 (0, 0)) (by refine blk_far ?_ NB259_296.out _; refine blk_far ?_ NB259_296.out _; (with_reducible repeat (first | refine blk_drewN ?_ _ | refine blk_drew ?_ | refine blk_alloc ?_ _)); exact BK259.out) hb); have n4_ := Aside0.mk (blk_below (g := gb270) (o := .cells #[.slice (some ad287) y284.length co154, .int .i64 t269] 24 (0, 0)) (by refine blk_far ?_ NB270_296.out _; refine blk_far ?_ NB270_296.out _; (with_reducible repeat (first | refine blk_drewN ?_ _ | refine blk_drew ?_ | refine blk_alloc ?_ _)); exact BK270.out) hb); have n5_ := Aside0.mk (blk_below (g := gb296) (o := .cells #[.slice Ao164 t291.length co164, .int .i64 t294] 24 (0, 0)) (by refine blk_put (cs := #[.slice Ao164 t291.length co164, .int .i64 0]) ?_ 1 _ rfl; refine blk_put (cs := #[.slice none 0 0, .int .i64 0]) ?_ 0 _ rfl; (with_reducible repeat (first | refine blk_drewN ?_ _ | refine blk_drew ?_ | refine blk_alloc ?_ _)); exact BK296.out) hb); have n6_ := Aside0.mk (below_step (BB HB) hb); clear HO286; clear HO293; clear BK259; clear BK270; clear BK296; clear HB; have HO286 := n0_; have HO293 := n1_; have HO299 := n2_; have BK259 := n3_; have BK270 := n4_; have BK296 := n5_; have HB := n6_; clear n0_ n1_ n2_ n3_ n4_ n5_ n6_; (try clear hb); (try clear hb2); (try clear hk); (try clear hi); (try clear ho0)) | ((with_reducible refine gate_dst (N := 10) rfl ?_); refine box_event ?hg (N := 10) ?hd (cs := #[.slice none 0 0, .int .i64 0]) (t := 24) ?hr ?_; (case hd => rfl); (case hg => rfl); (case hr => first | (go_simp; done) | (go_simp; rfl)); intro gb302 hg w170 hbox hb; have n0_ := Aside0.mk (Kd.S_below (by (with_reducible repeat (first | apply Kd.S_alloc | apply Kd.S_drewN | apply Kd.S_drew)); exact HO286.out) hb); have n1_ := Aside0.mk (Kd.R_below (by (with_reducible repeat (first | apply Kd.R_alloc | apply Kd.R_drewN | apply Kd.R_drew)); exact HO293.out) hb); have n2_ := Aside0.mk (Kd.R_below (by (with_reducible repeat (first | apply Kd.R_alloc | apply Kd.R_drewN | apply Kd.R_drew)); exact HO299.out) hb); have n3_ := BE BK259 hb; have n4_ := BE BK270 hb; have n5_ := BE BK296 hb; have n6_ := Aside0.mk (below_step (BB HB) hb); have n7_ := Aside0.mk (hbox); have n8_ := Aside0.mk ((by rw [hg]; exact (below_size (BB HB)) : w.heap.size ≤ gb302)); have n9_ := Aside0.mk ((by rw [hg]; exact (below_size (BB HB)) : w.heap.size ≤ gb302)); have n10_ := Aside0.mk ((by rw [hg]; exact Nat.ne_of_lt (blk_lt (g := gb259) (o := .cells #[.slice (some ad271) l0_0.length c0_0, .int .i64 a0_1] 24 (0, 0)) (BL BK259)) : gb259 ≠ gb302)); have n11_ := Aside0.mk ((by rw [hg]; exact Nat.ne_of_gt (blk_lt (g := gb259) (o := .cells #[.slice (some ad271) l0_0.length c0_0, .int .i64 a0_1] 24 (0, 0)) (BL BK259)) : gb302 ≠ gb259)); have n12_ := Aside0.mk ((by rw [hg]; exact Nat.ne_of_lt (blk_lt (g := gb270) (o := .cells #[.slice (some ad287) y284.length co154, .int .i64 t269] 24 (0, 0)) (BL BK270)) : gb270 ≠ gb302)); have n13_ := Aside0.mk ((by rw [hg]; exact Nat.ne_of_gt (blk_lt (g := gb270) (o := .cells #[.slice (some ad287) y284.length co154, .int .i64 t269] 24 (0, 0)) (BL BK270)) : gb302 ≠ gb270)); have n14_ := Aside0.mk ((by rw [hg]; exact Nat.ne_of_lt (blk_lt (g := gb296) (o := .cells #[.slice Ao164 t291.length co164, .int .i64 t294] 24 (0, 0)) (BL BK296)) : gb296 ≠ gb302)); have n15_ := Aside0.mk ((by rw [hg]; exact Nat.ne_of_gt (blk_lt (g := gb296) (o := .cells #[.slice Ao164 t291.length co164, .int .i64 t294] 24 (0, 0)) (BL BK296)) : gb302 ≠ gb296)); clear HO286; clear HO293; clear HO299; clear BK259; clear BK270; clear BK296; clear HB; have HO286 := n0_; have HO293 := n1_; have HO299 := n2_; have BK259 := n3_; have BK270 := n4_; have BK296 := n5_; have HB := n6_; have BK302 := n7_; have GW302 := n8_; have GE302 := n9_; have NB259_302 := n10_; have NB302_259 := n11_; have NB270_302 := n12_; have NB302_270 := n13_; have NB296_302 := n14_; have NB302_296 := n15_; clear n0_ n1_ n2_ n3_ n4_ n5_ n6_ n7_ n8_ n9_ n10_ n11_ n12_ n13_ n14_ n15_; clear hb hbox hg; obtain ⟨Ao171, co171, eo171⟩ := Kd.R_slice HO299.out; subst eo171; have hnb172 := NB302_259.out; have hnc172 := NB259_302.out; have hnb173 := NB302_270.out; have hnc173 := NB270_302.out; have hnb174 := NB302_296.out; have hnc174 := NB296_302.out; have hcz175_0 : w170.cell? ⟨gb302, 0, none⟩ = some (.slice none 0 0) := (blk_cell BK302.out 0).trans rfl; have hcz175_1 : w170.cell? ⟨gb302, 1, none⟩ = some (.int .i64 0) := (blk_cell BK302.out 1).trans rfl; have hfz175_0 := blk_frozen BK302.out 0; have hfz175_1 := blk_frozen BK302.out 1))
              go_ret
              exact ⟨by first | rfl | (simp [errW_none, errW_some] <;> rfl) | (simp [*, errW_none, errW_some] <;> rfl), BB HB⟩
            ·rw [if_neg c61] at H
             exact absurd H (by simp)
           ·rw [if_neg c60] at H
            exact absurd H (by simp)
          ·rw [if_neg c59] at H
           exact absurd H (by simp)
         ·rw [if_neg c57] at H
          exact absurd H (by simp)
        ·rw [if_neg c56] at H
         exact absurd H (by simp)
       ·rw [if_neg c55] at H
        exact absurd H (by simp)
      ·rw [if_neg c54] at H
       exact absurd H (by simp)
     ·rw [if_neg c53] at H
      exact absurd H (by simp)
    ·rw [if_neg c52] at H
     exact absurd H (by simp)

end Go.Proofs.Ytlfjjapndlkamaa.GI
