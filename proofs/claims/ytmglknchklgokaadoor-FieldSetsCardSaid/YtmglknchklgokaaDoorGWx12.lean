-- Printed by a program of the session (wip/gen/tprint.py, over a turned copy of the kit's print): Lean checks it.
import Derived.Test.YtmglknchklgokaaDoorGWx0
import Derived.Test.YtmglknchklgokaaDoorGWx4
import Derived.Test.YtmglknchklgokaaDoorGWx6
import Derived.Test.YtmglknchklgokaaDoorGWx9
import Derived.Test.YtmglknchklgokaaDoorGWx10
import Derived.Test.YtmglknchklgokaaDoorGWx11
namespace Go.Proofs.YtmglknchklgokaaDoor.GW
open Go.RowKit Go.Proofs.YtmglknchklgokaaDoorW.PrintWords Go.Proofs.YtmglknchklgokaaDoorW.PrintLast Go.Proofs.YtmglknchklgokaaDoorW.PrintMore
attribute [local go_sem] max2_int min2_int max_two min_two max_three min_three max_four min_four   -- for this text's walks alone
set_option linter.unusedVariables false
set_option linter.unusedSimpArgs false

/-! ### dioramalaw08_FieldSets: function 4 -/
def dioramalaw08_FieldSets.j0 : Nat → List (S75) → Bool → Int → List Int → List ByteArray → List Int → Option (Bool)
 | 0, _, _, _, _, _, _ => none
 | k + 1, x1, x20, x268000, x268001, x268002, x268003 => if x20 = true then ((dioramalaw08_awake.f k).bind fun t270 => (some t270)) else ((dioramaref08_Copy.f x268000 x268001 x268002 x268003).bind fun bt271 => ((some (([] : List (S75)) : List (S75))).bind fun y282 => (if y282.length + x1.length < 3518437208883 then ((field_Set.f k bt271.1 bt271.2.1 bt271.2.2.1 bt271.2.2.2 (y282 ++ x1)).bind fun bt288 => ((dioramaref08_Set.f k x268000 x268001 x268002 x268003 x1).bind fun bt300 => (if bt288.2.2.2.2 = bt300.2.2.2.2 then ((dioramaref08_Same.f k bt288.1 bt288.2.1 bt288.2.2.1 bt288.2.2.2.1 bt300.1 bt300.2.1 bt300.2.2.1 bt300.2.2.2.1).bind fun t312 => (if t312 = true then ((dioramaref08_Same.f k bt271.1 bt271.2.1 bt271.2.2.1 bt271.2.2.2 x268000 x268001 x268002 x268003).bind fun t313 => (some t313)) else (none))) else (none)))) else (none))))
def dioramalaw08_FieldSets.f (k : Nat) (a0_0 : Int) (l0_1 : List Int) (l0_2 : List ByteArray) (l0_3 : List Int) (l1 : List (S75)) : Option (Bool) := (dioramalaw08_awake.f k).bind fun t268 => (if t268 = true then ((dioramaref08_Great.f k a0_0 l0_1 l0_2 l0_3).bind fun t269 => (if t269 = true then (dioramalaw08_FieldSets.j0 k l1 true a0_0 l0_1 l0_2 l0_3) else (dioramalaw08_FieldSets.j0 k l1 (decide ((l1.length : Int) > 100)) a0_0 l0_1 l0_2 l0_3))) else (none))
theorem dioramalaw08_FieldSets.mono_l : ∀ k, (∀ y0 y1 y2 y3 y4 y5, LeO (dioramalaw08_FieldSets.j0 k y0 y1 y2 y3 y4 y5) (dioramalaw08_FieldSets.j0 (k + 1) y0 y1 y2 y3 y4 y5))
 | 0 => fun _ _ _ _ _ _ r h => by simp [dioramalaw08_FieldSets.j0] at h
 | k + 1 => by
  have ih0 := dioramalaw08_FieldSets.mono_l k
  ·intro y0 y1 y2 y3 y4 y5
   unfold dioramalaw08_FieldSets.j0
   repeat' first
   | (with_reducible exact ih0 _ _ _ _ _ _)
   | (with_reducible exact dioramalaw08_awake.mono _)
   | (with_reducible exact dioramaref08_Great.mono _ _ _ _ _)
   | (with_reducible exact dioramaref08_Same.mono _ _ _ _ _ _ _ _ _)
   | (with_reducible exact dioramaref08_Set.mono _ _ _ _ _ _)
   | (with_reducible exact field_Set.mono _ _ _ _ _ _)
   | (with_reducible exact LeO.refl _)
   | (with_reducible exact LeO.none _)
   | (with_reducible refine LeO.ite ?_ ?_)
   | (with_reducible refine LeO.bind ?_ (fun _ => ?_))
   | exact ih0 _ _ _ _ _ _
   | exact dioramalaw08_awake.mono _
   | exact dioramaref08_Great.mono _ _ _ _ _
   | exact dioramaref08_Same.mono _ _ _ _ _ _ _ _ _
   | exact dioramaref08_Set.mono _ _ _ _ _ _
   | exact field_Set.mono _ _ _ _ _ _
   | exact LeO.none _
   | refine LeO.ite ?_ ?_
   | refine LeO.bind ?_ (fun _ => ?_)
theorem dioramalaw08_FieldSets.mono : ∀ a0 a1 a2 a3 a4 k, LeO (dioramalaw08_FieldSets.f k a0 a1 a2 a3 a4) (dioramalaw08_FieldSets.f (k + 1) a0 a1 a2 a3 a4) := by
 intro a0 a1 a2 a3 a4 k
 have ih0 := dioramalaw08_FieldSets.mono_l k
 unfold dioramalaw08_FieldSets.f
 repeat' first
   | (with_reducible exact ih0 _ _ _ _ _ _)
   | (with_reducible exact dioramalaw08_awake.mono _)
   | (with_reducible exact dioramaref08_Great.mono _ _ _ _ _)
   | (with_reducible exact dioramaref08_Same.mono _ _ _ _ _ _ _ _ _)
   | (with_reducible exact dioramaref08_Set.mono _ _ _ _ _ _)
   | (with_reducible exact field_Set.mono _ _ _ _ _ _)
   | (with_reducible exact LeO.refl _)
   | (with_reducible exact LeO.none _)
   | (with_reducible refine LeO.ite ?_ ?_)
   | (with_reducible refine LeO.bind ?_ (fun _ => ?_))
   | exact ih0 _ _ _ _ _ _
   | exact dioramalaw08_awake.mono _
   | exact dioramaref08_Great.mono _ _ _ _ _
   | exact dioramaref08_Same.mono _ _ _ _ _ _ _ _ _
   | exact dioramaref08_Set.mono _ _ _ _ _ _
   | exact field_Set.mono _ _ _ _ _ _
   | exact LeO.none _
   | refine LeO.ite ?_ ?_
   | refine LeO.bind ?_ (fun _ => ?_)
def dioramalaw08_FieldSets.T4 : Bool × List (List Nat × List Nat) := (true, [([], []), ([], []), ([], []), ([1, 2], [1, 2]), ([0, 3, 3], [0, 3]), ([4], [4]), ([5], [5]), ([5], [5]), ([], []), ([8, 6, 4, 0, 1, 2, 3, 4, 5, 6, 8], [6, 8]), ([7, 9, 0, 1, 2, 3, 4, 5, 6, 7, 8, 9], [7])])
def dioramalaw08_FieldSets.B4 : List Nat := [0, 0, 0, 6, 15, 31, 63, 63, 0, 383, 1023]
theorem dioramalaw08_FieldSets.tab4 : rtab .any (opsOf Tryd.f4 4) = dioramalaw08_FieldSets.T4 := by kernel_rfl
theorem dioramalaw08_FieldSets.bits4 : waitsOk dioramalaw08_FieldSets.T4.2 dioramalaw08_FieldSets.B4 = true := by kernel_rfl
set_option maxHeartbeats 8000000 in
set_option maxRecDepth 100000 in
theorem dioramalaw08_FieldSets.calls (k : Nat) (a0_0 : Int) (A0_1 : Option Addr) (c0_1 : Nat) (l0_1 : List Int) (A0_2 : Option Addr) (c0_2 : Nat) (l0_2 : List ByteArray) (A0_3 : Option Addr) (c0_3 : Nat) (l0_3 : List Int) (A1 : Option Addr) (c1 : Nat) (l1 : List (S75)) (r : Bool) (w : World) (ht_ : ∀ w', Below w.heap.size w w' → Go.Lib.Utf8Tabs 0 1 w') (hr0_1 : Kd.C (Kd.int .i64) w A0_1 l0_1.length l0_1) (hc0_1 : l0_1.length ≤ c0_1) (hr0_2 : Kd.C Kd.string w A0_2 l0_2.length l0_2) (hc0_2 : l0_2.length ≤ c0_2) (hr0_3 : Kd.C (Kd.int .i64) w A0_3 l0_3.length l0_3) (hc0_3 : l0_3.length ≤ c0_3) (hr1 : Kd.C k75 w A1 l1.length l1) (hc1 : l1.length ≤ c1) (h : dioramalaw08_FieldSets.f k a0_0 l0_1 l0_2 l0_3 l1 = some r) :
  Calls Tryd.prog 4 #[.agg #[.int .i64 a0_0, .slice A0_1 l0_1.length c0_1, .slice A0_2 l0_2.length c0_2, .slice A0_3 l0_3.length c0_3], .slice A1 l1.length c1] w fun e w' => e = .returned (.bool r) ∧ Below w.heap.size w w' := by
 have HTB_ := Aside0.mk ht_
 clear ht_
 have hu26 := Tryd.underlying26
 have HR0_1 := Aside0.mk hr0_1
 have HC0_1 := Aside0.mk hc0_1
 clear hr0_1 hc0_1
 have HR0_2 := Aside0.mk hr0_2
 have HC0_2 := Aside0.mk hc0_2
 clear hr0_2 hc0_2
 have HR0_3 := Aside0.mk hr0_3
 have HC0_3 := Aside0.mk hc0_3
 clear hr0_3 hc0_3
 have HR1 := Aside0.mk hr1
 have HC1 := Aside0.mk hc1
 clear hr1 hc1
 have HB := Aside0.mk (Below.refl w.heap.size w)
 have H : ((dioramalaw08_awake.f k).bind fun t268 => (if t268 = true then ((dioramaref08_Great.f k a0_0 l0_1 l0_2 l0_3).bind fun t269 => (if t269 = true then (dioramalaw08_FieldSets.j0 k l1 true a0_0 l0_1 l0_2 l0_3) else (dioramalaw08_FieldSets.j0 k l1 (decide ((l1.length : Int) > 100)) a0_0 l0_1 l0_2 l0_3))) else (none))) = some r := h
 clear h
 have HC3 := Aside0.mk H
 clear H
 go_enter Tryd.func4, Tryd.ntmps4
 go_upto_region 1 with (first | ((with_reducible refine gate_dst (N := 2) rfl ?_); refine box_event ?hg (N := 2) ?hd (cs := #[.int .i64 a0_0, .slice A0_1 l0_1.length c0_1, .slice A0_2 l0_2.length c0_2, .slice A0_3 l0_3.length c0_3]) (t := 26) ?hr ?_; (case hd => rfl); (case hg => rfl); (case hr => first | (go_simp; done) | (go_simp; rfl)); intro gb267 hg w4 hbox hb; have n0_ := Aside0.mk (below_step (BB HB) hb); have n1_ := Aside0.mk (hbox); have n2_ := Aside0.mk ((by rw [hg]; exact (below_size (BB HB)) : w.heap.size ≤ gb267)); have n3_ := Aside0.mk ((by rw [hg]; exact (below_size (BB HB)) : w.heap.size ≤ gb267)); clear HB; have HB := n0_; have BK267 := n1_; have GW267 := n2_; have GE267 := n3_; clear n0_ n1_ n2_ n3_; clear hb hbox hg))
 (try simp only [Act.put, List.setIfInBounds_toArray, List.set_cons_zero, List.set_cons_succ])
 go_cut [20] (fun v20 wc => ∃ (kq : Nat) (x20_2 : Bool), v20 = .bool x20_2 ∧ Aside0 (dioramalaw08_FieldSets.j0 kq l1 x20_2 a0_0 l0_1 l0_2 l0_3 = some r) ∧ Aside0 (kq ≤ k) ∧ Aside0 (wc.heap[gb267]? = some (.cells #[.int .i64 a0_0, (.slice A0_1 l0_1.length c0_1), (.slice A0_2 l0_2.length c0_2), (.slice A0_3 l0_3.length c0_3)] 26 (0, 0))) ∧ Aside0 (Below w.heap.size w wc))
 case first =>
  have H := HC3.out
  clear HC3
  replace H := Option.bind_eq_some_iff.mp H
  obtain ⟨t268, A50, H⟩ := H
  replace H : (if t268 = true then ((dioramaref08_Great.f k a0_0 l0_1 l0_2 l0_3).bind fun t269 => (if t269 = true then (dioramalaw08_FieldSets.j0 k l1 true a0_0 l0_1 l0_2 l0_3) else (dioramalaw08_FieldSets.j0 k l1 (decide ((l1.length : Int) > 100)) a0_0 l0_1 l0_2 l0_3))) else (none)) = some r := H
  have A5 := Aside0.mk A50
  clear A50
  by_cases c6 : t268 = true
  ·subst c6
   have H1 : ((dioramaref08_Great.f k a0_0 l0_1 l0_2 l0_3).bind fun t269 => (if t269 = true then (dioramalaw08_FieldSets.j0 k l1 true a0_0 l0_1 l0_2 l0_3) else (dioramalaw08_FieldSets.j0 k l1 (decide ((l1.length : Int) > 100)) a0_0 l0_1 l0_2 l0_3))) = some r := by rw [if_pos rfl] at H; exact H
   clear H
   have H := H1
   clear H1
   replace H := Option.bind_eq_some_iff.mp H
   obtain ⟨t269, A70, H⟩ := H
   replace H : (if t269 = true then (dioramalaw08_FieldSets.j0 k l1 true a0_0 l0_1 l0_2 l0_3) else (dioramalaw08_FieldSets.j0 k l1 (decide ((l1.length : Int) > 100)) a0_0 l0_1 l0_2 l0_3)) = some r := H
   have A7 := Aside0.mk A70
   clear A70
   by_cases c8 : t269 = true
   ·subst c8
    have H1 : (dioramalaw08_FieldSets.j0 k l1 true a0_0 l0_1 l0_2 l0_3) = some r := by rw [if_pos rfl] at H; exact H
    clear H
    have H := H1
    clear H1
    have H' := Aside0.mk H
    clear H
    go_wp2_with (first | ((with_reducible refine gate_callee (f := 13) rfl ?_); refine goesL_ (some 10) rfl rfl Tryd.func13 (by kernel_rfl) rfl #[] rfl (by (try simp only [List.map_toArray, List.map_cons, List.map_nil]); first | done | rfl | (simp only [List.length_drop, List.length_take]; rfl)) ?_; (with_reducible refine (dioramalaw08_awake.calls k  true _ (fun w_ hb_ => HTB_.out w_ (below_step (BB HB) hb_)) A5.out).mono ?_); rintro e w9 ⟨rfl, hb⟩; refine ⟨_, rfl, ?_⟩; have n0_ := BE BK267 hb; have n1_ := Aside0.mk (below_step (BB HB) hb); clear BK267; clear HB; have BK267 := n0_; have HB := n1_; clear n0_ n1_; (try clear hb); (try clear hb2); (try clear hk); (try clear hi); have hcz10_0 : w9.cell? ⟨gb267, 0, none⟩ = some (.int .i64 a0_0) := (blk_cell BK267.out 0).trans rfl; have hcz10_1 : w9.cell? ⟨gb267, 1, none⟩ = some (.slice A0_1 l0_1.length c0_1) := (blk_cell BK267.out 1).trans rfl; have hcz10_2 : w9.cell? ⟨gb267, 2, none⟩ = some (.slice A0_2 l0_2.length c0_2) := (blk_cell BK267.out 2).trans rfl; have hcz10_3 : w9.cell? ⟨gb267, 3, none⟩ = some (.slice A0_3 l0_3.length c0_3) := (blk_cell BK267.out 3).trans rfl; have hfz10_0 := blk_frozen BK267.out 0; have hfz10_1 := blk_frozen BK267.out 1; have hfz10_2 := blk_frozen BK267.out 2; have hfz10_3 := blk_frozen BK267.out 3) | (go_at_call 14; (with_reducible refine (dioramaref08_Great.calls k a0_0 _ _ l0_1 _ _ l0_2 _ _ l0_3 true _ ?side1 ?side2 ?side3 ?side4 ?side5 ?side6 A7.out).mono ?_); (case side1 => repeat (first | exact (Kd.C_below HR0_1.out HB.out) | (with_reducible refine Kd.C_alloc ?_ _) | (with_reducible refine Kd.C_drewN ?_ _) | (with_reducible refine Kd.C_drew ?_))); (case side2 => exact HC0_1.out); (case side3 => repeat (first | exact (Kd.C_below HR0_2.out HB.out) | (with_reducible refine Kd.C_alloc ?_ _) | (with_reducible refine Kd.C_drewN ?_ _) | (with_reducible refine Kd.C_drew ?_))); (case side4 => exact HC0_2.out); (case side5 => repeat (first | exact (Kd.C_below HR0_3.out HB.out) | (with_reducible refine Kd.C_alloc ?_ _) | (with_reducible refine Kd.C_drewN ?_ _) | (with_reducible refine Kd.C_drew ?_))); (case side6 => exact HC0_3.out); rintro e w11 ⟨rfl, hb⟩; have n0_ := BE BK267 hb; have n1_ := Aside0.mk (below_step (BB HB) hb); clear BK267; clear HB; have BK267 := n0_; have HB := n1_; clear n0_ n1_; (try clear hb); (try clear hb2); (try clear hk); (try clear hi)))
    go_meet
    case rel => exact ⟨_, (true), (by first | rfl | (simp; done) | (simp [*]; done)), H', ⟨by first | omega | exact Nat.le_refl _⟩, ⟨BL BK267⟩, ⟨BB HB⟩⟩
   ·replace c8 := Bool.eq_false_iff.mpr c8
    subst c8
    have H1 : (dioramalaw08_FieldSets.j0 k l1 (decide ((l1.length : Int) > 100)) a0_0 l0_1 l0_2 l0_3) = some r := by rw [if_neg (show ¬ (false = true) by decide)] at H; exact H
    clear H
    have H := H1
    clear H1
    have H' := Aside0.mk H
    clear H
    go_wp2_with (first | ((with_reducible refine gate_callee (f := 13) rfl ?_); refine goesL_ (some 10) rfl rfl Tryd.func13 (by kernel_rfl) rfl #[] rfl (by (try simp only [List.map_toArray, List.map_cons, List.map_nil]); first | done | rfl | (simp only [List.length_drop, List.length_take]; rfl)) ?_; (with_reducible refine (dioramalaw08_awake.calls k  true _ (fun w_ hb_ => HTB_.out w_ (below_step (BB HB) hb_)) A5.out).mono ?_); rintro e w12 ⟨rfl, hb⟩; refine ⟨_, rfl, ?_⟩; have n0_ := BE BK267 hb; have n1_ := Aside0.mk (below_step (BB HB) hb); clear BK267; clear HB; have BK267 := n0_; have HB := n1_; clear n0_ n1_; (try clear hb); (try clear hb2); (try clear hk); (try clear hi); have hcz13_0 : w12.cell? ⟨gb267, 0, none⟩ = some (.int .i64 a0_0) := (blk_cell BK267.out 0).trans rfl; have hcz13_1 : w12.cell? ⟨gb267, 1, none⟩ = some (.slice A0_1 l0_1.length c0_1) := (blk_cell BK267.out 1).trans rfl; have hcz13_2 : w12.cell? ⟨gb267, 2, none⟩ = some (.slice A0_2 l0_2.length c0_2) := (blk_cell BK267.out 2).trans rfl; have hcz13_3 : w12.cell? ⟨gb267, 3, none⟩ = some (.slice A0_3 l0_3.length c0_3) := (blk_cell BK267.out 3).trans rfl; have hfz13_0 := blk_frozen BK267.out 0; have hfz13_1 := blk_frozen BK267.out 1; have hfz13_2 := blk_frozen BK267.out 2; have hfz13_3 := blk_frozen BK267.out 3) | (go_at_call 14; (with_reducible refine (dioramaref08_Great.calls k a0_0 _ _ l0_1 _ _ l0_2 _ _ l0_3 false _ ?side1 ?side2 ?side3 ?side4 ?side5 ?side6 A7.out).mono ?_); (case side1 => repeat (first | exact (Kd.C_below HR0_1.out HB.out) | (with_reducible refine Kd.C_alloc ?_ _) | (with_reducible refine Kd.C_drewN ?_ _) | (with_reducible refine Kd.C_drew ?_))); (case side2 => exact HC0_1.out); (case side3 => repeat (first | exact (Kd.C_below HR0_2.out HB.out) | (with_reducible refine Kd.C_alloc ?_ _) | (with_reducible refine Kd.C_drewN ?_ _) | (with_reducible refine Kd.C_drew ?_))); (case side4 => exact HC0_2.out); (case side5 => repeat (first | exact (Kd.C_below HR0_3.out HB.out) | (with_reducible refine Kd.C_alloc ?_ _) | (with_reducible refine Kd.C_drewN ?_ _) | (with_reducible refine Kd.C_drew ?_))); (case side6 => exact HC0_3.out); rintro e w14 ⟨rfl, hb⟩; have n0_ := BE BK267 hb; have n1_ := Aside0.mk (below_step (BB HB) hb); clear BK267; clear HB; have BK267 := n0_; have HB := n1_; clear n0_ n1_; (try clear hb); (try clear hb2); (try clear hk); (try clear hi)))
    go_meet
    case rel => exact ⟨_, (decide ((l1.length : Int) > 100)), (by first | rfl | (simp; done) | (simp [*]; done)), H', ⟨by first | omega | exact Nat.le_refl _⟩, ⟨BL BK267⟩, ⟨BB HB⟩⟩
  ·replace c6 := Bool.eq_false_iff.mpr c6
   subst c6
   have H1 : (none) = some r := by rw [if_neg (show ¬ (false = true) by decide)] at H; exact H
   clear H
   have H := H1
   clear H1
   exact absurd H (by simp)
 case rest =>
  clear HC3
  try clear c1
  try clear p2
  try clear c4
  try clear c6
  try clear c8
  try clear c13
  try clear hcz10_0
  try clear hcz10_1
  try clear hcz10_2
  try clear hcz10_3
  try clear hcz13_0
  try clear hcz13_1
  try clear hcz13_2
  try clear hcz13_3
  try clear hfz10_0
  try clear hfz10_1
  try clear hfz10_2
  try clear hfz10_3
  try clear hfz13_0
  try clear hfz13_1
  try clear hfz13_2
  try clear hfz13_3
  obtain ⟨kq, x20_2, rfl, HA, HJ2, BK267, HB⟩ := hcut
  cases kq with
  | zero => exact absurd HA.out (by simp [dioramalaw08_FieldSets.j0])
  | succ kj2 =>
   have H := HA.out
   clear HA
   simp only [dioramalaw08_FieldSets.j0] at H
   by_cases c15 : x20_2 = true
   ·subst c15
    have H1 : ((dioramalaw08_awake.f kj2).bind fun t270 => (some t270)) = some r := by rw [if_pos rfl] at H; exact H
    clear H
    have H := H1
    clear H1
    replace H := Option.bind_eq_some_iff.mp H
    obtain ⟨t270, A160, H⟩ := H
    replace H : (some t270) = some r := H
    have A16 := Aside0.mk A160
    clear A160
    obtain rfl := Option.some.inj H
    go_wp2_with (first | ((with_reducible refine gate_callee (f := 13) rfl ?_); refine goesL_ (some 21) rfl rfl Tryd.func13 (by kernel_rfl) rfl #[] rfl (by (try simp only [List.map_toArray, List.map_cons, List.map_nil]); first | done | rfl | (simp only [List.length_drop, List.length_take]; rfl)) ?_; (with_reducible refine (dioramalaw08_awake.calls kj2  t270 _ (fun w_ hb_ => HTB_.out w_ (below_step (BB HB) hb_)) A16.out).mono ?_); rintro e w17 ⟨rfl, hb⟩; refine ⟨_, rfl, ?_⟩; have n0_ := BE BK267 hb; have n1_ := Aside0.mk (below_step (BB HB) hb); clear BK267; clear HB; have BK267 := n0_; have HB := n1_; clear n0_ n1_; (try clear hb); (try clear hb2); (try clear hk); (try clear hi)))
    go_ret
    exact ⟨by first | rfl | (simp [errW_none, errW_some] <;> rfl) | (simp [*, errW_none, errW_some] <;> rfl), BB HB⟩
   ·replace c15 := Bool.eq_false_iff.mpr c15
    subst c15
    have H1 : ((dioramaref08_Copy.f a0_0 l0_1 l0_2 l0_3).bind fun bt271 => ((some (([] : List (S75)) : List (S75))).bind fun y282 => (if y282.length + l1.length < 3518437208883 then ((field_Set.f kj2 bt271.1 bt271.2.1 bt271.2.2.1 bt271.2.2.2 (y282 ++ l1)).bind fun bt288 => ((dioramaref08_Set.f kj2 a0_0 l0_1 l0_2 l0_3 l1).bind fun bt300 => (if bt288.2.2.2.2 = bt300.2.2.2.2 then ((dioramaref08_Same.f kj2 bt288.1 bt288.2.1 bt288.2.2.1 bt288.2.2.2.1 bt300.1 bt300.2.1 bt300.2.2.1 bt300.2.2.2.1).bind fun t312 => (if t312 = true then ((dioramaref08_Same.f kj2 bt271.1 bt271.2.1 bt271.2.2.1 bt271.2.2.2 a0_0 l0_1 l0_2 l0_3).bind fun t313 => (some t313)) else (none))) else (none)))) else (none)))) = some r := by rw [if_neg (show ¬ (false = true) by decide)] at H; exact H
    clear H
    have H := H1
    clear H1
    replace H := Option.bind_eq_some_iff.mp H
    obtain ⟨⟨t271, t272, t275, t278⟩, A180, H⟩ := H
    replace H : ((some (([] : List (S75)) : List (S75))).bind fun y282 => (if y282.length + l1.length < 3518437208883 then ((field_Set.f kj2 t271 t272 t275 t278 (y282 ++ l1)).bind fun bt288 => ((dioramaref08_Set.f kj2 a0_0 l0_1 l0_2 l0_3 l1).bind fun bt300 => (if bt288.2.2.2.2 = bt300.2.2.2.2 then ((dioramaref08_Same.f kj2 bt288.1 bt288.2.1 bt288.2.2.1 bt288.2.2.2.1 bt300.1 bt300.2.1 bt300.2.2.1 bt300.2.2.2.1).bind fun t312 => (if t312 = true then ((dioramaref08_Same.f kj2 t271 t272 t275 t278 a0_0 l0_1 l0_2 l0_3).bind fun t313 => (some t313)) else (none))) else (none)))) else (none))) = some r := H
    have A18 := Aside0.mk A180
    clear A180
    obtain ⟨y282, hy282⟩ : ∃ y_ : List (S75), y_ = (([] : List (S75))) := ⟨_, rfl⟩
    replace H : (if y282.length + l1.length < 3518437208883 then ((field_Set.f kj2 t271 t272 t275 t278 (y282 ++ l1)).bind fun bt288 => ((dioramaref08_Set.f kj2 a0_0 l0_1 l0_2 l0_3 l1).bind fun bt300 => (if bt288.2.2.2.2 = bt300.2.2.2.2 then ((dioramaref08_Same.f kj2 bt288.1 bt288.2.1 bt288.2.2.1 bt288.2.2.2.1 bt300.1 bt300.2.1 bt300.2.2.1 bt300.2.2.2.1).bind fun t312 => (if t312 = true then ((dioramaref08_Same.f kj2 t271 t272 t275 t278 a0_0 l0_1 l0_2 l0_3).bind fun t313 => (some t313)) else (none))) else (none)))) else (none)) = some r := by first | (rw [hy282]; with_reducible exact H) | (have H2_ := (Option.bind_some _ _).symm.trans H; rw [hy282]; with_reducible exact H2_) | (have H2_ := (Option.bind_some _ _).symm.trans H; with_reducible exact H2_) | with_reducible exact H | (rw [hy282]; exact H) | exact H
    have Ny282 := Aside0.mk hy282
    clear hy282
    by_cases c19 : y282.length + l1.length < 3518437208883
    ·rw [if_pos c19] at H
     have LMc19 := Aside0.mk c19
     clear c19
     obtain ⟨y285, hy285⟩ : ∃ y_ : List (S75), y_ = (y282 ++ l1) := ⟨_, rfl⟩
     replace H : ((field_Set.f kj2 t271 t272 t275 t278 y285).bind fun bt288 => ((dioramaref08_Set.f kj2 a0_0 l0_1 l0_2 l0_3 l1).bind fun bt300 => (if bt288.2.2.2.2 = bt300.2.2.2.2 then ((dioramaref08_Same.f kj2 bt288.1 bt288.2.1 bt288.2.2.1 bt288.2.2.2.1 bt300.1 bt300.2.1 bt300.2.2.1 bt300.2.2.2.1).bind fun t312 => (if t312 = true then ((dioramaref08_Same.f kj2 t271 t272 t275 t278 a0_0 l0_1 l0_2 l0_3).bind fun t313 => (some t313)) else (none))) else (none)))) = some r := by first | (rw [hy285]; with_reducible exact H) | (have H2_ := (Option.bind_some _ _).symm.trans H; rw [hy285]; with_reducible exact H2_) | (have H2_ := (Option.bind_some _ _).symm.trans H; with_reducible exact H2_) | with_reducible exact H | (rw [hy285]; exact H) | exact H
     have Ny285 := Aside0.mk hy285
     clear hy285
     replace H := Option.bind_eq_some_iff.mp H
     obtain ⟨⟨t288, t289, t292, t295, t298⟩, A200, H⟩ := H
     replace H : ((dioramaref08_Set.f kj2 a0_0 l0_1 l0_2 l0_3 l1).bind fun bt300 => (if t298 = bt300.2.2.2.2 then ((dioramaref08_Same.f kj2 t288 t289 t292 t295 bt300.1 bt300.2.1 bt300.2.2.1 bt300.2.2.2.1).bind fun t312 => (if t312 = true then ((dioramaref08_Same.f kj2 t271 t272 t275 t278 a0_0 l0_1 l0_2 l0_3).bind fun t313 => (some t313)) else (none))) else (none))) = some r := H
     have A20 := Aside0.mk A200
     clear A200
     replace H := Option.bind_eq_some_iff.mp H
     obtain ⟨⟨t300, t301, t304, t307, t310⟩, A210, H⟩ := H
     replace H : (if t298 = t310 then ((dioramaref08_Same.f kj2 t288 t289 t292 t295 t300 t301 t304 t307).bind fun t312 => (if t312 = true then ((dioramaref08_Same.f kj2 t271 t272 t275 t278 a0_0 l0_1 l0_2 l0_3).bind fun t313 => (some t313)) else (none))) else (none)) = some r := H
     have A21 := Aside0.mk A210
     clear A210
     by_cases c22 : t298 = t310
     ·rw [if_pos c22] at H
      have c22b0 : (t298 == t310) = true := beq_iff_eq.mpr c22
      have c22b1 : (t298 != t310) = false := bne_eq_false_iff_eq.mpr c22
      clear c22
      replace H := Option.bind_eq_some_iff.mp H
      obtain ⟨t312, A230, H⟩ := H
      replace H : (if t312 = true then ((dioramaref08_Same.f kj2 t271 t272 t275 t278 a0_0 l0_1 l0_2 l0_3).bind fun t313 => (some t313)) else (none)) = some r := H
      have A23 := Aside0.mk A230
      clear A230
      by_cases c24 : t312 = true
      ·subst c24
       have H1 : ((dioramaref08_Same.f kj2 t271 t272 t275 t278 a0_0 l0_1 l0_2 l0_3).bind fun t313 => (some t313)) = some r := by rw [if_pos rfl] at H; exact H
       clear H
       have H := H1
       clear H1
       replace H := Option.bind_eq_some_iff.mp H
       obtain ⟨t313, A250, H⟩ := H
       replace H : (some t313) = some r := H
       have A25 := Aside0.mk A250
       clear A250
       obtain rfl := Option.some.inj H
       have hcz26_0 : wc.cell? ⟨gb267, 0, none⟩ = some (.int .i64 a0_0) := (blk_cell BK267.out 0).trans rfl
       have hcz26_1 : wc.cell? ⟨gb267, 1, none⟩ = some (.slice A0_1 l0_1.length c0_1) := (blk_cell BK267.out 1).trans rfl
       have hcz26_2 : wc.cell? ⟨gb267, 2, none⟩ = some (.slice A0_2 l0_2.length c0_2) := (blk_cell BK267.out 2).trans rfl
       have hcz26_3 : wc.cell? ⟨gb267, 3, none⟩ = some (.slice A0_3 l0_3.length c0_3) := (blk_cell BK267.out 3).trans rfl
       have hfz26_0 := blk_frozen BK267.out 0
       have hfz26_1 := blk_frozen BK267.out 1
       have hfz26_2 := blk_frozen BK267.out 2
       have hfz26_3 := blk_frozen BK267.out 3
       try go_wp2_with (first | ((with_reducible refine gate_callee (f := 16) rfl ?_); refine goesL_ (some 23) rfl rfl Tryd.func16 (by kernel_rfl) rfl #[.agg #[.int .i64 a0_0, .slice A0_1 l0_1.length c0_1, .slice A0_2 l0_2.length c0_2, .slice A0_3 l0_3.length c0_3]] rfl (by (try simp only [List.map_toArray, List.map_cons, List.map_nil]); first | done | rfl | (simp only [List.length_drop, List.length_take]; rfl)) ?_; (with_reducible refine (dioramaref08_Copy.calls a0_0 _ _ l0_1 _ _ l0_2 _ _ l0_3 t271 t272 t275 t278 _ ?side1 ?side2 ?side3 ?side4 ?side5 ?side6 A18.out).mono ?_); (case side1 => repeat (first | exact (Kd.C_below HR0_1.out HB.out) | (with_reducible refine Kd.C_alloc ?_ _) | (with_reducible refine Kd.C_drewN ?_ _) | (with_reducible refine Kd.C_drew ?_))); (case side2 => exact HC0_1.out); (case side3 => repeat (first | exact (Kd.C_below HR0_2.out HB.out) | (with_reducible refine Kd.C_alloc ?_ _) | (with_reducible refine Kd.C_drewN ?_ _) | (with_reducible refine Kd.C_drew ?_))); (case side4 => exact HC0_2.out); (case side5 => repeat (first | exact (Kd.C_below HR0_3.out HB.out) | (with_reducible refine Kd.C_alloc ?_ _) | (with_reducible refine Kd.C_drewN ?_ _) | (with_reducible refine Kd.C_drew ?_))); (case side6 => exact HC0_3.out); rintro e w27 ⟨v273, v276, v279, rfl, ho0, ho1, ho2, hb⟩; refine ⟨_, rfl, ?_⟩; have n0_ := Aside0.mk (Kd.R_lower ho0 (below_size (BB HB))); have n1_ := Aside0.mk (Kd.R_lower ho1 (below_size (BB HB))); have n2_ := Aside0.mk (Kd.R_lower ho2 (below_size (BB HB))); have n3_ := BE BK267 hb; have n4_ := Aside0.mk (below_step (BB HB) hb); clear BK267; clear HB; have HO274 := n0_; have HO277 := n1_; have HO280 := n2_; have BK267 := n3_; have HB := n4_; clear n0_ n1_ n2_ n3_ n4_; (try clear hb); (try clear hb2); (try clear hk); (try clear hi); (try clear ho0); (try clear ho1); (try clear ho2)) | ((with_reducible refine gate_dst (N := 5) rfl ?_); refine box_event ?hg (N := 5) ?hd (cs := #[.int .i64 0, .slice none 0 0, .slice none 0 0, .slice none 0 0]) (t := 26) ?hr ?_; (case hd => rfl); (case hg => rfl); (case hr => first | (go_simp; done) | (go_simp; rfl)); intro gb281 hg w28 hbox hb; have n0_ := Aside0.mk (Kd.R_below (RL HO274) hb); have n1_ := Aside0.mk (Kd.R_below (RL HO277) hb); have n2_ := Aside0.mk (Kd.R_below (RL HO280) hb); have n3_ := BE BK267 hb; have n4_ := Aside0.mk (below_step (BB HB) hb); have n5_ := Aside0.mk (hbox); have n6_ := Aside0.mk ((by rw [hg]; exact (below_size (BB HB)) : w.heap.size ≤ gb281)); have n7_ := Aside0.mk ((by rw [hg]; exact (below_size (BB HB)) : w.heap.size ≤ gb281)); have n8_ := Aside0.mk ((by rw [hg]; exact Nat.ne_of_lt (blk_lt (g := gb267) (o := .cells #[.int .i64 a0_0, .slice A0_1 l0_1.length c0_1, .slice A0_2 l0_2.length c0_2, .slice A0_3 l0_3.length c0_3] 26 (0, 0)) (BL BK267)) : gb267 ≠ gb281)); have n9_ := Aside0.mk ((by rw [hg]; exact Nat.ne_of_gt (blk_lt (g := gb267) (o := .cells #[.int .i64 a0_0, .slice A0_1 l0_1.length c0_1, .slice A0_2 l0_2.length c0_2, .slice A0_3 l0_3.length c0_3] 26 (0, 0)) (BL BK267)) : gb281 ≠ gb267)); clear HO274; clear HO277; clear HO280; clear BK267; clear HB; have HO274 := n0_; have HO277 := n1_; have HO280 := n2_; have BK267 := n3_; have HB := n4_; have BK281 := n5_; have GW281 := n6_; have GE281 := n7_; have NB267_281 := n8_; have NB281_267 := n9_; clear n0_ n1_ n2_ n3_ n4_ n5_ n6_ n7_ n8_ n9_; clear hb hbox hg; have hnb29 := NB281_267.out; have hnc29 := NB267_281.out; have hcz30_0 : w28.cell? ⟨gb281, 0, none⟩ = some (.int .i64 0) := (blk_cell BK281.out 0).trans rfl; have hcz30_1 : w28.cell? ⟨gb281, 1, none⟩ = some (.slice none 0 0) := (blk_cell BK281.out 1).trans rfl; have hcz30_2 : w28.cell? ⟨gb281, 2, none⟩ = some (.slice none 0 0) := (blk_cell BK281.out 2).trans rfl; have hcz30_3 : w28.cell? ⟨gb281, 3, none⟩ = some (.slice none 0 0) := (blk_cell BK281.out 3).trans rfl; have hfz30_0 := blk_frozen BK281.out 0; have hfz30_1 := blk_frozen BK281.out 1; have hfz30_2 := blk_frozen BK281.out 2; have hfz30_3 := blk_frozen BK281.out 3; obtain ⟨Ao31, co31, eo31⟩ := Kd.R_slice HO274.out; subst eo31; obtain ⟨Ao32, co32, eo32⟩ := Kd.R_slice HO277.out; subst eo32; obtain ⟨Ao33, co33, eo33⟩ := Kd.R_slice HO280.out; subst eo33))
       have n0_ : Aside0 (Kd.R (Kd.int .i64) 2 ((((w28.setCell ⟨gb281, 0, none⟩ (.int .i64 t271)).setCell ⟨gb281, 1, none⟩ (.slice Ao31 t272.length co31)).setCell ⟨gb281, 2, none⟩ (.slice Ao32 t275.length co32)).setCell ⟨gb281, 3, none⟩ (.slice Ao33 t278.length co33)) w.heap.size (fun _ => True) (.slice Ao31 t272.length co31) t272) := ⟨by exact Kd.R_mono (Kd.R_far (p := ⟨gb281, 3, none⟩) (Kd.R_far (p := ⟨gb281, 2, none⟩) (Kd.R_far (p := ⟨gb281, 1, none⟩) (Kd.R_far (p := ⟨gb281, 0, none⟩) (Kd.R_types HO274.out BK281.out (by decide)) (fun _ hk => hk.2) (.int .i64 t271)) (fun _ hk => hk.2) (.slice Ao31 t272.length co31)) (fun _ hk => hk.2) (.slice Ao32 t275.length co32)) (fun _ hk => hk.2) (.slice Ao33 t278.length co33)) (fun _ hk => trivial)⟩
       have n1_ : Aside0 (Kd.R Kd.string 9 ((((w28.setCell ⟨gb281, 0, none⟩ (.int .i64 t271)).setCell ⟨gb281, 1, none⟩ (.slice Ao31 t272.length co31)).setCell ⟨gb281, 2, none⟩ (.slice Ao32 t275.length co32)).setCell ⟨gb281, 3, none⟩ (.slice Ao33 t278.length co33)) w.heap.size (fun _ => True) (.slice Ao32 t275.length co32) t275) := ⟨by exact Kd.R_mono (Kd.R_far (p := ⟨gb281, 3, none⟩) (Kd.R_far (p := ⟨gb281, 2, none⟩) (Kd.R_far (p := ⟨gb281, 1, none⟩) (Kd.R_far (p := ⟨gb281, 0, none⟩) (Kd.R_types HO277.out BK281.out (by decide)) (fun _ hk => hk.2) (.int .i64 t271)) (fun _ hk => hk.2) (.slice Ao31 t272.length co31)) (fun _ hk => hk.2) (.slice Ao32 t275.length co32)) (fun _ hk => hk.2) (.slice Ao33 t278.length co33)) (fun _ hk => trivial)⟩
       have n2_ : Aside0 (Kd.R (Kd.int .i64) 3 ((((w28.setCell ⟨gb281, 0, none⟩ (.int .i64 t271)).setCell ⟨gb281, 1, none⟩ (.slice Ao31 t272.length co31)).setCell ⟨gb281, 2, none⟩ (.slice Ao32 t275.length co32)).setCell ⟨gb281, 3, none⟩ (.slice Ao33 t278.length co33)) w.heap.size (fun _ => True) (.slice Ao33 t278.length co33) t278) := ⟨by exact Kd.R_mono (Kd.R_far (p := ⟨gb281, 3, none⟩) (Kd.R_far (p := ⟨gb281, 2, none⟩) (Kd.R_far (p := ⟨gb281, 1, none⟩) (Kd.R_far (p := ⟨gb281, 0, none⟩) (Kd.R_types HO280.out BK281.out (by decide)) (fun _ hk => hk.2) (.int .i64 t271)) (fun _ hk => hk.2) (.slice Ao31 t272.length co31)) (fun _ hk => hk.2) (.slice Ao32 t275.length co32)) (fun _ hk => hk.2) (.slice Ao33 t278.length co33)) (fun _ hk => trivial)⟩
       have n3_ : Aside0 (((((w28.setCell ⟨gb281, 0, none⟩ (.int .i64 t271)).setCell ⟨gb281, 1, none⟩ (.slice Ao31 t272.length co31)).setCell ⟨gb281, 2, none⟩ (.slice Ao32 t275.length co32)).setCell ⟨gb281, 3, none⟩ (.slice Ao33 t278.length co33)).heap[gb267]? = some (.cells #[.int .i64 a0_0, .slice A0_1 l0_1.length c0_1, .slice A0_2 l0_2.length c0_2, .slice A0_3 l0_3.length c0_3] 26 (0, 0))) := ⟨by refine blk_far ?_ NB267_281.out _; refine blk_far ?_ NB267_281.out _; refine blk_far ?_ NB267_281.out _; refine blk_far ?_ NB267_281.out _; (with_reducible repeat (first | refine blk_drewN ?_ _ | refine blk_drew ?_ | refine blk_alloc ?_ _)); exact BK267.out⟩
       have n4_ : Aside0 (((((w28.setCell ⟨gb281, 0, none⟩ (.int .i64 t271)).setCell ⟨gb281, 1, none⟩ (.slice Ao31 t272.length co31)).setCell ⟨gb281, 2, none⟩ (.slice Ao32 t275.length co32)).setCell ⟨gb281, 3, none⟩ (.slice Ao33 t278.length co33)).heap[gb281]? = some (.cells #[.int .i64 t271, .slice Ao31 t272.length co31, .slice Ao32 t275.length co32, .slice Ao33 t278.length co33] 26 (0, 0))) := ⟨by refine blk_put (cs := #[.int .i64 t271, .slice Ao31 t272.length co31, .slice Ao32 t275.length co32, .slice none 0 0]) ?_ 3 _ rfl; refine blk_put (cs := #[.int .i64 t271, .slice Ao31 t272.length co31, .slice none 0 0, .slice none 0 0]) ?_ 2 _ rfl; refine blk_put (cs := #[.int .i64 t271, .slice none 0 0, .slice none 0 0, .slice none 0 0]) ?_ 1 _ rfl; refine blk_put (cs := #[.int .i64 0, .slice none 0 0, .slice none 0 0, .slice none 0 0]) ?_ 0 _ rfl; (with_reducible repeat (first | refine blk_drewN ?_ _ | refine blk_drew ?_ | refine blk_alloc ?_ _)); exact BK281.out⟩
       have n5_ : Aside0 (Below w.heap.size w ((((w28.setCell ⟨gb281, 0, none⟩ (.int .i64 t271)).setCell ⟨gb281, 1, none⟩ (.slice Ao31 t272.length co31)).setCell ⟨gb281, 2, none⟩ (.slice Ao32 t275.length co32)).setCell ⟨gb281, 3, none⟩ (.slice Ao33 t278.length co33))) := ⟨BB HB⟩
       (try clear HO274)
       (try clear HO277)
       (try clear HO280)
       (try clear BK267)
       (try clear BK281)
       (try clear HB)
       generalize ((((w28.setCell ⟨gb281, 0, none⟩ (.int .i64 t271)).setCell ⟨gb281, 1, none⟩ (.slice Ao31 t272.length co31)).setCell ⟨gb281, 2, none⟩ (.slice Ao32 t275.length co32)).setCell ⟨gb281, 3, none⟩ (.slice Ao33 t278.length co33)) = w34 at n0_ n1_ n2_ n3_ n4_ n5_ ⊢
       have HO274 := n0_
       have HO277 := n1_
       have HO280 := n2_
       have BK267 := n3_
       have BK281 := n4_
       have HB := n5_
       clear n0_ n1_ n2_ n3_ n4_ n5_
       have n0_ := Aside0.mk (Kd.R_drew HO274.out)
       have n1_ := Aside0.mk (Kd.R_drew HO277.out)
       have n2_ := Aside0.mk (Kd.R_drew HO280.out)
       have n3_ := Aside0.mk (blk_drew BK267.out)
       have n4_ := Aside0.mk (blk_drew BK281.out)
       have n5_ := Aside0.mk (below_drew1 HB.out)
       clear HO274
       clear HO277
       clear HO280
       clear BK267
       clear BK281
       clear HB
       have HO274 := n0_
       have HO277 := n1_
       have HO280 := n2_
       have BK267 := n3_
       have BK281 := n4_
       have HB := n5_
       clear n0_ n1_ n2_ n3_ n4_ n5_
       refine start_ (n := 11) (S := fun w' => w'.cell? ⟨gb281, 0, none⟩ = some (.int .i64 t271) ∧ w'.cell? ⟨gb281, 1, none⟩ = some (.slice Ao31 t272.length co31) ∧ w'.cell? ⟨gb281, 2, none⟩ = some (.slice Ao32 t275.length co32) ∧ w'.cell? ⟨gb281, 3, none⟩ = some (.slice Ao33 t278.length co33)) (ds := []) #[false, false, false, false, false, false, false, false, false, false, false] (by kernel_rfl) rfl rfl ⟨(blk_cell BK281.out 0).trans rfl, (blk_cell BK281.out 1).trans rfl, (blk_cell BK281.out 2).trans rfl, (blk_cell BK281.out 3).trans rfl⟩ (fun hHeld => ?_); refine with_tabW dioramalaw08_FieldSets.tab4 dioramalaw08_FieldSets.bits4 (fun HT_ HW_ => ?_)
       generalize w34.drew = w35 at HO274 HO277 HO280 BK267 BK281 HB hHeld ⊢
       refine pure_ (i := 2) (N := some 27) (v := ?_) (a' := ?_) #[false, false, true, false, false, false, false, false, false, false, false] rfl rfl (any_of HT_.out (by kernel_rfl)) (fun _ _ _ h => h) (Or.inl ⟨by rfl, ?_⟩) ?_ ?_
       rotate_left
       ·intro w'
        go_simp
        with_reducible rfl
       rotate_left
       ·simp only [Act.put, List.setIfInBounds_toArray, List.set_cons_zero, List.set_cons_succ, i64_w, i32_w]
        rfl
       refine take_ (i := 0) (N := some 25) (v := ?_) (a' := ?_) #[true, false, true, false, false, false, false, false, false, false, false] rfl rfl (take_ofW HT_.out HW_.out (by kernel_rfl)) (fun _ _ _ h => h) (Or.inl ⟨by rfl, ?_⟩) hHeld ?_ ?_
       rotate_left
       ·rintro w' ⟨s0, s1, s2, s3⟩
        go_simp
        with_reducible rfl
       rotate_left
       ·simp only [Act.put, List.setIfInBounds_toArray, List.set_cons_zero, List.set_cons_succ, i64_w, i32_w]
        rfl
       refine join_ (σ := Value × Value × Value × Value × Value × Nat) 2 #[true, true, true, true, true, true, true, true, true, false, false] (fun s_ => [(26, s_.1), (28, s_.2.1), (29, .tuple #[.agg #[.int .i64 t288, s_.2.2.1, s_.2.2.2.1, s_.2.2.2.2.1], .int .i64 t298]), (6, .pointer (some ⟨s_.2.2.2.2.2, 0, none⟩)), (24, .tuple #[.agg #[.int .i64 t288, s_.2.2.1, s_.2.2.2.1, s_.2.2.2.2.1], .int .i64 t298]), (30, .agg #[.int .i64 t288, s_.2.2.1, s_.2.2.2.1, s_.2.2.2.2.1]), (31, .int .i64 t298)]) (fun s_ w' => (w'.cell? ⟨gb281, 0, none⟩ = some (.int .i64 t271) ∧ w'.cell? ⟨gb281, 1, none⟩ = some (.slice Ao31 t272.length co31) ∧ w'.cell? ⟨gb281, 2, none⟩ = some (.slice Ao32 t275.length co32) ∧ w'.cell? ⟨gb281, 3, none⟩ = some (.slice Ao33 t278.length co33)) ∧ (Kd.R (Kd.int .i64) 2 w' w.heap.size (fun k_ => some k_ ≠ (s_.2.2.1 : Value).ownBlock) (.slice Ao31 t272.length co31) t272) ∧ (Kd.R Kd.string 9 w' w.heap.size (fun k_ => some k_ ≠ (s_.2.2.2.1 : Value).ownBlock) (.slice Ao32 t275.length co32) t275) ∧ (Kd.R (Kd.int .i64) 3 w' w.heap.size (fun k_ => some k_ ≠ (s_.2.2.2.2.1 : Value).ownBlock) (.slice Ao33 t278.length co33) t278) ∧ (Kd.R k75 75 w' w.heap.size (fun _ => True) s_.2.1 y285) ∧ (Kd.R (Kd.int .i64) 2 w' w.heap.size (fun k_ => some k_ ≠ (.slice Ao31 t272.length co31 : Value).ownBlock) s_.2.2.1 t289) ∧ (Kd.R Kd.string 9 w' w.heap.size (fun k_ => some k_ ≠ (.slice Ao32 t275.length co32 : Value).ownBlock) s_.2.2.2.1 t292) ∧ (Kd.R (Kd.int .i64) 3 w' w.heap.size (fun k_ => some k_ ≠ (.slice Ao33 t278.length co33 : Value).ownBlock) s_.2.2.2.2.1 t295) ∧ (w'.heap[gb267]? = some (.cells #[.int .i64 a0_0, .slice A0_1 l0_1.length c0_1, .slice A0_2 l0_2.length c0_2, .slice A0_3 l0_3.length c0_3] 26 (0, 0))) ∧ (w'.heap[gb281]? = some (.cells #[.int .i64 t271, .slice Ao31 t272.length co31, .slice Ao32 t275.length co32, .slice Ao33 t278.length co33] 26 (0, 0))) ∧ (w'.heap[s_.2.2.2.2.2]? = some (.cells #[.int .i64 0, .slice none 0 0, .slice none 0 0, .slice none 0 0] 26 (0, 0))) ∧ (w.heap.size ≤ s_.2.2.2.2.2) ∧ (w.heap.size ≤ s_.2.2.2.2.2) ∧ (gb267 ≠ s_.2.2.2.2.2) ∧ (s_.2.2.2.2.2 ≠ gb267) ∧ (gb281 ≠ s_.2.2.2.2.2) ∧ (s_.2.2.2.2.2 ≠ gb281) ∧ (Below w.heap.size w w')) ?_ ?_
       rotate_left
       ·intro hCont
        refine two_ (i := 1) (j := 8) (Ni := some 26) (Nj := some 6) #[true, true, true, false, false, false, false, false, false, false, false] #[true, false, true, false, false, false, false, false, true, false, false] rfl rfl rfl rfl (two_of HT_.out (by kernel_rfl)) (by decide) (by decide) (fun K hK => ?_) (fun K hK => ?_)
        ·skip
         refine Kd.R_lit_step k75 _ 75 ?hg (N := 26) ?hd (xs := ([] : List (S75))) (inner := []) (ok := fun _ => True) (okp := fun _ => True) ?hr ?hp (fun _ hk => hk) trivial (Below.refl _ _) (Nat.le_refl _) (by simp) ?_; (case hd => rfl); (case hg => rfl); (case hr => first | (go_simp; done) | (go_simp; rfl)); (case hp => exact (Reps.none _ _))
         intro v283 w36 ho37 hb hg_ hnew_
         clear hg_ hnew_
         (first | rw [← Ny282.out] at ho37 | (simp only [Int.reduceToNat] at ho37; rw [← Ny282.out] at ho37))
         have n0_ := Aside0.mk (Kd.R_below (RL HO274) hb)
         have n1_ := Aside0.mk (Kd.R_below (RL HO277) hb)
         have n2_ := Aside0.mk (Kd.R_below (RL HO280) hb)
         have n3_ := Aside0.mk (Kd.R_lower ho37 (below_size (BB HB)))
         have n4_ := BE BK267 hb
         have n5_ := BE BK281 hb
         have n6_ := Aside0.mk (below_step (BB HB) hb)
         clear HO274
         clear HO277
         clear HO280
         clear BK267
         clear BK281
         clear HB
         have HO274 := n0_
         have HO277 := n1_
         have HO280 := n2_
         have HO284 := n3_
         have BK267 := n4_
         have BK281 := n5_
         have HB := n6_
         clear n0_ n1_ n2_ n3_ n4_ n5_ n6_
         clear hb ho37
         refine hK.out _ _ ⟨(blk_cell BK281.out 0).trans rfl, (blk_cell BK281.out 1).trans rfl, (blk_cell BK281.out 2).trans rfl, (blk_cell BK281.out 3).trans rfl⟩ (fun hHeld => ?_)
         clear hK K
         refine norm_ (a' := ?_) ?_ ?_
         rotate_left
         ·show Act.put _ (some 26) _ = _
          simp only [Act.put, List.setIfInBounds_toArray, List.set_cons_zero, List.set_cons_succ, i64_w, i32_w]
          rfl
         refine two_ (i := 3) (j := 8) (Ni := some 28) (Nj := some 6) #[true, true, true, true, false, false, false, false, false, false, false] #[true, true, true, false, false, false, false, false, true, false, false] rfl rfl rfl rfl (two_of HT_.out (by kernel_rfl)) (by decide) (by decide) (fun K hK => ?_) (fun K hK => ?_)
         ·skip
          refine Kd.R_append_rows_step k75 (w0 := w) w.heap.size (by rfl) (.tmp 26) (.tmp 27) 36 75 (.agg #[(.bool false), (.int .i64 0), (.int .i64 0), (.string ⟨#[]⟩)]) 40 rfl Tryd.underlying36 info75 rfl (by decide) (by omega) v283 y282 l1 _ _ _ (fun _ => True) (fun _ => False) rfl rfl ?aO ?aR (fun _ _ h => h) (fun _ h => h.elim) ?aF ?aB ?aS ?aL ?_
          (case aR => repeat (first | exact (Kd.C_below HR1.out HB.out) | (with_reducible refine Kd.C_alloc ?_ _) | (with_reducible refine Kd.C_drewN ?_ _) | (with_reducible refine Kd.C_drew ?_)))
          (case aB => exact (BB HB))
          (case aF => exact (fun _ _ => trivial))
          (case aO => exact (RL HO284))
          (case aS => exact (below_size (BB HB)))
          (case aL => have := LMc19.out; omega)
          intro v286 w38 ho hb hg hat
          rw [← Ny285.out] at ho
          have n0_ := Aside0.mk (blk_grown (g := gb267) (o := .cells #[.int .i64 a0_0, .slice A0_1 l0_1.length c0_1, .slice A0_2 l0_2.length c0_2, .slice A0_3 l0_3.length c0_3] 26 (0, 0)) (BL BK267) hg (Kd.R_ne HO284.out BK267.out (by decide)))
          have n1_ := Aside0.mk (Kd.R_over' (RL HO274) (Kd.R_typed (RL HO284)) (by decide) hg)
          have n2_ := Aside0.mk (Kd.R_over' (RL HO277) (Kd.R_typed (RL HO284)) (by decide) hg)
          have n3_ := Aside0.mk (Kd.R_over' (RL HO280) (Kd.R_typed (RL HO284)) (by decide) hg)
          have n4_ := Aside0.mk (blk_grown (g := gb281) (o := .cells #[.int .i64 t271, .slice Ao31 t272.length co31, .slice Ao32 t275.length co32, .slice Ao33 t278.length co33] 26 (0, 0)) (BL BK281) hg (Kd.R_ne HO284.out BK281.out (by decide)))
          have n5_ := Aside0.mk (hb)
          have n6_ := Aside0.mk (ho)
          clear BK267
          clear HO274
          clear HO277
          clear HO280
          clear BK281
          clear HB
          clear HO284
          have BK267 := n0_
          have HO274 := n1_
          have HO277 := n2_
          have HO280 := n3_
          have BK281 := n4_
          have HB := n5_
          have HO287 := n6_
          clear n0_ n1_ n2_ n3_ n4_ n5_ n6_
          clear ho hb hg hat
          obtain ⟨Ao39, co39, eo39⟩ := Kd.R_slice HO287.out
          (first | subst eo39 | (injection eo39 with f1_ f2_ f3_; have f4_ := f1_.symm; have f5_ := f3_.symm; clear f1_ f2_ f3_; subst f4_; subst f5_))
          refine hK.out _ _ ⟨(blk_cell BK281.out 0).trans rfl, (blk_cell BK281.out 1).trans rfl, (blk_cell BK281.out 2).trans rfl, (blk_cell BK281.out 3).trans rfl⟩ (fun hHeld => ?_)
          clear hK K
          refine norm_ (a' := ?_) ?_ ?_
          rotate_left
          ·show Act.put _ (some 28) _ = _
           simp only [Act.put, List.setIfInBounds_toArray, List.set_cons_zero, List.set_cons_succ, i64_w, i32_w]
           rfl
          refine two_ (i := 4) (j := 8) (Ni := some 29) (Nj := some 6) #[true, true, true, true, true, false, false, false, false, false, false] #[true, true, true, true, false, false, false, false, true, false, false] rfl rfl rfl rfl (two_of HT_.out (by kernel_rfl)) (by decide) (by decide) (fun K hK => ?_) (fun K hK => ?_)
          ·skip
           refine goes_ Tryd.func18 (by kernel_rfl) rfl #[.agg #[.int .i64 t271, .slice Ao31 t272.length co31, .slice Ao32 t275.length co32, .slice Ao33 t278.length co33], .slice Ao39 y285.length co39] (by rfl) rfl rfl (by (try simp only [List.map_toArray, List.map_cons, List.map_nil]); first | done | rfl | (simp only [List.length_drop, List.length_take]; rfl)) ?_
           with_reducible refine (field_Set.calls kj2 t271 _ _ t272 _ _ t275 _ _ t278 _ _ y285 t288 t289 t292 t295 t298 _ ?side1 ?side2 ?side3 ?side4 ?side5 ?side6 ?side7 ?side8 A20.out).mono ?_
           (case side1 => exact CR HO274)
           (case side2 => exact (Kd.R_reads' HO274.out).2.1)
           (case side3 => exact CR HO277)
           (case side4 => exact (Kd.R_reads' HO277.out).2.1)
           (case side5 => exact CR HO280)
           (case side6 => exact (Kd.R_reads' HO280.out).2.1)
           (case side7 => exact CR HO287)
           (case side8 => exact (Kd.R_reads' HO287.out).2.1)
           rintro e w40 ⟨v290, v293, v296, rfl, ho0, ho1, ho2, hb⟩
           refine ⟨_, rfl, ?_⟩
           have n0_ := Aside0.mk (Kd.R_elder' (RL HO274) (Kd.R_base ho0) hb)
           have n1_ := Aside0.mk (Kd.R_elder' (RL HO277) (Kd.R_base ho1) hb)
           have n2_ := Aside0.mk (Kd.R_elder' (RL HO280) (Kd.R_base ho2) hb)
           have n3_ := Aside0.mk (Kd.R_below (RL HO287) hb)
           have n4_ := Aside0.mk (Kd.R_lower (Kd.R_new' ho0 (Kd.R_lt (RL HO274))) (below_size (BB HB)))
           have n5_ := Aside0.mk (Kd.R_lower (Kd.R_new' ho1 (Kd.R_lt (RL HO277))) (below_size (BB HB)))
           have n6_ := Aside0.mk (Kd.R_lower (Kd.R_new' ho2 (Kd.R_lt (RL HO280))) (below_size (BB HB)))
           have n7_ := BE BK267 hb
           have n8_ := BE BK281 hb
           have n9_ := Aside0.mk (below_step (BB HB) hb)
           clear HO274
           clear HO277
           clear HO280
           clear HO287
           clear BK267
           clear BK281
           clear HB
           have HO274 := n0_
           have HO277 := n1_
           have HO280 := n2_
           have HO287 := n3_
           have HO291 := n4_
           have HO294 := n5_
           have HO297 := n6_
           have BK267 := n7_
           have BK281 := n8_
           have HB := n9_
           clear n0_ n1_ n2_ n3_ n4_ n5_ n6_ n7_ n8_ n9_
           (try clear hb)
           (try clear hb2)
           (try clear hk)
           (try clear hi)
           (try clear ho0)
           (try clear ho1)
           (try clear ho2)
           refine hK.out _ _ ⟨(blk_cell BK281.out 0).trans rfl, (blk_cell BK281.out 1).trans rfl, (blk_cell BK281.out 2).trans rfl, (blk_cell BK281.out 3).trans rfl⟩ (fun hHeld => ?_)
           clear hK K
           refine norm_ (a' := ?_) ?_ ?_
           rotate_left
           ·show Act.put _ (some 29) _ = _
            simp only [Act.put, List.setIfInBounds_toArray, List.set_cons_zero, List.set_cons_succ, i64_w, i32_w]
            rfl
           refine pure_ (i := 5) (N := some 24) (v := ?_) (a' := ?_) #[true, true, true, true, true, true, false, false, false, false, false] rfl rfl (any_of HT_.out (by kernel_rfl)) (fun _ _ _ h => h) (Or.inl ⟨by rfl, ?_⟩) ?_ ?_
           rotate_left
           ·intro w'
            go_simp
            with_reducible rfl
           rotate_left
           ·simp only [Act.put, List.setIfInBounds_toArray, List.set_cons_zero, List.set_cons_succ, i64_w, i32_w]
            rfl
           refine pure_ (i := 6) (N := some 30) (v := ?_) (a' := ?_) #[true, true, true, true, true, true, true, false, false, false, false] rfl rfl (any_of HT_.out (by kernel_rfl)) (fun _ _ _ h => h) (Or.inl ⟨by rfl, ?_⟩) ?_ ?_
           rotate_left
           ·intro w'
            go_simp
            with_reducible rfl
           rotate_left
           ·simp only [Act.put, List.setIfInBounds_toArray, List.set_cons_zero, List.set_cons_succ, i64_w, i32_w]
            rfl
           refine pure_ (i := 7) (N := some 31) (v := ?_) (a' := ?_) #[true, true, true, true, true, true, true, true, false, false, false] rfl rfl (any_of HT_.out (by kernel_rfl)) (fun _ _ _ h => h) (Or.inl ⟨by rfl, ?_⟩) ?_ ?_
           rotate_left
           ·intro w'
            go_simp
            with_reducible rfl
           rotate_left
           ·simp only [Act.put, List.setIfInBounds_toArray, List.set_cons_zero, List.set_cons_succ, i64_w, i32_w]
            rfl
           refine one_ (i := 8) (N := some 6) #[true, true, true, true, true, true, true, true, true, false, false] rfl rfl (one_of HT_.out (by kernel_rfl)) (by decide) (fun K hK => ?_)
           refine box_step ?hg (N := 6) ?hd (cs := #[.int .i64 0, .slice none 0 0, .slice none 0 0, .slice none 0 0]) (t := 26) ?hr ?_; (case hd => rfl); (case hg => rfl); (case hr => first | (go_simp; done) | (go_simp; rfl))
           intro gb299 hg w41 hbox hb
           have n0_ := Aside0.mk (Kd.R_below (RL HO274) hb)
           have n1_ := Aside0.mk (Kd.R_below (RL HO277) hb)
           have n2_ := Aside0.mk (Kd.R_below (RL HO280) hb)
           have n3_ := Aside0.mk (Kd.R_below (RL HO287) hb)
           have n4_ := Aside0.mk (Kd.R_below (RL HO291) hb)
           have n5_ := Aside0.mk (Kd.R_below (RL HO294) hb)
           have n6_ := Aside0.mk (Kd.R_below (RL HO297) hb)
           have n7_ := BE BK267 hb
           have n8_ := BE BK281 hb
           have n9_ := Aside0.mk (below_step (BB HB) hb)
           have n10_ := Aside0.mk (hbox)
           have n11_ := Aside0.mk ((by rw [hg]; exact (below_size (BB HB)) : w.heap.size ≤ gb299))
           have n12_ := Aside0.mk ((by rw [hg]; exact (below_size (BB HB)) : w.heap.size ≤ gb299))
           have n13_ := Aside0.mk ((by rw [hg]; exact Nat.ne_of_lt (blk_lt (g := gb267) (o := .cells #[.int .i64 a0_0, .slice A0_1 l0_1.length c0_1, .slice A0_2 l0_2.length c0_2, .slice A0_3 l0_3.length c0_3] 26 (0, 0)) (BL BK267)) : gb267 ≠ gb299))
           have n14_ := Aside0.mk ((by rw [hg]; exact Nat.ne_of_gt (blk_lt (g := gb267) (o := .cells #[.int .i64 a0_0, .slice A0_1 l0_1.length c0_1, .slice A0_2 l0_2.length c0_2, .slice A0_3 l0_3.length c0_3] 26 (0, 0)) (BL BK267)) : gb299 ≠ gb267))
           have n15_ := Aside0.mk ((by rw [hg]; exact Nat.ne_of_lt (blk_lt (g := gb281) (o := .cells #[.int .i64 t271, .slice Ao31 t272.length co31, .slice Ao32 t275.length co32, .slice Ao33 t278.length co33] 26 (0, 0)) (BL BK281)) : gb281 ≠ gb299))
           have n16_ := Aside0.mk ((by rw [hg]; exact Nat.ne_of_gt (blk_lt (g := gb281) (o := .cells #[.int .i64 t271, .slice Ao31 t272.length co31, .slice Ao32 t275.length co32, .slice Ao33 t278.length co33] 26 (0, 0)) (BL BK281)) : gb299 ≠ gb281))
           clear HO274
           clear HO277
           clear HO280
           clear HO287
           clear HO291
           clear HO294
           clear HO297
           clear BK267
           clear BK281
           clear HB
           have HO274 := n0_
           have HO277 := n1_
           have HO280 := n2_
           have HO287 := n3_
           have HO291 := n4_
           have HO294 := n5_
           have HO297 := n6_
           have BK267 := n7_
           have BK281 := n8_
           have HB := n9_
           have BK299 := n10_
           have GW299 := n11_
           have GE299 := n12_
           have NB267_299 := n13_
           have NB299_267 := n14_
           have NB281_299 := n15_
           have NB299_281 := n16_
           clear n0_ n1_ n2_ n3_ n4_ n5_ n6_ n7_ n8_ n9_ n10_ n11_ n12_ n13_ n14_ n15_ n16_
           clear hb hbox hg
           refine hK.out _ _ ⟨(blk_cell BK281.out 0).trans rfl, (blk_cell BK281.out 1).trans rfl, (blk_cell BK281.out 2).trans rfl, (blk_cell BK281.out 3).trans rfl⟩ (fun hHeld => ?_)
           clear hK K
           refine norm_ (a' := ?_) ?_ ?_
           rotate_left
           ·show Act.put _ (some 6) _ = _
            simp only [Act.put, List.setIfInBounds_toArray, List.set_cons_zero, List.set_cons_succ, i64_w, i32_w]
            rfl
           exact norm_ (by simp only [putAll, Act.put, List.setIfInBounds_toArray, List.set_cons_zero, List.set_cons_succ]) (hCont (v283, .slice Ao39 y285.length co39, v290, v293, v296, gb299) _ ⟨hHeld, (by (with_reducible repeat (first | apply Kd.R_alloc | apply Kd.R_drewN | apply Kd.R_drew)); exact Kd.R_mono HO274.out (fun _ hk => hk.2)), (by (with_reducible repeat (first | apply Kd.R_alloc | apply Kd.R_drewN | apply Kd.R_drew)); exact Kd.R_mono HO277.out (fun _ hk => hk.2)), (by (with_reducible repeat (first | apply Kd.R_alloc | apply Kd.R_drewN | apply Kd.R_drew)); exact Kd.R_mono HO280.out (fun _ hk => hk.2)), (RL HO287), (by (with_reducible repeat (first | apply Kd.R_alloc | apply Kd.R_drewN | apply Kd.R_drew)); exact Kd.R_mono HO291.out (fun _ hk => hk.2)), (by (with_reducible repeat (first | apply Kd.R_alloc | apply Kd.R_drewN | apply Kd.R_drew)); exact Kd.R_mono HO294.out (fun _ hk => hk.2)), (by (with_reducible repeat (first | apply Kd.R_alloc | apply Kd.R_drewN | apply Kd.R_drew)); exact Kd.R_mono HO297.out (fun _ hk => hk.2)), (BL BK267), (BL BK281), (BL BK299), GW299.out, GE299.out, NB267_299.out, NB299_267.out, NB281_299.out, NB299_281.out, (BB HB)⟩)
          ·skip
           refine box_step ?hg (N := 6) ?hd (cs := #[.int .i64 0, .slice none 0 0, .slice none 0 0, .slice none 0 0]) (t := 26) ?hr ?_; (case hd => rfl); (case hg => rfl); (case hr => first | (go_simp; done) | (go_simp; rfl))
           intro gb299 hg w39 hbox hb
           have n0_ := Aside0.mk (Kd.R_below (RL HO274) hb)
           have n1_ := Aside0.mk (Kd.R_below (RL HO277) hb)
           have n2_ := Aside0.mk (Kd.R_below (RL HO280) hb)
           have n3_ := Aside0.mk (Kd.R_below (RL HO287) hb)
           have n4_ := BE BK267 hb
           have n5_ := BE BK281 hb
           have n6_ := Aside0.mk (below_step (BB HB) hb)
           have n7_ := Aside0.mk (hbox)
           have n8_ := Aside0.mk ((by rw [hg]; exact (below_size (BB HB)) : w.heap.size ≤ gb299))
           have n9_ := Aside0.mk ((by rw [hg]; exact (below_size (BB HB)) : w.heap.size ≤ gb299))
           have n10_ := Aside0.mk ((by rw [hg]; exact Nat.ne_of_lt (blk_lt (g := gb267) (o := .cells #[.int .i64 a0_0, .slice A0_1 l0_1.length c0_1, .slice A0_2 l0_2.length c0_2, .slice A0_3 l0_3.length c0_3] 26 (0, 0)) (BL BK267)) : gb267 ≠ gb299))
           have n11_ := Aside0.mk ((by rw [hg]; exact Nat.ne_of_gt (blk_lt (g := gb267) (o := .cells #[.int .i64 a0_0, .slice A0_1 l0_1.length c0_1, .slice A0_2 l0_2.length c0_2, .slice A0_3 l0_3.length c0_3] 26 (0, 0)) (BL BK267)) : gb299 ≠ gb267))
           have n12_ := Aside0.mk ((by rw [hg]; exact Nat.ne_of_lt (blk_lt (g := gb281) (o := .cells #[.int .i64 t271, .slice Ao31 t272.length co31, .slice Ao32 t275.length co32, .slice Ao33 t278.length co33] 26 (0, 0)) (BL BK281)) : gb281 ≠ gb299))
           have n13_ := Aside0.mk ((by rw [hg]; exact Nat.ne_of_gt (blk_lt (g := gb281) (o := .cells #[.int .i64 t271, .slice Ao31 t272.length co31, .slice Ao32 t275.length co32, .slice Ao33 t278.length co33] 26 (0, 0)) (BL BK281)) : gb299 ≠ gb281))
           clear HO274
           clear HO277
           clear HO280
           clear HO287
           clear BK267
           clear BK281
           clear HB
           have HO274 := n0_
           have HO277 := n1_
           have HO280 := n2_
           have HO287 := n3_
           have BK267 := n4_
           have BK281 := n5_
           have HB := n6_
           have BK299 := n7_
           have GW299 := n8_
           have GE299 := n9_
           have NB267_299 := n10_
           have NB299_267 := n11_
           have NB281_299 := n12_
           have NB299_281 := n13_
           clear n0_ n1_ n2_ n3_ n4_ n5_ n6_ n7_ n8_ n9_ n10_ n11_ n12_ n13_
           clear hb hbox hg
           obtain ⟨Ao40, co40, eo40⟩ := Kd.R_slice HO287.out
           (first | subst eo40 | (injection eo40 with f1_ f2_ f3_; have f4_ := f1_.symm; have f5_ := f3_.symm; clear f1_ f2_ f3_; subst f4_; subst f5_))
           refine hK.out _ _ ⟨(blk_cell BK281.out 0).trans rfl, (blk_cell BK281.out 1).trans rfl, (blk_cell BK281.out 2).trans rfl, (blk_cell BK281.out 3).trans rfl⟩ (fun hHeld => ?_)
           clear hK K
           refine norm_ (a' := ?_) ?_ ?_
           rotate_left
           ·show Act.put _ (some 6) _ = _
            simp only [Act.put, List.setIfInBounds_toArray, List.set_cons_zero, List.set_cons_succ, i64_w, i32_w]
            rfl
           refine one_ (i := 4) (N := some 29) #[true, true, true, true, true, false, false, false, true, false, false] rfl rfl (one_of HT_.out (by kernel_rfl)) (by decide) (fun K hK => ?_)
           refine goes_ Tryd.func18 (by kernel_rfl) rfl #[.agg #[.int .i64 t271, .slice Ao31 t272.length co31, .slice Ao32 t275.length co32, .slice Ao33 t278.length co33], .slice Ao40 y285.length co40] (by rfl) rfl rfl (by (try simp only [List.map_toArray, List.map_cons, List.map_nil]); first | done | rfl | (simp only [List.length_drop, List.length_take]; rfl)) ?_
           with_reducible refine (field_Set.calls kj2 t271 _ _ t272 _ _ t275 _ _ t278 _ _ y285 t288 t289 t292 t295 t298 _ ?side1 ?side2 ?side3 ?side4 ?side5 ?side6 ?side7 ?side8 A20.out).mono ?_
           (case side1 => exact CR HO274)
           (case side2 => exact (Kd.R_reads' HO274.out).2.1)
           (case side3 => exact CR HO277)
           (case side4 => exact (Kd.R_reads' HO277.out).2.1)
           (case side5 => exact CR HO280)
           (case side6 => exact (Kd.R_reads' HO280.out).2.1)
           (case side7 => exact CR HO287)
           (case side8 => exact (Kd.R_reads' HO287.out).2.1)
           rintro e w41 ⟨v290, v293, v296, rfl, ho0, ho1, ho2, hb⟩
           refine ⟨_, rfl, ?_⟩
           have n0_ := Aside0.mk (Kd.R_elder' (RL HO274) (Kd.R_base ho0) hb)
           have n1_ := Aside0.mk (Kd.R_elder' (RL HO277) (Kd.R_base ho1) hb)
           have n2_ := Aside0.mk (Kd.R_elder' (RL HO280) (Kd.R_base ho2) hb)
           have n3_ := Aside0.mk (Kd.R_below (RL HO287) hb)
           have n4_ := Aside0.mk (Kd.R_lower (Kd.R_new' ho0 (Kd.R_lt (RL HO274))) (below_size (BB HB)))
           have n5_ := Aside0.mk (Kd.R_lower (Kd.R_new' ho1 (Kd.R_lt (RL HO277))) (below_size (BB HB)))
           have n6_ := Aside0.mk (Kd.R_lower (Kd.R_new' ho2 (Kd.R_lt (RL HO280))) (below_size (BB HB)))
           have n7_ := BE BK267 hb
           have n8_ := BE BK281 hb
           have n9_ := BE BK299 hb
           have n10_ := Aside0.mk (below_step (BB HB) hb)
           clear HO274
           clear HO277
           clear HO280
           clear HO287
           clear BK267
           clear BK281
           clear BK299
           clear HB
           have HO274 := n0_
           have HO277 := n1_
           have HO280 := n2_
           have HO287 := n3_
           have HO291 := n4_
           have HO294 := n5_
           have HO297 := n6_
           have BK267 := n7_
           have BK281 := n8_
           have BK299 := n9_
           have HB := n10_
           clear n0_ n1_ n2_ n3_ n4_ n5_ n6_ n7_ n8_ n9_ n10_
           (try clear hb)
           (try clear hb2)
           (try clear hk)
           (try clear hi)
           (try clear ho0)
           (try clear ho1)
           (try clear ho2)
           refine hK.out _ _ ⟨(blk_cell BK281.out 0).trans rfl, (blk_cell BK281.out 1).trans rfl, (blk_cell BK281.out 2).trans rfl, (blk_cell BK281.out 3).trans rfl⟩ (fun hHeld => ?_)
           clear hK K
           refine norm_ (a' := ?_) ?_ ?_
           rotate_left
           ·show Act.put _ (some 29) _ = _
            simp only [Act.put, List.setIfInBounds_toArray, List.set_cons_zero, List.set_cons_succ, i64_w, i32_w]
            rfl
           refine pure_ (i := 5) (N := some 24) (v := ?_) (a' := ?_) #[true, true, true, true, true, true, false, false, true, false, false] rfl rfl (any_of HT_.out (by kernel_rfl)) (fun _ _ _ h => h) (Or.inl ⟨by rfl, ?_⟩) ?_ ?_
           rotate_left
           ·intro w'
            go_simp
            with_reducible rfl
           rotate_left
           ·simp only [Act.put, List.setIfInBounds_toArray, List.set_cons_zero, List.set_cons_succ, i64_w, i32_w]
            rfl
           refine pure_ (i := 6) (N := some 30) (v := ?_) (a' := ?_) #[true, true, true, true, true, true, true, false, true, false, false] rfl rfl (any_of HT_.out (by kernel_rfl)) (fun _ _ _ h => h) (Or.inl ⟨by rfl, ?_⟩) ?_ ?_
           rotate_left
           ·intro w'
            go_simp
            with_reducible rfl
           rotate_left
           ·simp only [Act.put, List.setIfInBounds_toArray, List.set_cons_zero, List.set_cons_succ, i64_w, i32_w]
            rfl
           refine pure_ (i := 7) (N := some 31) (v := ?_) (a' := ?_) #[true, true, true, true, true, true, true, true, true, false, false] rfl rfl (any_of HT_.out (by kernel_rfl)) (fun _ _ _ h => h) (Or.inl ⟨by rfl, ?_⟩) ?_ ?_
           rotate_left
           ·intro w'
            go_simp
            with_reducible rfl
           rotate_left
           ·simp only [Act.put, List.setIfInBounds_toArray, List.set_cons_zero, List.set_cons_succ, i64_w, i32_w]
            rfl
           exact norm_ (by simp only [putAll, Act.put, List.setIfInBounds_toArray, List.set_cons_zero, List.set_cons_succ]) (hCont (v283, .slice Ao40 y285.length co40, v290, v293, v296, gb299) _ ⟨hHeld, (by (with_reducible repeat (first | apply Kd.R_alloc | apply Kd.R_drewN | apply Kd.R_drew)); exact Kd.R_mono HO274.out (fun _ hk => hk.2)), (by (with_reducible repeat (first | apply Kd.R_alloc | apply Kd.R_drewN | apply Kd.R_drew)); exact Kd.R_mono HO277.out (fun _ hk => hk.2)), (by (with_reducible repeat (first | apply Kd.R_alloc | apply Kd.R_drewN | apply Kd.R_drew)); exact Kd.R_mono HO280.out (fun _ hk => hk.2)), (RL HO287), (by (with_reducible repeat (first | apply Kd.R_alloc | apply Kd.R_drewN | apply Kd.R_drew)); exact Kd.R_mono HO291.out (fun _ hk => hk.2)), (by (with_reducible repeat (first | apply Kd.R_alloc | apply Kd.R_drewN | apply Kd.R_drew)); exact Kd.R_mono HO294.out (fun _ hk => hk.2)), (by (with_reducible repeat (first | apply Kd.R_alloc | apply Kd.R_drewN | apply Kd.R_drew)); exact Kd.R_mono HO297.out (fun _ hk => hk.2)), (BL BK267), (BL BK281), (BL BK299), GW299.out, GE299.out, NB267_299.out, NB299_267.out, NB281_299.out, NB299_281.out, (BB HB)⟩)
         ·skip
          refine box_step ?hg (N := 6) ?hd (cs := #[.int .i64 0, .slice none 0 0, .slice none 0 0, .slice none 0 0]) (t := 26) ?hr ?_; (case hd => rfl); (case hg => rfl); (case hr => first | (go_simp; done) | (go_simp; rfl))
          intro gb299 hg w38 hbox hb
          have n0_ := Aside0.mk (Kd.R_below (RL HO274) hb)
          have n1_ := Aside0.mk (Kd.R_below (RL HO277) hb)
          have n2_ := Aside0.mk (Kd.R_below (RL HO280) hb)
          have n3_ := Aside0.mk (Kd.R_below (RL HO284) hb)
          have n4_ := BE BK267 hb
          have n5_ := BE BK281 hb
          have n6_ := Aside0.mk (below_step (BB HB) hb)
          have n7_ := Aside0.mk (hbox)
          have n8_ := Aside0.mk ((by rw [hg]; exact (below_size (BB HB)) : w.heap.size ≤ gb299))
          have n9_ := Aside0.mk ((by rw [hg]; exact (below_size (BB HB)) : w.heap.size ≤ gb299))
          have n10_ := Aside0.mk ((by rw [hg]; exact Nat.ne_of_lt (blk_lt (g := gb267) (o := .cells #[.int .i64 a0_0, .slice A0_1 l0_1.length c0_1, .slice A0_2 l0_2.length c0_2, .slice A0_3 l0_3.length c0_3] 26 (0, 0)) (BL BK267)) : gb267 ≠ gb299))
          have n11_ := Aside0.mk ((by rw [hg]; exact Nat.ne_of_gt (blk_lt (g := gb267) (o := .cells #[.int .i64 a0_0, .slice A0_1 l0_1.length c0_1, .slice A0_2 l0_2.length c0_2, .slice A0_3 l0_3.length c0_3] 26 (0, 0)) (BL BK267)) : gb299 ≠ gb267))
          have n12_ := Aside0.mk ((by rw [hg]; exact Nat.ne_of_lt (blk_lt (g := gb281) (o := .cells #[.int .i64 t271, .slice Ao31 t272.length co31, .slice Ao32 t275.length co32, .slice Ao33 t278.length co33] 26 (0, 0)) (BL BK281)) : gb281 ≠ gb299))
          have n13_ := Aside0.mk ((by rw [hg]; exact Nat.ne_of_gt (blk_lt (g := gb281) (o := .cells #[.int .i64 t271, .slice Ao31 t272.length co31, .slice Ao32 t275.length co32, .slice Ao33 t278.length co33] 26 (0, 0)) (BL BK281)) : gb299 ≠ gb281))
          clear HO274
          clear HO277
          clear HO280
          clear HO284
          clear BK267
          clear BK281
          clear HB
          have HO274 := n0_
          have HO277 := n1_
          have HO280 := n2_
          have HO284 := n3_
          have BK267 := n4_
          have BK281 := n5_
          have HB := n6_
          have BK299 := n7_
          have GW299 := n8_
          have GE299 := n9_
          have NB267_299 := n10_
          have NB299_267 := n11_
          have NB281_299 := n12_
          have NB299_281 := n13_
          clear n0_ n1_ n2_ n3_ n4_ n5_ n6_ n7_ n8_ n9_ n10_ n11_ n12_ n13_
          clear hb hbox hg
          refine hK.out _ _ ⟨(blk_cell BK281.out 0).trans rfl, (blk_cell BK281.out 1).trans rfl, (blk_cell BK281.out 2).trans rfl, (blk_cell BK281.out 3).trans rfl⟩ (fun hHeld => ?_)
          clear hK K
          refine norm_ (a' := ?_) ?_ ?_
          rotate_left
          ·show Act.put _ (some 6) _ = _
           simp only [Act.put, List.setIfInBounds_toArray, List.set_cons_zero, List.set_cons_succ, i64_w, i32_w]
           rfl
          refine one_ (i := 3) (N := some 28) #[true, true, true, true, false, false, false, false, true, false, false] rfl rfl (one_of HT_.out (by kernel_rfl)) (by decide) (fun K hK => ?_)
          refine Kd.R_append_rows_step k75 (w0 := w) w.heap.size (by rfl) (.tmp 26) (.tmp 27) 36 75 (.agg #[(.bool false), (.int .i64 0), (.int .i64 0), (.string ⟨#[]⟩)]) 40 rfl Tryd.underlying36 info75 rfl (by decide) (by omega) v283 y282 l1 _ _ _ (fun _ => True) (fun _ => False) rfl rfl ?aO ?aR (fun _ _ h => h) (fun _ h => h.elim) ?aF ?aB ?aS ?aL ?_
          (case aR => repeat (first | exact (Kd.C_below HR1.out HB.out) | (with_reducible refine Kd.C_alloc ?_ _) | (with_reducible refine Kd.C_drewN ?_ _) | (with_reducible refine Kd.C_drew ?_)))
          (case aB => exact (BB HB))
          (case aF => exact (fun _ _ => trivial))
          (case aO => exact (RL HO284))
          (case aS => exact (below_size (BB HB)))
          (case aL => have := LMc19.out; omega)
          intro v286 w39 ho hb hg hat
          rw [← Ny285.out] at ho
          have n0_ := Aside0.mk (blk_grown (g := gb267) (o := .cells #[.int .i64 a0_0, .slice A0_1 l0_1.length c0_1, .slice A0_2 l0_2.length c0_2, .slice A0_3 l0_3.length c0_3] 26 (0, 0)) (BL BK267) hg (Kd.R_ne HO284.out BK267.out (by decide)))
          have n1_ := Aside0.mk (Kd.R_over' (RL HO274) (Kd.R_typed (RL HO284)) (by decide) hg)
          have n2_ := Aside0.mk (Kd.R_over' (RL HO277) (Kd.R_typed (RL HO284)) (by decide) hg)
          have n3_ := Aside0.mk (Kd.R_over' (RL HO280) (Kd.R_typed (RL HO284)) (by decide) hg)
          have n4_ := Aside0.mk (blk_grown (g := gb281) (o := .cells #[.int .i64 t271, .slice Ao31 t272.length co31, .slice Ao32 t275.length co32, .slice Ao33 t278.length co33] 26 (0, 0)) (BL BK281) hg (Kd.R_ne HO284.out BK281.out (by decide)))
          have n5_ := Aside0.mk (blk_grown (g := gb299) (o := .cells #[.int .i64 0, .slice none 0 0, .slice none 0 0, .slice none 0 0] 26 (0, 0)) (BL BK299) hg (Kd.R_ne HO284.out BK299.out (by decide)))
          have n6_ := Aside0.mk (hb)
          have n7_ := Aside0.mk (ho)
          clear BK267
          clear HO274
          clear HO277
          clear HO280
          clear BK281
          clear BK299
          clear HB
          clear HO284
          have BK267 := n0_
          have HO274 := n1_
          have HO277 := n2_
          have HO280 := n3_
          have BK281 := n4_
          have BK299 := n5_
          have HB := n6_
          have HO287 := n7_
          clear n0_ n1_ n2_ n3_ n4_ n5_ n6_ n7_
          clear ho hb hg hat
          obtain ⟨Ao40, co40, eo40⟩ := Kd.R_slice HO287.out
          (first | subst eo40 | (injection eo40 with f1_ f2_ f3_; have f4_ := f1_.symm; have f5_ := f3_.symm; clear f1_ f2_ f3_; subst f4_; subst f5_))
          refine hK.out _ _ ⟨(blk_cell BK281.out 0).trans rfl, (blk_cell BK281.out 1).trans rfl, (blk_cell BK281.out 2).trans rfl, (blk_cell BK281.out 3).trans rfl⟩ (fun hHeld => ?_)
          clear hK K
          refine norm_ (a' := ?_) ?_ ?_
          rotate_left
          ·show Act.put _ (some 28) _ = _
           simp only [Act.put, List.setIfInBounds_toArray, List.set_cons_zero, List.set_cons_succ, i64_w, i32_w]
           rfl
          refine one_ (i := 4) (N := some 29) #[true, true, true, true, true, false, false, false, true, false, false] rfl rfl (one_of HT_.out (by kernel_rfl)) (by decide) (fun K hK => ?_)
          refine goes_ Tryd.func18 (by kernel_rfl) rfl #[.agg #[.int .i64 t271, .slice Ao31 t272.length co31, .slice Ao32 t275.length co32, .slice Ao33 t278.length co33], .slice Ao40 y285.length co40] (by rfl) rfl rfl (by (try simp only [List.map_toArray, List.map_cons, List.map_nil]); first | done | rfl | (simp only [List.length_drop, List.length_take]; rfl)) ?_
          with_reducible refine (field_Set.calls kj2 t271 _ _ t272 _ _ t275 _ _ t278 _ _ y285 t288 t289 t292 t295 t298 _ ?side1 ?side2 ?side3 ?side4 ?side5 ?side6 ?side7 ?side8 A20.out).mono ?_
          (case side1 => exact CR HO274)
          (case side2 => exact (Kd.R_reads' HO274.out).2.1)
          (case side3 => exact CR HO277)
          (case side4 => exact (Kd.R_reads' HO277.out).2.1)
          (case side5 => exact CR HO280)
          (case side6 => exact (Kd.R_reads' HO280.out).2.1)
          (case side7 => exact CR HO287)
          (case side8 => exact (Kd.R_reads' HO287.out).2.1)
          rintro e w41 ⟨v290, v293, v296, rfl, ho0, ho1, ho2, hb⟩
          refine ⟨_, rfl, ?_⟩
          have n0_ := Aside0.mk (Kd.R_elder' (RL HO274) (Kd.R_base ho0) hb)
          have n1_ := Aside0.mk (Kd.R_elder' (RL HO277) (Kd.R_base ho1) hb)
          have n2_ := Aside0.mk (Kd.R_elder' (RL HO280) (Kd.R_base ho2) hb)
          have n3_ := Aside0.mk (Kd.R_below (RL HO287) hb)
          have n4_ := Aside0.mk (Kd.R_lower (Kd.R_new' ho0 (Kd.R_lt (RL HO274))) (below_size (BB HB)))
          have n5_ := Aside0.mk (Kd.R_lower (Kd.R_new' ho1 (Kd.R_lt (RL HO277))) (below_size (BB HB)))
          have n6_ := Aside0.mk (Kd.R_lower (Kd.R_new' ho2 (Kd.R_lt (RL HO280))) (below_size (BB HB)))
          have n7_ := BE BK267 hb
          have n8_ := BE BK281 hb
          have n9_ := BE BK299 hb
          have n10_ := Aside0.mk (below_step (BB HB) hb)
          clear HO274
          clear HO277
          clear HO280
          clear HO287
          clear BK267
          clear BK281
          clear BK299
          clear HB
          have HO274 := n0_
          have HO277 := n1_
          have HO280 := n2_
          have HO287 := n3_
          have HO291 := n4_
          have HO294 := n5_
          have HO297 := n6_
          have BK267 := n7_
          have BK281 := n8_
          have BK299 := n9_
          have HB := n10_
          clear n0_ n1_ n2_ n3_ n4_ n5_ n6_ n7_ n8_ n9_ n10_
          (try clear hb)
          (try clear hb2)
          (try clear hk)
          (try clear hi)
          (try clear ho0)
          (try clear ho1)
          (try clear ho2)
          refine hK.out _ _ ⟨(blk_cell BK281.out 0).trans rfl, (blk_cell BK281.out 1).trans rfl, (blk_cell BK281.out 2).trans rfl, (blk_cell BK281.out 3).trans rfl⟩ (fun hHeld => ?_)
          clear hK K
          refine norm_ (a' := ?_) ?_ ?_
          rotate_left
          ·show Act.put _ (some 29) _ = _
           simp only [Act.put, List.setIfInBounds_toArray, List.set_cons_zero, List.set_cons_succ, i64_w, i32_w]
           rfl
          refine pure_ (i := 5) (N := some 24) (v := ?_) (a' := ?_) #[true, true, true, true, true, true, false, false, true, false, false] rfl rfl (any_of HT_.out (by kernel_rfl)) (fun _ _ _ h => h) (Or.inl ⟨by rfl, ?_⟩) ?_ ?_
          rotate_left
          ·intro w'
           go_simp
           with_reducible rfl
          rotate_left
          ·simp only [Act.put, List.setIfInBounds_toArray, List.set_cons_zero, List.set_cons_succ, i64_w, i32_w]
           rfl
          refine pure_ (i := 6) (N := some 30) (v := ?_) (a' := ?_) #[true, true, true, true, true, true, true, false, true, false, false] rfl rfl (any_of HT_.out (by kernel_rfl)) (fun _ _ _ h => h) (Or.inl ⟨by rfl, ?_⟩) ?_ ?_
          rotate_left
          ·intro w'
           go_simp
           with_reducible rfl
          rotate_left
          ·simp only [Act.put, List.setIfInBounds_toArray, List.set_cons_zero, List.set_cons_succ, i64_w, i32_w]
           rfl
          refine pure_ (i := 7) (N := some 31) (v := ?_) (a' := ?_) #[true, true, true, true, true, true, true, true, true, false, false] rfl rfl (any_of HT_.out (by kernel_rfl)) (fun _ _ _ h => h) (Or.inl ⟨by rfl, ?_⟩) ?_ ?_
          rotate_left
          ·intro w'
           go_simp
           with_reducible rfl
          rotate_left
          ·simp only [Act.put, List.setIfInBounds_toArray, List.set_cons_zero, List.set_cons_succ, i64_w, i32_w]
           rfl
          exact norm_ (by simp only [putAll, Act.put, List.setIfInBounds_toArray, List.set_cons_zero, List.set_cons_succ]) (hCont (v283, .slice Ao40 y285.length co40, v290, v293, v296, gb299) _ ⟨hHeld, (by (with_reducible repeat (first | apply Kd.R_alloc | apply Kd.R_drewN | apply Kd.R_drew)); exact Kd.R_mono HO274.out (fun _ hk => hk.2)), (by (with_reducible repeat (first | apply Kd.R_alloc | apply Kd.R_drewN | apply Kd.R_drew)); exact Kd.R_mono HO277.out (fun _ hk => hk.2)), (by (with_reducible repeat (first | apply Kd.R_alloc | apply Kd.R_drewN | apply Kd.R_drew)); exact Kd.R_mono HO280.out (fun _ hk => hk.2)), (RL HO287), (by (with_reducible repeat (first | apply Kd.R_alloc | apply Kd.R_drewN | apply Kd.R_drew)); exact Kd.R_mono HO291.out (fun _ hk => hk.2)), (by (with_reducible repeat (first | apply Kd.R_alloc | apply Kd.R_drewN | apply Kd.R_drew)); exact Kd.R_mono HO294.out (fun _ hk => hk.2)), (by (with_reducible repeat (first | apply Kd.R_alloc | apply Kd.R_drewN | apply Kd.R_drew)); exact Kd.R_mono HO297.out (fun _ hk => hk.2)), (BL BK267), (BL BK281), (BL BK299), GW299.out, GE299.out, NB267_299.out, NB299_267.out, NB281_299.out, NB299_281.out, (BB HB)⟩)
        ·skip
         refine box_step ?hg (N := 6) ?hd (cs := #[.int .i64 0, .slice none 0 0, .slice none 0 0, .slice none 0 0]) (t := 26) ?hr ?_; (case hd => rfl); (case hg => rfl); (case hr => first | (go_simp; done) | (go_simp; rfl))
         intro gb299 hg w36 hbox hb
         have n0_ := Aside0.mk (Kd.R_below (RL HO274) hb)
         have n1_ := Aside0.mk (Kd.R_below (RL HO277) hb)
         have n2_ := Aside0.mk (Kd.R_below (RL HO280) hb)
         have n3_ := BE BK267 hb
         have n4_ := BE BK281 hb
         have n5_ := Aside0.mk (below_step (BB HB) hb)
         have n6_ := Aside0.mk (hbox)
         have n7_ := Aside0.mk ((by rw [hg]; exact (below_size (BB HB)) : w.heap.size ≤ gb299))
         have n8_ := Aside0.mk ((by rw [hg]; exact (below_size (BB HB)) : w.heap.size ≤ gb299))
         have n9_ := Aside0.mk ((by rw [hg]; exact Nat.ne_of_lt (blk_lt (g := gb267) (o := .cells #[.int .i64 a0_0, .slice A0_1 l0_1.length c0_1, .slice A0_2 l0_2.length c0_2, .slice A0_3 l0_3.length c0_3] 26 (0, 0)) (BL BK267)) : gb267 ≠ gb299))
         have n10_ := Aside0.mk ((by rw [hg]; exact Nat.ne_of_gt (blk_lt (g := gb267) (o := .cells #[.int .i64 a0_0, .slice A0_1 l0_1.length c0_1, .slice A0_2 l0_2.length c0_2, .slice A0_3 l0_3.length c0_3] 26 (0, 0)) (BL BK267)) : gb299 ≠ gb267))
         have n11_ := Aside0.mk ((by rw [hg]; exact Nat.ne_of_lt (blk_lt (g := gb281) (o := .cells #[.int .i64 t271, .slice Ao31 t272.length co31, .slice Ao32 t275.length co32, .slice Ao33 t278.length co33] 26 (0, 0)) (BL BK281)) : gb281 ≠ gb299))
         have n12_ := Aside0.mk ((by rw [hg]; exact Nat.ne_of_gt (blk_lt (g := gb281) (o := .cells #[.int .i64 t271, .slice Ao31 t272.length co31, .slice Ao32 t275.length co32, .slice Ao33 t278.length co33] 26 (0, 0)) (BL BK281)) : gb299 ≠ gb281))
         clear HO274
         clear HO277
         clear HO280
         clear BK267
         clear BK281
         clear HB
         have HO274 := n0_
         have HO277 := n1_
         have HO280 := n2_
         have BK267 := n3_
         have BK281 := n4_
         have HB := n5_
         have BK299 := n6_
         have GW299 := n7_
         have GE299 := n8_
         have NB267_299 := n9_
         have NB299_267 := n10_
         have NB281_299 := n11_
         have NB299_281 := n12_
         clear n0_ n1_ n2_ n3_ n4_ n5_ n6_ n7_ n8_ n9_ n10_ n11_ n12_
         clear hb hbox hg
         refine hK.out _ _ ⟨(blk_cell BK281.out 0).trans rfl, (blk_cell BK281.out 1).trans rfl, (blk_cell BK281.out 2).trans rfl, (blk_cell BK281.out 3).trans rfl⟩ (fun hHeld => ?_)
         clear hK K
         refine norm_ (a' := ?_) ?_ ?_
         rotate_left
         ·show Act.put _ (some 6) _ = _
          simp only [Act.put, List.setIfInBounds_toArray, List.set_cons_zero, List.set_cons_succ, i64_w, i32_w]
          rfl
         refine one_ (i := 1) (N := some 26) #[true, true, true, false, false, false, false, false, true, false, false] rfl rfl (one_of HT_.out (by kernel_rfl)) (by decide) (fun K hK => ?_)
         refine Kd.R_lit_step k75 _ 75 ?hg (N := 26) ?hd (xs := ([] : List (S75))) (inner := []) (ok := fun _ => True) (okp := fun _ => True) ?hr ?hp (fun _ hk => hk) trivial (Below.refl _ _) (Nat.le_refl _) (by simp) ?_; (case hd => rfl); (case hg => rfl); (case hr => first | (go_simp; done) | (go_simp; rfl)); (case hp => exact (Reps.none _ _))
         intro v283 w37 ho38 hb hg_ hnew_
         clear hg_ hnew_
         (first | rw [← Ny282.out] at ho38 | (simp only [Int.reduceToNat] at ho38; rw [← Ny282.out] at ho38))
         have n0_ := Aside0.mk (Kd.R_below (RL HO274) hb)
         have n1_ := Aside0.mk (Kd.R_below (RL HO277) hb)
         have n2_ := Aside0.mk (Kd.R_below (RL HO280) hb)
         have n3_ := Aside0.mk (Kd.R_lower ho38 (below_size (BB HB)))
         have n4_ := BE BK267 hb
         have n5_ := BE BK281 hb
         have n6_ := BE BK299 hb
         have n7_ := Aside0.mk (below_step (BB HB) hb)
         clear HO274
         clear HO277
         clear HO280
         clear BK267
         clear BK281
         clear BK299
         clear HB
         have HO274 := n0_
         have HO277 := n1_
         have HO280 := n2_
         have HO284 := n3_
         have BK267 := n4_
         have BK281 := n5_
         have BK299 := n6_
         have HB := n7_
         clear n0_ n1_ n2_ n3_ n4_ n5_ n6_ n7_
         clear hb ho38
         refine hK.out _ _ ⟨(blk_cell BK281.out 0).trans rfl, (blk_cell BK281.out 1).trans rfl, (blk_cell BK281.out 2).trans rfl, (blk_cell BK281.out 3).trans rfl⟩ (fun hHeld => ?_)
         clear hK K
         refine norm_ (a' := ?_) ?_ ?_
         rotate_left
         ·show Act.put _ (some 26) _ = _
          simp only [Act.put, List.setIfInBounds_toArray, List.set_cons_zero, List.set_cons_succ, i64_w, i32_w]
          rfl
         refine one_ (i := 3) (N := some 28) #[true, true, true, true, false, false, false, false, true, false, false] rfl rfl (one_of HT_.out (by kernel_rfl)) (by decide) (fun K hK => ?_)
         refine Kd.R_append_rows_step k75 (w0 := w) w.heap.size (by rfl) (.tmp 26) (.tmp 27) 36 75 (.agg #[(.bool false), (.int .i64 0), (.int .i64 0), (.string ⟨#[]⟩)]) 40 rfl Tryd.underlying36 info75 rfl (by decide) (by omega) v283 y282 l1 _ _ _ (fun _ => True) (fun _ => False) rfl rfl ?aO ?aR (fun _ _ h => h) (fun _ h => h.elim) ?aF ?aB ?aS ?aL ?_
         (case aR => repeat (first | exact (Kd.C_below HR1.out HB.out) | (with_reducible refine Kd.C_alloc ?_ _) | (with_reducible refine Kd.C_drewN ?_ _) | (with_reducible refine Kd.C_drew ?_)))
         (case aB => exact (BB HB))
         (case aF => exact (fun _ _ => trivial))
         (case aO => exact (RL HO284))
         (case aS => exact (below_size (BB HB)))
         (case aL => have := LMc19.out; omega)
         intro v286 w39 ho hb hg hat
         rw [← Ny285.out] at ho
         have n0_ := Aside0.mk (blk_grown (g := gb267) (o := .cells #[.int .i64 a0_0, .slice A0_1 l0_1.length c0_1, .slice A0_2 l0_2.length c0_2, .slice A0_3 l0_3.length c0_3] 26 (0, 0)) (BL BK267) hg (Kd.R_ne HO284.out BK267.out (by decide)))
         have n1_ := Aside0.mk (Kd.R_over' (RL HO274) (Kd.R_typed (RL HO284)) (by decide) hg)
         have n2_ := Aside0.mk (Kd.R_over' (RL HO277) (Kd.R_typed (RL HO284)) (by decide) hg)
         have n3_ := Aside0.mk (Kd.R_over' (RL HO280) (Kd.R_typed (RL HO284)) (by decide) hg)
         have n4_ := Aside0.mk (blk_grown (g := gb281) (o := .cells #[.int .i64 t271, .slice Ao31 t272.length co31, .slice Ao32 t275.length co32, .slice Ao33 t278.length co33] 26 (0, 0)) (BL BK281) hg (Kd.R_ne HO284.out BK281.out (by decide)))
         have n5_ := Aside0.mk (blk_grown (g := gb299) (o := .cells #[.int .i64 0, .slice none 0 0, .slice none 0 0, .slice none 0 0] 26 (0, 0)) (BL BK299) hg (Kd.R_ne HO284.out BK299.out (by decide)))
         have n6_ := Aside0.mk (hb)
         have n7_ := Aside0.mk (ho)
         clear BK267
         clear HO274
         clear HO277
         clear HO280
         clear BK281
         clear BK299
         clear HB
         clear HO284
         have BK267 := n0_
         have HO274 := n1_
         have HO277 := n2_
         have HO280 := n3_
         have BK281 := n4_
         have BK299 := n5_
         have HB := n6_
         have HO287 := n7_
         clear n0_ n1_ n2_ n3_ n4_ n5_ n6_ n7_
         clear ho hb hg hat
         obtain ⟨Ao40, co40, eo40⟩ := Kd.R_slice HO287.out
         (first | subst eo40 | (injection eo40 with f1_ f2_ f3_; have f4_ := f1_.symm; have f5_ := f3_.symm; clear f1_ f2_ f3_; subst f4_; subst f5_))
         refine hK.out _ _ ⟨(blk_cell BK281.out 0).trans rfl, (blk_cell BK281.out 1).trans rfl, (blk_cell BK281.out 2).trans rfl, (blk_cell BK281.out 3).trans rfl⟩ (fun hHeld => ?_)
         clear hK K
         refine norm_ (a' := ?_) ?_ ?_
         rotate_left
         ·show Act.put _ (some 28) _ = _
          simp only [Act.put, List.setIfInBounds_toArray, List.set_cons_zero, List.set_cons_succ, i64_w, i32_w]
          rfl
         refine one_ (i := 4) (N := some 29) #[true, true, true, true, true, false, false, false, true, false, false] rfl rfl (one_of HT_.out (by kernel_rfl)) (by decide) (fun K hK => ?_)
         refine goes_ Tryd.func18 (by kernel_rfl) rfl #[.agg #[.int .i64 t271, .slice Ao31 t272.length co31, .slice Ao32 t275.length co32, .slice Ao33 t278.length co33], .slice Ao40 y285.length co40] (by rfl) rfl rfl (by (try simp only [List.map_toArray, List.map_cons, List.map_nil]); first | done | rfl | (simp only [List.length_drop, List.length_take]; rfl)) ?_
         with_reducible refine (field_Set.calls kj2 t271 _ _ t272 _ _ t275 _ _ t278 _ _ y285 t288 t289 t292 t295 t298 _ ?side1 ?side2 ?side3 ?side4 ?side5 ?side6 ?side7 ?side8 A20.out).mono ?_
         (case side1 => exact CR HO274)
         (case side2 => exact (Kd.R_reads' HO274.out).2.1)
         (case side3 => exact CR HO277)
         (case side4 => exact (Kd.R_reads' HO277.out).2.1)
         (case side5 => exact CR HO280)
         (case side6 => exact (Kd.R_reads' HO280.out).2.1)
         (case side7 => exact CR HO287)
         (case side8 => exact (Kd.R_reads' HO287.out).2.1)
         rintro e w41 ⟨v290, v293, v296, rfl, ho0, ho1, ho2, hb⟩
         refine ⟨_, rfl, ?_⟩
         have n0_ := Aside0.mk (Kd.R_elder' (RL HO274) (Kd.R_base ho0) hb)
         have n1_ := Aside0.mk (Kd.R_elder' (RL HO277) (Kd.R_base ho1) hb)
         have n2_ := Aside0.mk (Kd.R_elder' (RL HO280) (Kd.R_base ho2) hb)
         have n3_ := Aside0.mk (Kd.R_below (RL HO287) hb)
         have n4_ := Aside0.mk (Kd.R_lower (Kd.R_new' ho0 (Kd.R_lt (RL HO274))) (below_size (BB HB)))
         have n5_ := Aside0.mk (Kd.R_lower (Kd.R_new' ho1 (Kd.R_lt (RL HO277))) (below_size (BB HB)))
         have n6_ := Aside0.mk (Kd.R_lower (Kd.R_new' ho2 (Kd.R_lt (RL HO280))) (below_size (BB HB)))
         have n7_ := BE BK267 hb
         have n8_ := BE BK281 hb
         have n9_ := BE BK299 hb
         have n10_ := Aside0.mk (below_step (BB HB) hb)
         clear HO274
         clear HO277
         clear HO280
         clear HO287
         clear BK267
         clear BK281
         clear BK299
         clear HB
         have HO274 := n0_
         have HO277 := n1_
         have HO280 := n2_
         have HO287 := n3_
         have HO291 := n4_
         have HO294 := n5_
         have HO297 := n6_
         have BK267 := n7_
         have BK281 := n8_
         have BK299 := n9_
         have HB := n10_
         clear n0_ n1_ n2_ n3_ n4_ n5_ n6_ n7_ n8_ n9_ n10_
         (try clear hb)
         (try clear hb2)
         (try clear hk)
         (try clear hi)
         (try clear ho0)
         (try clear ho1)
         (try clear ho2)
         refine hK.out _ _ ⟨(blk_cell BK281.out 0).trans rfl, (blk_cell BK281.out 1).trans rfl, (blk_cell BK281.out 2).trans rfl, (blk_cell BK281.out 3).trans rfl⟩ (fun hHeld => ?_)
         clear hK K
         refine norm_ (a' := ?_) ?_ ?_
         rotate_left
         ·show Act.put _ (some 29) _ = _
          simp only [Act.put, List.setIfInBounds_toArray, List.set_cons_zero, List.set_cons_succ, i64_w, i32_w]
          rfl
         refine pure_ (i := 5) (N := some 24) (v := ?_) (a' := ?_) #[true, true, true, true, true, true, false, false, true, false, false] rfl rfl (any_of HT_.out (by kernel_rfl)) (fun _ _ _ h => h) (Or.inl ⟨by rfl, ?_⟩) ?_ ?_
         rotate_left
         ·intro w'
          go_simp
          with_reducible rfl
         rotate_left
         ·simp only [Act.put, List.setIfInBounds_toArray, List.set_cons_zero, List.set_cons_succ, i64_w, i32_w]
          rfl
         refine pure_ (i := 6) (N := some 30) (v := ?_) (a' := ?_) #[true, true, true, true, true, true, true, false, true, false, false] rfl rfl (any_of HT_.out (by kernel_rfl)) (fun _ _ _ h => h) (Or.inl ⟨by rfl, ?_⟩) ?_ ?_
         rotate_left
         ·intro w'
          go_simp
          with_reducible rfl
         rotate_left
         ·simp only [Act.put, List.setIfInBounds_toArray, List.set_cons_zero, List.set_cons_succ, i64_w, i32_w]
          rfl
         refine pure_ (i := 7) (N := some 31) (v := ?_) (a' := ?_) #[true, true, true, true, true, true, true, true, true, false, false] rfl rfl (any_of HT_.out (by kernel_rfl)) (fun _ _ _ h => h) (Or.inl ⟨by rfl, ?_⟩) ?_ ?_
         rotate_left
         ·intro w'
          go_simp
          with_reducible rfl
         rotate_left
         ·simp only [Act.put, List.setIfInBounds_toArray, List.set_cons_zero, List.set_cons_succ, i64_w, i32_w]
          rfl
         exact norm_ (by simp only [putAll, Act.put, List.setIfInBounds_toArray, List.set_cons_zero, List.set_cons_succ]) (hCont (v283, .slice Ao40 y285.length co40, v290, v293, v296, gb299) _ ⟨hHeld, (by (with_reducible repeat (first | apply Kd.R_alloc | apply Kd.R_drewN | apply Kd.R_drew)); exact Kd.R_mono HO274.out (fun _ hk => hk.2)), (by (with_reducible repeat (first | apply Kd.R_alloc | apply Kd.R_drewN | apply Kd.R_drew)); exact Kd.R_mono HO277.out (fun _ hk => hk.2)), (by (with_reducible repeat (first | apply Kd.R_alloc | apply Kd.R_drewN | apply Kd.R_drew)); exact Kd.R_mono HO280.out (fun _ hk => hk.2)), (RL HO287), (by (with_reducible repeat (first | apply Kd.R_alloc | apply Kd.R_drewN | apply Kd.R_drew)); exact Kd.R_mono HO291.out (fun _ hk => hk.2)), (by (with_reducible repeat (first | apply Kd.R_alloc | apply Kd.R_drewN | apply Kd.R_drew)); exact Kd.R_mono HO294.out (fun _ hk => hk.2)), (by (with_reducible repeat (first | apply Kd.R_alloc | apply Kd.R_drewN | apply Kd.R_drew)); exact Kd.R_mono HO297.out (fun _ hk => hk.2)), (BL BK267), (BL BK281), (BL BK299), GW299.out, GE299.out, NB267_299.out, NB299_267.out, NB281_299.out, NB299_281.out, (BB HB)⟩)
       rintro ⟨v283, v286, v290, v293, v296, gb299⟩ w42 ⟨hS_, h0_, h1_, h2_, h3_, h4_, h5_, h6_, h7_, h8_, h9_, h10_, h11_, h12_, h13_, h14_, h15_, h16_⟩
       have n0_ : Aside0 (Kd.R (Kd.int .i64) 2 w42 w.heap.size (fun k_ => some k_ ≠ (v290 : Value).ownBlock) (.slice Ao31 t272.length co31) t272) := ⟨h0_⟩
       have n1_ : Aside0 (Kd.R Kd.string 9 w42 w.heap.size (fun k_ => some k_ ≠ (v293 : Value).ownBlock) (.slice Ao32 t275.length co32) t275) := ⟨h1_⟩
       have n2_ : Aside0 (Kd.R (Kd.int .i64) 3 w42 w.heap.size (fun k_ => some k_ ≠ (v296 : Value).ownBlock) (.slice Ao33 t278.length co33) t278) := ⟨h2_⟩
       have n3_ : Aside0 (Kd.R k75 75 w42 w.heap.size (fun _ => True) v286 y285) := ⟨h3_⟩
       have n4_ : Aside0 (Kd.R (Kd.int .i64) 2 w42 w.heap.size (fun k_ => some k_ ≠ (.slice Ao31 t272.length co31 : Value).ownBlock) v290 t289) := ⟨h4_⟩
       have n5_ : Aside0 (Kd.R Kd.string 9 w42 w.heap.size (fun k_ => some k_ ≠ (.slice Ao32 t275.length co32 : Value).ownBlock) v293 t292) := ⟨h5_⟩
       have n6_ : Aside0 (Kd.R (Kd.int .i64) 3 w42 w.heap.size (fun k_ => some k_ ≠ (.slice Ao33 t278.length co33 : Value).ownBlock) v296 t295) := ⟨h6_⟩
       have n7_ : Aside0 (w42.heap[gb267]? = some (.cells #[.int .i64 a0_0, .slice A0_1 l0_1.length c0_1, .slice A0_2 l0_2.length c0_2, .slice A0_3 l0_3.length c0_3] 26 (0, 0))) := ⟨h7_⟩
       have n8_ : Aside0 (w42.heap[gb281]? = some (.cells #[.int .i64 t271, .slice Ao31 t272.length co31, .slice Ao32 t275.length co32, .slice Ao33 t278.length co33] 26 (0, 0))) := ⟨h8_⟩
       have n9_ : Aside0 (w42.heap[gb299]? = some (.cells #[.int .i64 0, .slice none 0 0, .slice none 0 0, .slice none 0 0] 26 (0, 0))) := ⟨h9_⟩
       have n10_ : Aside0 (w.heap.size ≤ gb299) := ⟨h10_⟩
       have n11_ : Aside0 (w.heap.size ≤ gb299) := ⟨h11_⟩
       have n12_ : Aside0 (gb267 ≠ gb299) := ⟨h12_⟩
       have n13_ : Aside0 (gb299 ≠ gb267) := ⟨h13_⟩
       have n14_ : Aside0 (gb281 ≠ gb299) := ⟨h14_⟩
       have n15_ : Aside0 (gb299 ≠ gb281) := ⟨h15_⟩
       have n16_ : Aside0 (Below w.heap.size w w42) := ⟨h16_⟩
       clear HO274
       clear HO277
       clear HO280
       clear BK267
       clear BK281
       clear HB
       clear h0_ h1_ h2_ h3_ h4_ h5_ h6_ h7_ h8_ h9_ h10_ h11_ h12_ h13_ h14_ h15_ h16_
       have HO274 := n0_
       have HO277 := n1_
       have HO280 := n2_
       have HO287 := n3_
       have HO291 := n4_
       have HO294 := n5_
       have HO297 := n6_
       have BK267 := n7_
       have BK281 := n8_
       have BK299 := n9_
       have GW299 := n10_
       have GE299 := n11_
       have NB267_299 := n12_
       have NB299_267 := n13_
       have NB281_299 := n14_
       have NB299_281 := n15_
       have HB := n16_
       clear n0_ n1_ n2_ n3_ n4_ n5_ n6_ n7_ n8_ n9_ n10_ n11_ n12_ n13_ n14_ n15_ n16_
       have hHeld : w42.cell? ⟨gb281, 0, none⟩ = some (.int .i64 t271) ∧ w42.cell? ⟨gb281, 1, none⟩ = some (.slice Ao31 t272.length co31) ∧ w42.cell? ⟨gb281, 2, none⟩ = some (.slice Ao32 t275.length co32) ∧ w42.cell? ⟨gb281, 3, none⟩ = some (.slice Ao33 t278.length co33) := hS_
       obtain ⟨Ao44, co44, eo44⟩ := Kd.R_slice HO291.out
       (first | subst eo44 | (injection eo44 with f1_ f2_ f3_; have f4_ := f1_.symm; have f5_ := f3_.symm; clear f1_ f2_ f3_; subst f4_; subst f5_))
       obtain ⟨Ao46, co46, eo46⟩ := Kd.R_slice HO294.out
       (first | subst eo46 | (injection eo46 with f1_ f2_ f3_; have f4_ := f1_.symm; have f5_ := f3_.symm; clear f1_ f2_ f3_; subst f4_; subst f5_))
       obtain ⟨Ao48, co48, eo48⟩ := Kd.R_slice HO297.out
       (first | subst eo48 | (injection eo48 with f1_ f2_ f3_; have f4_ := f1_.symm; have f5_ := f3_.symm; clear f1_ f2_ f3_; subst f4_; subst f5_))
       refine norm_ (a' := ?_) ?_ ?_
       rotate_left
       ·simp only [putAll, Act.put, List.setIfInBounds_toArray, List.set_cons_zero, List.set_cons_succ]
        rfl
       refine one_ (i := 9) (N := none) #[true, true, true, true, true, true, true, true, true, true, false] rfl rfl (one_of HT_.out (by kernel_rfl)) (by decide) (fun K hK => ?_)
       have hs43 : w42.cell? ⟨gb299, 0, none⟩ = some (.int .i64 0) := (blk_cell BK299.out 0).trans rfl
       have hfs43 := blk_frozen BK299.out 0
       have hns43_0 := NB267_299.out
       have hns43_1 := NB281_299.out
       have hms43_0 := NB299_267.out
       have hms43_1 := NB299_281.out
       have hs45 : w42.cell? ⟨gb299, 1, none⟩ = some (.slice none 0 0) := (blk_cell BK299.out 1).trans rfl
       have hfs45 := blk_frozen BK299.out 1
       have hns45_0 := NB267_299.out
       have hns45_1 := NB281_299.out
       have hms45_0 := NB299_267.out
       have hms45_1 := NB299_281.out
       have hs47 : w42.cell? ⟨gb299, 2, none⟩ = some (.slice none 0 0) := (blk_cell BK299.out 2).trans rfl
       have hfs47 := blk_frozen BK299.out 2
       have hns47_0 := NB267_299.out
       have hns47_1 := NB281_299.out
       have hms47_0 := NB299_267.out
       have hms47_1 := NB299_281.out
       have hs49 : w42.cell? ⟨gb299, 3, none⟩ = some (.slice none 0 0) := (blk_cell BK299.out 3).trans rfl
       have hfs49 := blk_frozen BK299.out 3
       have hns49_0 := NB267_299.out
       have hns49_1 := NB281_299.out
       have hms49_0 := NB299_267.out
       have hms49_1 := NB299_281.out
       refine skip_ (w1 := ?_) (by rfl) rfl ?_ ?_
       rotate_left
       ·go_simp
        rfl
       refine hK.out _ _ ⟨((cell_far (p := ⟨gb299, _, none⟩) NB281_299.out _).trans (((cell_far (p := ⟨gb299, _, none⟩) NB281_299.out _).trans (((cell_far (p := ⟨gb299, _, none⟩) NB281_299.out _).trans (((cell_far (p := ⟨gb299, _, none⟩) NB281_299.out _).trans (hHeld.1)))))))), ((cell_far (p := ⟨gb299, _, none⟩) NB281_299.out _).trans (((cell_far (p := ⟨gb299, _, none⟩) NB281_299.out _).trans (((cell_far (p := ⟨gb299, _, none⟩) NB281_299.out _).trans (((cell_far (p := ⟨gb299, _, none⟩) NB281_299.out _).trans (hHeld.2.1)))))))), ((cell_far (p := ⟨gb299, _, none⟩) NB281_299.out _).trans (((cell_far (p := ⟨gb299, _, none⟩) NB281_299.out _).trans (((cell_far (p := ⟨gb299, _, none⟩) NB281_299.out _).trans (((cell_far (p := ⟨gb299, _, none⟩) NB281_299.out _).trans (hHeld.2.2.1)))))))), ((cell_far (p := ⟨gb299, _, none⟩) NB281_299.out _).trans (((cell_far (p := ⟨gb299, _, none⟩) NB281_299.out _).trans (((cell_far (p := ⟨gb299, _, none⟩) NB281_299.out _).trans (((cell_far (p := ⟨gb299, _, none⟩) NB281_299.out _).trans (hHeld.2.2.2))))))))⟩ (fun hHeld => ?_)
       clear hK K
       refine pure_ (i := 10) (N := some 7) (v := ?_) (a' := ?_) #[true, true, true, true, true, true, true, true, true, true, true] rfl rfl (any_of HT_.out (by kernel_rfl)) (fun _ _ _ h => h) (Or.inl ⟨by rfl, ?_⟩) ?_ ?_
       rotate_left
       ·intro w'
        go_simp
        with_reducible rfl
       rotate_left
       ·simp only [Act.put, List.setIfInBounds_toArray, List.set_cons_zero, List.set_cons_succ, i64_w, i32_w]
        rfl
       refine done_ (done_of HT_.out (by kernel_rfl)) ?_
       have hnb50 := NB267_299.out
       have hnc50 := NB299_267.out
       have hcz51_0 : w42.cell? ⟨gb267, 0, none⟩ = some (.int .i64 a0_0) := (blk_cell BK267.out 0).trans rfl
       have hcz51_1 : w42.cell? ⟨gb267, 1, none⟩ = some (.slice A0_1 l0_1.length c0_1) := (blk_cell BK267.out 1).trans rfl
       have hcz51_2 : w42.cell? ⟨gb267, 2, none⟩ = some (.slice A0_2 l0_2.length c0_2) := (blk_cell BK267.out 2).trans rfl
       have hcz51_3 : w42.cell? ⟨gb267, 3, none⟩ = some (.slice A0_3 l0_3.length c0_3) := (blk_cell BK267.out 3).trans rfl
       have hfz51_0 := blk_frozen BK267.out 0
       have hfz51_1 := blk_frozen BK267.out 1
       have hfz51_2 := blk_frozen BK267.out 2
       have hfz51_3 := blk_frozen BK267.out 3
       try go_wp2_with (first | ((with_reducible refine gate_callee (f := 19) rfl ?_); refine goesL_ (some 35) rfl rfl Tryd.func19 (by kernel_rfl) rfl #[.agg #[.int .i64 a0_0, .slice A0_1 l0_1.length c0_1, .slice A0_2 l0_2.length c0_2, .slice A0_3 l0_3.length c0_3], .slice A1 l1.length c1] rfl (by (try simp only [List.map_toArray, List.map_cons, List.map_nil]); first | done | rfl | (simp only [List.length_drop, List.length_take]; rfl)) ?_; (with_reducible refine (dioramaref08_Set.calls kj2 a0_0 _ _ l0_1 _ _ l0_2 _ _ l0_3 _ _ l1 t300 t301 t304 t307 t310 _ ?side1 ?side2 ?side3 ?side4 ?side5 ?side6 ?side7 ?side8 A21.out).mono ?_); (case side1 => exact Kd.C_below HR0_1.out (BB HB)); (case side2 => exact HC0_1.out); (case side3 => exact Kd.C_below HR0_2.out (BB HB)); (case side4 => exact HC0_2.out); (case side5 => exact Kd.C_below HR0_3.out (BB HB)); (case side6 => exact HC0_3.out); (case side7 => exact Kd.C_below HR1.out (BB HB)); (case side8 => exact HC1.out); rintro e w52 ⟨v302, v305, v308, rfl, ho0, ho1, ho2, hb⟩; refine ⟨_, rfl, ?_⟩; have n0_ := Aside0.mk (Kd.R_elder' (by exact (Kd.R_mono (Kd.R_far (p := ⟨gb299, 3, none⟩) (Kd.R_far (p := ⟨gb299, 2, none⟩) (Kd.R_far (p := ⟨gb299, 1, none⟩) (Kd.R_far (p := ⟨gb299, 0, none⟩) (Kd.R_types HO274.out BK299.out (by decide)) (fun _ hk => hk.2) (.int .i64 t288)) (fun _ hk => hk.2) (.slice Ao44 t289.length co44)) (fun _ hk => hk.2) (.slice Ao46 t292.length co46)) (fun _ hk => hk.2) (.slice Ao48 t295.length co48)) (fun _ h_ => h_.1))) (Kd.R_base ho0) hb); have n1_ := Aside0.mk (Kd.R_elder' (by exact (Kd.R_mono (Kd.R_far (p := ⟨gb299, 3, none⟩) (Kd.R_far (p := ⟨gb299, 2, none⟩) (Kd.R_far (p := ⟨gb299, 1, none⟩) (Kd.R_far (p := ⟨gb299, 0, none⟩) (Kd.R_types HO277.out BK299.out (by decide)) (fun _ hk => hk.2) (.int .i64 t288)) (fun _ hk => hk.2) (.slice Ao44 t289.length co44)) (fun _ hk => hk.2) (.slice Ao46 t292.length co46)) (fun _ hk => hk.2) (.slice Ao48 t295.length co48)) (fun _ h_ => h_.1))) (Kd.R_base ho1) hb); have n2_ := Aside0.mk (Kd.R_elder' (by exact (Kd.R_mono (Kd.R_far (p := ⟨gb299, 3, none⟩) (Kd.R_far (p := ⟨gb299, 2, none⟩) (Kd.R_far (p := ⟨gb299, 1, none⟩) (Kd.R_far (p := ⟨gb299, 0, none⟩) (Kd.R_types HO280.out BK299.out (by decide)) (fun _ hk => hk.2) (.int .i64 t288)) (fun _ hk => hk.2) (.slice Ao44 t289.length co44)) (fun _ hk => hk.2) (.slice Ao46 t292.length co46)) (fun _ hk => hk.2) (.slice Ao48 t295.length co48)) (fun _ h_ => h_.1))) (Kd.R_base ho2) hb); have n3_ := Aside0.mk (Kd.R_below (by exact (Kd.R_mono (Kd.R_far (p := ⟨gb299, 3, none⟩) (Kd.R_far (p := ⟨gb299, 2, none⟩) (Kd.R_far (p := ⟨gb299, 1, none⟩) (Kd.R_far (p := ⟨gb299, 0, none⟩) (Kd.R_types HO287.out BK299.out (by decide)) (fun _ hk => hk.2) (.int .i64 t288)) (fun _ hk => hk.2) (.slice Ao44 t289.length co44)) (fun _ hk => hk.2) (.slice Ao46 t292.length co46)) (fun _ hk => hk.2) (.slice Ao48 t295.length co48)) (fun _ h_ => h_.1))) hb); have n4_ := Aside0.mk (Kd.R_elder' (by exact (Kd.R_mono (Kd.R_far (p := ⟨gb299, 3, none⟩) (Kd.R_far (p := ⟨gb299, 2, none⟩) (Kd.R_far (p := ⟨gb299, 1, none⟩) (Kd.R_far (p := ⟨gb299, 0, none⟩) (Kd.R_types HO291.out BK299.out (by decide)) (fun _ hk => hk.2) (.int .i64 t288)) (fun _ hk => hk.2) (.slice Ao44 t289.length co44)) (fun _ hk => hk.2) (.slice Ao46 t292.length co46)) (fun _ hk => hk.2) (.slice Ao48 t295.length co48)) (fun _ h_ => h_.1))) (Kd.R_base ho0) hb); have n5_ := Aside0.mk (Kd.R_elder' (by exact (Kd.R_mono (Kd.R_far (p := ⟨gb299, 3, none⟩) (Kd.R_far (p := ⟨gb299, 2, none⟩) (Kd.R_far (p := ⟨gb299, 1, none⟩) (Kd.R_far (p := ⟨gb299, 0, none⟩) (Kd.R_types HO294.out BK299.out (by decide)) (fun _ hk => hk.2) (.int .i64 t288)) (fun _ hk => hk.2) (.slice Ao44 t289.length co44)) (fun _ hk => hk.2) (.slice Ao46 t292.length co46)) (fun _ hk => hk.2) (.slice Ao48 t295.length co48)) (fun _ h_ => h_.1))) (Kd.R_base ho1) hb); have n6_ := Aside0.mk (Kd.R_elder' (by exact (Kd.R_mono (Kd.R_far (p := ⟨gb299, 3, none⟩) (Kd.R_far (p := ⟨gb299, 2, none⟩) (Kd.R_far (p := ⟨gb299, 1, none⟩) (Kd.R_far (p := ⟨gb299, 0, none⟩) (Kd.R_types HO297.out BK299.out (by decide)) (fun _ hk => hk.2) (.int .i64 t288)) (fun _ hk => hk.2) (.slice Ao44 t289.length co44)) (fun _ hk => hk.2) (.slice Ao46 t292.length co46)) (fun _ hk => hk.2) (.slice Ao48 t295.length co48)) (fun _ h_ => h_.1))) (Kd.R_base ho2) hb); have n7_ := Aside0.mk (Kd.R_lower (Kd.R_new' (Kd.R_new' ho0 (Kd.R_lt (by exact (Kd.R_mono (Kd.R_far (p := ⟨gb299, 3, none⟩) (Kd.R_far (p := ⟨gb299, 2, none⟩) (Kd.R_far (p := ⟨gb299, 1, none⟩) (Kd.R_far (p := ⟨gb299, 0, none⟩) (Kd.R_types HO274.out BK299.out (by decide)) (fun _ hk => hk.2) (.int .i64 t288)) (fun _ hk => hk.2) (.slice Ao44 t289.length co44)) (fun _ hk => hk.2) (.slice Ao46 t292.length co46)) (fun _ hk => hk.2) (.slice Ao48 t295.length co48)) (fun _ h_ => h_.1))))) (Kd.R_lt (by exact (Kd.R_mono (Kd.R_far (p := ⟨gb299, 3, none⟩) (Kd.R_far (p := ⟨gb299, 2, none⟩) (Kd.R_far (p := ⟨gb299, 1, none⟩) (Kd.R_far (p := ⟨gb299, 0, none⟩) (Kd.R_types HO291.out BK299.out (by decide)) (fun _ hk => hk.2) (.int .i64 t288)) (fun _ hk => hk.2) (.slice Ao44 t289.length co44)) (fun _ hk => hk.2) (.slice Ao46 t292.length co46)) (fun _ hk => hk.2) (.slice Ao48 t295.length co48)) (fun _ h_ => h_.1))))) (below_size (BB HB))); have n8_ := Aside0.mk (Kd.R_lower (Kd.R_new' (Kd.R_new' ho1 (Kd.R_lt (by exact (Kd.R_mono (Kd.R_far (p := ⟨gb299, 3, none⟩) (Kd.R_far (p := ⟨gb299, 2, none⟩) (Kd.R_far (p := ⟨gb299, 1, none⟩) (Kd.R_far (p := ⟨gb299, 0, none⟩) (Kd.R_types HO277.out BK299.out (by decide)) (fun _ hk => hk.2) (.int .i64 t288)) (fun _ hk => hk.2) (.slice Ao44 t289.length co44)) (fun _ hk => hk.2) (.slice Ao46 t292.length co46)) (fun _ hk => hk.2) (.slice Ao48 t295.length co48)) (fun _ h_ => h_.1))))) (Kd.R_lt (by exact (Kd.R_mono (Kd.R_far (p := ⟨gb299, 3, none⟩) (Kd.R_far (p := ⟨gb299, 2, none⟩) (Kd.R_far (p := ⟨gb299, 1, none⟩) (Kd.R_far (p := ⟨gb299, 0, none⟩) (Kd.R_types HO294.out BK299.out (by decide)) (fun _ hk => hk.2) (.int .i64 t288)) (fun _ hk => hk.2) (.slice Ao44 t289.length co44)) (fun _ hk => hk.2) (.slice Ao46 t292.length co46)) (fun _ hk => hk.2) (.slice Ao48 t295.length co48)) (fun _ h_ => h_.1))))) (below_size (BB HB))); have n9_ := Aside0.mk (Kd.R_lower (Kd.R_new' (Kd.R_new' ho2 (Kd.R_lt (by exact (Kd.R_mono (Kd.R_far (p := ⟨gb299, 3, none⟩) (Kd.R_far (p := ⟨gb299, 2, none⟩) (Kd.R_far (p := ⟨gb299, 1, none⟩) (Kd.R_far (p := ⟨gb299, 0, none⟩) (Kd.R_types HO280.out BK299.out (by decide)) (fun _ hk => hk.2) (.int .i64 t288)) (fun _ hk => hk.2) (.slice Ao44 t289.length co44)) (fun _ hk => hk.2) (.slice Ao46 t292.length co46)) (fun _ hk => hk.2) (.slice Ao48 t295.length co48)) (fun _ h_ => h_.1))))) (Kd.R_lt (by exact (Kd.R_mono (Kd.R_far (p := ⟨gb299, 3, none⟩) (Kd.R_far (p := ⟨gb299, 2, none⟩) (Kd.R_far (p := ⟨gb299, 1, none⟩) (Kd.R_far (p := ⟨gb299, 0, none⟩) (Kd.R_types HO297.out BK299.out (by decide)) (fun _ hk => hk.2) (.int .i64 t288)) (fun _ hk => hk.2) (.slice Ao44 t289.length co44)) (fun _ hk => hk.2) (.slice Ao46 t292.length co46)) (fun _ hk => hk.2) (.slice Ao48 t295.length co48)) (fun _ h_ => h_.1))))) (below_size (BB HB))); have n10_ := Aside0.mk (blk_below (g := gb267) (o := .cells #[.int .i64 a0_0, .slice A0_1 l0_1.length c0_1, .slice A0_2 l0_2.length c0_2, .slice A0_3 l0_3.length c0_3] 26 (0, 0)) (by refine blk_far ?_ NB267_299.out _; refine blk_far ?_ NB267_299.out _; refine blk_far ?_ NB267_299.out _; refine blk_far ?_ NB267_299.out _; (with_reducible repeat (first | refine blk_drewN ?_ _ | refine blk_drew ?_ | refine blk_alloc ?_ _)); exact BK267.out) hb); have n11_ := Aside0.mk (blk_below (g := gb281) (o := .cells #[.int .i64 t271, .slice Ao31 t272.length co31, .slice Ao32 t275.length co32, .slice Ao33 t278.length co33] 26 (0, 0)) (by refine blk_far ?_ NB281_299.out _; refine blk_far ?_ NB281_299.out _; refine blk_far ?_ NB281_299.out _; refine blk_far ?_ NB281_299.out _; (with_reducible repeat (first | refine blk_drewN ?_ _ | refine blk_drew ?_ | refine blk_alloc ?_ _)); exact BK281.out) hb); have n12_ := Aside0.mk (blk_below (g := gb299) (o := .cells #[.int .i64 t288, .slice Ao44 t289.length co44, .slice Ao46 t292.length co46, .slice Ao48 t295.length co48] 26 (0, 0)) (by refine blk_put (cs := #[.int .i64 t288, .slice Ao44 t289.length co44, .slice Ao46 t292.length co46, .slice none 0 0]) ?_ 3 _ rfl; refine blk_put (cs := #[.int .i64 t288, .slice Ao44 t289.length co44, .slice none 0 0, .slice none 0 0]) ?_ 2 _ rfl; refine blk_put (cs := #[.int .i64 t288, .slice none 0 0, .slice none 0 0, .slice none 0 0]) ?_ 1 _ rfl; refine blk_put (cs := #[.int .i64 0, .slice none 0 0, .slice none 0 0, .slice none 0 0]) ?_ 0 _ rfl; (with_reducible repeat (first | refine blk_drewN ?_ _ | refine blk_drew ?_ | refine blk_alloc ?_ _)); exact BK299.out) hb); have n13_ := Aside0.mk (below_step (BB HB) hb); clear HO274; clear HO277; clear HO280; clear HO287; clear HO291; clear HO294; clear HO297; clear BK267; clear BK281; clear BK299; clear HB; have HO274 := n0_; have HO277 := n1_; have HO280 := n2_; have HO287 := n3_; have HO291 := n4_; have HO294 := n5_; have HO297 := n6_; have HO303 := n7_; have HO306 := n8_; have HO309 := n9_; have BK267 := n10_; have BK281 := n11_; have BK299 := n12_; have HB := n13_; clear n0_ n1_ n2_ n3_ n4_ n5_ n6_ n7_ n8_ n9_ n10_ n11_ n12_ n13_; (try clear hb); (try clear hb2); (try clear hk); (try clear hi); (try clear ho0); (try clear ho1); (try clear ho2)) | ((with_reducible refine gate_dst (N := 8) rfl ?_); refine box_event ?hg (N := 8) ?hd (cs := #[.int .i64 0, .slice none 0 0, .slice none 0 0, .slice none 0 0]) (t := 26) ?hr ?_; (case hd => rfl); (case hg => rfl); (case hr => first | (go_simp; done) | (go_simp; rfl)); intro gb311 hg w53 hbox hb; have n0_ := Aside0.mk (Kd.R_below (RL HO274) hb); have n1_ := Aside0.mk (Kd.R_below (RL HO277) hb); have n2_ := Aside0.mk (Kd.R_below (RL HO280) hb); have n3_ := Aside0.mk (Kd.R_below (RL HO287) hb); have n4_ := Aside0.mk (Kd.R_below (RL HO291) hb); have n5_ := Aside0.mk (Kd.R_below (RL HO294) hb); have n6_ := Aside0.mk (Kd.R_below (RL HO297) hb); have n7_ := Aside0.mk (Kd.R_below (RL HO303) hb); have n8_ := Aside0.mk (Kd.R_below (RL HO306) hb); have n9_ := Aside0.mk (Kd.R_below (RL HO309) hb); have n10_ := BE BK267 hb; have n11_ := BE BK281 hb; have n12_ := BE BK299 hb; have n13_ := Aside0.mk (below_step (BB HB) hb); have n14_ := Aside0.mk (hbox); have n15_ := Aside0.mk ((by rw [hg]; exact (below_size (BB HB)) : w.heap.size ≤ gb311)); have n16_ := Aside0.mk ((by rw [hg]; exact (below_size (BB HB)) : w.heap.size ≤ gb311)); have n17_ := Aside0.mk ((by rw [hg]; exact Nat.ne_of_lt (blk_lt (g := gb267) (o := .cells #[.int .i64 a0_0, .slice A0_1 l0_1.length c0_1, .slice A0_2 l0_2.length c0_2, .slice A0_3 l0_3.length c0_3] 26 (0, 0)) (BL BK267)) : gb267 ≠ gb311)); have n18_ := Aside0.mk ((by rw [hg]; exact Nat.ne_of_gt (blk_lt (g := gb267) (o := .cells #[.int .i64 a0_0, .slice A0_1 l0_1.length c0_1, .slice A0_2 l0_2.length c0_2, .slice A0_3 l0_3.length c0_3] 26 (0, 0)) (BL BK267)) : gb311 ≠ gb267)); have n19_ := Aside0.mk ((by rw [hg]; exact Nat.ne_of_lt (blk_lt (g := gb281) (o := .cells #[.int .i64 t271, .slice Ao31 t272.length co31, .slice Ao32 t275.length co32, .slice Ao33 t278.length co33] 26 (0, 0)) (BL BK281)) : gb281 ≠ gb311)); have n20_ := Aside0.mk ((by rw [hg]; exact Nat.ne_of_gt (blk_lt (g := gb281) (o := .cells #[.int .i64 t271, .slice Ao31 t272.length co31, .slice Ao32 t275.length co32, .slice Ao33 t278.length co33] 26 (0, 0)) (BL BK281)) : gb311 ≠ gb281)); have n21_ := Aside0.mk ((by rw [hg]; exact Nat.ne_of_lt (blk_lt (g := gb299) (o := .cells #[.int .i64 t288, .slice Ao44 t289.length co44, .slice Ao46 t292.length co46, .slice Ao48 t295.length co48] 26 (0, 0)) (BL BK299)) : gb299 ≠ gb311)); have n22_ := Aside0.mk ((by rw [hg]; exact Nat.ne_of_gt (blk_lt (g := gb299) (o := .cells #[.int .i64 t288, .slice Ao44 t289.length co44, .slice Ao46 t292.length co46, .slice Ao48 t295.length co48] 26 (0, 0)) (BL BK299)) : gb311 ≠ gb299)); clear HO274; clear HO277; clear HO280; clear HO287; clear HO291; clear HO294; clear HO297; clear HO303; clear HO306; clear HO309; clear BK267; clear BK281; clear BK299; clear HB; have HO274 := n0_; have HO277 := n1_; have HO280 := n2_; have HO287 := n3_; have HO291 := n4_; have HO294 := n5_; have HO297 := n6_; have HO303 := n7_; have HO306 := n8_; have HO309 := n9_; have BK267 := n10_; have BK281 := n11_; have BK299 := n12_; have HB := n13_; have BK311 := n14_; have GW311 := n15_; have GE311 := n16_; have NB267_311 := n17_; have NB311_267 := n18_; have NB281_311 := n19_; have NB311_281 := n20_; have NB299_311 := n21_; have NB311_299 := n22_; clear n0_ n1_ n2_ n3_ n4_ n5_ n6_ n7_ n8_ n9_ n10_ n11_ n12_ n13_ n14_ n15_ n16_ n17_ n18_ n19_ n20_ n21_ n22_; clear hb hbox hg; have hnb54 := NB311_267.out; have hnc54 := NB267_311.out; have hnb55 := NB311_281.out; have hnc55 := NB281_311.out; have hnb56 := NB311_299.out; have hnc56 := NB299_311.out; have hcz57_0 : w53.cell? ⟨gb311, 0, none⟩ = some (.int .i64 0) := (blk_cell BK311.out 0).trans rfl; have hcz57_1 : w53.cell? ⟨gb311, 1, none⟩ = some (.slice none 0 0) := (blk_cell BK311.out 1).trans rfl; have hcz57_2 : w53.cell? ⟨gb311, 2, none⟩ = some (.slice none 0 0) := (blk_cell BK311.out 2).trans rfl; have hcz57_3 : w53.cell? ⟨gb311, 3, none⟩ = some (.slice none 0 0) := (blk_cell BK311.out 3).trans rfl; have hfz57_0 := blk_frozen BK311.out 0; have hfz57_1 := blk_frozen BK311.out 1; have hfz57_2 := blk_frozen BK311.out 2; have hfz57_3 := blk_frozen BK311.out 3; obtain ⟨Ao58, co58, eo58⟩ := Kd.R_slice HO303.out; subst eo58; obtain ⟨Ao59, co59, eo59⟩ := Kd.R_slice HO306.out; subst eo59; obtain ⟨Ao60, co60, eo60⟩ := Kd.R_slice HO309.out; subst eo60; have hnb61 := NB299_281.out; have hnc61 := NB281_299.out; have hcz62_0 : w53.cell? ⟨gb299, 0, none⟩ = some (.int .i64 t288) := (blk_cell BK299.out 0).trans rfl; have hcz62_1 : w53.cell? ⟨gb299, 1, none⟩ = some (.slice Ao44 t289.length co44) := (blk_cell BK299.out 1).trans rfl; have hcz62_2 : w53.cell? ⟨gb299, 2, none⟩ = some (.slice Ao46 t292.length co46) := (blk_cell BK299.out 2).trans rfl; have hcz62_3 : w53.cell? ⟨gb299, 3, none⟩ = some (.slice Ao48 t295.length co48) := (blk_cell BK299.out 3).trans rfl; have hfz62_0 := blk_frozen BK299.out 0; have hfz62_1 := blk_frozen BK299.out 1; have hfz62_2 := blk_frozen BK299.out 2; have hfz62_3 := blk_frozen BK299.out 3) | (go_at_call 20; (with_reducible refine (dioramaref08_Same.calls kj2 t288 _ _ t289 _ _ t292 _ _ t295 t300 _ _ t301 _ _ t304 _ _ t307 true _ ?side1 ?side2 ?side3 ?side4 ?side5 ?side6 ?side7 ?side8 ?side9 ?side10 ?side11 ?side12 A23.out).mono ?_); (case side1 => refine (Kd.R_reads' (e := 2) (base := w.heap.size) (ok := fun k_ => (some k_ ≠ (.slice Ao31 t272.length co31 : Value).ownBlock ∧ some k_ ≠ (.slice Ao58 t301.length co58 : Value).ownBlock)) (n := t289.length) (c := co44) ?_).2.2; exact (by exact (Kd.R_mono (Kd.R_far (p := ⟨gb311, 3, none⟩) (Kd.R_far (p := ⟨gb311, 2, none⟩) (Kd.R_far (p := ⟨gb311, 1, none⟩) (Kd.R_far (p := ⟨gb311, 0, none⟩) (Kd.R_types HO291.out BK311.out (by decide)) (fun _ hk => hk.2) (.int .i64 t300)) (fun _ hk => hk.2) (.slice Ao58 t301.length co58)) (fun _ hk => hk.2) (.slice Ao59 t304.length co59)) (fun _ hk => hk.2) (.slice Ao60 t307.length co60)) (fun _ h_ => h_.1)))); (case side2 => exact (Kd.R_reads' HO291.out).2.1); (case side3 => refine (Kd.R_reads' (e := 9) (base := w.heap.size) (ok := fun k_ => (some k_ ≠ (.slice Ao32 t275.length co32 : Value).ownBlock ∧ some k_ ≠ (.slice Ao59 t304.length co59 : Value).ownBlock)) (n := t292.length) (c := co46) ?_).2.2; exact (by exact (Kd.R_mono (Kd.R_far (p := ⟨gb311, 3, none⟩) (Kd.R_far (p := ⟨gb311, 2, none⟩) (Kd.R_far (p := ⟨gb311, 1, none⟩) (Kd.R_far (p := ⟨gb311, 0, none⟩) (Kd.R_types HO294.out BK311.out (by decide)) (fun _ hk => hk.2) (.int .i64 t300)) (fun _ hk => hk.2) (.slice Ao58 t301.length co58)) (fun _ hk => hk.2) (.slice Ao59 t304.length co59)) (fun _ hk => hk.2) (.slice Ao60 t307.length co60)) (fun _ h_ => h_.1)))); (case side4 => exact (Kd.R_reads' HO294.out).2.1); (case side5 => refine (Kd.R_reads' (e := 3) (base := w.heap.size) (ok := fun k_ => (some k_ ≠ (.slice Ao33 t278.length co33 : Value).ownBlock ∧ some k_ ≠ (.slice Ao60 t307.length co60 : Value).ownBlock)) (n := t295.length) (c := co48) ?_).2.2; exact (by exact (Kd.R_mono (Kd.R_far (p := ⟨gb311, 3, none⟩) (Kd.R_far (p := ⟨gb311, 2, none⟩) (Kd.R_far (p := ⟨gb311, 1, none⟩) (Kd.R_far (p := ⟨gb311, 0, none⟩) (Kd.R_types HO297.out BK311.out (by decide)) (fun _ hk => hk.2) (.int .i64 t300)) (fun _ hk => hk.2) (.slice Ao58 t301.length co58)) (fun _ hk => hk.2) (.slice Ao59 t304.length co59)) (fun _ hk => hk.2) (.slice Ao60 t307.length co60)) (fun _ h_ => h_.1)))); (case side6 => exact (Kd.R_reads' HO297.out).2.1); (case side7 => refine (Kd.R_reads' (e := 2) (base := w.heap.size) (ok := fun k_ => ((True ∧ some k_ ≠ (.slice Ao31 t272.length co31 : Value).ownBlock) ∧ some k_ ≠ (.slice Ao44 t289.length co44 : Value).ownBlock)) (n := t301.length) (c := co58) ?_).2.2; exact (by exact (Kd.R_mono (Kd.R_far (p := ⟨gb311, 3, none⟩) (Kd.R_far (p := ⟨gb311, 2, none⟩) (Kd.R_far (p := ⟨gb311, 1, none⟩) (Kd.R_far (p := ⟨gb311, 0, none⟩) (Kd.R_types HO303.out BK311.out (by decide)) (fun _ hk => hk.2) (.int .i64 t300)) (fun _ hk => hk.2) (.slice Ao58 t301.length co58)) (fun _ hk => hk.2) (.slice Ao59 t304.length co59)) (fun _ hk => hk.2) (.slice Ao60 t307.length co60)) (fun _ h_ => h_.1)))); (case side8 => exact (Kd.R_reads' HO303.out).2.1); (case side9 => refine (Kd.R_reads' (e := 9) (base := w.heap.size) (ok := fun k_ => ((True ∧ some k_ ≠ (.slice Ao32 t275.length co32 : Value).ownBlock) ∧ some k_ ≠ (.slice Ao46 t292.length co46 : Value).ownBlock)) (n := t304.length) (c := co59) ?_).2.2; exact (by exact (Kd.R_mono (Kd.R_far (p := ⟨gb311, 3, none⟩) (Kd.R_far (p := ⟨gb311, 2, none⟩) (Kd.R_far (p := ⟨gb311, 1, none⟩) (Kd.R_far (p := ⟨gb311, 0, none⟩) (Kd.R_types HO306.out BK311.out (by decide)) (fun _ hk => hk.2) (.int .i64 t300)) (fun _ hk => hk.2) (.slice Ao58 t301.length co58)) (fun _ hk => hk.2) (.slice Ao59 t304.length co59)) (fun _ hk => hk.2) (.slice Ao60 t307.length co60)) (fun _ h_ => h_.1)))); (case side10 => exact (Kd.R_reads' HO306.out).2.1); (case side11 => refine (Kd.R_reads' (e := 3) (base := w.heap.size) (ok := fun k_ => ((True ∧ some k_ ≠ (.slice Ao33 t278.length co33 : Value).ownBlock) ∧ some k_ ≠ (.slice Ao48 t295.length co48 : Value).ownBlock)) (n := t307.length) (c := co60) ?_).2.2; exact (by exact (Kd.R_mono (Kd.R_far (p := ⟨gb311, 3, none⟩) (Kd.R_far (p := ⟨gb311, 2, none⟩) (Kd.R_far (p := ⟨gb311, 1, none⟩) (Kd.R_far (p := ⟨gb311, 0, none⟩) (Kd.R_types HO309.out BK311.out (by decide)) (fun _ hk => hk.2) (.int .i64 t300)) (fun _ hk => hk.2) (.slice Ao58 t301.length co58)) (fun _ hk => hk.2) (.slice Ao59 t304.length co59)) (fun _ hk => hk.2) (.slice Ao60 t307.length co60)) (fun _ h_ => h_.1)))); (case side12 => exact (Kd.R_reads' HO309.out).2.1); rintro e w63 ⟨rfl, hb⟩; have n0_ := Aside0.mk (Kd.R_below (by exact (Kd.R_mono (Kd.R_far (p := ⟨gb311, 3, none⟩) (Kd.R_far (p := ⟨gb311, 2, none⟩) (Kd.R_far (p := ⟨gb311, 1, none⟩) (Kd.R_far (p := ⟨gb311, 0, none⟩) (Kd.R_types HO274.out BK311.out (by decide)) (fun _ hk => hk.2) (.int .i64 t300)) (fun _ hk => hk.2) (.slice Ao58 t301.length co58)) (fun _ hk => hk.2) (.slice Ao59 t304.length co59)) (fun _ hk => hk.2) (.slice Ao60 t307.length co60)) (fun _ h_ => h_.1))) hb); have n1_ := Aside0.mk (Kd.R_below (by exact (Kd.R_mono (Kd.R_far (p := ⟨gb311, 3, none⟩) (Kd.R_far (p := ⟨gb311, 2, none⟩) (Kd.R_far (p := ⟨gb311, 1, none⟩) (Kd.R_far (p := ⟨gb311, 0, none⟩) (Kd.R_types HO277.out BK311.out (by decide)) (fun _ hk => hk.2) (.int .i64 t300)) (fun _ hk => hk.2) (.slice Ao58 t301.length co58)) (fun _ hk => hk.2) (.slice Ao59 t304.length co59)) (fun _ hk => hk.2) (.slice Ao60 t307.length co60)) (fun _ h_ => h_.1))) hb); have n2_ := Aside0.mk (Kd.R_below (by exact (Kd.R_mono (Kd.R_far (p := ⟨gb311, 3, none⟩) (Kd.R_far (p := ⟨gb311, 2, none⟩) (Kd.R_far (p := ⟨gb311, 1, none⟩) (Kd.R_far (p := ⟨gb311, 0, none⟩) (Kd.R_types HO280.out BK311.out (by decide)) (fun _ hk => hk.2) (.int .i64 t300)) (fun _ hk => hk.2) (.slice Ao58 t301.length co58)) (fun _ hk => hk.2) (.slice Ao59 t304.length co59)) (fun _ hk => hk.2) (.slice Ao60 t307.length co60)) (fun _ h_ => h_.1))) hb); have n3_ := Aside0.mk (Kd.R_below (by exact (Kd.R_mono (Kd.R_far (p := ⟨gb311, 3, none⟩) (Kd.R_far (p := ⟨gb311, 2, none⟩) (Kd.R_far (p := ⟨gb311, 1, none⟩) (Kd.R_far (p := ⟨gb311, 0, none⟩) (Kd.R_types HO287.out BK311.out (by decide)) (fun _ hk => hk.2) (.int .i64 t300)) (fun _ hk => hk.2) (.slice Ao58 t301.length co58)) (fun _ hk => hk.2) (.slice Ao59 t304.length co59)) (fun _ hk => hk.2) (.slice Ao60 t307.length co60)) (fun _ h_ => h_.1))) hb); have n4_ := Aside0.mk (Kd.R_below (by exact (Kd.R_mono (Kd.R_far (p := ⟨gb311, 3, none⟩) (Kd.R_far (p := ⟨gb311, 2, none⟩) (Kd.R_far (p := ⟨gb311, 1, none⟩) (Kd.R_far (p := ⟨gb311, 0, none⟩) (Kd.R_types HO291.out BK311.out (by decide)) (fun _ hk => hk.2) (.int .i64 t300)) (fun _ hk => hk.2) (.slice Ao58 t301.length co58)) (fun _ hk => hk.2) (.slice Ao59 t304.length co59)) (fun _ hk => hk.2) (.slice Ao60 t307.length co60)) (fun _ h_ => h_.1))) hb); have n5_ := Aside0.mk (Kd.R_below (by exact (Kd.R_mono (Kd.R_far (p := ⟨gb311, 3, none⟩) (Kd.R_far (p := ⟨gb311, 2, none⟩) (Kd.R_far (p := ⟨gb311, 1, none⟩) (Kd.R_far (p := ⟨gb311, 0, none⟩) (Kd.R_types HO294.out BK311.out (by decide)) (fun _ hk => hk.2) (.int .i64 t300)) (fun _ hk => hk.2) (.slice Ao58 t301.length co58)) (fun _ hk => hk.2) (.slice Ao59 t304.length co59)) (fun _ hk => hk.2) (.slice Ao60 t307.length co60)) (fun _ h_ => h_.1))) hb); have n6_ := Aside0.mk (Kd.R_below (by exact (Kd.R_mono (Kd.R_far (p := ⟨gb311, 3, none⟩) (Kd.R_far (p := ⟨gb311, 2, none⟩) (Kd.R_far (p := ⟨gb311, 1, none⟩) (Kd.R_far (p := ⟨gb311, 0, none⟩) (Kd.R_types HO297.out BK311.out (by decide)) (fun _ hk => hk.2) (.int .i64 t300)) (fun _ hk => hk.2) (.slice Ao58 t301.length co58)) (fun _ hk => hk.2) (.slice Ao59 t304.length co59)) (fun _ hk => hk.2) (.slice Ao60 t307.length co60)) (fun _ h_ => h_.1))) hb); have n7_ := Aside0.mk (Kd.R_below (by exact (Kd.R_mono (Kd.R_far (p := ⟨gb311, 3, none⟩) (Kd.R_far (p := ⟨gb311, 2, none⟩) (Kd.R_far (p := ⟨gb311, 1, none⟩) (Kd.R_far (p := ⟨gb311, 0, none⟩) (Kd.R_types HO303.out BK311.out (by decide)) (fun _ hk => hk.2) (.int .i64 t300)) (fun _ hk => hk.2) (.slice Ao58 t301.length co58)) (fun _ hk => hk.2) (.slice Ao59 t304.length co59)) (fun _ hk => hk.2) (.slice Ao60 t307.length co60)) (fun _ h_ => h_.1))) hb); have n8_ := Aside0.mk (Kd.R_below (by exact (Kd.R_mono (Kd.R_far (p := ⟨gb311, 3, none⟩) (Kd.R_far (p := ⟨gb311, 2, none⟩) (Kd.R_far (p := ⟨gb311, 1, none⟩) (Kd.R_far (p := ⟨gb311, 0, none⟩) (Kd.R_types HO306.out BK311.out (by decide)) (fun _ hk => hk.2) (.int .i64 t300)) (fun _ hk => hk.2) (.slice Ao58 t301.length co58)) (fun _ hk => hk.2) (.slice Ao59 t304.length co59)) (fun _ hk => hk.2) (.slice Ao60 t307.length co60)) (fun _ h_ => h_.1))) hb); have n9_ := Aside0.mk (Kd.R_below (by exact (Kd.R_mono (Kd.R_far (p := ⟨gb311, 3, none⟩) (Kd.R_far (p := ⟨gb311, 2, none⟩) (Kd.R_far (p := ⟨gb311, 1, none⟩) (Kd.R_far (p := ⟨gb311, 0, none⟩) (Kd.R_types HO309.out BK311.out (by decide)) (fun _ hk => hk.2) (.int .i64 t300)) (fun _ hk => hk.2) (.slice Ao58 t301.length co58)) (fun _ hk => hk.2) (.slice Ao59 t304.length co59)) (fun _ hk => hk.2) (.slice Ao60 t307.length co60)) (fun _ h_ => h_.1))) hb); have n10_ := Aside0.mk (blk_below (g := gb267) (o := .cells #[.int .i64 a0_0, .slice A0_1 l0_1.length c0_1, .slice A0_2 l0_2.length c0_2, .slice A0_3 l0_3.length c0_3] 26 (0, 0)) (by refine blk_far ?_ NB267_311.out _; refine blk_far ?_ NB267_311.out _; refine blk_far ?_ NB267_311.out _; refine blk_far ?_ NB267_311.out _; (with_reducible repeat (first | refine blk_drewN ?_ _ | refine blk_drew ?_ | refine blk_alloc ?_ _)); exact BK267.out) hb); have n11_ := Aside0.mk (blk_below (g := gb281) (o := .cells #[.int .i64 t271, .slice Ao31 t272.length co31, .slice Ao32 t275.length co32, .slice Ao33 t278.length co33] 26 (0, 0)) (by refine blk_far ?_ NB281_311.out _; refine blk_far ?_ NB281_311.out _; refine blk_far ?_ NB281_311.out _; refine blk_far ?_ NB281_311.out _; (with_reducible repeat (first | refine blk_drewN ?_ _ | refine blk_drew ?_ | refine blk_alloc ?_ _)); exact BK281.out) hb); have n12_ := Aside0.mk (blk_below (g := gb299) (o := .cells #[.int .i64 t288, .slice Ao44 t289.length co44, .slice Ao46 t292.length co46, .slice Ao48 t295.length co48] 26 (0, 0)) (by refine blk_far ?_ NB299_311.out _; refine blk_far ?_ NB299_311.out _; refine blk_far ?_ NB299_311.out _; refine blk_far ?_ NB299_311.out _; (with_reducible repeat (first | refine blk_drewN ?_ _ | refine blk_drew ?_ | refine blk_alloc ?_ _)); exact BK299.out) hb); have n13_ := Aside0.mk (blk_below (g := gb311) (o := .cells #[.int .i64 t300, .slice Ao58 t301.length co58, .slice Ao59 t304.length co59, .slice Ao60 t307.length co60] 26 (0, 0)) (by refine blk_put (cs := #[.int .i64 t300, .slice Ao58 t301.length co58, .slice Ao59 t304.length co59, .slice none 0 0]) ?_ 3 _ rfl; refine blk_put (cs := #[.int .i64 t300, .slice Ao58 t301.length co58, .slice none 0 0, .slice none 0 0]) ?_ 2 _ rfl; refine blk_put (cs := #[.int .i64 t300, .slice none 0 0, .slice none 0 0, .slice none 0 0]) ?_ 1 _ rfl; refine blk_put (cs := #[.int .i64 0, .slice none 0 0, .slice none 0 0, .slice none 0 0]) ?_ 0 _ rfl; (with_reducible repeat (first | refine blk_drewN ?_ _ | refine blk_drew ?_ | refine blk_alloc ?_ _)); exact BK311.out) hb); have n14_ := Aside0.mk (below_step (BB HB) hb); clear HO274; clear HO277; clear HO280; clear HO287; clear HO291; clear HO294; clear HO297; clear HO303; clear HO306; clear HO309; clear BK267; clear BK281; clear BK299; clear BK311; clear HB; have HO274 := n0_; have HO277 := n1_; have HO280 := n2_; have HO287 := n3_; have HO291 := n4_; have HO294 := n5_; have HO297 := n6_; have HO303 := n7_; have HO306 := n8_; have HO309 := n9_; have BK267 := n10_; have BK281 := n11_; have BK299 := n12_; have BK311 := n13_; have HB := n14_; clear n0_ n1_ n2_ n3_ n4_ n5_ n6_ n7_ n8_ n9_ n10_ n11_ n12_ n13_ n14_; (try clear hb); (try clear hb2); (try clear hk); (try clear hi); have hcz64_0 : w63.cell? ⟨gb281, 0, none⟩ = some (.int .i64 t271) := (blk_cell BK281.out 0).trans rfl; have hcz64_1 : w63.cell? ⟨gb281, 1, none⟩ = some (.slice Ao31 t272.length co31) := (blk_cell BK281.out 1).trans rfl; have hcz64_2 : w63.cell? ⟨gb281, 2, none⟩ = some (.slice Ao32 t275.length co32) := (blk_cell BK281.out 2).trans rfl; have hcz64_3 : w63.cell? ⟨gb281, 3, none⟩ = some (.slice Ao33 t278.length co33) := (blk_cell BK281.out 3).trans rfl; have hfz64_0 := blk_frozen BK281.out 0; have hfz64_1 := blk_frozen BK281.out 1; have hfz64_2 := blk_frozen BK281.out 2; have hfz64_3 := blk_frozen BK281.out 3; have hcz65_0 : w63.cell? ⟨gb267, 0, none⟩ = some (.int .i64 a0_0) := (blk_cell BK267.out 0).trans rfl; have hcz65_1 : w63.cell? ⟨gb267, 1, none⟩ = some (.slice A0_1 l0_1.length c0_1) := (blk_cell BK267.out 1).trans rfl; have hcz65_2 : w63.cell? ⟨gb267, 2, none⟩ = some (.slice A0_2 l0_2.length c0_2) := (blk_cell BK267.out 2).trans rfl; have hcz65_3 : w63.cell? ⟨gb267, 3, none⟩ = some (.slice A0_3 l0_3.length c0_3) := (blk_cell BK267.out 3).trans rfl; have hfz65_0 := blk_frozen BK267.out 0; have hfz65_1 := blk_frozen BK267.out 1; have hfz65_2 := blk_frozen BK267.out 2; have hfz65_3 := blk_frozen BK267.out 3) | (go_at_call 20; (with_reducible refine (dioramaref08_Same.calls kj2 t271 _ _ t272 _ _ t275 _ _ t278 a0_0 _ _ l0_1 _ _ l0_2 _ _ l0_3 t313 _ ?side1 ?side2 ?side3 ?side4 ?side5 ?side6 ?side7 ?side8 ?side9 ?side10 ?side11 ?side12 A25.out).mono ?_); (case side1 => exact CR HO274); (case side2 => exact (Kd.R_reads' HO274.out).2.1); (case side3 => exact CR HO277); (case side4 => exact (Kd.R_reads' HO277.out).2.1); (case side5 => exact CR HO280); (case side6 => exact (Kd.R_reads' HO280.out).2.1); (case side7 => repeat (first | exact (Kd.C_below HR0_1.out HB.out) | (with_reducible refine Kd.C_alloc ?_ _) | (with_reducible refine Kd.C_drewN ?_ _) | (with_reducible refine Kd.C_drew ?_))); (case side8 => exact HC0_1.out); (case side9 => repeat (first | exact (Kd.C_below HR0_2.out HB.out) | (with_reducible refine Kd.C_alloc ?_ _) | (with_reducible refine Kd.C_drewN ?_ _) | (with_reducible refine Kd.C_drew ?_))); (case side10 => exact HC0_2.out); (case side11 => repeat (first | exact (Kd.C_below HR0_3.out HB.out) | (with_reducible refine Kd.C_alloc ?_ _) | (with_reducible refine Kd.C_drewN ?_ _) | (with_reducible refine Kd.C_drew ?_))); (case side12 => exact HC0_3.out); rintro e w66 ⟨rfl, hb⟩; have n0_ := Aside0.mk (Kd.R_below (RL HO274) hb); have n1_ := Aside0.mk (Kd.R_below (RL HO277) hb); have n2_ := Aside0.mk (Kd.R_below (RL HO280) hb); have n3_ := Aside0.mk (Kd.R_below (RL HO287) hb); have n4_ := Aside0.mk (Kd.R_below (RL HO291) hb); have n5_ := Aside0.mk (Kd.R_below (RL HO294) hb); have n6_ := Aside0.mk (Kd.R_below (RL HO297) hb); have n7_ := Aside0.mk (Kd.R_below (RL HO303) hb); have n8_ := Aside0.mk (Kd.R_below (RL HO306) hb); have n9_ := Aside0.mk (Kd.R_below (RL HO309) hb); have n10_ := BE BK267 hb; have n11_ := BE BK281 hb; have n12_ := BE BK299 hb; have n13_ := BE BK311 hb; have n14_ := Aside0.mk (below_step (BB HB) hb); clear HO274; clear HO277; clear HO280; clear HO287; clear HO291; clear HO294; clear HO297; clear HO303; clear HO306; clear HO309; clear BK267; clear BK281; clear BK299; clear BK311; clear HB; have HO274 := n0_; have HO277 := n1_; have HO280 := n2_; have HO287 := n3_; have HO291 := n4_; have HO294 := n5_; have HO297 := n6_; have HO303 := n7_; have HO306 := n8_; have HO309 := n9_; have BK267 := n10_; have BK281 := n11_; have BK299 := n12_; have BK311 := n13_; have HB := n14_; clear n0_ n1_ n2_ n3_ n4_ n5_ n6_ n7_ n8_ n9_ n10_ n11_ n12_ n13_ n14_; (try clear hb); (try clear hb2); (try clear hk); (try clear hi)))
       go_ret
       exact ⟨by first | rfl | (simp [errW_none, errW_some] <;> rfl) | (simp [*, errW_none, errW_some] <;> rfl), BB HB⟩
      ·replace c24 := Bool.eq_false_iff.mpr c24
       subst c24
       have H1 : (none) = some r := by rw [if_neg (show ¬ (false = true) by decide)] at H; exact H
       clear H
       have H := H1
       clear H1
       exact absurd H (by simp)
     ·rw [if_neg c22] at H
      exact absurd H (by simp)
    ·rw [if_neg c19] at H
     exact absurd H (by simp)

end Go.Proofs.YtmglknchklgokaaDoor.GW
