-- Printed by a program of the session (wip/gen/tprint.py, over a turned copy of the kit's print): Lean checks it.
import Derived.Test.YtmglknchklgokaaDoorGXx0
import Derived.Test.YtmglknchklgokaaDoorGXx4
import Derived.Test.YtmglknchklgokaaDoorGXx5
import Derived.Test.YtmglknchklgokaaDoorGXx6
import Derived.Test.YtmglknchklgokaaDoorGXx7
import Derived.Test.YtmglknchklgokaaDoorGXx9
import Derived.Test.YtmglknchklgokaaDoorGXx10
namespace Go.Proofs.YtmglknchklgokaaDoor.GX
open Go.RowKit Go.Proofs.YtmglknchklgokaaDoorW.PrintWords Go.Proofs.YtmglknchklgokaaDoorW.PrintLast Go.Proofs.YtmglknchklgokaaDoorW.PrintMore
attribute [local go_sem] max2_int min2_int max_two min_two max_three min_three max_four min_four   -- for this text's walks alone
set_option linter.unusedVariables false
set_option linter.unusedSimpArgs false

/-! ### dioramalaw08_FieldDiffs: function 5 -/
def dioramalaw08_FieldDiffs.j0 : Nat → Bool → Int → List Int → List ByteArray → List Int → Int → List Int → List ByteArray → List Int → Option (Bool)
 | 0, _, _, _, _, _, _, _, _, _ => none
 | k + 1, x21, x253000, x253001, x253002, x253003, x254000, x254001, x254002, x254003 => if x21 = true then ((dioramalaw08_awake.f k).bind fun t257 => (some t257)) else ((dioramaref08_Copy.f x253000 x253001 x253002 x253003).bind fun bt258 => ((dioramaref08_Copy.f x254000 x254001 x254002 x254003).bind fun bt268 => ((field_Diff.f k bt258.1 bt258.2.1 bt258.2.2.1 bt258.2.2.2 bt268.1 bt268.2.1 bt268.2.2.1 bt268.2.2.2).bind fun bt278 => ((dioramaref08_Diff.f k x253000 x253001 x253002 x253003 x254000 x254001 x254002 x254003).bind fun bt282 => (if (bt278.2 != bt282.2) = true then (none) else ((dioramaref08_SameSets.f k bt278.1 bt282.1).bind fun t286 => (if t286 = true then (if bt278.2 = true then ((field_Set.f k x253000 x253001 x253002 x253003 bt278.1).bind fun bt287 => ((dioramaref08_Copy.f x254000 x254001 x254002 x254003).bind fun bt299 => (if bt287.2.2.2.2 = 0 then ((dioramaref08_Same.f k bt287.1 bt287.2.1 bt287.2.2.1 bt287.2.2.2.1 bt299.1 bt299.2.1 bt299.2.2.1 x253003).bind fun t310 => (some t310)) else (none)))) else (some true)) else (some false))))))))
def dioramalaw08_FieldDiffs.f (k : Nat) (a0_0 : Int) (l0_1 : List Int) (l0_2 : List ByteArray) (l0_3 : List Int) (a1_0 : Int) (l1_1 : List Int) (l1_2 : List ByteArray) (l1_3 : List Int) : Option (Bool) := (dioramalaw08_awake.f k).bind fun t254 => (if t254 = true then ((dioramaref08_Great.f k a0_0 l0_1 l0_2 l0_3).bind fun t255 => (if t255 = true then (dioramalaw08_FieldDiffs.j0 k true a0_0 l0_1 l0_2 l0_3 a1_0 l1_1 l1_2 l1_3) else ((dioramaref08_Great.f k a1_0 l1_1 l1_2 l1_3).bind fun t256 => (dioramalaw08_FieldDiffs.j0 k t256 a0_0 l0_1 l0_2 l0_3 a1_0 l1_1 l1_2 l1_3)))) else (none))
theorem dioramalaw08_FieldDiffs.mono_l : ∀ k, (∀ y0 y1 y2 y3 y4 y5 y6 y7 y8, LeO (dioramalaw08_FieldDiffs.j0 k y0 y1 y2 y3 y4 y5 y6 y7 y8) (dioramalaw08_FieldDiffs.j0 (k + 1) y0 y1 y2 y3 y4 y5 y6 y7 y8))
 | 0 => fun _ _ _ _ _ _ _ _ _ r h => by simp [dioramalaw08_FieldDiffs.j0] at h
 | k + 1 => by
  have ih0 := dioramalaw08_FieldDiffs.mono_l k
  ·intro y0 y1 y2 y3 y4 y5 y6 y7 y8
   unfold dioramalaw08_FieldDiffs.j0
   repeat' first
   | (with_reducible exact ih0 _ _ _ _ _ _ _ _ _)
   | (with_reducible exact dioramalaw08_awake.mono _)
   | (with_reducible exact dioramaref08_Diff.mono _ _ _ _ _ _ _ _ _)
   | (with_reducible exact dioramaref08_Great.mono _ _ _ _ _)
   | (with_reducible exact dioramaref08_Same.mono _ _ _ _ _ _ _ _ _)
   | (with_reducible exact dioramaref08_SameSets.mono _ _ _)
   | (with_reducible exact field_Diff.mono _ _ _ _ _ _ _ _ _)
   | (with_reducible exact field_Set.mono _ _ _ _ _ _)
   | (with_reducible exact LeO.refl _)
   | (with_reducible exact LeO.none _)
   | (with_reducible refine LeO.ite ?_ ?_)
   | (with_reducible refine LeO.bind ?_ (fun _ => ?_))
   | exact ih0 _ _ _ _ _ _ _ _ _
   | exact dioramalaw08_awake.mono _
   | exact dioramaref08_Diff.mono _ _ _ _ _ _ _ _ _
   | exact dioramaref08_Great.mono _ _ _ _ _
   | exact dioramaref08_Same.mono _ _ _ _ _ _ _ _ _
   | exact dioramaref08_SameSets.mono _ _ _
   | exact field_Diff.mono _ _ _ _ _ _ _ _ _
   | exact field_Set.mono _ _ _ _ _ _
   | exact LeO.none _
   | refine LeO.ite ?_ ?_
   | refine LeO.bind ?_ (fun _ => ?_)
theorem dioramalaw08_FieldDiffs.mono : ∀ a0 a1 a2 a3 a4 a5 a6 a7 k, LeO (dioramalaw08_FieldDiffs.f k a0 a1 a2 a3 a4 a5 a6 a7) (dioramalaw08_FieldDiffs.f (k + 1) a0 a1 a2 a3 a4 a5 a6 a7) := by
 intro a0 a1 a2 a3 a4 a5 a6 a7 k
 have ih0 := dioramalaw08_FieldDiffs.mono_l k
 unfold dioramalaw08_FieldDiffs.f
 repeat' first
   | (with_reducible exact ih0 _ _ _ _ _ _ _ _ _)
   | (with_reducible exact dioramalaw08_awake.mono _)
   | (with_reducible exact dioramaref08_Diff.mono _ _ _ _ _ _ _ _ _)
   | (with_reducible exact dioramaref08_Great.mono _ _ _ _ _)
   | (with_reducible exact dioramaref08_Same.mono _ _ _ _ _ _ _ _ _)
   | (with_reducible exact dioramaref08_SameSets.mono _ _ _)
   | (with_reducible exact field_Diff.mono _ _ _ _ _ _ _ _ _)
   | (with_reducible exact field_Set.mono _ _ _ _ _ _)
   | (with_reducible exact LeO.refl _)
   | (with_reducible exact LeO.none _)
   | (with_reducible refine LeO.ite ?_ ?_)
   | (with_reducible refine LeO.bind ?_ (fun _ => ?_))
   | exact ih0 _ _ _ _ _ _ _ _ _
   | exact dioramalaw08_awake.mono _
   | exact dioramaref08_Diff.mono _ _ _ _ _ _ _ _ _
   | exact dioramaref08_Great.mono _ _ _ _ _
   | exact dioramaref08_Same.mono _ _ _ _ _ _ _ _ _
   | exact dioramaref08_SameSets.mono _ _ _
   | exact field_Diff.mono _ _ _ _ _ _ _ _ _
   | exact field_Set.mono _ _ _ _ _ _
   | exact LeO.none _
   | refine LeO.ite ?_ ?_
   | refine LeO.bind ?_ (fun _ => ?_)
def dioramalaw08_FieldDiffs.T3 : Bool × List (List Nat × List Nat) := (true, [([], []), ([0], [0]), ([], []), ([2, 1], [2]), ([1, 3, 3], [1, 3]), ([4], [4]), ([5], [5]), ([5], [5]), ([6, 4, 0, 1, 2, 3, 4, 5, 6], [6]), ([7, 8, 0, 1, 2, 3, 4, 5, 6, 7, 8], [7])])
def dioramalaw08_FieldDiffs.B3 : List Nat := [0, 1, 0, 7, 15, 31, 63, 63, 127, 511]
theorem dioramalaw08_FieldDiffs.tab3 : rtab .any (opsOf Tryd.f5 3) = dioramalaw08_FieldDiffs.T3 := by kernel_rfl
theorem dioramalaw08_FieldDiffs.bits3 : waitsOk dioramalaw08_FieldDiffs.T3.2 dioramalaw08_FieldDiffs.B3 = true := by kernel_rfl
set_option maxHeartbeats 8000000 in
set_option maxRecDepth 100000 in
theorem dioramalaw08_FieldDiffs.calls (k : Nat) (a0_0 : Int) (A0_1 : Option Addr) (c0_1 : Nat) (l0_1 : List Int) (A0_2 : Option Addr) (c0_2 : Nat) (l0_2 : List ByteArray) (A0_3 : Option Addr) (c0_3 : Nat) (l0_3 : List Int) (a1_0 : Int) (A1_1 : Option Addr) (c1_1 : Nat) (l1_1 : List Int) (A1_2 : Option Addr) (c1_2 : Nat) (l1_2 : List ByteArray) (A1_3 : Option Addr) (c1_3 : Nat) (l1_3 : List Int) (r : Bool) (w : World) (ht_ : ∀ w', Below w.heap.size w w' → Go.Lib.Utf8Tabs 0 1 w') (hr0_1 : Kd.C (Kd.int .i64) w A0_1 l0_1.length l0_1) (hc0_1 : l0_1.length ≤ c0_1) (hr0_2 : Kd.C Kd.string w A0_2 l0_2.length l0_2) (hc0_2 : l0_2.length ≤ c0_2) (hr0_3 : Kd.C (Kd.int .i64) w A0_3 l0_3.length l0_3) (hc0_3 : l0_3.length ≤ c0_3) (hr1_1 : Kd.C (Kd.int .i64) w A1_1 l1_1.length l1_1) (hc1_1 : l1_1.length ≤ c1_1) (hr1_2 : Kd.C Kd.string w A1_2 l1_2.length l1_2) (hc1_2 : l1_2.length ≤ c1_2) (hr1_3 : Kd.C (Kd.int .i64) w A1_3 l1_3.length l1_3) (hc1_3 : l1_3.length ≤ c1_3) (h : dioramalaw08_FieldDiffs.f k a0_0 l0_1 l0_2 l0_3 a1_0 l1_1 l1_2 l1_3 = some r) :
  Calls Tryd.prog 5 #[.agg #[.int .i64 a0_0, .slice A0_1 l0_1.length c0_1, .slice A0_2 l0_2.length c0_2, .slice A0_3 l0_3.length c0_3], .agg #[.int .i64 a1_0, .slice A1_1 l1_1.length c1_1, .slice A1_2 l1_2.length c1_2, .slice A1_3 l1_3.length c1_3]] w fun e w' => e = .returned (.bool r) ∧ Below w.heap.size w w' := by
 have HTB_ := Aside0.mk ht_
 clear ht_
 have hu26 := Tryd.underlying26
 have HR0_1 := Aside0.mk hr0_1
 have HC0_1 := Aside0.mk hc0_1
 clear hr0_1 hc0_1
 have HR0_2 := Aside0.mk hr0_2
 have HC0_2 := Aside0.mk hc0_2
 clear hr0_2 hc0_2
 have HR0_3 := Aside0.mk hr0_3
 have HC0_3 := Aside0.mk hc0_3
 clear hr0_3 hc0_3
 have HR1_1 := Aside0.mk hr1_1
 have HC1_1 := Aside0.mk hc1_1
 clear hr1_1 hc1_1
 have HR1_2 := Aside0.mk hr1_2
 have HC1_2 := Aside0.mk hc1_2
 clear hr1_2 hc1_2
 have HR1_3 := Aside0.mk hr1_3
 have HC1_3 := Aside0.mk hc1_3
 clear hr1_3 hc1_3
 have HB := Aside0.mk (Below.refl w.heap.size w)
 have H : ((dioramalaw08_awake.f k).bind fun t254 => (if t254 = true then ((dioramaref08_Great.f k a0_0 l0_1 l0_2 l0_3).bind fun t255 => (if t255 = true then (dioramalaw08_FieldDiffs.j0 k true a0_0 l0_1 l0_2 l0_3 a1_0 l1_1 l1_2 l1_3) else ((dioramaref08_Great.f k a1_0 l1_1 l1_2 l1_3).bind fun t256 => (dioramalaw08_FieldDiffs.j0 k t256 a0_0 l0_1 l0_2 l0_3 a1_0 l1_1 l1_2 l1_3)))) else (none))) = some r := h
 clear h
 have HC3 := Aside0.mk H
 clear H
 go_enter Tryd.func5, Tryd.ntmps5
 go_upto_region 1 with (first | ((with_reducible refine gate_dst (N := 2) rfl ?_); refine box_event ?hg (N := 2) ?hd (cs := #[.int .i64 a0_0, .slice A0_1 l0_1.length c0_1, .slice A0_2 l0_2.length c0_2, .slice A0_3 l0_3.length c0_3]) (t := 26) ?hr ?_; (case hd => rfl); (case hg => rfl); (case hr => first | (go_simp; done) | (go_simp; rfl)); intro gb252 hg w4 hbox hb; have n0_ := Aside0.mk (below_step (BB HB) hb); have n1_ := Aside0.mk (hbox); have n2_ := Aside0.mk ((by rw [hg]; exact (below_size (BB HB)) : w.heap.size ≤ gb252)); have n3_ := Aside0.mk ((by rw [hg]; exact (below_size (BB HB)) : w.heap.size ≤ gb252)); clear HB; have HB := n0_; have BK252 := n1_; have GW252 := n2_; have GE252 := n3_; clear n0_ n1_ n2_ n3_; clear hb hbox hg) | ((with_reducible refine gate_dst (N := 3) rfl ?_); refine box_event ?hg (N := 3) ?hd (cs := #[.int .i64 a1_0, .slice A1_1 l1_1.length c1_1, .slice A1_2 l1_2.length c1_2, .slice A1_3 l1_3.length c1_3]) (t := 26) ?hr ?_; (case hd => rfl); (case hg => rfl); (case hr => first | (go_simp; done) | (go_simp; rfl)); intro gb253 hg w5 hbox hb; have n0_ := BE BK252 hb; have n1_ := Aside0.mk (below_step (BB HB) hb); have n2_ := Aside0.mk (hbox); have n3_ := Aside0.mk ((by rw [hg]; exact (below_size (BB HB)) : w.heap.size ≤ gb253)); have n4_ := Aside0.mk ((by rw [hg]; exact (below_size (BB HB)) : w.heap.size ≤ gb253)); have n5_ := Aside0.mk ((by rw [hg]; exact Nat.ne_of_lt (blk_lt (g := gb252) (o := .cells #[.int .i64 a0_0, .slice A0_1 l0_1.length c0_1, .slice A0_2 l0_2.length c0_2, .slice A0_3 l0_3.length c0_3] 26 (0, 0)) (BL BK252)) : gb252 ≠ gb253)); have n6_ := Aside0.mk ((by rw [hg]; exact Nat.ne_of_gt (blk_lt (g := gb252) (o := .cells #[.int .i64 a0_0, .slice A0_1 l0_1.length c0_1, .slice A0_2 l0_2.length c0_2, .slice A0_3 l0_3.length c0_3] 26 (0, 0)) (BL BK252)) : gb253 ≠ gb252)); clear BK252; clear HB; have BK252 := n0_; have HB := n1_; have BK253 := n2_; have GW253 := n3_; have GE253 := n4_; have NB252_253 := n5_; have NB253_252 := n6_; clear n0_ n1_ n2_ n3_ n4_ n5_ n6_; clear hb hbox hg))
 (try simp only [Act.put, List.setIfInBounds_toArray, List.set_cons_zero, List.set_cons_succ])
 go_cut [21] (fun v21 wc => ∃ (kq : Nat) (x21_2 : Bool), v21 = .bool x21_2 ∧ Aside0 (dioramalaw08_FieldDiffs.j0 kq x21_2 a0_0 l0_1 l0_2 l0_3 a1_0 l1_1 l1_2 l1_3 = some r) ∧ Aside0 (kq ≤ k) ∧ Aside0 (wc.heap[gb252]? = some (.cells #[.int .i64 a0_0, (.slice A0_1 l0_1.length c0_1), (.slice A0_2 l0_2.length c0_2), (.slice A0_3 l0_3.length c0_3)] 26 (0, 0))) ∧ Aside0 (wc.heap[gb253]? = some (.cells #[.int .i64 a1_0, (.slice A1_1 l1_1.length c1_1), (.slice A1_2 l1_2.length c1_2), (.slice A1_3 l1_3.length c1_3)] 26 (0, 0))) ∧ Aside0 (Below w.heap.size w wc))
 case first =>
  have H := HC3.out
  clear HC3
  replace H := Option.bind_eq_some_iff.mp H
  obtain ⟨t254, A60, H⟩ := H
  replace H : (if t254 = true then ((dioramaref08_Great.f k a0_0 l0_1 l0_2 l0_3).bind fun t255 => (if t255 = true then (dioramalaw08_FieldDiffs.j0 k true a0_0 l0_1 l0_2 l0_3 a1_0 l1_1 l1_2 l1_3) else ((dioramaref08_Great.f k a1_0 l1_1 l1_2 l1_3).bind fun t256 => (dioramalaw08_FieldDiffs.j0 k t256 a0_0 l0_1 l0_2 l0_3 a1_0 l1_1 l1_2 l1_3)))) else (none)) = some r := H
  have A6 := Aside0.mk A60
  clear A60
  by_cases c7 : t254 = true
  ·subst c7
   have H1 : ((dioramaref08_Great.f k a0_0 l0_1 l0_2 l0_3).bind fun t255 => (if t255 = true then (dioramalaw08_FieldDiffs.j0 k true a0_0 l0_1 l0_2 l0_3 a1_0 l1_1 l1_2 l1_3) else ((dioramaref08_Great.f k a1_0 l1_1 l1_2 l1_3).bind fun t256 => (dioramalaw08_FieldDiffs.j0 k t256 a0_0 l0_1 l0_2 l0_3 a1_0 l1_1 l1_2 l1_3)))) = some r := by rw [if_pos rfl] at H; exact H
   clear H
   have H := H1
   clear H1
   replace H := Option.bind_eq_some_iff.mp H
   obtain ⟨t255, A80, H⟩ := H
   replace H : (if t255 = true then (dioramalaw08_FieldDiffs.j0 k true a0_0 l0_1 l0_2 l0_3 a1_0 l1_1 l1_2 l1_3) else ((dioramaref08_Great.f k a1_0 l1_1 l1_2 l1_3).bind fun t256 => (dioramalaw08_FieldDiffs.j0 k t256 a0_0 l0_1 l0_2 l0_3 a1_0 l1_1 l1_2 l1_3))) = some r := H
   have A8 := Aside0.mk A80
   clear A80
   by_cases c9 : t255 = true
   ·subst c9
    have H1 : (dioramalaw08_FieldDiffs.j0 k true a0_0 l0_1 l0_2 l0_3 a1_0 l1_1 l1_2 l1_3) = some r := by rw [if_pos rfl] at H; exact H
    clear H
    have H := H1
    clear H1
    have H' := Aside0.mk H
    clear H
    go_wp2_with (first | ((with_reducible refine gate_callee (f := 13) rfl ?_); refine goesL_ (some 12) rfl rfl Tryd.func13 (by kernel_rfl) rfl #[] rfl (by (try simp only [List.map_toArray, List.map_cons, List.map_nil]); first | done | rfl | (simp only [List.length_drop, List.length_take]; rfl)) ?_; (with_reducible refine (dioramalaw08_awake.calls k  true _ (fun w_ hb_ => HTB_.out w_ (below_step (BB HB) hb_)) A6.out).mono ?_); rintro e w10 ⟨rfl, hb⟩; refine ⟨_, rfl, ?_⟩; have n0_ := BE BK252 hb; have n1_ := BE BK253 hb; have n2_ := Aside0.mk (below_step (BB HB) hb); clear BK252; clear BK253; clear HB; have BK252 := n0_; have BK253 := n1_; have HB := n2_; clear n0_ n1_ n2_; (try clear hb); (try clear hb2); (try clear hk); (try clear hi); have hnb11 := NB252_253.out; have hnc11 := NB253_252.out; have hcz12_0 : w10.cell? ⟨gb252, 0, none⟩ = some (.int .i64 a0_0) := (blk_cell BK252.out 0).trans rfl; have hcz12_1 : w10.cell? ⟨gb252, 1, none⟩ = some (.slice A0_1 l0_1.length c0_1) := (blk_cell BK252.out 1).trans rfl; have hcz12_2 : w10.cell? ⟨gb252, 2, none⟩ = some (.slice A0_2 l0_2.length c0_2) := (blk_cell BK252.out 2).trans rfl; have hcz12_3 : w10.cell? ⟨gb252, 3, none⟩ = some (.slice A0_3 l0_3.length c0_3) := (blk_cell BK252.out 3).trans rfl; have hfz12_0 := blk_frozen BK252.out 0; have hfz12_1 := blk_frozen BK252.out 1; have hfz12_2 := blk_frozen BK252.out 2; have hfz12_3 := blk_frozen BK252.out 3) | (go_at_call 14; (with_reducible refine (dioramaref08_Great.calls k a0_0 _ _ l0_1 _ _ l0_2 _ _ l0_3 true _ ?side1 ?side2 ?side3 ?side4 ?side5 ?side6 A8.out).mono ?_); (case side1 => repeat (first | exact (Kd.C_below HR0_1.out HB.out) | (with_reducible refine Kd.C_alloc ?_ _) | (with_reducible refine Kd.C_drewN ?_ _) | (with_reducible refine Kd.C_drew ?_))); (case side2 => exact HC0_1.out); (case side3 => repeat (first | exact (Kd.C_below HR0_2.out HB.out) | (with_reducible refine Kd.C_alloc ?_ _) | (with_reducible refine Kd.C_drewN ?_ _) | (with_reducible refine Kd.C_drew ?_))); (case side4 => exact HC0_2.out); (case side5 => repeat (first | exact (Kd.C_below HR0_3.out HB.out) | (with_reducible refine Kd.C_alloc ?_ _) | (with_reducible refine Kd.C_drewN ?_ _) | (with_reducible refine Kd.C_drew ?_))); (case side6 => exact HC0_3.out); rintro e w13 ⟨rfl, hb⟩; have n0_ := BE BK252 hb; have n1_ := BE BK253 hb; have n2_ := Aside0.mk (below_step (BB HB) hb); clear BK252; clear BK253; clear HB; have BK252 := n0_; have BK253 := n1_; have HB := n2_; clear n0_ n1_ n2_; (try clear hb); (try clear hb2); (try clear hk); (try clear hi)))
    go_meet
    case rel => exact ⟨_, (true), (by first | rfl | (simp; done) | (simp [*]; done)), H', ⟨by first | omega | exact Nat.le_refl _⟩, ⟨BL BK252⟩, ⟨BL BK253⟩, ⟨BB HB⟩⟩
   ·replace c9 := Bool.eq_false_iff.mpr c9
    subst c9
    have H1 : ((dioramaref08_Great.f k a1_0 l1_1 l1_2 l1_3).bind fun t256 => (dioramalaw08_FieldDiffs.j0 k t256 a0_0 l0_1 l0_2 l0_3 a1_0 l1_1 l1_2 l1_3)) = some r := by rw [if_neg (show ¬ (false = true) by decide)] at H; exact H
    clear H
    have H := H1
    clear H1
    replace H := Option.bind_eq_some_iff.mp H
    obtain ⟨t256, A140, H⟩ := H
    replace H : (dioramalaw08_FieldDiffs.j0 k t256 a0_0 l0_1 l0_2 l0_3 a1_0 l1_1 l1_2 l1_3) = some r := H
    have A14 := Aside0.mk A140
    clear A140
    have H' := Aside0.mk H
    clear H
    go_wp2_with (first | ((with_reducible refine gate_callee (f := 13) rfl ?_); refine goesL_ (some 12) rfl rfl Tryd.func13 (by kernel_rfl) rfl #[] rfl (by (try simp only [List.map_toArray, List.map_cons, List.map_nil]); first | done | rfl | (simp only [List.length_drop, List.length_take]; rfl)) ?_; (with_reducible refine (dioramalaw08_awake.calls k  true _ (fun w_ hb_ => HTB_.out w_ (below_step (BB HB) hb_)) A6.out).mono ?_); rintro e w15 ⟨rfl, hb⟩; refine ⟨_, rfl, ?_⟩; have n0_ := BE BK252 hb; have n1_ := BE BK253 hb; have n2_ := Aside0.mk (below_step (BB HB) hb); clear BK252; clear BK253; clear HB; have BK252 := n0_; have BK253 := n1_; have HB := n2_; clear n0_ n1_ n2_; (try clear hb); (try clear hb2); (try clear hk); (try clear hi); have hnb16 := NB252_253.out; have hnc16 := NB253_252.out; have hcz17_0 : w15.cell? ⟨gb252, 0, none⟩ = some (.int .i64 a0_0) := (blk_cell BK252.out 0).trans rfl; have hcz17_1 : w15.cell? ⟨gb252, 1, none⟩ = some (.slice A0_1 l0_1.length c0_1) := (blk_cell BK252.out 1).trans rfl; have hcz17_2 : w15.cell? ⟨gb252, 2, none⟩ = some (.slice A0_2 l0_2.length c0_2) := (blk_cell BK252.out 2).trans rfl; have hcz17_3 : w15.cell? ⟨gb252, 3, none⟩ = some (.slice A0_3 l0_3.length c0_3) := (blk_cell BK252.out 3).trans rfl; have hfz17_0 := blk_frozen BK252.out 0; have hfz17_1 := blk_frozen BK252.out 1; have hfz17_2 := blk_frozen BK252.out 2; have hfz17_3 := blk_frozen BK252.out 3) | (go_at_call 14; (with_reducible refine (dioramaref08_Great.calls k a0_0 _ _ l0_1 _ _ l0_2 _ _ l0_3 false _ ?side1 ?side2 ?side3 ?side4 ?side5 ?side6 A8.out).mono ?_); (case side1 => repeat (first | exact (Kd.C_below HR0_1.out HB.out) | (with_reducible refine Kd.C_alloc ?_ _) | (with_reducible refine Kd.C_drewN ?_ _) | (with_reducible refine Kd.C_drew ?_))); (case side2 => exact HC0_1.out); (case side3 => repeat (first | exact (Kd.C_below HR0_2.out HB.out) | (with_reducible refine Kd.C_alloc ?_ _) | (with_reducible refine Kd.C_drewN ?_ _) | (with_reducible refine Kd.C_drew ?_))); (case side4 => exact HC0_2.out); (case side5 => repeat (first | exact (Kd.C_below HR0_3.out HB.out) | (with_reducible refine Kd.C_alloc ?_ _) | (with_reducible refine Kd.C_drewN ?_ _) | (with_reducible refine Kd.C_drew ?_))); (case side6 => exact HC0_3.out); rintro e w18 ⟨rfl, hb⟩; have n0_ := BE BK252 hb; have n1_ := BE BK253 hb; have n2_ := Aside0.mk (below_step (BB HB) hb); clear BK252; clear BK253; clear HB; have BK252 := n0_; have BK253 := n1_; have HB := n2_; clear n0_ n1_ n2_; (try clear hb); (try clear hb2); (try clear hk); (try clear hi); have hcz19_0 : w18.cell? ⟨gb253, 0, none⟩ = some (.int .i64 a1_0) := (blk_cell BK253.out 0).trans rfl; have hcz19_1 : w18.cell? ⟨gb253, 1, none⟩ = some (.slice A1_1 l1_1.length c1_1) := (blk_cell BK253.out 1).trans rfl; have hcz19_2 : w18.cell? ⟨gb253, 2, none⟩ = some (.slice A1_2 l1_2.length c1_2) := (blk_cell BK253.out 2).trans rfl; have hcz19_3 : w18.cell? ⟨gb253, 3, none⟩ = some (.slice A1_3 l1_3.length c1_3) := (blk_cell BK253.out 3).trans rfl; have hfz19_0 := blk_frozen BK253.out 0; have hfz19_1 := blk_frozen BK253.out 1; have hfz19_2 := blk_frozen BK253.out 2; have hfz19_3 := blk_frozen BK253.out 3) | (go_at_call 14; (with_reducible refine (dioramaref08_Great.calls k a1_0 _ _ l1_1 _ _ l1_2 _ _ l1_3 t256 _ ?side1 ?side2 ?side3 ?side4 ?side5 ?side6 A14.out).mono ?_); (case side1 => repeat (first | exact (Kd.C_below HR1_1.out HB.out) | (with_reducible refine Kd.C_alloc ?_ _) | (with_reducible refine Kd.C_drewN ?_ _) | (with_reducible refine Kd.C_drew ?_))); (case side2 => exact HC1_1.out); (case side3 => repeat (first | exact (Kd.C_below HR1_2.out HB.out) | (with_reducible refine Kd.C_alloc ?_ _) | (with_reducible refine Kd.C_drewN ?_ _) | (with_reducible refine Kd.C_drew ?_))); (case side4 => exact HC1_2.out); (case side5 => repeat (first | exact (Kd.C_below HR1_3.out HB.out) | (with_reducible refine Kd.C_alloc ?_ _) | (with_reducible refine Kd.C_drewN ?_ _) | (with_reducible refine Kd.C_drew ?_))); (case side6 => exact HC1_3.out); rintro e w20 ⟨rfl, hb⟩; have n0_ := BE BK252 hb; have n1_ := BE BK253 hb; have n2_ := Aside0.mk (below_step (BB HB) hb); clear BK252; clear BK253; clear HB; have BK252 := n0_; have BK253 := n1_; have HB := n2_; clear n0_ n1_ n2_; (try clear hb); (try clear hb2); (try clear hk); (try clear hi)))
    go_meet
    case rel => exact ⟨_, (t256), (by first | rfl | (simp; done) | (simp [*]; done)), H', ⟨by first | omega | exact Nat.le_refl _⟩, ⟨BL BK252⟩, ⟨BL BK253⟩, ⟨BB HB⟩⟩
  ·replace c7 := Bool.eq_false_iff.mpr c7
   subst c7
   have H1 : (none) = some r := by rw [if_neg (show ¬ (false = true) by decide)] at H; exact H
   clear H
   have H := H1
   clear H1
   exact absurd H (by simp)
 case rest =>
  clear HC3
  try clear c1
  try clear p2
  try clear c5
  try clear c7
  try clear c9
  try clear c11
  try clear c13
  try clear c16
  try clear hcz12_0
  try clear hcz12_1
  try clear hcz12_2
  try clear hcz12_3
  try clear hcz17_0
  try clear hcz17_1
  try clear hcz17_2
  try clear hcz17_3
  try clear hcz19_0
  try clear hcz19_1
  try clear hcz19_2
  try clear hcz19_3
  try clear hfz12_0
  try clear hfz12_1
  try clear hfz12_2
  try clear hfz12_3
  try clear hfz17_0
  try clear hfz17_1
  try clear hfz17_2
  try clear hfz17_3
  try clear hfz19_0
  try clear hfz19_1
  try clear hfz19_2
  try clear hfz19_3
  obtain ⟨kq, x21_2, rfl, HA, HJ2, BK252, BK253, HB⟩ := hcut
  cases kq with
  | zero => exact absurd HA.out (by simp [dioramalaw08_FieldDiffs.j0])
  | succ kj2 =>
   have H := HA.out
   clear HA
   simp only [dioramalaw08_FieldDiffs.j0] at H
   by_cases c21 : x21_2 = true
   ·subst c21
    have H1 : ((dioramalaw08_awake.f kj2).bind fun t257 => (some t257)) = some r := by rw [if_pos rfl] at H; exact H
    clear H
    have H := H1
    clear H1
    replace H := Option.bind_eq_some_iff.mp H
    obtain ⟨t257, A220, H⟩ := H
    replace H : (some t257) = some r := H
    have A22 := Aside0.mk A220
    clear A220
    obtain rfl := Option.some.inj H
    go_wp2_with (first | ((with_reducible refine gate_callee (f := 13) rfl ?_); refine goesL_ (some 22) rfl rfl Tryd.func13 (by kernel_rfl) rfl #[] rfl (by (try simp only [List.map_toArray, List.map_cons, List.map_nil]); first | done | rfl | (simp only [List.length_drop, List.length_take]; rfl)) ?_; (with_reducible refine (dioramalaw08_awake.calls kj2  t257 _ (fun w_ hb_ => HTB_.out w_ (below_step (BB HB) hb_)) A22.out).mono ?_); rintro e w23 ⟨rfl, hb⟩; refine ⟨_, rfl, ?_⟩; have n0_ := BE BK252 hb; have n1_ := BE BK253 hb; have n2_ := Aside0.mk (below_step (BB HB) hb); clear BK252; clear BK253; clear HB; have BK252 := n0_; have BK253 := n1_; have HB := n2_; clear n0_ n1_ n2_; (try clear hb); (try clear hb2); (try clear hk); (try clear hi)))
    go_ret
    exact ⟨by first | rfl | (simp [errW_none, errW_some] <;> rfl) | (simp [*, errW_none, errW_some] <;> rfl), BB HB⟩
   ·replace c21 := Bool.eq_false_iff.mpr c21
    subst c21
    have H1 : ((dioramaref08_Copy.f a0_0 l0_1 l0_2 l0_3).bind fun bt258 => ((dioramaref08_Copy.f a1_0 l1_1 l1_2 l1_3).bind fun bt268 => ((field_Diff.f kj2 bt258.1 bt258.2.1 bt258.2.2.1 bt258.2.2.2 bt268.1 bt268.2.1 bt268.2.2.1 bt268.2.2.2).bind fun bt278 => ((dioramaref08_Diff.f kj2 a0_0 l0_1 l0_2 l0_3 a1_0 l1_1 l1_2 l1_3).bind fun bt282 => (if (bt278.2 != bt282.2) = true then (none) else ((dioramaref08_SameSets.f kj2 bt278.1 bt282.1).bind fun t286 => (if t286 = true then (if bt278.2 = true then ((field_Set.f kj2 a0_0 l0_1 l0_2 l0_3 bt278.1).bind fun bt287 => ((dioramaref08_Copy.f a1_0 l1_1 l1_2 l1_3).bind fun bt299 => (if bt287.2.2.2.2 = 0 then ((dioramaref08_Same.f kj2 bt287.1 bt287.2.1 bt287.2.2.1 bt287.2.2.2.1 bt299.1 bt299.2.1 bt299.2.2.1 l0_3).bind fun t310 => (some t310)) else (none)))) else (some true)) else (some false)))))))) = some r := by rw [if_neg (show ¬ (false = true) by decide)] at H; exact H
    clear H
    have H := H1
    clear H1
    replace H := Option.bind_eq_some_iff.mp H
    obtain ⟨⟨t258, t259, t262, t265⟩, A240, H⟩ := H
    replace H : ((dioramaref08_Copy.f a1_0 l1_1 l1_2 l1_3).bind fun bt268 => ((field_Diff.f kj2 t258 t259 t262 t265 bt268.1 bt268.2.1 bt268.2.2.1 bt268.2.2.2).bind fun bt278 => ((dioramaref08_Diff.f kj2 a0_0 l0_1 l0_2 l0_3 a1_0 l1_1 l1_2 l1_3).bind fun bt282 => (if (bt278.2 != bt282.2) = true then (none) else ((dioramaref08_SameSets.f kj2 bt278.1 bt282.1).bind fun t286 => (if t286 = true then (if bt278.2 = true then ((field_Set.f kj2 a0_0 l0_1 l0_2 l0_3 bt278.1).bind fun bt287 => ((dioramaref08_Copy.f a1_0 l1_1 l1_2 l1_3).bind fun bt299 => (if bt287.2.2.2.2 = 0 then ((dioramaref08_Same.f kj2 bt287.1 bt287.2.1 bt287.2.2.1 bt287.2.2.2.1 bt299.1 bt299.2.1 bt299.2.2.1 l0_3).bind fun t310 => (some t310)) else (none)))) else (some true)) else (some false))))))) = some r := H
    have A24 := Aside0.mk A240
    clear A240
    replace H := Option.bind_eq_some_iff.mp H
    obtain ⟨⟨t268, t269, t272, t275⟩, A250, H⟩ := H
    replace H : ((field_Diff.f kj2 t258 t259 t262 t265 t268 t269 t272 t275).bind fun bt278 => ((dioramaref08_Diff.f kj2 a0_0 l0_1 l0_2 l0_3 a1_0 l1_1 l1_2 l1_3).bind fun bt282 => (if (bt278.2 != bt282.2) = true then (none) else ((dioramaref08_SameSets.f kj2 bt278.1 bt282.1).bind fun t286 => (if t286 = true then (if bt278.2 = true then ((field_Set.f kj2 a0_0 l0_1 l0_2 l0_3 bt278.1).bind fun bt287 => ((dioramaref08_Copy.f a1_0 l1_1 l1_2 l1_3).bind fun bt299 => (if bt287.2.2.2.2 = 0 then ((dioramaref08_Same.f kj2 bt287.1 bt287.2.1 bt287.2.2.1 bt287.2.2.2.1 bt299.1 bt299.2.1 bt299.2.2.1 l0_3).bind fun t310 => (some t310)) else (none)))) else (some true)) else (some false)))))) = some r := H
    have A25 := Aside0.mk A250
    clear A250
    replace H := Option.bind_eq_some_iff.mp H
    obtain ⟨⟨t278, t281⟩, A260, H⟩ := H
    replace H : ((dioramaref08_Diff.f kj2 a0_0 l0_1 l0_2 l0_3 a1_0 l1_1 l1_2 l1_3).bind fun bt282 => (if (t281 != bt282.2) = true then (none) else ((dioramaref08_SameSets.f kj2 t278 bt282.1).bind fun t286 => (if t286 = true then (if t281 = true then ((field_Set.f kj2 a0_0 l0_1 l0_2 l0_3 t278).bind fun bt287 => ((dioramaref08_Copy.f a1_0 l1_1 l1_2 l1_3).bind fun bt299 => (if bt287.2.2.2.2 = 0 then ((dioramaref08_Same.f kj2 bt287.1 bt287.2.1 bt287.2.2.1 bt287.2.2.2.1 bt299.1 bt299.2.1 bt299.2.2.1 l0_3).bind fun t310 => (some t310)) else (none)))) else (some true)) else (some false))))) = some r := H
    have A26 := Aside0.mk A260
    clear A260
    replace H := Option.bind_eq_some_iff.mp H
    obtain ⟨⟨t282, t285⟩, A270, H⟩ := H
    replace H : (if (t281 != t285) = true then (none) else ((dioramaref08_SameSets.f kj2 t278 t282).bind fun t286 => (if t286 = true then (if t281 = true then ((field_Set.f kj2 a0_0 l0_1 l0_2 l0_3 t278).bind fun bt287 => ((dioramaref08_Copy.f a1_0 l1_1 l1_2 l1_3).bind fun bt299 => (if bt287.2.2.2.2 = 0 then ((dioramaref08_Same.f kj2 bt287.1 bt287.2.1 bt287.2.2.1 bt287.2.2.2.1 bt299.1 bt299.2.1 bt299.2.2.1 l0_3).bind fun t310 => (some t310)) else (none)))) else (some true)) else (some false)))) = some r := H
    have A27 := Aside0.mk A270
    clear A270
    by_cases c28 : (t281 != t285) = true
    ·rw [if_pos c28] at H
     exact absurd H (by simp)
    ·rw [if_neg c28] at H
     have c28b0 : (t281 != t285) = false := by simpa using c28
     (try (have c28b1 : decide (t281 = t285) = true := by simpa using c28))
     (try (have c28b2 : (t281 == t285) = true := by simpa using c28))
     clear c28
     replace H := Option.bind_eq_some_iff.mp H
     obtain ⟨t286, A290, H⟩ := H
     replace H : (if t286 = true then (if t281 = true then ((field_Set.f kj2 a0_0 l0_1 l0_2 l0_3 t278).bind fun bt287 => ((dioramaref08_Copy.f a1_0 l1_1 l1_2 l1_3).bind fun bt299 => (if bt287.2.2.2.2 = 0 then ((dioramaref08_Same.f kj2 bt287.1 bt287.2.1 bt287.2.2.1 bt287.2.2.2.1 bt299.1 bt299.2.1 bt299.2.2.1 l0_3).bind fun t310 => (some t310)) else (none)))) else (some true)) else (some false)) = some r := H
     have A29 := Aside0.mk A290
     clear A290
     by_cases c30 : t286 = true
     ·subst c30
      have H1 : (if t281 = true then ((field_Set.f kj2 a0_0 l0_1 l0_2 l0_3 t278).bind fun bt287 => ((dioramaref08_Copy.f a1_0 l1_1 l1_2 l1_3).bind fun bt299 => (if bt287.2.2.2.2 = 0 then ((dioramaref08_Same.f kj2 bt287.1 bt287.2.1 bt287.2.2.1 bt287.2.2.2.1 bt299.1 bt299.2.1 bt299.2.2.1 l0_3).bind fun t310 => (some t310)) else (none)))) else (some true)) = some r := by rw [if_pos rfl] at H; exact H
      clear H
      have H := H1
      clear H1
      by_cases c31 : t281 = true
      ·subst c31
       have H1 : ((field_Set.f kj2 a0_0 l0_1 l0_2 l0_3 t278).bind fun bt287 => ((dioramaref08_Copy.f a1_0 l1_1 l1_2 l1_3).bind fun bt299 => (if bt287.2.2.2.2 = 0 then ((dioramaref08_Same.f kj2 bt287.1 bt287.2.1 bt287.2.2.1 bt287.2.2.2.1 bt299.1 bt299.2.1 bt299.2.2.1 l0_3).bind fun t310 => (some t310)) else (none)))) = some r := by rw [if_pos rfl] at H; exact H
       clear H
       have H := H1
       clear H1
       replace H := Option.bind_eq_some_iff.mp H
       obtain ⟨⟨t287, t288, t291, t294, t297⟩, A320, H⟩ := H
       replace H : ((dioramaref08_Copy.f a1_0 l1_1 l1_2 l1_3).bind fun bt299 => (if t297 = 0 then ((dioramaref08_Same.f kj2 t287 t288 t291 t294 bt299.1 bt299.2.1 bt299.2.2.1 l0_3).bind fun t310 => (some t310)) else (none))) = some r := H
       have A32 := Aside0.mk A320
       clear A320
       replace H := Option.bind_eq_some_iff.mp H
       obtain ⟨⟨t299, t300, t303, t306⟩, A330, H⟩ := H
       replace H : (if t297 = 0 then ((dioramaref08_Same.f kj2 t287 t288 t291 t294 t299 t300 t303 l0_3).bind fun t310 => (some t310)) else (none)) = some r := H
       have A33 := Aside0.mk A330
       clear A330
       by_cases c34 : t297 = 0
       ·rw [if_pos c34] at H
        have c34b0 : (t297 == 0) = true := beq_iff_eq.mpr c34
        have c34b1 : (t297 != 0) = false := bne_eq_false_iff_eq.mpr c34
        clear c34
        replace H := Option.bind_eq_some_iff.mp H
        obtain ⟨t310, A350, H⟩ := H
        replace H : (some t310) = some r := H
        have A35 := Aside0.mk A350
        clear A350
        obtain rfl := Option.some.inj H
        try go_wp2
        have n0_ := Aside0.mk (blk_drew BK252.out)
        have n1_ := Aside0.mk (blk_drew BK253.out)
        have n2_ := Aside0.mk (below_drew1 HB.out)
        clear BK252
        clear BK253
        clear HB
        have BK252 := n0_
        have BK253 := n1_
        have HB := n2_
        clear n0_ n1_ n2_
        refine start_ (n := 10) (S := fun w' => w'.cell? ⟨gb252, 0, none⟩ = some (.int .i64 a0_0) ∧ w'.cell? ⟨gb252, 1, none⟩ = some (.slice A0_1 l0_1.length c0_1) ∧ w'.cell? ⟨gb252, 2, none⟩ = some (.slice A0_2 l0_2.length c0_2) ∧ w'.cell? ⟨gb252, 3, none⟩ = some (.slice A0_3 l0_3.length c0_3) ∧ w'.cell? ⟨gb253, 0, none⟩ = some (.int .i64 a1_0) ∧ w'.cell? ⟨gb253, 1, none⟩ = some (.slice A1_1 l1_1.length c1_1) ∧ w'.cell? ⟨gb253, 2, none⟩ = some (.slice A1_2 l1_2.length c1_2) ∧ w'.cell? ⟨gb253, 3, none⟩ = some (.slice A1_3 l1_3.length c1_3)) (ds := []) #[false, false, false, false, false, false, false, false, false, false] (by kernel_rfl) rfl rfl ⟨(blk_cell BK252.out 0).trans rfl, (blk_cell BK252.out 1).trans rfl, (blk_cell BK252.out 2).trans rfl, (blk_cell BK252.out 3).trans rfl, (blk_cell BK253.out 0).trans rfl, (blk_cell BK253.out 1).trans rfl, (blk_cell BK253.out 2).trans rfl, (blk_cell BK253.out 3).trans rfl⟩ (fun hHeld => ?_); refine with_tabW dioramalaw08_FieldDiffs.tab3 dioramalaw08_FieldDiffs.bits3 (fun HT_ HW_ => ?_)
        generalize wc.drew = w36 at BK252 BK253 HB hHeld ⊢
        refine take_ (i := 0) (N := some 24) (v := ?_) (a' := ?_) #[true, false, false, false, false, false, false, false, false, false] rfl rfl (take_ofW HT_.out HW_.out (by kernel_rfl)) (fun _ _ _ h => h) (Or.inl ⟨by rfl, ?_⟩) hHeld ?_ ?_
        rotate_left
        ·rintro w' ⟨s0, s1, s2, s3, s4, s5, s6, s7⟩
         go_simp
         with_reducible rfl
        rotate_left
        ·simp only [Act.put, List.setIfInBounds_toArray, List.set_cons_zero, List.set_cons_succ, i64_w, i32_w]
         rfl
        refine take_ (i := 2) (N := some 26) (v := ?_) (a' := ?_) #[true, false, true, false, false, false, false, false, false, false] rfl rfl (take_ofW HT_.out HW_.out (by kernel_rfl)) (fun _ _ _ h => h) (Or.inl ⟨by rfl, ?_⟩) hHeld ?_ ?_
        rotate_left
        ·rintro w' ⟨s0, s1, s2, s3, s4, s5, s6, s7⟩
         go_simp
         with_reducible rfl
        rotate_left
        ·simp only [Act.put, List.setIfInBounds_toArray, List.set_cons_zero, List.set_cons_succ, i64_w, i32_w]
         rfl
        refine one_ (i := 1) (N := some 25) #[true, true, true, false, false, false, false, false, false, false] rfl rfl (one_of HT_.out (by kernel_rfl)) (by decide) (fun K hK => ?_)
        refine goes_ Tryd.func16 (by kernel_rfl) rfl #[.agg #[.int .i64 a0_0, .slice A0_1 l0_1.length c0_1, .slice A0_2 l0_2.length c0_2, .slice A0_3 l0_3.length c0_3]] (by rfl) rfl rfl (by (try simp only [List.map_toArray, List.map_cons, List.map_nil]); first | done | rfl | (simp only [List.length_drop, List.length_take]; rfl)) ?_
        with_reducible refine (dioramaref08_Copy.calls a0_0 _ _ l0_1 _ _ l0_2 _ _ l0_3 t258 t259 t262 t265 _ ?side1 ?side2 ?side3 ?side4 ?side5 ?side6 A24.out).mono ?_
        (case side1 => repeat (first | exact (Kd.C_below HR0_1.out HB.out) | (with_reducible refine Kd.C_alloc ?_ _) | (with_reducible refine Kd.C_drewN ?_ _) | (with_reducible refine Kd.C_drew ?_)))
        (case side2 => exact HC0_1.out)
        (case side3 => repeat (first | exact (Kd.C_below HR0_2.out HB.out) | (with_reducible refine Kd.C_alloc ?_ _) | (with_reducible refine Kd.C_drewN ?_ _) | (with_reducible refine Kd.C_drew ?_)))
        (case side4 => exact HC0_2.out)
        (case side5 => repeat (first | exact (Kd.C_below HR0_3.out HB.out) | (with_reducible refine Kd.C_alloc ?_ _) | (with_reducible refine Kd.C_drewN ?_ _) | (with_reducible refine Kd.C_drew ?_)))
        (case side6 => exact HC0_3.out)
        rintro e w37 ⟨v260, v263, v266, rfl, ho0, ho1, ho2, hb⟩
        refine ⟨_, rfl, ?_⟩
        have n0_ := Aside0.mk (Kd.R_lower ho0 (below_size (BB HB)))
        have n1_ := Aside0.mk (Kd.R_lower ho1 (below_size (BB HB)))
        have n2_ := Aside0.mk (Kd.R_lower ho2 (below_size (BB HB)))
        have n3_ := BE BK252 hb
        have n4_ := BE BK253 hb
        have n5_ := Aside0.mk (below_step (BB HB) hb)
        clear BK252
        clear BK253
        clear HB
        have HO261 := n0_
        have HO264 := n1_
        have HO267 := n2_
        have BK252 := n3_
        have BK253 := n4_
        have HB := n5_
        clear n0_ n1_ n2_ n3_ n4_ n5_
        (try clear hb)
        (try clear hb2)
        (try clear hk)
        (try clear hi)
        (try clear ho0)
        (try clear ho1)
        (try clear ho2)
        refine hK.out _ _ ⟨(blk_cell BK252.out 0).trans rfl, (blk_cell BK252.out 1).trans rfl, (blk_cell BK252.out 2).trans rfl, (blk_cell BK252.out 3).trans rfl, (blk_cell BK253.out 0).trans rfl, (blk_cell BK253.out 1).trans rfl, (blk_cell BK253.out 2).trans rfl, (blk_cell BK253.out 3).trans rfl⟩ (fun hHeld => ?_)
        clear hK K
        refine norm_ (a' := ?_) ?_ ?_
        rotate_left
        ·show Act.put _ (some 25) _ = _
         simp only [Act.put, List.setIfInBounds_toArray, List.set_cons_zero, List.set_cons_succ, i64_w, i32_w]
         rfl
        refine one_ (i := 3) (N := some 27) #[true, true, true, true, false, false, false, false, false, false] rfl rfl (one_of HT_.out (by kernel_rfl)) (by decide) (fun K hK => ?_)
        refine goes_ Tryd.func16 (by kernel_rfl) rfl #[.agg #[.int .i64 a1_0, .slice A1_1 l1_1.length c1_1, .slice A1_2 l1_2.length c1_2, .slice A1_3 l1_3.length c1_3]] (by rfl) rfl rfl (by (try simp only [List.map_toArray, List.map_cons, List.map_nil]); first | done | rfl | (simp only [List.length_drop, List.length_take]; rfl)) ?_
        with_reducible refine (dioramaref08_Copy.calls a1_0 _ _ l1_1 _ _ l1_2 _ _ l1_3 t268 t269 t272 t275 _ ?side1 ?side2 ?side3 ?side4 ?side5 ?side6 A25.out).mono ?_
        (case side1 => repeat (first | exact (Kd.C_below HR1_1.out HB.out) | (with_reducible refine Kd.C_alloc ?_ _) | (with_reducible refine Kd.C_drewN ?_ _) | (with_reducible refine Kd.C_drew ?_)))
        (case side2 => exact HC1_1.out)
        (case side3 => repeat (first | exact (Kd.C_below HR1_2.out HB.out) | (with_reducible refine Kd.C_alloc ?_ _) | (with_reducible refine Kd.C_drewN ?_ _) | (with_reducible refine Kd.C_drew ?_)))
        (case side4 => exact HC1_2.out)
        (case side5 => repeat (first | exact (Kd.C_below HR1_3.out HB.out) | (with_reducible refine Kd.C_alloc ?_ _) | (with_reducible refine Kd.C_drewN ?_ _) | (with_reducible refine Kd.C_drew ?_)))
        (case side6 => exact HC1_3.out)
        rintro e w38 ⟨v270, v273, v276, rfl, ho0, ho1, ho2, hb⟩
        refine ⟨_, rfl, ?_⟩
        have n0_ := Aside0.mk (Kd.R_elder' (RL HO261) (Kd.R_base ho0) hb)
        have n1_ := Aside0.mk (Kd.R_elder' (RL HO264) (Kd.R_base ho1) hb)
        have n2_ := Aside0.mk (Kd.R_elder' (RL HO267) (Kd.R_base ho2) hb)
        have n3_ := Aside0.mk (Kd.R_lower (Kd.R_new' ho0 (Kd.R_lt (RL HO261))) (below_size (BB HB)))
        have n4_ := Aside0.mk (Kd.R_lower (Kd.R_new' ho1 (Kd.R_lt (RL HO264))) (below_size (BB HB)))
        have n5_ := Aside0.mk (Kd.R_lower (Kd.R_new' ho2 (Kd.R_lt (RL HO267))) (below_size (BB HB)))
        have n6_ := BE BK252 hb
        have n7_ := BE BK253 hb
        have n8_ := Aside0.mk (below_step (BB HB) hb)
        clear HO261
        clear HO264
        clear HO267
        clear BK252
        clear BK253
        clear HB
        have HO261 := n0_
        have HO264 := n1_
        have HO267 := n2_
        have HO271 := n3_
        have HO274 := n4_
        have HO277 := n5_
        have BK252 := n6_
        have BK253 := n7_
        have HB := n8_
        clear n0_ n1_ n2_ n3_ n4_ n5_ n6_ n7_ n8_
        (try clear hb)
        (try clear hb2)
        (try clear hk)
        (try clear hi)
        (try clear ho0)
        (try clear ho1)
        (try clear ho2)
        obtain ⟨Ao39, co39, eo39⟩ := Kd.R_slice HO261.out
        (first | subst eo39 | (injection eo39 with f1_ f2_ f3_; have f4_ := f1_.symm; have f5_ := f3_.symm; clear f1_ f2_ f3_; subst f4_; subst f5_))
        obtain ⟨Ao40, co40, eo40⟩ := Kd.R_slice HO264.out
        (first | subst eo40 | (injection eo40 with f1_ f2_ f3_; have f4_ := f1_.symm; have f5_ := f3_.symm; clear f1_ f2_ f3_; subst f4_; subst f5_))
        obtain ⟨Ao41, co41, eo41⟩ := Kd.R_slice HO267.out
        (first | subst eo41 | (injection eo41 with f1_ f2_ f3_; have f4_ := f1_.symm; have f5_ := f3_.symm; clear f1_ f2_ f3_; subst f4_; subst f5_))
        obtain ⟨Ao42, co42, eo42⟩ := Kd.R_slice HO271.out
        (first | subst eo42 | (injection eo42 with f1_ f2_ f3_; have f4_ := f1_.symm; have f5_ := f3_.symm; clear f1_ f2_ f3_; subst f4_; subst f5_))
        obtain ⟨Ao43, co43, eo43⟩ := Kd.R_slice HO274.out
        (first | subst eo43 | (injection eo43 with f1_ f2_ f3_; have f4_ := f1_.symm; have f5_ := f3_.symm; clear f1_ f2_ f3_; subst f4_; subst f5_))
        obtain ⟨Ao44, co44, eo44⟩ := Kd.R_slice HO277.out
        (first | subst eo44 | (injection eo44 with f1_ f2_ f3_; have f4_ := f1_.symm; have f5_ := f3_.symm; clear f1_ f2_ f3_; subst f4_; subst f5_))
        refine hK.out _ _ ⟨(blk_cell BK252.out 0).trans rfl, (blk_cell BK252.out 1).trans rfl, (blk_cell BK252.out 2).trans rfl, (blk_cell BK252.out 3).trans rfl, (blk_cell BK253.out 0).trans rfl, (blk_cell BK253.out 1).trans rfl, (blk_cell BK253.out 2).trans rfl, (blk_cell BK253.out 3).trans rfl⟩ (fun hHeld => ?_)
        clear hK K
        refine norm_ (a' := ?_) ?_ ?_
        rotate_left
        ·show Act.put _ (some 27) _ = _
         simp only [Act.put, List.setIfInBounds_toArray, List.set_cons_zero, List.set_cons_succ, i64_w, i32_w]
         rfl
        refine one_ (i := 4) (N := some 28) #[true, true, true, true, true, false, false, false, false, false] rfl rfl (one_of HT_.out (by kernel_rfl)) (by decide) (fun K hK => ?_)
        refine goes_ Tryd.func21 (by kernel_rfl) rfl #[.agg #[.int .i64 t258, .slice Ao39 t259.length co39, .slice Ao40 t262.length co40, .slice Ao41 t265.length co41], .agg #[.int .i64 t268, .slice Ao42 t269.length co42, .slice Ao43 t272.length co43, .slice Ao44 t275.length co44]] (by rfl) rfl rfl (by (try simp only [List.map_toArray, List.map_cons, List.map_nil]); first | done | rfl | (simp only [List.length_drop, List.length_take]; rfl)) ?_
        with_reducible refine (field_Diff.calls kj2 t258 _ _ t259 _ _ t262 _ _ t265 t268 _ _ t269 _ _ t272 _ _ t275 t278 true _ ?side1 ?side2 ?side3 ?side4 ?side5 ?side6 ?side7 ?side8 ?side9 ?side10 ?side11 ?side12 A26.out).mono ?_
        (case side1 => exact CR HO261)
        (case side2 => exact (Kd.R_reads' HO261.out).2.1)
        (case side3 => exact CR HO264)
        (case side4 => exact (Kd.R_reads' HO264.out).2.1)
        (case side5 => exact CR HO267)
        (case side6 => exact (Kd.R_reads' HO267.out).2.1)
        (case side7 => exact CR HO271)
        (case side8 => exact (Kd.R_reads' HO271.out).2.1)
        (case side9 => exact CR HO274)
        (case side10 => exact (Kd.R_reads' HO274.out).2.1)
        (case side11 => exact CR HO277)
        (case side12 => exact (Kd.R_reads' HO277.out).2.1)
        rintro e w45 ⟨v279, rfl, ho0, hb⟩
        refine ⟨_, rfl, ?_⟩
        have n0_ := Aside0.mk (Kd.R_below (RL HO261) hb)
        have n1_ := Aside0.mk (Kd.R_below (RL HO264) hb)
        have n2_ := Aside0.mk (Kd.R_below (RL HO267) hb)
        have n3_ := Aside0.mk (Kd.R_below (RL HO271) hb)
        have n4_ := Aside0.mk (Kd.R_below (RL HO274) hb)
        have n5_ := Aside0.mk (Kd.R_below (RL HO277) hb)
        have n6_ := Aside0.mk (Kd.R_lower ho0 (below_size (BB HB)))
        have n7_ := BE BK252 hb
        have n8_ := BE BK253 hb
        have n9_ := Aside0.mk (below_step (BB HB) hb)
        clear HO261
        clear HO264
        clear HO267
        clear HO271
        clear HO274
        clear HO277
        clear BK252
        clear BK253
        clear HB
        have HO261 := n0_
        have HO264 := n1_
        have HO267 := n2_
        have HO271 := n3_
        have HO274 := n4_
        have HO277 := n5_
        have HO280 := n6_
        have BK252 := n7_
        have BK253 := n8_
        have HB := n9_
        clear n0_ n1_ n2_ n3_ n4_ n5_ n6_ n7_ n8_ n9_
        (try clear hb)
        (try clear hb2)
        (try clear hk)
        (try clear hi)
        (try clear ho0)
        refine hK.out _ _ ⟨(blk_cell BK252.out 0).trans rfl, (blk_cell BK252.out 1).trans rfl, (blk_cell BK252.out 2).trans rfl, (blk_cell BK252.out 3).trans rfl, (blk_cell BK253.out 0).trans rfl, (blk_cell BK253.out 1).trans rfl, (blk_cell BK253.out 2).trans rfl, (blk_cell BK253.out 3).trans rfl⟩ (fun hHeld => ?_)
        clear hK K
        refine norm_ (a' := ?_) ?_ ?_
        rotate_left
        ·show Act.put _ (some 28) _ = _
         simp only [Act.put, List.setIfInBounds_toArray, List.set_cons_zero, List.set_cons_succ, i64_w, i32_w]
         rfl
        refine pure_ (i := 5) (N := some 23) (v := ?_) (a' := ?_) #[true, true, true, true, true, true, false, false, false, false] rfl rfl (any_of HT_.out (by kernel_rfl)) (fun _ _ _ h => h) (Or.inl ⟨by rfl, ?_⟩) ?_ ?_
        rotate_left
        ·intro w'
         go_simp
         with_reducible rfl
        rotate_left
        ·simp only [Act.put, List.setIfInBounds_toArray, List.set_cons_zero, List.set_cons_succ, i64_w, i32_w]
         rfl
        refine pure_ (i := 6) (N := some 29) (v := ?_) (a' := ?_) #[true, true, true, true, true, true, true, false, false, false] rfl rfl (any_of HT_.out (by kernel_rfl)) (fun _ _ _ h => h) (Or.inl ⟨by rfl, ?_⟩) ?_ ?_
        rotate_left
        ·intro w'
         go_simp
         with_reducible rfl
        rotate_left
        ·simp only [Act.put, List.setIfInBounds_toArray, List.set_cons_zero, List.set_cons_succ, i64_w, i32_w]
         rfl
        refine pure_ (i := 7) (N := some 30) (v := ?_) (a' := ?_) #[true, true, true, true, true, true, true, true, false, false] rfl rfl (any_of HT_.out (by kernel_rfl)) (fun _ _ _ h => h) (Or.inl ⟨by rfl, ?_⟩) ?_ ?_
        rotate_left
        ·intro w'
         go_simp
         with_reducible rfl
        rotate_left
        ·simp only [Act.put, List.setIfInBounds_toArray, List.set_cons_zero, List.set_cons_succ, i64_w, i32_w]
         rfl
        refine pure_ (i := 8) (N := some 5) (v := ?_) (a' := ?_) #[true, true, true, true, true, true, true, true, true, false] rfl rfl (any_of HT_.out (by kernel_rfl)) (fun _ _ _ h => h) (Or.inl ⟨by rfl, ?_⟩) ?_ ?_
        rotate_left
        ·intro w'
         go_simp
         with_reducible rfl
        rotate_left
        ·simp only [Act.put, List.setIfInBounds_toArray, List.set_cons_zero, List.set_cons_succ, i64_w, i32_w]
         rfl
        refine pure_ (i := 9) (N := some 6) (v := ?_) (a' := ?_) #[true, true, true, true, true, true, true, true, true, true] rfl rfl (any_of HT_.out (by kernel_rfl)) (fun _ _ _ h => h) (Or.inl ⟨by rfl, ?_⟩) ?_ ?_
        rotate_left
        ·intro w'
         go_simp
         with_reducible rfl
        rotate_left
        ·simp only [Act.put, List.setIfInBounds_toArray, List.set_cons_zero, List.set_cons_succ, i64_w, i32_w]
         rfl
        refine done_ (done_of HT_.out (by kernel_rfl)) ?_
        have hnb46 := NB252_253.out
        have hnc46 := NB253_252.out
        have hcz47_0 : w45.cell? ⟨gb252, 0, none⟩ = some (.int .i64 a0_0) := (blk_cell BK252.out 0).trans rfl
        have hcz47_1 : w45.cell? ⟨gb252, 1, none⟩ = some (.slice A0_1 l0_1.length c0_1) := (blk_cell BK252.out 1).trans rfl
        have hcz47_2 : w45.cell? ⟨gb252, 2, none⟩ = some (.slice A0_2 l0_2.length c0_2) := (blk_cell BK252.out 2).trans rfl
        have hcz47_3 : w45.cell? ⟨gb252, 3, none⟩ = some (.slice A0_3 l0_3.length c0_3) := (blk_cell BK252.out 3).trans rfl
        have hfz47_0 := blk_frozen BK252.out 0
        have hfz47_1 := blk_frozen BK252.out 1
        have hfz47_2 := blk_frozen BK252.out 2
        have hfz47_3 := blk_frozen BK252.out 3
        have hcz48_0 : w45.cell? ⟨gb253, 0, none⟩ = some (.int .i64 a1_0) := (blk_cell BK253.out 0).trans rfl
        have hcz48_1 : w45.cell? ⟨gb253, 1, none⟩ = some (.slice A1_1 l1_1.length c1_1) := (blk_cell BK253.out 1).trans rfl
        have hcz48_2 : w45.cell? ⟨gb253, 2, none⟩ = some (.slice A1_2 l1_2.length c1_2) := (blk_cell BK253.out 2).trans rfl
        have hcz48_3 : w45.cell? ⟨gb253, 3, none⟩ = some (.slice A1_3 l1_3.length c1_3) := (blk_cell BK253.out 3).trans rfl
        have hfz48_0 := blk_frozen BK253.out 0
        have hfz48_1 := blk_frozen BK253.out 1
        have hfz48_2 := blk_frozen BK253.out 2
        have hfz48_3 := blk_frozen BK253.out 3
        go_upto_region 12 with (first | ((with_reducible refine gate_callee (f := 22) rfl ?_); refine goesL_ (some 34) rfl rfl Tryd.func22 (by kernel_rfl) rfl #[.agg #[.int .i64 a0_0, .slice A0_1 l0_1.length c0_1, .slice A0_2 l0_2.length c0_2, .slice A0_3 l0_3.length c0_3], .agg #[.int .i64 a1_0, .slice A1_1 l1_1.length c1_1, .slice A1_2 l1_2.length c1_2, .slice A1_3 l1_3.length c1_3]] rfl (by (try simp only [List.map_toArray, List.map_cons, List.map_nil]); first | done | rfl | (simp only [List.length_drop, List.length_take]; rfl)) ?_; (with_reducible refine (dioramaref08_Diff.calls kj2 a0_0 _ _ l0_1 _ _ l0_2 _ _ l0_3 a1_0 _ _ l1_1 _ _ l1_2 _ _ l1_3 t282 t285 _ ?side1 ?side2 ?side3 ?side4 ?side5 ?side6 ?side7 ?side8 ?side9 ?side10 ?side11 ?side12 A27.out).mono ?_); (case side1 => repeat (first | exact (Kd.C_below HR0_1.out HB.out) | (with_reducible refine Kd.C_alloc ?_ _) | (with_reducible refine Kd.C_drewN ?_ _) | (with_reducible refine Kd.C_drew ?_))); (case side2 => exact HC0_1.out); (case side3 => repeat (first | exact (Kd.C_below HR0_2.out HB.out) | (with_reducible refine Kd.C_alloc ?_ _) | (with_reducible refine Kd.C_drewN ?_ _) | (with_reducible refine Kd.C_drew ?_))); (case side4 => exact HC0_2.out); (case side5 => repeat (first | exact (Kd.C_below HR0_3.out HB.out) | (with_reducible refine Kd.C_alloc ?_ _) | (with_reducible refine Kd.C_drewN ?_ _) | (with_reducible refine Kd.C_drew ?_))); (case side6 => exact HC0_3.out); (case side7 => repeat (first | exact (Kd.C_below HR1_1.out HB.out) | (with_reducible refine Kd.C_alloc ?_ _) | (with_reducible refine Kd.C_drewN ?_ _) | (with_reducible refine Kd.C_drew ?_))); (case side8 => exact HC1_1.out); (case side9 => repeat (first | exact (Kd.C_below HR1_2.out HB.out) | (with_reducible refine Kd.C_alloc ?_ _) | (with_reducible refine Kd.C_drewN ?_ _) | (with_reducible refine Kd.C_drew ?_))); (case side10 => exact HC1_2.out); (case side11 => repeat (first | exact (Kd.C_below HR1_3.out HB.out) | (with_reducible refine Kd.C_alloc ?_ _) | (with_reducible refine Kd.C_drewN ?_ _) | (with_reducible refine Kd.C_drew ?_))); (case side12 => exact HC1_3.out); rintro e w49 ⟨v283, rfl, ho0, hb⟩; refine ⟨_, rfl, ?_⟩; have n0_ := Aside0.mk (Kd.R_below (RL HO261) hb); have n1_ := Aside0.mk (Kd.R_below (RL HO264) hb); have n2_ := Aside0.mk (Kd.R_below (RL HO267) hb); have n3_ := Aside0.mk (Kd.R_below (RL HO271) hb); have n4_ := Aside0.mk (Kd.R_below (RL HO274) hb); have n5_ := Aside0.mk (Kd.R_below (RL HO277) hb); have n6_ := Aside0.mk (Kd.R_elder' (RL HO280) (Kd.R_base ho0) hb); have n7_ := Aside0.mk (Kd.R_lower (Kd.R_new' ho0 (Kd.R_lt (RL HO280))) (below_size (BB HB))); have n8_ := BE BK252 hb; have n9_ := BE BK253 hb; have n10_ := Aside0.mk (below_step (BB HB) hb); clear HO261; clear HO264; clear HO267; clear HO271; clear HO274; clear HO277; clear HO280; clear BK252; clear BK253; clear HB; have HO261 := n0_; have HO264 := n1_; have HO267 := n2_; have HO271 := n3_; have HO274 := n4_; have HO277 := n5_; have HO280 := n6_; have HO284 := n7_; have BK252 := n8_; have BK253 := n9_; have HB := n10_; clear n0_ n1_ n2_ n3_ n4_ n5_ n6_ n7_ n8_ n9_ n10_; (try clear hb); (try clear hb2); (try clear hk); (try clear hi); (try clear ho0); obtain ⟨Ao50, co50, eo50⟩ := Kd.R_slice HO280.out; subst eo50; obtain ⟨Ao51, co51, eo51⟩ := Kd.R_slice HO284.out; subst eo51) | (go_at_call 23; (with_reducible refine (dioramaref08_SameSets.calls kj2 _ _ t278 _ _ t282 true _ ?side1 ?side2 ?side3 ?side4 A29.out).mono ?_); (case side1 => exact CR HO280); (case side2 => exact (Kd.R_reads' HO280.out).2.1); (case side3 => exact CR HO284); (case side4 => exact (Kd.R_reads' HO284.out).2.1); rintro e w' ⟨rfl, ⟨nd, rfl⟩⟩; (try (rw [drewN_self w49]; generalize hq_ : World.drewN w49 _ = w49; have n0_ : Aside0 (Kd.R (Kd.int .i64) 2 w49 w.heap.size (fun k_ => some k_ ≠ (.slice Ao42 t269.length co42 : Value).ownBlock) (.slice Ao39 t259.length co39) t259) := ⟨by rw [← hq_]; exact (by (with_reducible repeat (first | apply Kd.R_alloc | apply Kd.R_drewN | apply Kd.R_drew)); exact Kd.R_mono HO261.out (fun _ hk => hk.2))⟩; have n1_ : Aside0 (Kd.R Kd.string 9 w49 w.heap.size (fun k_ => some k_ ≠ (.slice Ao43 t272.length co43 : Value).ownBlock) (.slice Ao40 t262.length co40) t262) := ⟨by rw [← hq_]; exact (by (with_reducible repeat (first | apply Kd.R_alloc | apply Kd.R_drewN | apply Kd.R_drew)); exact Kd.R_mono HO264.out (fun _ hk => hk.2))⟩; have n2_ : Aside0 (Kd.R (Kd.int .i64) 3 w49 w.heap.size (fun k_ => some k_ ≠ (.slice Ao44 t275.length co44 : Value).ownBlock) (.slice Ao41 t265.length co41) t265) := ⟨by rw [← hq_]; exact (by (with_reducible repeat (first | apply Kd.R_alloc | apply Kd.R_drewN | apply Kd.R_drew)); exact Kd.R_mono HO267.out (fun _ hk => hk.2))⟩; have n3_ : Aside0 (Kd.R (Kd.int .i64) 2 w49 w.heap.size (fun k_ => some k_ ≠ (.slice Ao39 t259.length co39 : Value).ownBlock) (.slice Ao42 t269.length co42) t269) := ⟨by rw [← hq_]; exact (by (with_reducible repeat (first | apply Kd.R_alloc | apply Kd.R_drewN | apply Kd.R_drew)); exact Kd.R_mono HO271.out (fun _ hk => hk.2))⟩; have n4_ : Aside0 (Kd.R Kd.string 9 w49 w.heap.size (fun k_ => some k_ ≠ (.slice Ao40 t262.length co40 : Value).ownBlock) (.slice Ao43 t272.length co43) t272) := ⟨by rw [← hq_]; exact (by (with_reducible repeat (first | apply Kd.R_alloc | apply Kd.R_drewN | apply Kd.R_drew)); exact Kd.R_mono HO274.out (fun _ hk => hk.2))⟩; have n5_ : Aside0 (Kd.R (Kd.int .i64) 3 w49 w.heap.size (fun k_ => some k_ ≠ (.slice Ao41 t265.length co41 : Value).ownBlock) (.slice Ao44 t275.length co44) t275) := ⟨by rw [← hq_]; exact (by (with_reducible repeat (first | apply Kd.R_alloc | apply Kd.R_drewN | apply Kd.R_drew)); exact Kd.R_mono HO277.out (fun _ hk => hk.2))⟩; have n6_ : Aside0 (Kd.R k75 75 w49 w.heap.size (fun k_ => some k_ ≠ (.slice Ao51 t282.length co51 : Value).ownBlock) (.slice Ao50 t278.length co50) t278) := ⟨by rw [← hq_]; exact (by (with_reducible repeat (first | apply Kd.R_alloc | apply Kd.R_drewN | apply Kd.R_drew)); exact Kd.R_mono HO280.out (fun _ hk => hk.2))⟩; have n7_ : Aside0 (Kd.R k75 75 w49 w.heap.size (fun k_ => some k_ ≠ (.slice Ao50 t278.length co50 : Value).ownBlock) (.slice Ao51 t282.length co51) t282) := ⟨by rw [← hq_]; exact (by (with_reducible repeat (first | apply Kd.R_alloc | apply Kd.R_drewN | apply Kd.R_drew)); exact Kd.R_mono HO284.out (fun _ hk => hk.2))⟩; have n8_ : Aside0 (w49.heap[gb252]? = some (.cells #[.int .i64 a0_0, .slice A0_1 l0_1.length c0_1, .slice A0_2 l0_2.length c0_2, .slice A0_3 l0_3.length c0_3] 26 (0, 0))) := ⟨by rw [← hq_]; exact (BL BK252)⟩; have n9_ : Aside0 (w49.heap[gb253]? = some (.cells #[.int .i64 a1_0, .slice A1_1 l1_1.length c1_1, .slice A1_2 l1_2.length c1_2, .slice A1_3 l1_3.length c1_3] 26 (0, 0))) := ⟨by rw [← hq_]; exact (BL BK253)⟩; have n10_ : Aside0 (Below w.heap.size w w49) := ⟨by rw [← hq_]; exact (BB HB)⟩; clear HO261 HO264 HO267 HO271 HO274 HO277 HO280 HO284 BK252 BK253 HB hq_; have HO261 := n0_; have HO264 := n1_; have HO267 := n2_; have HO271 := n3_; have HO274 := n4_; have HO277 := n5_; have HO280 := n6_; have HO284 := n7_; have BK252 := n8_; have BK253 := n9_; have HB := n10_; clear n0_ n1_ n2_ n3_ n4_ n5_ n6_ n7_ n8_ n9_ n10_)); have hcz52_0 : w49.cell? ⟨gb252, 0, none⟩ = some (.int .i64 a0_0) := (blk_cell BK252.out 0).trans rfl; have hcz52_1 : w49.cell? ⟨gb252, 1, none⟩ = some (.slice A0_1 l0_1.length c0_1) := (blk_cell BK252.out 1).trans rfl; have hcz52_2 : w49.cell? ⟨gb252, 2, none⟩ = some (.slice A0_2 l0_2.length c0_2) := (blk_cell BK252.out 2).trans rfl; have hcz52_3 : w49.cell? ⟨gb252, 3, none⟩ = some (.slice A0_3 l0_3.length c0_3) := (blk_cell BK252.out 3).trans rfl; have hfz52_0 := blk_frozen BK252.out 0; have hfz52_1 := blk_frozen BK252.out 1; have hfz52_2 := blk_frozen BK252.out 2; have hfz52_3 := blk_frozen BK252.out 3) | ((with_reducible refine gate_callee (f := 18) rfl ?_); refine goesL_ (some 51) rfl rfl Tryd.func18 (by kernel_rfl) rfl #[.agg #[.int .i64 a0_0, .slice A0_1 l0_1.length c0_1, .slice A0_2 l0_2.length c0_2, .slice A0_3 l0_3.length c0_3], .slice Ao50 t278.length co50] rfl (by (try simp only [List.map_toArray, List.map_cons, List.map_nil]); first | done | rfl | (simp only [List.length_drop, List.length_take]; rfl)) ?_; (with_reducible refine (field_Set.calls kj2 a0_0 _ _ l0_1 _ _ l0_2 _ _ l0_3 _ _ t278 t287 t288 t291 t294 t297 _ ?side1 ?side2 ?side3 ?side4 ?side5 ?side6 ?side7 ?side8 A32.out).mono ?_); (case side1 => repeat (first | exact (Kd.C_below HR0_1.out HB.out) | (with_reducible refine Kd.C_alloc ?_ _) | (with_reducible refine Kd.C_drewN ?_ _) | (with_reducible refine Kd.C_drew ?_))); (case side2 => exact HC0_1.out); (case side3 => repeat (first | exact (Kd.C_below HR0_2.out HB.out) | (with_reducible refine Kd.C_alloc ?_ _) | (with_reducible refine Kd.C_drewN ?_ _) | (with_reducible refine Kd.C_drew ?_))); (case side4 => exact HC0_2.out); (case side5 => repeat (first | exact (Kd.C_below HR0_3.out HB.out) | (with_reducible refine Kd.C_alloc ?_ _) | (with_reducible refine Kd.C_drewN ?_ _) | (with_reducible refine Kd.C_drew ?_))); (case side6 => exact HC0_3.out); (case side7 => exact CR HO280); (case side8 => exact (Kd.R_reads' HO280.out).2.1); rintro e w53 ⟨v289, v292, v295, rfl, ho0, ho1, ho2, hb⟩; refine ⟨_, rfl, ?_⟩; have n0_ := Aside0.mk (Kd.R_elder' (RL HO261) (Kd.R_base ho0) hb); have n1_ := Aside0.mk (Kd.R_elder' (RL HO264) (Kd.R_base ho1) hb); have n2_ := Aside0.mk (Kd.R_elder' (RL HO267) (Kd.R_base ho2) hb); have n3_ := Aside0.mk (Kd.R_elder' (RL HO271) (Kd.R_base ho0) hb); have n4_ := Aside0.mk (Kd.R_elder' (RL HO274) (Kd.R_base ho1) hb); have n5_ := Aside0.mk (Kd.R_elder' (RL HO277) (Kd.R_base ho2) hb); have n6_ := Aside0.mk (Kd.R_below (RL HO280) hb); have n7_ := Aside0.mk (Kd.R_below (RL HO284) hb); have n8_ := Aside0.mk (Kd.R_lower (Kd.R_new' (Kd.R_new' ho0 (Kd.R_lt (RL HO261))) (Kd.R_lt (RL HO271))) (below_size (BB HB))); have n9_ := Aside0.mk (Kd.R_lower (Kd.R_new' (Kd.R_new' ho1 (Kd.R_lt (RL HO264))) (Kd.R_lt (RL HO274))) (below_size (BB HB))); have n10_ := Aside0.mk (Kd.R_lower (Kd.R_new' (Kd.R_new' ho2 (Kd.R_lt (RL HO267))) (Kd.R_lt (RL HO277))) (below_size (BB HB))); have n11_ := BE BK252 hb; have n12_ := BE BK253 hb; have n13_ := Aside0.mk (below_step (BB HB) hb); clear HO261; clear HO264; clear HO267; clear HO271; clear HO274; clear HO277; clear HO280; clear HO284; clear BK252; clear BK253; clear HB; have HO261 := n0_; have HO264 := n1_; have HO267 := n2_; have HO271 := n3_; have HO274 := n4_; have HO277 := n5_; have HO280 := n6_; have HO284 := n7_; have HO290 := n8_; have HO293 := n9_; have HO296 := n10_; have BK252 := n11_; have BK253 := n12_; have HB := n13_; clear n0_ n1_ n2_ n3_ n4_ n5_ n6_ n7_ n8_ n9_ n10_ n11_ n12_ n13_; (try clear hb); (try clear hb2); (try clear hk); (try clear hi); (try clear ho0); (try clear ho1); (try clear ho2)) | ((with_reducible refine gate_dst (N := 9) rfl ?_); refine box_event ?hg (N := 9) ?hd (cs := #[.int .i64 0, .slice none 0 0, .slice none 0 0, .slice none 0 0]) (t := 26) ?hr ?_; (case hd => rfl); (case hg => rfl); (case hr => first | (go_simp; done) | (go_simp; rfl)); intro gb298 hg w54 hbox hb; have n0_ := Aside0.mk (Kd.R_below (RL HO261) hb); have n1_ := Aside0.mk (Kd.R_below (RL HO264) hb); have n2_ := Aside0.mk (Kd.R_below (RL HO267) hb); have n3_ := Aside0.mk (Kd.R_below (RL HO271) hb); have n4_ := Aside0.mk (Kd.R_below (RL HO274) hb); have n5_ := Aside0.mk (Kd.R_below (RL HO277) hb); have n6_ := Aside0.mk (Kd.R_below (RL HO280) hb); have n7_ := Aside0.mk (Kd.R_below (RL HO284) hb); have n8_ := Aside0.mk (Kd.R_below (RL HO290) hb); have n9_ := Aside0.mk (Kd.R_below (RL HO293) hb); have n10_ := Aside0.mk (Kd.R_below (RL HO296) hb); have n11_ := BE BK252 hb; have n12_ := BE BK253 hb; have n13_ := Aside0.mk (below_step (BB HB) hb); have n14_ := Aside0.mk (hbox); have n15_ := Aside0.mk ((by rw [hg]; exact (below_size (BB HB)) : w.heap.size ≤ gb298)); have n16_ := Aside0.mk ((by rw [hg]; exact (below_size (BB HB)) : w.heap.size ≤ gb298)); have n17_ := Aside0.mk ((by rw [hg]; exact Nat.ne_of_lt (blk_lt (g := gb252) (o := .cells #[.int .i64 a0_0, .slice A0_1 l0_1.length c0_1, .slice A0_2 l0_2.length c0_2, .slice A0_3 l0_3.length c0_3] 26 (0, 0)) (BL BK252)) : gb252 ≠ gb298)); have n18_ := Aside0.mk ((by rw [hg]; exact Nat.ne_of_gt (blk_lt (g := gb252) (o := .cells #[.int .i64 a0_0, .slice A0_1 l0_1.length c0_1, .slice A0_2 l0_2.length c0_2, .slice A0_3 l0_3.length c0_3] 26 (0, 0)) (BL BK252)) : gb298 ≠ gb252)); have n19_ := Aside0.mk ((by rw [hg]; exact Nat.ne_of_lt (blk_lt (g := gb253) (o := .cells #[.int .i64 a1_0, .slice A1_1 l1_1.length c1_1, .slice A1_2 l1_2.length c1_2, .slice A1_3 l1_3.length c1_3] 26 (0, 0)) (BL BK253)) : gb253 ≠ gb298)); have n20_ := Aside0.mk ((by rw [hg]; exact Nat.ne_of_gt (blk_lt (g := gb253) (o := .cells #[.int .i64 a1_0, .slice A1_1 l1_1.length c1_1, .slice A1_2 l1_2.length c1_2, .slice A1_3 l1_3.length c1_3] 26 (0, 0)) (BL BK253)) : gb298 ≠ gb253)); clear HO261; clear HO264; clear HO267; clear HO271; clear HO274; clear HO277; clear HO280; clear HO284; clear HO290; clear HO293; clear HO296; clear BK252; clear BK253; clear HB; have HO261 := n0_; have HO264 := n1_; have HO267 := n2_; have HO271 := n3_; have HO274 := n4_; have HO277 := n5_; have HO280 := n6_; have HO284 := n7_; have HO290 := n8_; have HO293 := n9_; have HO296 := n10_; have BK252 := n11_; have BK253 := n12_; have HB := n13_; have BK298 := n14_; have GW298 := n15_; have GE298 := n16_; have NB252_298 := n17_; have NB298_252 := n18_; have NB253_298 := n19_; have NB298_253 := n20_; clear n0_ n1_ n2_ n3_ n4_ n5_ n6_ n7_ n8_ n9_ n10_ n11_ n12_ n13_ n14_ n15_ n16_ n17_ n18_ n19_ n20_; clear hb hbox hg; have hnb55 := NB298_252.out; have hnc55 := NB252_298.out; have hnb56 := NB298_253.out; have hnc56 := NB253_298.out; have hcz57_0 : w54.cell? ⟨gb298, 0, none⟩ = some (.int .i64 0) := (blk_cell BK298.out 0).trans rfl; have hcz57_1 : w54.cell? ⟨gb298, 1, none⟩ = some (.slice none 0 0) := (blk_cell BK298.out 1).trans rfl; have hcz57_2 : w54.cell? ⟨gb298, 2, none⟩ = some (.slice none 0 0) := (blk_cell BK298.out 2).trans rfl; have hcz57_3 : w54.cell? ⟨gb298, 3, none⟩ = some (.slice none 0 0) := (blk_cell BK298.out 3).trans rfl; have hfz57_0 := blk_frozen BK298.out 0; have hfz57_1 := blk_frozen BK298.out 1; have hfz57_2 := blk_frozen BK298.out 2; have hfz57_3 := blk_frozen BK298.out 3; obtain ⟨Ao58, co58, eo58⟩ := Kd.R_slice HO290.out; subst eo58; obtain ⟨Ao59, co59, eo59⟩ := Kd.R_slice HO293.out; subst eo59; obtain ⟨Ao60, co60, eo60⟩ := Kd.R_slice HO296.out; subst eo60; have hcz61_0 : w54.cell? ⟨gb253, 0, none⟩ = some (.int .i64 a1_0) := (blk_cell BK253.out 0).trans rfl; have hcz61_1 : w54.cell? ⟨gb253, 1, none⟩ = some (.slice A1_1 l1_1.length c1_1) := (blk_cell BK253.out 1).trans rfl; have hcz61_2 : w54.cell? ⟨gb253, 2, none⟩ = some (.slice A1_2 l1_2.length c1_2) := (blk_cell BK253.out 2).trans rfl; have hcz61_3 : w54.cell? ⟨gb253, 3, none⟩ = some (.slice A1_3 l1_3.length c1_3) := (blk_cell BK253.out 3).trans rfl; have hfz61_0 := blk_frozen BK253.out 0; have hfz61_1 := blk_frozen BK253.out 1; have hfz61_2 := blk_frozen BK253.out 2; have hfz61_3 := blk_frozen BK253.out 3) | ((with_reducible refine gate_callee (f := 16) rfl ?_); refine goesL_ (some 55) rfl rfl Tryd.func16 (by kernel_rfl) rfl #[.agg #[.int .i64 a1_0, .slice A1_1 l1_1.length c1_1, .slice A1_2 l1_2.length c1_2, .slice A1_3 l1_3.length c1_3]] rfl (by (try simp only [List.map_toArray, List.map_cons, List.map_nil]); first | done | rfl | (simp only [List.length_drop, List.length_take]; rfl)) ?_; (with_reducible refine (dioramaref08_Copy.calls a1_0 _ _ l1_1 _ _ l1_2 _ _ l1_3 t299 t300 t303 t306 _ ?side1 ?side2 ?side3 ?side4 ?side5 ?side6 A33.out).mono ?_); (case side1 => exact Kd.C_below HR1_1.out (BB HB)); (case side2 => exact HC1_1.out); (case side3 => exact Kd.C_below HR1_2.out (BB HB)); (case side4 => exact HC1_2.out); (case side5 => exact Kd.C_below HR1_3.out (BB HB)); (case side6 => exact HC1_3.out); rintro e w62 ⟨v301, v304, v307, rfl, ho0, ho1, ho2, hb⟩; refine ⟨_, rfl, ?_⟩; have n0_ := Aside0.mk (Kd.R_elder' (by exact (Kd.R_mono (Kd.R_far (p := ⟨gb298, 3, none⟩) (Kd.R_far (p := ⟨gb298, 2, none⟩) (Kd.R_far (p := ⟨gb298, 1, none⟩) (Kd.R_far (p := ⟨gb298, 0, none⟩) (Kd.R_types HO261.out BK298.out (by decide)) (fun _ hk => hk.2) (.int .i64 t287)) (fun _ hk => hk.2) (.slice Ao58 t288.length co58)) (fun _ hk => hk.2) (.slice Ao59 t291.length co59)) (fun _ hk => hk.2) (.slice Ao60 t294.length co60)) (fun _ h_ => h_.1))) (Kd.R_base ho0) hb); have n1_ := Aside0.mk (Kd.R_elder' (by exact (Kd.R_mono (Kd.R_far (p := ⟨gb298, 3, none⟩) (Kd.R_far (p := ⟨gb298, 2, none⟩) (Kd.R_far (p := ⟨gb298, 1, none⟩) (Kd.R_far (p := ⟨gb298, 0, none⟩) (Kd.R_types HO264.out BK298.out (by decide)) (fun _ hk => hk.2) (.int .i64 t287)) (fun _ hk => hk.2) (.slice Ao58 t288.length co58)) (fun _ hk => hk.2) (.slice Ao59 t291.length co59)) (fun _ hk => hk.2) (.slice Ao60 t294.length co60)) (fun _ h_ => h_.1))) (Kd.R_base ho1) hb); have n2_ := Aside0.mk (Kd.R_elder' (by exact (Kd.R_mono (Kd.R_far (p := ⟨gb298, 3, none⟩) (Kd.R_far (p := ⟨gb298, 2, none⟩) (Kd.R_far (p := ⟨gb298, 1, none⟩) (Kd.R_far (p := ⟨gb298, 0, none⟩) (Kd.R_types HO267.out BK298.out (by decide)) (fun _ hk => hk.2) (.int .i64 t287)) (fun _ hk => hk.2) (.slice Ao58 t288.length co58)) (fun _ hk => hk.2) (.slice Ao59 t291.length co59)) (fun _ hk => hk.2) (.slice Ao60 t294.length co60)) (fun _ h_ => h_.1))) (Kd.R_base ho2) hb); have n3_ := Aside0.mk (Kd.R_elder' (by exact (Kd.R_mono (Kd.R_far (p := ⟨gb298, 3, none⟩) (Kd.R_far (p := ⟨gb298, 2, none⟩) (Kd.R_far (p := ⟨gb298, 1, none⟩) (Kd.R_far (p := ⟨gb298, 0, none⟩) (Kd.R_types HO271.out BK298.out (by decide)) (fun _ hk => hk.2) (.int .i64 t287)) (fun _ hk => hk.2) (.slice Ao58 t288.length co58)) (fun _ hk => hk.2) (.slice Ao59 t291.length co59)) (fun _ hk => hk.2) (.slice Ao60 t294.length co60)) (fun _ h_ => h_.1))) (Kd.R_base ho0) hb); have n4_ := Aside0.mk (Kd.R_elder' (by exact (Kd.R_mono (Kd.R_far (p := ⟨gb298, 3, none⟩) (Kd.R_far (p := ⟨gb298, 2, none⟩) (Kd.R_far (p := ⟨gb298, 1, none⟩) (Kd.R_far (p := ⟨gb298, 0, none⟩) (Kd.R_types HO274.out BK298.out (by decide)) (fun _ hk => hk.2) (.int .i64 t287)) (fun _ hk => hk.2) (.slice Ao58 t288.length co58)) (fun _ hk => hk.2) (.slice Ao59 t291.length co59)) (fun _ hk => hk.2) (.slice Ao60 t294.length co60)) (fun _ h_ => h_.1))) (Kd.R_base ho1) hb); have n5_ := Aside0.mk (Kd.R_elder' (by exact (Kd.R_mono (Kd.R_far (p := ⟨gb298, 3, none⟩) (Kd.R_far (p := ⟨gb298, 2, none⟩) (Kd.R_far (p := ⟨gb298, 1, none⟩) (Kd.R_far (p := ⟨gb298, 0, none⟩) (Kd.R_types HO277.out BK298.out (by decide)) (fun _ hk => hk.2) (.int .i64 t287)) (fun _ hk => hk.2) (.slice Ao58 t288.length co58)) (fun _ hk => hk.2) (.slice Ao59 t291.length co59)) (fun _ hk => hk.2) (.slice Ao60 t294.length co60)) (fun _ h_ => h_.1))) (Kd.R_base ho2) hb); have n6_ := Aside0.mk (Kd.R_below (by exact (Kd.R_mono (Kd.R_far (p := ⟨gb298, 3, none⟩) (Kd.R_far (p := ⟨gb298, 2, none⟩) (Kd.R_far (p := ⟨gb298, 1, none⟩) (Kd.R_far (p := ⟨gb298, 0, none⟩) (Kd.R_types HO280.out BK298.out (by decide)) (fun _ hk => hk.2) (.int .i64 t287)) (fun _ hk => hk.2) (.slice Ao58 t288.length co58)) (fun _ hk => hk.2) (.slice Ao59 t291.length co59)) (fun _ hk => hk.2) (.slice Ao60 t294.length co60)) (fun _ h_ => h_.1))) hb); have n7_ := Aside0.mk (Kd.R_below (by exact (Kd.R_mono (Kd.R_far (p := ⟨gb298, 3, none⟩) (Kd.R_far (p := ⟨gb298, 2, none⟩) (Kd.R_far (p := ⟨gb298, 1, none⟩) (Kd.R_far (p := ⟨gb298, 0, none⟩) (Kd.R_types HO284.out BK298.out (by decide)) (fun _ hk => hk.2) (.int .i64 t287)) (fun _ hk => hk.2) (.slice Ao58 t288.length co58)) (fun _ hk => hk.2) (.slice Ao59 t291.length co59)) (fun _ hk => hk.2) (.slice Ao60 t294.length co60)) (fun _ h_ => h_.1))) hb); have n8_ := Aside0.mk (Kd.R_elder' (by exact (Kd.R_mono (Kd.R_far (p := ⟨gb298, 3, none⟩) (Kd.R_far (p := ⟨gb298, 2, none⟩) (Kd.R_far (p := ⟨gb298, 1, none⟩) (Kd.R_far (p := ⟨gb298, 0, none⟩) (Kd.R_types HO290.out BK298.out (by decide)) (fun _ hk => hk.2) (.int .i64 t287)) (fun _ hk => hk.2) (.slice Ao58 t288.length co58)) (fun _ hk => hk.2) (.slice Ao59 t291.length co59)) (fun _ hk => hk.2) (.slice Ao60 t294.length co60)) (fun _ h_ => h_.1))) (Kd.R_base ho0) hb); have n9_ := Aside0.mk (Kd.R_elder' (by exact (Kd.R_mono (Kd.R_far (p := ⟨gb298, 3, none⟩) (Kd.R_far (p := ⟨gb298, 2, none⟩) (Kd.R_far (p := ⟨gb298, 1, none⟩) (Kd.R_far (p := ⟨gb298, 0, none⟩) (Kd.R_types HO293.out BK298.out (by decide)) (fun _ hk => hk.2) (.int .i64 t287)) (fun _ hk => hk.2) (.slice Ao58 t288.length co58)) (fun _ hk => hk.2) (.slice Ao59 t291.length co59)) (fun _ hk => hk.2) (.slice Ao60 t294.length co60)) (fun _ h_ => h_.1))) (Kd.R_base ho1) hb); have n10_ := Aside0.mk (Kd.R_elder' (by exact (Kd.R_mono (Kd.R_far (p := ⟨gb298, 3, none⟩) (Kd.R_far (p := ⟨gb298, 2, none⟩) (Kd.R_far (p := ⟨gb298, 1, none⟩) (Kd.R_far (p := ⟨gb298, 0, none⟩) (Kd.R_types HO296.out BK298.out (by decide)) (fun _ hk => hk.2) (.int .i64 t287)) (fun _ hk => hk.2) (.slice Ao58 t288.length co58)) (fun _ hk => hk.2) (.slice Ao59 t291.length co59)) (fun _ hk => hk.2) (.slice Ao60 t294.length co60)) (fun _ h_ => h_.1))) (Kd.R_base ho2) hb); have n11_ := Aside0.mk (Kd.R_lower (Kd.R_new' (Kd.R_new' (Kd.R_new' ho0 (Kd.R_lt (by exact (Kd.R_mono (Kd.R_far (p := ⟨gb298, 3, none⟩) (Kd.R_far (p := ⟨gb298, 2, none⟩) (Kd.R_far (p := ⟨gb298, 1, none⟩) (Kd.R_far (p := ⟨gb298, 0, none⟩) (Kd.R_types HO261.out BK298.out (by decide)) (fun _ hk => hk.2) (.int .i64 t287)) (fun _ hk => hk.2) (.slice Ao58 t288.length co58)) (fun _ hk => hk.2) (.slice Ao59 t291.length co59)) (fun _ hk => hk.2) (.slice Ao60 t294.length co60)) (fun _ h_ => h_.1))))) (Kd.R_lt (by exact (Kd.R_mono (Kd.R_far (p := ⟨gb298, 3, none⟩) (Kd.R_far (p := ⟨gb298, 2, none⟩) (Kd.R_far (p := ⟨gb298, 1, none⟩) (Kd.R_far (p := ⟨gb298, 0, none⟩) (Kd.R_types HO271.out BK298.out (by decide)) (fun _ hk => hk.2) (.int .i64 t287)) (fun _ hk => hk.2) (.slice Ao58 t288.length co58)) (fun _ hk => hk.2) (.slice Ao59 t291.length co59)) (fun _ hk => hk.2) (.slice Ao60 t294.length co60)) (fun _ h_ => h_.1))))) (Kd.R_lt (by exact (Kd.R_mono (Kd.R_far (p := ⟨gb298, 3, none⟩) (Kd.R_far (p := ⟨gb298, 2, none⟩) (Kd.R_far (p := ⟨gb298, 1, none⟩) (Kd.R_far (p := ⟨gb298, 0, none⟩) (Kd.R_types HO290.out BK298.out (by decide)) (fun _ hk => hk.2) (.int .i64 t287)) (fun _ hk => hk.2) (.slice Ao58 t288.length co58)) (fun _ hk => hk.2) (.slice Ao59 t291.length co59)) (fun _ hk => hk.2) (.slice Ao60 t294.length co60)) (fun _ h_ => h_.1))))) (below_size (BB HB))); have n12_ := Aside0.mk (Kd.R_lower (Kd.R_new' (Kd.R_new' (Kd.R_new' ho1 (Kd.R_lt (by exact (Kd.R_mono (Kd.R_far (p := ⟨gb298, 3, none⟩) (Kd.R_far (p := ⟨gb298, 2, none⟩) (Kd.R_far (p := ⟨gb298, 1, none⟩) (Kd.R_far (p := ⟨gb298, 0, none⟩) (Kd.R_types HO264.out BK298.out (by decide)) (fun _ hk => hk.2) (.int .i64 t287)) (fun _ hk => hk.2) (.slice Ao58 t288.length co58)) (fun _ hk => hk.2) (.slice Ao59 t291.length co59)) (fun _ hk => hk.2) (.slice Ao60 t294.length co60)) (fun _ h_ => h_.1))))) (Kd.R_lt (by exact (Kd.R_mono (Kd.R_far (p := ⟨gb298, 3, none⟩) (Kd.R_far (p := ⟨gb298, 2, none⟩) (Kd.R_far (p := ⟨gb298, 1, none⟩) (Kd.R_far (p := ⟨gb298, 0, none⟩) (Kd.R_types HO274.out BK298.out (by decide)) (fun _ hk => hk.2) (.int .i64 t287)) (fun _ hk => hk.2) (.slice Ao58 t288.length co58)) (fun _ hk => hk.2) (.slice Ao59 t291.length co59)) (fun _ hk => hk.2) (.slice Ao60 t294.length co60)) (fun _ h_ => h_.1))))) (Kd.R_lt (by exact (Kd.R_mono (Kd.R_far (p := ⟨gb298, 3, none⟩) (Kd.R_far (p := ⟨gb298, 2, none⟩) (Kd.R_far (p := ⟨gb298, 1, none⟩) (Kd.R_far (p := ⟨gb298, 0, none⟩) (Kd.R_types HO293.out BK298.out (by decide)) (fun _ hk => hk.2) (.int .i64 t287)) (fun _ hk => hk.2) (.slice Ao58 t288.length co58)) (fun _ hk => hk.2) (.slice Ao59 t291.length co59)) (fun _ hk => hk.2) (.slice Ao60 t294.length co60)) (fun _ h_ => h_.1))))) (below_size (BB HB))); have n13_ := Aside0.mk (Kd.R_lower (Kd.R_new' (Kd.R_new' (Kd.R_new' ho2 (Kd.R_lt (by exact (Kd.R_mono (Kd.R_far (p := ⟨gb298, 3, none⟩) (Kd.R_far (p := ⟨gb298, 2, none⟩) (Kd.R_far (p := ⟨gb298, 1, none⟩) (Kd.R_far (p := ⟨gb298, 0, none⟩) (Kd.R_types HO267.out BK298.out (by decide)) (fun _ hk => hk.2) (.int .i64 t287)) (fun _ hk => hk.2) (.slice Ao58 t288.length co58)) (fun _ hk => hk.2) (.slice Ao59 t291.length co59)) (fun _ hk => hk.2) (.slice Ao60 t294.length co60)) (fun _ h_ => h_.1))))) (Kd.R_lt (by exact (Kd.R_mono (Kd.R_far (p := ⟨gb298, 3, none⟩) (Kd.R_far (p := ⟨gb298, 2, none⟩) (Kd.R_far (p := ⟨gb298, 1, none⟩) (Kd.R_far (p := ⟨gb298, 0, none⟩) (Kd.R_types HO277.out BK298.out (by decide)) (fun _ hk => hk.2) (.int .i64 t287)) (fun _ hk => hk.2) (.slice Ao58 t288.length co58)) (fun _ hk => hk.2) (.slice Ao59 t291.length co59)) (fun _ hk => hk.2) (.slice Ao60 t294.length co60)) (fun _ h_ => h_.1))))) (Kd.R_lt (by exact (Kd.R_mono (Kd.R_far (p := ⟨gb298, 3, none⟩) (Kd.R_far (p := ⟨gb298, 2, none⟩) (Kd.R_far (p := ⟨gb298, 1, none⟩) (Kd.R_far (p := ⟨gb298, 0, none⟩) (Kd.R_types HO296.out BK298.out (by decide)) (fun _ hk => hk.2) (.int .i64 t287)) (fun _ hk => hk.2) (.slice Ao58 t288.length co58)) (fun _ hk => hk.2) (.slice Ao59 t291.length co59)) (fun _ hk => hk.2) (.slice Ao60 t294.length co60)) (fun _ h_ => h_.1))))) (below_size (BB HB))); have n14_ := Aside0.mk (blk_below (g := gb252) (o := .cells #[.int .i64 a0_0, .slice A0_1 l0_1.length c0_1, .slice A0_2 l0_2.length c0_2, .slice A0_3 l0_3.length c0_3] 26 (0, 0)) (by refine blk_far ?_ NB252_298.out _; refine blk_far ?_ NB252_298.out _; refine blk_far ?_ NB252_298.out _; refine blk_far ?_ NB252_298.out _; (with_reducible repeat (first | refine blk_drewN ?_ _ | refine blk_drew ?_ | refine blk_alloc ?_ _)); exact BK252.out) hb); have n15_ := Aside0.mk (blk_below (g := gb253) (o := .cells #[.int .i64 a1_0, .slice A1_1 l1_1.length c1_1, .slice A1_2 l1_2.length c1_2, .slice A1_3 l1_3.length c1_3] 26 (0, 0)) (by refine blk_far ?_ NB253_298.out _; refine blk_far ?_ NB253_298.out _; refine blk_far ?_ NB253_298.out _; refine blk_far ?_ NB253_298.out _; (with_reducible repeat (first | refine blk_drewN ?_ _ | refine blk_drew ?_ | refine blk_alloc ?_ _)); exact BK253.out) hb); have n16_ := Aside0.mk (blk_below (g := gb298) (o := .cells #[.int .i64 t287, .slice Ao58 t288.length co58, .slice Ao59 t291.length co59, .slice Ao60 t294.length co60] 26 (0, 0)) (by refine blk_put (cs := #[.int .i64 t287, .slice Ao58 t288.length co58, .slice Ao59 t291.length co59, .slice none 0 0]) ?_ 3 _ rfl; refine blk_put (cs := #[.int .i64 t287, .slice Ao58 t288.length co58, .slice none 0 0, .slice none 0 0]) ?_ 2 _ rfl; refine blk_put (cs := #[.int .i64 t287, .slice none 0 0, .slice none 0 0, .slice none 0 0]) ?_ 1 _ rfl; refine blk_put (cs := #[.int .i64 0, .slice none 0 0, .slice none 0 0, .slice none 0 0]) ?_ 0 _ rfl; (with_reducible repeat (first | refine blk_drewN ?_ _ | refine blk_drew ?_ | refine blk_alloc ?_ _)); exact BK298.out) hb); have n17_ := Aside0.mk (below_step (BB HB) hb); clear HO261; clear HO264; clear HO267; clear HO271; clear HO274; clear HO277; clear HO280; clear HO284; clear HO290; clear HO293; clear HO296; clear BK252; clear BK253; clear BK298; clear HB; have HO261 := n0_; have HO264 := n1_; have HO267 := n2_; have HO271 := n3_; have HO274 := n4_; have HO277 := n5_; have HO280 := n6_; have HO284 := n7_; have HO290 := n8_; have HO293 := n9_; have HO296 := n10_; have HO302 := n11_; have HO305 := n12_; have HO308 := n13_; have BK252 := n14_; have BK253 := n15_; have BK298 := n16_; have HB := n17_; clear n0_ n1_ n2_ n3_ n4_ n5_ n6_ n7_ n8_ n9_ n10_ n11_ n12_ n13_ n14_ n15_ n16_ n17_; (try clear hb); (try clear hb2); (try clear hk); (try clear hi); (try clear ho0); (try clear ho1); (try clear ho2)) | ((with_reducible refine gate_dst (N := 11) rfl ?_); refine box_event ?hg (N := 11) ?hd (cs := #[.int .i64 0, .slice none 0 0, .slice none 0 0, .slice none 0 0]) (t := 26) ?hr ?_; (case hd => rfl); (case hg => rfl); (case hr => first | (go_simp; done) | (go_simp; rfl)); intro gb309 hg w63 hbox hb; have n0_ := Aside0.mk (Kd.R_below (RL HO261) hb); have n1_ := Aside0.mk (Kd.R_below (RL HO264) hb); have n2_ := Aside0.mk (Kd.R_below (RL HO267) hb); have n3_ := Aside0.mk (Kd.R_below (RL HO271) hb); have n4_ := Aside0.mk (Kd.R_below (RL HO274) hb); have n5_ := Aside0.mk (Kd.R_below (RL HO277) hb); have n6_ := Aside0.mk (Kd.R_below (RL HO280) hb); have n7_ := Aside0.mk (Kd.R_below (RL HO284) hb); have n8_ := Aside0.mk (Kd.R_below (RL HO290) hb); have n9_ := Aside0.mk (Kd.R_below (RL HO293) hb); have n10_ := Aside0.mk (Kd.R_below (RL HO296) hb); have n11_ := Aside0.mk (Kd.R_below (RL HO302) hb); have n12_ := Aside0.mk (Kd.R_below (RL HO305) hb); have n13_ := Aside0.mk (Kd.R_below (RL HO308) hb); have n14_ := BE BK252 hb; have n15_ := BE BK253 hb; have n16_ := BE BK298 hb; have n17_ := Aside0.mk (below_step (BB HB) hb); have n18_ := Aside0.mk (hbox); have n19_ := Aside0.mk ((by rw [hg]; exact (below_size (BB HB)) : w.heap.size ≤ gb309)); have n20_ := Aside0.mk ((by rw [hg]; exact (below_size (BB HB)) : w.heap.size ≤ gb309)); have n21_ := Aside0.mk ((by rw [hg]; exact Nat.ne_of_lt (blk_lt (g := gb252) (o := .cells #[.int .i64 a0_0, .slice A0_1 l0_1.length c0_1, .slice A0_2 l0_2.length c0_2, .slice A0_3 l0_3.length c0_3] 26 (0, 0)) (BL BK252)) : gb252 ≠ gb309)); have n22_ := Aside0.mk ((by rw [hg]; exact Nat.ne_of_gt (blk_lt (g := gb252) (o := .cells #[.int .i64 a0_0, .slice A0_1 l0_1.length c0_1, .slice A0_2 l0_2.length c0_2, .slice A0_3 l0_3.length c0_3] 26 (0, 0)) (BL BK252)) : gb309 ≠ gb252)); have n23_ := Aside0.mk ((by rw [hg]; exact Nat.ne_of_lt (blk_lt (g := gb253) (o := .cells #[.int .i64 a1_0, .slice A1_1 l1_1.length c1_1, .slice A1_2 l1_2.length c1_2, .slice A1_3 l1_3.length c1_3] 26 (0, 0)) (BL BK253)) : gb253 ≠ gb309)); have n24_ := Aside0.mk ((by rw [hg]; exact Nat.ne_of_gt (blk_lt (g := gb253) (o := .cells #[.int .i64 a1_0, .slice A1_1 l1_1.length c1_1, .slice A1_2 l1_2.length c1_2, .slice A1_3 l1_3.length c1_3] 26 (0, 0)) (BL BK253)) : gb309 ≠ gb253)); have n25_ := Aside0.mk ((by rw [hg]; exact Nat.ne_of_lt (blk_lt (g := gb298) (o := .cells #[.int .i64 t287, .slice Ao58 t288.length co58, .slice Ao59 t291.length co59, .slice Ao60 t294.length co60] 26 (0, 0)) (BL BK298)) : gb298 ≠ gb309)); have n26_ := Aside0.mk ((by rw [hg]; exact Nat.ne_of_gt (blk_lt (g := gb298) (o := .cells #[.int .i64 t287, .slice Ao58 t288.length co58, .slice Ao59 t291.length co59, .slice Ao60 t294.length co60] 26 (0, 0)) (BL BK298)) : gb309 ≠ gb298)); clear HO261; clear HO264; clear HO267; clear HO271; clear HO274; clear HO277; clear HO280; clear HO284; clear HO290; clear HO293; clear HO296; clear HO302; clear HO305; clear HO308; clear BK252; clear BK253; clear BK298; clear HB; have HO261 := n0_; have HO264 := n1_; have HO267 := n2_; have HO271 := n3_; have HO274 := n4_; have HO277 := n5_; have HO280 := n6_; have HO284 := n7_; have HO290 := n8_; have HO293 := n9_; have HO296 := n10_; have HO302 := n11_; have HO305 := n12_; have HO308 := n13_; have BK252 := n14_; have BK253 := n15_; have BK298 := n16_; have HB := n17_; have BK309 := n18_; have GW309 := n19_; have GE309 := n20_; have NB252_309 := n21_; have NB309_252 := n22_; have NB253_309 := n23_; have NB309_253 := n24_; have NB298_309 := n25_; have NB309_298 := n26_; clear n0_ n1_ n2_ n3_ n4_ n5_ n6_ n7_ n8_ n9_ n10_ n11_ n12_ n13_ n14_ n15_ n16_ n17_ n18_ n19_ n20_ n21_ n22_ n23_ n24_ n25_ n26_; clear hb hbox hg; have hnb64 := NB309_252.out; have hnc64 := NB252_309.out; have hnb65 := NB309_253.out; have hnc65 := NB253_309.out; have hnb66 := NB309_298.out; have hnc66 := NB298_309.out; have hcz67_0 : w63.cell? ⟨gb309, 0, none⟩ = some (.int .i64 0) := (blk_cell BK309.out 0).trans rfl; have hcz67_1 : w63.cell? ⟨gb309, 1, none⟩ = some (.slice none 0 0) := (blk_cell BK309.out 1).trans rfl; have hcz67_2 : w63.cell? ⟨gb309, 2, none⟩ = some (.slice none 0 0) := (blk_cell BK309.out 2).trans rfl; have hcz67_3 : w63.cell? ⟨gb309, 3, none⟩ = some (.slice none 0 0) := (blk_cell BK309.out 3).trans rfl; have hfz67_0 := blk_frozen BK309.out 0; have hfz67_1 := blk_frozen BK309.out 1; have hfz67_2 := blk_frozen BK309.out 2; have hfz67_3 := blk_frozen BK309.out 3; obtain ⟨Ao68, co68, eo68⟩ := Kd.R_slice HO302.out; subst eo68; obtain ⟨Ao69, co69, eo69⟩ := Kd.R_slice HO305.out; subst eo69; obtain ⟨Ao70, co70, eo70⟩ := Kd.R_slice HO308.out; subst eo70; have hcz71_0 : w63.cell? ⟨gb252, 0, none⟩ = some (.int .i64 a0_0) := (blk_cell BK252.out 0).trans rfl; have hcz71_1 : w63.cell? ⟨gb252, 1, none⟩ = some (.slice A0_1 l0_1.length c0_1) := (blk_cell BK252.out 1).trans rfl; have hcz71_2 : w63.cell? ⟨gb252, 2, none⟩ = some (.slice A0_2 l0_2.length c0_2) := (blk_cell BK252.out 2).trans rfl; have hcz71_3 : w63.cell? ⟨gb252, 3, none⟩ = some (.slice A0_3 l0_3.length c0_3) := (blk_cell BK252.out 3).trans rfl; have hfz71_0 := blk_frozen BK252.out 0; have hfz71_1 := blk_frozen BK252.out 1; have hfz71_2 := blk_frozen BK252.out 2; have hfz71_3 := blk_frozen BK252.out 3; have hcz72_0 : w63.cell? ⟨gb298, 0, none⟩ = some (.int .i64 t287) := (blk_cell BK298.out 0).trans rfl; have hcz72_1 : w63.cell? ⟨gb298, 1, none⟩ = some (.slice Ao58 t288.length co58) := (blk_cell BK298.out 1).trans rfl; have hcz72_2 : w63.cell? ⟨gb298, 2, none⟩ = some (.slice Ao59 t291.length co59) := (blk_cell BK298.out 2).trans rfl; have hcz72_3 : w63.cell? ⟨gb298, 3, none⟩ = some (.slice Ao60 t294.length co60) := (blk_cell BK298.out 3).trans rfl; have hfz72_0 := blk_frozen BK298.out 0; have hfz72_1 := blk_frozen BK298.out 1; have hfz72_2 := blk_frozen BK298.out 2; have hfz72_3 := blk_frozen BK298.out 3))
        have hq0 : Kd.C (Kd.int .i64) (((((w63.setCell ⟨gb309, 0, none⟩ (.int .i64 t299)).setCell ⟨gb309, 1, none⟩ (.slice Ao68 t300.length co68)).setCell ⟨gb309, 2, none⟩ (.slice Ao69 t303.length co69)).setCell ⟨gb309, 3, none⟩ (.slice Ao70 t306.length co70)).setCell ⟨gb309, 3, none⟩ (.slice A0_3 l0_3.length c0_3)) Ao58 t288.length t288 := by refine (Kd.R_reads' (e := 2) (base := w.heap.size) (ok := fun k_ => (((True ∧ some k_ ≠ (.slice Ao39 t259.length co39 : Value).ownBlock) ∧ some k_ ≠ (.slice Ao42 t269.length co42 : Value).ownBlock) ∧ some k_ ≠ (.slice Ao68 t300.length co68 : Value).ownBlock)) (n := t288.length) (c := co58) ?_).2.2; exact (by exact (Kd.R_mono (Kd.R_far (p := ⟨gb309, 3, none⟩) (Kd.R_far (p := ⟨gb309, 3, none⟩) (Kd.R_far (p := ⟨gb309, 2, none⟩) (Kd.R_far (p := ⟨gb309, 1, none⟩) (Kd.R_far (p := ⟨gb309, 0, none⟩) (Kd.R_types HO290.out BK309.out (by decide)) (fun _ hk => hk.2) (.int .i64 t299)) (fun _ hk => hk.2) (.slice Ao68 t300.length co68)) (fun _ hk => hk.2) (.slice Ao69 t303.length co69)) (fun _ hk => hk.2) (.slice Ao70 t306.length co70)) (fun _ hk => hk.2) (.slice A0_3 l0_3.length c0_3)) (fun _ h_ => h_.1)))
        have hq1 : Kd.C Kd.string (((((w63.setCell ⟨gb309, 0, none⟩ (.int .i64 t299)).setCell ⟨gb309, 1, none⟩ (.slice Ao68 t300.length co68)).setCell ⟨gb309, 2, none⟩ (.slice Ao69 t303.length co69)).setCell ⟨gb309, 3, none⟩ (.slice Ao70 t306.length co70)).setCell ⟨gb309, 3, none⟩ (.slice A0_3 l0_3.length c0_3)) Ao59 t291.length t291 := by refine (Kd.R_reads' (e := 9) (base := w.heap.size) (ok := fun k_ => (((True ∧ some k_ ≠ (.slice Ao40 t262.length co40 : Value).ownBlock) ∧ some k_ ≠ (.slice Ao43 t272.length co43 : Value).ownBlock) ∧ some k_ ≠ (.slice Ao69 t303.length co69 : Value).ownBlock)) (n := t291.length) (c := co59) ?_).2.2; exact (by exact (Kd.R_mono (Kd.R_far (p := ⟨gb309, 3, none⟩) (Kd.R_far (p := ⟨gb309, 3, none⟩) (Kd.R_far (p := ⟨gb309, 2, none⟩) (Kd.R_far (p := ⟨gb309, 1, none⟩) (Kd.R_far (p := ⟨gb309, 0, none⟩) (Kd.R_types HO293.out BK309.out (by decide)) (fun _ hk => hk.2) (.int .i64 t299)) (fun _ hk => hk.2) (.slice Ao68 t300.length co68)) (fun _ hk => hk.2) (.slice Ao69 t303.length co69)) (fun _ hk => hk.2) (.slice Ao70 t306.length co70)) (fun _ hk => hk.2) (.slice A0_3 l0_3.length c0_3)) (fun _ h_ => h_.1)))
        have hq2 : Kd.C (Kd.int .i64) (((((w63.setCell ⟨gb309, 0, none⟩ (.int .i64 t299)).setCell ⟨gb309, 1, none⟩ (.slice Ao68 t300.length co68)).setCell ⟨gb309, 2, none⟩ (.slice Ao69 t303.length co69)).setCell ⟨gb309, 3, none⟩ (.slice Ao70 t306.length co70)).setCell ⟨gb309, 3, none⟩ (.slice A0_3 l0_3.length c0_3)) Ao60 t294.length t294 := by refine (Kd.R_reads' (e := 3) (base := w.heap.size) (ok := fun k_ => (((True ∧ some k_ ≠ (.slice Ao41 t265.length co41 : Value).ownBlock) ∧ some k_ ≠ (.slice Ao44 t275.length co44 : Value).ownBlock) ∧ some k_ ≠ (.slice Ao70 t306.length co70 : Value).ownBlock)) (n := t294.length) (c := co60) ?_).2.2; exact (by exact (Kd.R_mono (Kd.R_far (p := ⟨gb309, 3, none⟩) (Kd.R_far (p := ⟨gb309, 3, none⟩) (Kd.R_far (p := ⟨gb309, 2, none⟩) (Kd.R_far (p := ⟨gb309, 1, none⟩) (Kd.R_far (p := ⟨gb309, 0, none⟩) (Kd.R_types HO296.out BK309.out (by decide)) (fun _ hk => hk.2) (.int .i64 t299)) (fun _ hk => hk.2) (.slice Ao68 t300.length co68)) (fun _ hk => hk.2) (.slice Ao69 t303.length co69)) (fun _ hk => hk.2) (.slice Ao70 t306.length co70)) (fun _ hk => hk.2) (.slice A0_3 l0_3.length c0_3)) (fun _ h_ => h_.1)))
        have hq3 : Kd.C (Kd.int .i64) (((((w63.setCell ⟨gb309, 0, none⟩ (.int .i64 t299)).setCell ⟨gb309, 1, none⟩ (.slice Ao68 t300.length co68)).setCell ⟨gb309, 2, none⟩ (.slice Ao69 t303.length co69)).setCell ⟨gb309, 3, none⟩ (.slice Ao70 t306.length co70)).setCell ⟨gb309, 3, none⟩ (.slice A0_3 l0_3.length c0_3)) Ao68 t300.length t300 := by refine (Kd.R_reads' (e := 2) (base := w.heap.size) (ok := fun k_ => (((True ∧ some k_ ≠ (.slice Ao39 t259.length co39 : Value).ownBlock) ∧ some k_ ≠ (.slice Ao42 t269.length co42 : Value).ownBlock) ∧ some k_ ≠ (.slice Ao58 t288.length co58 : Value).ownBlock)) (n := t300.length) (c := co68) ?_).2.2; exact (by exact (Kd.R_mono (Kd.R_far (p := ⟨gb309, 3, none⟩) (Kd.R_far (p := ⟨gb309, 3, none⟩) (Kd.R_far (p := ⟨gb309, 2, none⟩) (Kd.R_far (p := ⟨gb309, 1, none⟩) (Kd.R_far (p := ⟨gb309, 0, none⟩) (Kd.R_types HO302.out BK309.out (by decide)) (fun _ hk => hk.2) (.int .i64 t299)) (fun _ hk => hk.2) (.slice Ao68 t300.length co68)) (fun _ hk => hk.2) (.slice Ao69 t303.length co69)) (fun _ hk => hk.2) (.slice Ao70 t306.length co70)) (fun _ hk => hk.2) (.slice A0_3 l0_3.length c0_3)) (fun _ h_ => h_.1)))
        have hq4 : Kd.C Kd.string (((((w63.setCell ⟨gb309, 0, none⟩ (.int .i64 t299)).setCell ⟨gb309, 1, none⟩ (.slice Ao68 t300.length co68)).setCell ⟨gb309, 2, none⟩ (.slice Ao69 t303.length co69)).setCell ⟨gb309, 3, none⟩ (.slice Ao70 t306.length co70)).setCell ⟨gb309, 3, none⟩ (.slice A0_3 l0_3.length c0_3)) Ao69 t303.length t303 := by refine (Kd.R_reads' (e := 9) (base := w.heap.size) (ok := fun k_ => (((True ∧ some k_ ≠ (.slice Ao40 t262.length co40 : Value).ownBlock) ∧ some k_ ≠ (.slice Ao43 t272.length co43 : Value).ownBlock) ∧ some k_ ≠ (.slice Ao59 t291.length co59 : Value).ownBlock)) (n := t303.length) (c := co69) ?_).2.2; exact (by exact (Kd.R_mono (Kd.R_far (p := ⟨gb309, 3, none⟩) (Kd.R_far (p := ⟨gb309, 3, none⟩) (Kd.R_far (p := ⟨gb309, 2, none⟩) (Kd.R_far (p := ⟨gb309, 1, none⟩) (Kd.R_far (p := ⟨gb309, 0, none⟩) (Kd.R_types HO305.out BK309.out (by decide)) (fun _ hk => hk.2) (.int .i64 t299)) (fun _ hk => hk.2) (.slice Ao68 t300.length co68)) (fun _ hk => hk.2) (.slice Ao69 t303.length co69)) (fun _ hk => hk.2) (.slice Ao70 t306.length co70)) (fun _ hk => hk.2) (.slice A0_3 l0_3.length c0_3)) (fun _ h_ => h_.1)))
        have hq5 : Kd.C (Kd.int .i64) (((((w63.setCell ⟨gb309, 0, none⟩ (.int .i64 t299)).setCell ⟨gb309, 1, none⟩ (.slice Ao68 t300.length co68)).setCell ⟨gb309, 2, none⟩ (.slice Ao69 t303.length co69)).setCell ⟨gb309, 3, none⟩ (.slice Ao70 t306.length co70)).setCell ⟨gb309, 3, none⟩ (.slice A0_3 l0_3.length c0_3)) A0_3 l0_3.length l0_3 := by exact Kd.C_below HR0_3.out (BB HB)
        have hl0 : t288.length ≤ co58 := by exact (Kd.R_reads' HO290.out).2.1
        have hl1 : t291.length ≤ co59 := by exact (Kd.R_reads' HO293.out).2.1
        have hl2 : t294.length ≤ co60 := by exact (Kd.R_reads' HO296.out).2.1
        have hl3 : t300.length ≤ co68 := by exact (Kd.R_reads' HO302.out).2.1
        have hl4 : t303.length ≤ co69 := by exact (Kd.R_reads' HO305.out).2.1
        have hl5 : l0_3.length ≤ c0_3 := by exact HC0_3.out
        have hba : (((((w63.setCell ⟨gb309, 0, none⟩ (.int .i64 t299)).setCell ⟨gb309, 1, none⟩ (.slice Ao68 t300.length co68)).setCell ⟨gb309, 2, none⟩ (.slice Ao69 t303.length co69)).setCell ⟨gb309, 3, none⟩ (.slice Ao70 t306.length co70)).setCell ⟨gb309, 3, none⟩ (.slice A0_3 l0_3.length c0_3)).heap[gb298]? = some (.cells #[.int .i64 t287, .slice Ao58 t288.length co58, .slice Ao59 t291.length co59, .slice Ao60 t294.length co60] 26 (0, 0)) := by refine blk_far ?_ NB298_309.out _; refine blk_far ?_ NB298_309.out _; refine blk_far ?_ NB298_309.out _; refine blk_far ?_ NB298_309.out _; refine blk_far ?_ NB298_309.out _; (with_reducible repeat (first | refine blk_drewN ?_ _ | refine blk_drew ?_ | refine blk_alloc ?_ _)); exact BK298.out
        have hbc : (((((w63.setCell ⟨gb309, 0, none⟩ (.int .i64 t299)).setCell ⟨gb309, 1, none⟩ (.slice Ao68 t300.length co68)).setCell ⟨gb309, 2, none⟩ (.slice Ao69 t303.length co69)).setCell ⟨gb309, 3, none⟩ (.slice Ao70 t306.length co70)).setCell ⟨gb309, 3, none⟩ (.slice A0_3 l0_3.length c0_3)).heap[gb309]? = some (.cells #[.int .i64 t299, .slice Ao68 t300.length co68, .slice Ao69 t303.length co69, .slice A0_3 l0_3.length c0_3] 26 (0, 0)) := by refine blk_put (cs := #[.int .i64 t299, .slice Ao68 t300.length co68, .slice Ao69 t303.length co69, .slice Ao70 t306.length co70]) ?_ 3 _ rfl; refine blk_put (cs := #[.int .i64 t299, .slice Ao68 t300.length co68, .slice Ao69 t303.length co69, .slice none 0 0]) ?_ 3 _ rfl; refine blk_put (cs := #[.int .i64 t299, .slice Ao68 t300.length co68, .slice none 0 0, .slice none 0 0]) ?_ 2 _ rfl; refine blk_put (cs := #[.int .i64 t299, .slice none 0 0, .slice none 0 0, .slice none 0 0]) ?_ 1 _ rfl; refine blk_put (cs := #[.int .i64 0, .slice none 0 0, .slice none 0 0, .slice none 0 0]) ?_ 0 _ rfl; (with_reducible repeat (first | refine blk_drewN ?_ _ | refine blk_drew ?_ | refine blk_alloc ?_ _)); exact BK309.out
        have hbW : Below w.heap.size w (((((w63.setCell ⟨gb309, 0, none⟩ (.int .i64 t299)).setCell ⟨gb309, 1, none⟩ (.slice Ao68 t300.length co68)).setCell ⟨gb309, 2, none⟩ (.slice Ao69 t303.length co69)).setCell ⟨gb309, 3, none⟩ (.slice Ao70 t306.length co70)).setCell ⟨gb309, 3, none⟩ (.slice A0_3 l0_3.length c0_3)) := BB HB
        generalize (((((w63.setCell ⟨gb309, 0, none⟩ (.int .i64 t299)).setCell ⟨gb309, 1, none⟩ (.slice Ao68 t300.length co68)).setCell ⟨gb309, 2, none⟩ (.slice Ao69 t303.length co69)).setCell ⟨gb309, 3, none⟩ (.slice Ao70 t306.length co70)).setCell ⟨gb309, 3, none⟩ (.slice A0_3 l0_3.length c0_3)) = wz at hq0 hq1 hq2 hq3 hq4 hq5 hba hbc hbW ⊢
        have hba0 : wz.cell? ⟨gb298, 0, none⟩ = some (.int .i64 t287) := (blk_cell hba 0).trans rfl
        have hba1 : wz.cell? ⟨gb298, 1, none⟩ = some (.slice Ao58 t288.length co58) := (blk_cell hba 1).trans rfl
        have hba2 : wz.cell? ⟨gb298, 2, none⟩ = some (.slice Ao59 t291.length co59) := (blk_cell hba 2).trans rfl
        have hba3 : wz.cell? ⟨gb298, 3, none⟩ = some (.slice Ao60 t294.length co60) := (blk_cell hba 3).trans rfl
        have hbc0 : wz.cell? ⟨gb309, 0, none⟩ = some (.int .i64 t299) := (blk_cell hbc 0).trans rfl
        have hbc1 : wz.cell? ⟨gb309, 1, none⟩ = some (.slice Ao68 t300.length co68) := (blk_cell hbc 1).trans rfl
        have hbc2 : wz.cell? ⟨gb309, 2, none⟩ = some (.slice Ao69 t303.length co69) := (blk_cell hbc 2).trans rfl
        have hbc3 : wz.cell? ⟨gb309, 3, none⟩ = some (.slice A0_3 l0_3.length c0_3) := (blk_cell hbc 3).trans rfl
        replace hq0 := Aside0.mk hq0
        replace hl0 := Aside0.mk hl0
        replace hq1 := Aside0.mk hq1
        replace hl1 := Aside0.mk hl1
        replace hq2 := Aside0.mk hq2
        replace hl2 := Aside0.mk hl2
        replace hq3 := Aside0.mk hq3
        replace hl3 := Aside0.mk hl3
        replace hq4 := Aside0.mk hq4
        replace hl4 := Aside0.mk hl4
        replace hq5 := Aside0.mk hq5
        replace hl5 := Aside0.mk hl5
        replace hba := Aside0.mk hba
        replace hbc := Aside0.mk hbc
        replace hbW := Aside0.mk hbW
        clear hba hbc
        go_wp2_with (fail)
        refine (dioramaref08_Same.calls kj2 t287 _ _ t288 _ _ t291 _ _ t294 t299 _ _ t300 _ _ t303 _ _ l0_3 t310 wz hq0.out hl0.out hq1.out hl1.out hq2.out hl2.out hq3.out hl3.out hq4.out hl4.out hq5.out hl5.out A35.out).mono ?_
        rintro e wy ⟨rfl, hby⟩
        have hbz := Aside0.mk (below_step hbW.out hby)
        clear hby
        go_wp2_with (fail)
        go_ret
        exact ⟨rfl, hbz.out⟩
       ·rw [if_neg c34] at H
        exact absurd H (by simp)
      ·replace c31 := Bool.eq_false_iff.mpr c31
       subst c31
       have H1 : (some true) = some r := by rw [if_neg (show ¬ (false = true) by decide)] at H; exact H
       clear H
       have H := H1
       clear H1
       obtain rfl := Option.some.inj H
       try go_wp2
       have n0_ := Aside0.mk (blk_drew BK252.out)
       have n1_ := Aside0.mk (blk_drew BK253.out)
       have n2_ := Aside0.mk (below_drew1 HB.out)
       clear BK252
       clear BK253
       clear HB
       have BK252 := n0_
       have BK253 := n1_
       have HB := n2_
       clear n0_ n1_ n2_
       refine start_ (n := 10) (S := fun w' => w'.cell? ⟨gb252, 0, none⟩ = some (.int .i64 a0_0) ∧ w'.cell? ⟨gb252, 1, none⟩ = some (.slice A0_1 l0_1.length c0_1) ∧ w'.cell? ⟨gb252, 2, none⟩ = some (.slice A0_2 l0_2.length c0_2) ∧ w'.cell? ⟨gb252, 3, none⟩ = some (.slice A0_3 l0_3.length c0_3) ∧ w'.cell? ⟨gb253, 0, none⟩ = some (.int .i64 a1_0) ∧ w'.cell? ⟨gb253, 1, none⟩ = some (.slice A1_1 l1_1.length c1_1) ∧ w'.cell? ⟨gb253, 2, none⟩ = some (.slice A1_2 l1_2.length c1_2) ∧ w'.cell? ⟨gb253, 3, none⟩ = some (.slice A1_3 l1_3.length c1_3)) (ds := []) #[false, false, false, false, false, false, false, false, false, false] (by kernel_rfl) rfl rfl ⟨(blk_cell BK252.out 0).trans rfl, (blk_cell BK252.out 1).trans rfl, (blk_cell BK252.out 2).trans rfl, (blk_cell BK252.out 3).trans rfl, (blk_cell BK253.out 0).trans rfl, (blk_cell BK253.out 1).trans rfl, (blk_cell BK253.out 2).trans rfl, (blk_cell BK253.out 3).trans rfl⟩ (fun hHeld => ?_); refine with_tabW dioramalaw08_FieldDiffs.tab3 dioramalaw08_FieldDiffs.bits3 (fun HT_ HW_ => ?_)
       generalize wc.drew = w74 at BK252 BK253 HB hHeld ⊢
       refine take_ (i := 0) (N := some 24) (v := ?_) (a' := ?_) #[true, false, false, false, false, false, false, false, false, false] rfl rfl (take_ofW HT_.out HW_.out (by kernel_rfl)) (fun _ _ _ h => h) (Or.inl ⟨by rfl, ?_⟩) hHeld ?_ ?_
       rotate_left
       ·rintro w' ⟨s0, s1, s2, s3, s4, s5, s6, s7⟩
        go_simp
        with_reducible rfl
       rotate_left
       ·simp only [Act.put, List.setIfInBounds_toArray, List.set_cons_zero, List.set_cons_succ, i64_w, i32_w]
        rfl
       refine take_ (i := 2) (N := some 26) (v := ?_) (a' := ?_) #[true, false, true, false, false, false, false, false, false, false] rfl rfl (take_ofW HT_.out HW_.out (by kernel_rfl)) (fun _ _ _ h => h) (Or.inl ⟨by rfl, ?_⟩) hHeld ?_ ?_
       rotate_left
       ·rintro w' ⟨s0, s1, s2, s3, s4, s5, s6, s7⟩
        go_simp
        with_reducible rfl
       rotate_left
       ·simp only [Act.put, List.setIfInBounds_toArray, List.set_cons_zero, List.set_cons_succ, i64_w, i32_w]
        rfl
       refine one_ (i := 1) (N := some 25) #[true, true, true, false, false, false, false, false, false, false] rfl rfl (one_of HT_.out (by kernel_rfl)) (by decide) (fun K hK => ?_)
       refine goes_ Tryd.func16 (by kernel_rfl) rfl #[.agg #[.int .i64 a0_0, .slice A0_1 l0_1.length c0_1, .slice A0_2 l0_2.length c0_2, .slice A0_3 l0_3.length c0_3]] (by rfl) rfl rfl (by (try simp only [List.map_toArray, List.map_cons, List.map_nil]); first | done | rfl | (simp only [List.length_drop, List.length_take]; rfl)) ?_
       with_reducible refine (dioramaref08_Copy.calls a0_0 _ _ l0_1 _ _ l0_2 _ _ l0_3 t258 t259 t262 t265 _ ?side1 ?side2 ?side3 ?side4 ?side5 ?side6 A24.out).mono ?_
       (case side1 => repeat (first | exact (Kd.C_below HR0_1.out HB.out) | (with_reducible refine Kd.C_alloc ?_ _) | (with_reducible refine Kd.C_drewN ?_ _) | (with_reducible refine Kd.C_drew ?_)))
       (case side2 => exact HC0_1.out)
       (case side3 => repeat (first | exact (Kd.C_below HR0_2.out HB.out) | (with_reducible refine Kd.C_alloc ?_ _) | (with_reducible refine Kd.C_drewN ?_ _) | (with_reducible refine Kd.C_drew ?_)))
       (case side4 => exact HC0_2.out)
       (case side5 => repeat (first | exact (Kd.C_below HR0_3.out HB.out) | (with_reducible refine Kd.C_alloc ?_ _) | (with_reducible refine Kd.C_drewN ?_ _) | (with_reducible refine Kd.C_drew ?_)))
       (case side6 => exact HC0_3.out)
       rintro e w75 ⟨v260, v263, v266, rfl, ho0, ho1, ho2, hb⟩
       refine ⟨_, rfl, ?_⟩
       have n0_ := Aside0.mk (Kd.R_lower ho0 (below_size (BB HB)))
       have n1_ := Aside0.mk (Kd.R_lower ho1 (below_size (BB HB)))
       have n2_ := Aside0.mk (Kd.R_lower ho2 (below_size (BB HB)))
       have n3_ := BE BK252 hb
       have n4_ := BE BK253 hb
       have n5_ := Aside0.mk (below_step (BB HB) hb)
       clear BK252
       clear BK253
       clear HB
       have HO261 := n0_
       have HO264 := n1_
       have HO267 := n2_
       have BK252 := n3_
       have BK253 := n4_
       have HB := n5_
       clear n0_ n1_ n2_ n3_ n4_ n5_
       (try clear hb)
       (try clear hb2)
       (try clear hk)
       (try clear hi)
       (try clear ho0)
       (try clear ho1)
       (try clear ho2)
       refine hK.out _ _ ⟨(blk_cell BK252.out 0).trans rfl, (blk_cell BK252.out 1).trans rfl, (blk_cell BK252.out 2).trans rfl, (blk_cell BK252.out 3).trans rfl, (blk_cell BK253.out 0).trans rfl, (blk_cell BK253.out 1).trans rfl, (blk_cell BK253.out 2).trans rfl, (blk_cell BK253.out 3).trans rfl⟩ (fun hHeld => ?_)
       clear hK K
       refine norm_ (a' := ?_) ?_ ?_
       rotate_left
       ·show Act.put _ (some 25) _ = _
        simp only [Act.put, List.setIfInBounds_toArray, List.set_cons_zero, List.set_cons_succ, i64_w, i32_w]
        rfl
       refine one_ (i := 3) (N := some 27) #[true, true, true, true, false, false, false, false, false, false] rfl rfl (one_of HT_.out (by kernel_rfl)) (by decide) (fun K hK => ?_)
       refine goes_ Tryd.func16 (by kernel_rfl) rfl #[.agg #[.int .i64 a1_0, .slice A1_1 l1_1.length c1_1, .slice A1_2 l1_2.length c1_2, .slice A1_3 l1_3.length c1_3]] (by rfl) rfl rfl (by (try simp only [List.map_toArray, List.map_cons, List.map_nil]); first | done | rfl | (simp only [List.length_drop, List.length_take]; rfl)) ?_
       with_reducible refine (dioramaref08_Copy.calls a1_0 _ _ l1_1 _ _ l1_2 _ _ l1_3 t268 t269 t272 t275 _ ?side1 ?side2 ?side3 ?side4 ?side5 ?side6 A25.out).mono ?_
       (case side1 => repeat (first | exact (Kd.C_below HR1_1.out HB.out) | (with_reducible refine Kd.C_alloc ?_ _) | (with_reducible refine Kd.C_drewN ?_ _) | (with_reducible refine Kd.C_drew ?_)))
       (case side2 => exact HC1_1.out)
       (case side3 => repeat (first | exact (Kd.C_below HR1_2.out HB.out) | (with_reducible refine Kd.C_alloc ?_ _) | (with_reducible refine Kd.C_drewN ?_ _) | (with_reducible refine Kd.C_drew ?_)))
       (case side4 => exact HC1_2.out)
       (case side5 => repeat (first | exact (Kd.C_below HR1_3.out HB.out) | (with_reducible refine Kd.C_alloc ?_ _) | (with_reducible refine Kd.C_drewN ?_ _) | (with_reducible refine Kd.C_drew ?_)))
       (case side6 => exact HC1_3.out)
       rintro e w76 ⟨v270, v273, v276, rfl, ho0, ho1, ho2, hb⟩
       refine ⟨_, rfl, ?_⟩
       have n0_ := Aside0.mk (Kd.R_elder' (RL HO261) (Kd.R_base ho0) hb)
       have n1_ := Aside0.mk (Kd.R_elder' (RL HO264) (Kd.R_base ho1) hb)
       have n2_ := Aside0.mk (Kd.R_elder' (RL HO267) (Kd.R_base ho2) hb)
       have n3_ := Aside0.mk (Kd.R_lower (Kd.R_new' ho0 (Kd.R_lt (RL HO261))) (below_size (BB HB)))
       have n4_ := Aside0.mk (Kd.R_lower (Kd.R_new' ho1 (Kd.R_lt (RL HO264))) (below_size (BB HB)))
       have n5_ := Aside0.mk (Kd.R_lower (Kd.R_new' ho2 (Kd.R_lt (RL HO267))) (below_size (BB HB)))
       have n6_ := BE BK252 hb
       have n7_ := BE BK253 hb
       have n8_ := Aside0.mk (below_step (BB HB) hb)
       clear HO261
       clear HO264
       clear HO267
       clear BK252
       clear BK253
       clear HB
       have HO261 := n0_
       have HO264 := n1_
       have HO267 := n2_
       have HO271 := n3_
       have HO274 := n4_
       have HO277 := n5_
       have BK252 := n6_
       have BK253 := n7_
       have HB := n8_
       clear n0_ n1_ n2_ n3_ n4_ n5_ n6_ n7_ n8_
       (try clear hb)
       (try clear hb2)
       (try clear hk)
       (try clear hi)
       (try clear ho0)
       (try clear ho1)
       (try clear ho2)
       obtain ⟨Ao77, co77, eo77⟩ := Kd.R_slice HO261.out
       (first | subst eo77 | (injection eo77 with f1_ f2_ f3_; have f4_ := f1_.symm; have f5_ := f3_.symm; clear f1_ f2_ f3_; subst f4_; subst f5_))
       obtain ⟨Ao78, co78, eo78⟩ := Kd.R_slice HO264.out
       (first | subst eo78 | (injection eo78 with f1_ f2_ f3_; have f4_ := f1_.symm; have f5_ := f3_.symm; clear f1_ f2_ f3_; subst f4_; subst f5_))
       obtain ⟨Ao79, co79, eo79⟩ := Kd.R_slice HO267.out
       (first | subst eo79 | (injection eo79 with f1_ f2_ f3_; have f4_ := f1_.symm; have f5_ := f3_.symm; clear f1_ f2_ f3_; subst f4_; subst f5_))
       obtain ⟨Ao80, co80, eo80⟩ := Kd.R_slice HO271.out
       (first | subst eo80 | (injection eo80 with f1_ f2_ f3_; have f4_ := f1_.symm; have f5_ := f3_.symm; clear f1_ f2_ f3_; subst f4_; subst f5_))
       obtain ⟨Ao81, co81, eo81⟩ := Kd.R_slice HO274.out
       (first | subst eo81 | (injection eo81 with f1_ f2_ f3_; have f4_ := f1_.symm; have f5_ := f3_.symm; clear f1_ f2_ f3_; subst f4_; subst f5_))
       obtain ⟨Ao82, co82, eo82⟩ := Kd.R_slice HO277.out
       (first | subst eo82 | (injection eo82 with f1_ f2_ f3_; have f4_ := f1_.symm; have f5_ := f3_.symm; clear f1_ f2_ f3_; subst f4_; subst f5_))
       refine hK.out _ _ ⟨(blk_cell BK252.out 0).trans rfl, (blk_cell BK252.out 1).trans rfl, (blk_cell BK252.out 2).trans rfl, (blk_cell BK252.out 3).trans rfl, (blk_cell BK253.out 0).trans rfl, (blk_cell BK253.out 1).trans rfl, (blk_cell BK253.out 2).trans rfl, (blk_cell BK253.out 3).trans rfl⟩ (fun hHeld => ?_)
       clear hK K
       refine norm_ (a' := ?_) ?_ ?_
       rotate_left
       ·show Act.put _ (some 27) _ = _
        simp only [Act.put, List.setIfInBounds_toArray, List.set_cons_zero, List.set_cons_succ, i64_w, i32_w]
        rfl
       refine one_ (i := 4) (N := some 28) #[true, true, true, true, true, false, false, false, false, false] rfl rfl (one_of HT_.out (by kernel_rfl)) (by decide) (fun K hK => ?_)
       refine goes_ Tryd.func21 (by kernel_rfl) rfl #[.agg #[.int .i64 t258, .slice Ao77 t259.length co77, .slice Ao78 t262.length co78, .slice Ao79 t265.length co79], .agg #[.int .i64 t268, .slice Ao80 t269.length co80, .slice Ao81 t272.length co81, .slice Ao82 t275.length co82]] (by rfl) rfl rfl (by (try simp only [List.map_toArray, List.map_cons, List.map_nil]); first | done | rfl | (simp only [List.length_drop, List.length_take]; rfl)) ?_
       with_reducible refine (field_Diff.calls kj2 t258 _ _ t259 _ _ t262 _ _ t265 t268 _ _ t269 _ _ t272 _ _ t275 t278 false _ ?side1 ?side2 ?side3 ?side4 ?side5 ?side6 ?side7 ?side8 ?side9 ?side10 ?side11 ?side12 A26.out).mono ?_
       (case side1 => exact CR HO261)
       (case side2 => exact (Kd.R_reads' HO261.out).2.1)
       (case side3 => exact CR HO264)
       (case side4 => exact (Kd.R_reads' HO264.out).2.1)
       (case side5 => exact CR HO267)
       (case side6 => exact (Kd.R_reads' HO267.out).2.1)
       (case side7 => exact CR HO271)
       (case side8 => exact (Kd.R_reads' HO271.out).2.1)
       (case side9 => exact CR HO274)
       (case side10 => exact (Kd.R_reads' HO274.out).2.1)
       (case side11 => exact CR HO277)
       (case side12 => exact (Kd.R_reads' HO277.out).2.1)
       rintro e w83 ⟨v279, rfl, ho0, hb⟩
       refine ⟨_, rfl, ?_⟩
       have n0_ := Aside0.mk (Kd.R_below (RL HO261) hb)
       have n1_ := Aside0.mk (Kd.R_below (RL HO264) hb)
       have n2_ := Aside0.mk (Kd.R_below (RL HO267) hb)
       have n3_ := Aside0.mk (Kd.R_below (RL HO271) hb)
       have n4_ := Aside0.mk (Kd.R_below (RL HO274) hb)
       have n5_ := Aside0.mk (Kd.R_below (RL HO277) hb)
       have n6_ := Aside0.mk (Kd.R_lower ho0 (below_size (BB HB)))
       have n7_ := BE BK252 hb
       have n8_ := BE BK253 hb
       have n9_ := Aside0.mk (below_step (BB HB) hb)
       clear HO261
       clear HO264
       clear HO267
       clear HO271
       clear HO274
       clear HO277
       clear BK252
       clear BK253
       clear HB
       have HO261 := n0_
       have HO264 := n1_
       have HO267 := n2_
       have HO271 := n3_
       have HO274 := n4_
       have HO277 := n5_
       have HO280 := n6_
       have BK252 := n7_
       have BK253 := n8_
       have HB := n9_
       clear n0_ n1_ n2_ n3_ n4_ n5_ n6_ n7_ n8_ n9_
       (try clear hb)
       (try clear hb2)
       (try clear hk)
       (try clear hi)
       (try clear ho0)
       refine hK.out _ _ ⟨(blk_cell BK252.out 0).trans rfl, (blk_cell BK252.out 1).trans rfl, (blk_cell BK252.out 2).trans rfl, (blk_cell BK252.out 3).trans rfl, (blk_cell BK253.out 0).trans rfl, (blk_cell BK253.out 1).trans rfl, (blk_cell BK253.out 2).trans rfl, (blk_cell BK253.out 3).trans rfl⟩ (fun hHeld => ?_)
       clear hK K
       refine norm_ (a' := ?_) ?_ ?_
       rotate_left
       ·show Act.put _ (some 28) _ = _
        simp only [Act.put, List.setIfInBounds_toArray, List.set_cons_zero, List.set_cons_succ, i64_w, i32_w]
        rfl
       refine pure_ (i := 5) (N := some 23) (v := ?_) (a' := ?_) #[true, true, true, true, true, true, false, false, false, false] rfl rfl (any_of HT_.out (by kernel_rfl)) (fun _ _ _ h => h) (Or.inl ⟨by rfl, ?_⟩) ?_ ?_
       rotate_left
       ·intro w'
        go_simp
        with_reducible rfl
       rotate_left
       ·simp only [Act.put, List.setIfInBounds_toArray, List.set_cons_zero, List.set_cons_succ, i64_w, i32_w]
        rfl
       refine pure_ (i := 6) (N := some 29) (v := ?_) (a' := ?_) #[true, true, true, true, true, true, true, false, false, false] rfl rfl (any_of HT_.out (by kernel_rfl)) (fun _ _ _ h => h) (Or.inl ⟨by rfl, ?_⟩) ?_ ?_
       rotate_left
       ·intro w'
        go_simp
        with_reducible rfl
       rotate_left
       ·simp only [Act.put, List.setIfInBounds_toArray, List.set_cons_zero, List.set_cons_succ, i64_w, i32_w]
        rfl
       refine pure_ (i := 7) (N := some 30) (v := ?_) (a' := ?_) #[true, true, true, true, true, true, true, true, false, false] rfl rfl (any_of HT_.out (by kernel_rfl)) (fun _ _ _ h => h) (Or.inl ⟨by rfl, ?_⟩) ?_ ?_
       rotate_left
       ·intro w'
        go_simp
        with_reducible rfl
       rotate_left
       ·simp only [Act.put, List.setIfInBounds_toArray, List.set_cons_zero, List.set_cons_succ, i64_w, i32_w]
        rfl
       refine pure_ (i := 8) (N := some 5) (v := ?_) (a' := ?_) #[true, true, true, true, true, true, true, true, true, false] rfl rfl (any_of HT_.out (by kernel_rfl)) (fun _ _ _ h => h) (Or.inl ⟨by rfl, ?_⟩) ?_ ?_
       rotate_left
       ·intro w'
        go_simp
        with_reducible rfl
       rotate_left
       ·simp only [Act.put, List.setIfInBounds_toArray, List.set_cons_zero, List.set_cons_succ, i64_w, i32_w]
        rfl
       refine pure_ (i := 9) (N := some 6) (v := ?_) (a' := ?_) #[true, true, true, true, true, true, true, true, true, true] rfl rfl (any_of HT_.out (by kernel_rfl)) (fun _ _ _ h => h) (Or.inl ⟨by rfl, ?_⟩) ?_ ?_
       rotate_left
       ·intro w'
        go_simp
        with_reducible rfl
       rotate_left
       ·simp only [Act.put, List.setIfInBounds_toArray, List.set_cons_zero, List.set_cons_succ, i64_w, i32_w]
        rfl
       refine done_ (done_of HT_.out (by kernel_rfl)) ?_
       have hnb84 := NB252_253.out
       have hnc84 := NB253_252.out
       have hcz85_0 : w83.cell? ⟨gb252, 0, none⟩ = some (.int .i64 a0_0) := (blk_cell BK252.out 0).trans rfl
       have hcz85_1 : w83.cell? ⟨gb252, 1, none⟩ = some (.slice A0_1 l0_1.length c0_1) := (blk_cell BK252.out 1).trans rfl
       have hcz85_2 : w83.cell? ⟨gb252, 2, none⟩ = some (.slice A0_2 l0_2.length c0_2) := (blk_cell BK252.out 2).trans rfl
       have hcz85_3 : w83.cell? ⟨gb252, 3, none⟩ = some (.slice A0_3 l0_3.length c0_3) := (blk_cell BK252.out 3).trans rfl
       have hfz85_0 := blk_frozen BK252.out 0
       have hfz85_1 := blk_frozen BK252.out 1
       have hfz85_2 := blk_frozen BK252.out 2
       have hfz85_3 := blk_frozen BK252.out 3
       have hcz86_0 : w83.cell? ⟨gb253, 0, none⟩ = some (.int .i64 a1_0) := (blk_cell BK253.out 0).trans rfl
       have hcz86_1 : w83.cell? ⟨gb253, 1, none⟩ = some (.slice A1_1 l1_1.length c1_1) := (blk_cell BK253.out 1).trans rfl
       have hcz86_2 : w83.cell? ⟨gb253, 2, none⟩ = some (.slice A1_2 l1_2.length c1_2) := (blk_cell BK253.out 2).trans rfl
       have hcz86_3 : w83.cell? ⟨gb253, 3, none⟩ = some (.slice A1_3 l1_3.length c1_3) := (blk_cell BK253.out 3).trans rfl
       have hfz86_0 := blk_frozen BK253.out 0
       have hfz86_1 := blk_frozen BK253.out 1
       have hfz86_2 := blk_frozen BK253.out 2
       have hfz86_3 := blk_frozen BK253.out 3
       try go_wp2_with (first | ((with_reducible refine gate_callee (f := 22) rfl ?_); refine goesL_ (some 34) rfl rfl Tryd.func22 (by kernel_rfl) rfl #[.agg #[.int .i64 a0_0, .slice A0_1 l0_1.length c0_1, .slice A0_2 l0_2.length c0_2, .slice A0_3 l0_3.length c0_3], .agg #[.int .i64 a1_0, .slice A1_1 l1_1.length c1_1, .slice A1_2 l1_2.length c1_2, .slice A1_3 l1_3.length c1_3]] rfl (by (try simp only [List.map_toArray, List.map_cons, List.map_nil]); first | done | rfl | (simp only [List.length_drop, List.length_take]; rfl)) ?_; (with_reducible refine (dioramaref08_Diff.calls kj2 a0_0 _ _ l0_1 _ _ l0_2 _ _ l0_3 a1_0 _ _ l1_1 _ _ l1_2 _ _ l1_3 t282 t285 _ ?side1 ?side2 ?side3 ?side4 ?side5 ?side6 ?side7 ?side8 ?side9 ?side10 ?side11 ?side12 A27.out).mono ?_); (case side1 => repeat (first | exact (Kd.C_below HR0_1.out HB.out) | (with_reducible refine Kd.C_alloc ?_ _) | (with_reducible refine Kd.C_drewN ?_ _) | (with_reducible refine Kd.C_drew ?_))); (case side2 => exact HC0_1.out); (case side3 => repeat (first | exact (Kd.C_below HR0_2.out HB.out) | (with_reducible refine Kd.C_alloc ?_ _) | (with_reducible refine Kd.C_drewN ?_ _) | (with_reducible refine Kd.C_drew ?_))); (case side4 => exact HC0_2.out); (case side5 => repeat (first | exact (Kd.C_below HR0_3.out HB.out) | (with_reducible refine Kd.C_alloc ?_ _) | (with_reducible refine Kd.C_drewN ?_ _) | (with_reducible refine Kd.C_drew ?_))); (case side6 => exact HC0_3.out); (case side7 => repeat (first | exact (Kd.C_below HR1_1.out HB.out) | (with_reducible refine Kd.C_alloc ?_ _) | (with_reducible refine Kd.C_drewN ?_ _) | (with_reducible refine Kd.C_drew ?_))); (case side8 => exact HC1_1.out); (case side9 => repeat (first | exact (Kd.C_below HR1_2.out HB.out) | (with_reducible refine Kd.C_alloc ?_ _) | (with_reducible refine Kd.C_drewN ?_ _) | (with_reducible refine Kd.C_drew ?_))); (case side10 => exact HC1_2.out); (case side11 => repeat (first | exact (Kd.C_below HR1_3.out HB.out) | (with_reducible refine Kd.C_alloc ?_ _) | (with_reducible refine Kd.C_drewN ?_ _) | (with_reducible refine Kd.C_drew ?_))); (case side12 => exact HC1_3.out); rintro e w87 ⟨v283, rfl, ho0, hb⟩; refine ⟨_, rfl, ?_⟩; have n0_ := Aside0.mk (Kd.R_below (RL HO261) hb); have n1_ := Aside0.mk (Kd.R_below (RL HO264) hb); have n2_ := Aside0.mk (Kd.R_below (RL HO267) hb); have n3_ := Aside0.mk (Kd.R_below (RL HO271) hb); have n4_ := Aside0.mk (Kd.R_below (RL HO274) hb); have n5_ := Aside0.mk (Kd.R_below (RL HO277) hb); have n6_ := Aside0.mk (Kd.R_elder' (RL HO280) (Kd.R_base ho0) hb); have n7_ := Aside0.mk (Kd.R_lower (Kd.R_new' ho0 (Kd.R_lt (RL HO280))) (below_size (BB HB))); have n8_ := BE BK252 hb; have n9_ := BE BK253 hb; have n10_ := Aside0.mk (below_step (BB HB) hb); clear HO261; clear HO264; clear HO267; clear HO271; clear HO274; clear HO277; clear HO280; clear BK252; clear BK253; clear HB; have HO261 := n0_; have HO264 := n1_; have HO267 := n2_; have HO271 := n3_; have HO274 := n4_; have HO277 := n5_; have HO280 := n6_; have HO284 := n7_; have BK252 := n8_; have BK253 := n9_; have HB := n10_; clear n0_ n1_ n2_ n3_ n4_ n5_ n6_ n7_ n8_ n9_ n10_; (try clear hb); (try clear hb2); (try clear hk); (try clear hi); (try clear ho0); obtain ⟨Ao88, co88, eo88⟩ := Kd.R_slice HO280.out; subst eo88; obtain ⟨Ao89, co89, eo89⟩ := Kd.R_slice HO284.out; subst eo89) | (go_at_call 23; (with_reducible refine (dioramaref08_SameSets.calls kj2 _ _ t278 _ _ t282 true _ ?side1 ?side2 ?side3 ?side4 A29.out).mono ?_); (case side1 => exact CR HO280); (case side2 => exact (Kd.R_reads' HO280.out).2.1); (case side3 => exact CR HO284); (case side4 => exact (Kd.R_reads' HO284.out).2.1); rintro e w' ⟨rfl, ⟨nd, rfl⟩⟩))
       go_ret
       exact ⟨by first | rfl | (simp [errW_none, errW_some] <;> rfl) | (simp [*, errW_none, errW_some] <;> rfl), BB HB⟩
     ·replace c30 := Bool.eq_false_iff.mpr c30
      subst c30
      have H1 : (some false) = some r := by rw [if_neg (show ¬ (false = true) by decide)] at H; exact H
      clear H
      have H := H1
      clear H1
      obtain rfl := Option.some.inj H
      try go_wp2
      have n0_ := Aside0.mk (blk_drew BK252.out)
      have n1_ := Aside0.mk (blk_drew BK253.out)
      have n2_ := Aside0.mk (below_drew1 HB.out)
      clear BK252
      clear BK253
      clear HB
      have BK252 := n0_
      have BK253 := n1_
      have HB := n2_
      clear n0_ n1_ n2_
      refine start_ (n := 10) (S := fun w' => w'.cell? ⟨gb252, 0, none⟩ = some (.int .i64 a0_0) ∧ w'.cell? ⟨gb252, 1, none⟩ = some (.slice A0_1 l0_1.length c0_1) ∧ w'.cell? ⟨gb252, 2, none⟩ = some (.slice A0_2 l0_2.length c0_2) ∧ w'.cell? ⟨gb252, 3, none⟩ = some (.slice A0_3 l0_3.length c0_3) ∧ w'.cell? ⟨gb253, 0, none⟩ = some (.int .i64 a1_0) ∧ w'.cell? ⟨gb253, 1, none⟩ = some (.slice A1_1 l1_1.length c1_1) ∧ w'.cell? ⟨gb253, 2, none⟩ = some (.slice A1_2 l1_2.length c1_2) ∧ w'.cell? ⟨gb253, 3, none⟩ = some (.slice A1_3 l1_3.length c1_3)) (ds := []) #[false, false, false, false, false, false, false, false, false, false] (by kernel_rfl) rfl rfl ⟨(blk_cell BK252.out 0).trans rfl, (blk_cell BK252.out 1).trans rfl, (blk_cell BK252.out 2).trans rfl, (blk_cell BK252.out 3).trans rfl, (blk_cell BK253.out 0).trans rfl, (blk_cell BK253.out 1).trans rfl, (blk_cell BK253.out 2).trans rfl, (blk_cell BK253.out 3).trans rfl⟩ (fun hHeld => ?_); refine with_tabW dioramalaw08_FieldDiffs.tab3 dioramalaw08_FieldDiffs.bits3 (fun HT_ HW_ => ?_)
      generalize wc.drew = w90 at BK252 BK253 HB hHeld ⊢
      refine take_ (i := 0) (N := some 24) (v := ?_) (a' := ?_) #[true, false, false, false, false, false, false, false, false, false] rfl rfl (take_ofW HT_.out HW_.out (by kernel_rfl)) (fun _ _ _ h => h) (Or.inl ⟨by rfl, ?_⟩) hHeld ?_ ?_
      rotate_left
      ·rintro w' ⟨s0, s1, s2, s3, s4, s5, s6, s7⟩
       go_simp
       with_reducible rfl
      rotate_left
      ·simp only [Act.put, List.setIfInBounds_toArray, List.set_cons_zero, List.set_cons_succ, i64_w, i32_w]
       rfl
      refine take_ (i := 2) (N := some 26) (v := ?_) (a' := ?_) #[true, false, true, false, false, false, false, false, false, false] rfl rfl (take_ofW HT_.out HW_.out (by kernel_rfl)) (fun _ _ _ h => h) (Or.inl ⟨by rfl, ?_⟩) hHeld ?_ ?_
      rotate_left
      ·rintro w' ⟨s0, s1, s2, s3, s4, s5, s6, s7⟩
       go_simp
       with_reducible rfl
      rotate_left
      ·simp only [Act.put, List.setIfInBounds_toArray, List.set_cons_zero, List.set_cons_succ, i64_w, i32_w]
       rfl
      refine one_ (i := 1) (N := some 25) #[true, true, true, false, false, false, false, false, false, false] rfl rfl (one_of HT_.out (by kernel_rfl)) (by decide) (fun K hK => ?_)
      refine goes_ Tryd.func16 (by kernel_rfl) rfl #[.agg #[.int .i64 a0_0, .slice A0_1 l0_1.length c0_1, .slice A0_2 l0_2.length c0_2, .slice A0_3 l0_3.length c0_3]] (by rfl) rfl rfl (by (try simp only [List.map_toArray, List.map_cons, List.map_nil]); first | done | rfl | (simp only [List.length_drop, List.length_take]; rfl)) ?_
      with_reducible refine (dioramaref08_Copy.calls a0_0 _ _ l0_1 _ _ l0_2 _ _ l0_3 t258 t259 t262 t265 _ ?side1 ?side2 ?side3 ?side4 ?side5 ?side6 A24.out).mono ?_
      (case side1 => repeat (first | exact (Kd.C_below HR0_1.out HB.out) | (with_reducible refine Kd.C_alloc ?_ _) | (with_reducible refine Kd.C_drewN ?_ _) | (with_reducible refine Kd.C_drew ?_)))
      (case side2 => exact HC0_1.out)
      (case side3 => repeat (first | exact (Kd.C_below HR0_2.out HB.out) | (with_reducible refine Kd.C_alloc ?_ _) | (with_reducible refine Kd.C_drewN ?_ _) | (with_reducible refine Kd.C_drew ?_)))
      (case side4 => exact HC0_2.out)
      (case side5 => repeat (first | exact (Kd.C_below HR0_3.out HB.out) | (with_reducible refine Kd.C_alloc ?_ _) | (with_reducible refine Kd.C_drewN ?_ _) | (with_reducible refine Kd.C_drew ?_)))
      (case side6 => exact HC0_3.out)
      rintro e w91 ⟨v260, v263, v266, rfl, ho0, ho1, ho2, hb⟩
      refine ⟨_, rfl, ?_⟩
      have n0_ := Aside0.mk (Kd.R_lower ho0 (below_size (BB HB)))
      have n1_ := Aside0.mk (Kd.R_lower ho1 (below_size (BB HB)))
      have n2_ := Aside0.mk (Kd.R_lower ho2 (below_size (BB HB)))
      have n3_ := BE BK252 hb
      have n4_ := BE BK253 hb
      have n5_ := Aside0.mk (below_step (BB HB) hb)
      clear BK252
      clear BK253
      clear HB
      have HO261 := n0_
      have HO264 := n1_
      have HO267 := n2_
      have BK252 := n3_
      have BK253 := n4_
      have HB := n5_
      clear n0_ n1_ n2_ n3_ n4_ n5_
      (try clear hb)
      (try clear hb2)
      (try clear hk)
      (try clear hi)
      (try clear ho0)
      (try clear ho1)
      (try clear ho2)
      refine hK.out _ _ ⟨(blk_cell BK252.out 0).trans rfl, (blk_cell BK252.out 1).trans rfl, (blk_cell BK252.out 2).trans rfl, (blk_cell BK252.out 3).trans rfl, (blk_cell BK253.out 0).trans rfl, (blk_cell BK253.out 1).trans rfl, (blk_cell BK253.out 2).trans rfl, (blk_cell BK253.out 3).trans rfl⟩ (fun hHeld => ?_)
      clear hK K
      refine norm_ (a' := ?_) ?_ ?_
      rotate_left
      ·show Act.put _ (some 25) _ = _
       simp only [Act.put, List.setIfInBounds_toArray, List.set_cons_zero, List.set_cons_succ, i64_w, i32_w]
       rfl
      refine one_ (i := 3) (N := some 27) #[true, true, true, true, false, false, false, false, false, false] rfl rfl (one_of HT_.out (by kernel_rfl)) (by decide) (fun K hK => ?_)
      refine goes_ Tryd.func16 (by kernel_rfl) rfl #[.agg #[.int .i64 a1_0, .slice A1_1 l1_1.length c1_1, .slice A1_2 l1_2.length c1_2, .slice A1_3 l1_3.length c1_3]] (by rfl) rfl rfl (by (try simp only [List.map_toArray, List.map_cons, List.map_nil]); first | done | rfl | (simp only [List.length_drop, List.length_take]; rfl)) ?_
      with_reducible refine (dioramaref08_Copy.calls a1_0 _ _ l1_1 _ _ l1_2 _ _ l1_3 t268 t269 t272 t275 _ ?side1 ?side2 ?side3 ?side4 ?side5 ?side6 A25.out).mono ?_
      (case side1 => repeat (first | exact (Kd.C_below HR1_1.out HB.out) | (with_reducible refine Kd.C_alloc ?_ _) | (with_reducible refine Kd.C_drewN ?_ _) | (with_reducible refine Kd.C_drew ?_)))
      (case side2 => exact HC1_1.out)
      (case side3 => repeat (first | exact (Kd.C_below HR1_2.out HB.out) | (with_reducible refine Kd.C_alloc ?_ _) | (with_reducible refine Kd.C_drewN ?_ _) | (with_reducible refine Kd.C_drew ?_)))
      (case side4 => exact HC1_2.out)
      (case side5 => repeat (first | exact (Kd.C_below HR1_3.out HB.out) | (with_reducible refine Kd.C_alloc ?_ _) | (with_reducible refine Kd.C_drewN ?_ _) | (with_reducible refine Kd.C_drew ?_)))
      (case side6 => exact HC1_3.out)
      rintro e w92 ⟨v270, v273, v276, rfl, ho0, ho1, ho2, hb⟩
      refine ⟨_, rfl, ?_⟩
      have n0_ := Aside0.mk (Kd.R_elder' (RL HO261) (Kd.R_base ho0) hb)
      have n1_ := Aside0.mk (Kd.R_elder' (RL HO264) (Kd.R_base ho1) hb)
      have n2_ := Aside0.mk (Kd.R_elder' (RL HO267) (Kd.R_base ho2) hb)
      have n3_ := Aside0.mk (Kd.R_lower (Kd.R_new' ho0 (Kd.R_lt (RL HO261))) (below_size (BB HB)))
      have n4_ := Aside0.mk (Kd.R_lower (Kd.R_new' ho1 (Kd.R_lt (RL HO264))) (below_size (BB HB)))
      have n5_ := Aside0.mk (Kd.R_lower (Kd.R_new' ho2 (Kd.R_lt (RL HO267))) (below_size (BB HB)))
      have n6_ := BE BK252 hb
      have n7_ := BE BK253 hb
      have n8_ := Aside0.mk (below_step (BB HB) hb)
      clear HO261
      clear HO264
      clear HO267
      clear BK252
      clear BK253
      clear HB
      have HO261 := n0_
      have HO264 := n1_
      have HO267 := n2_
      have HO271 := n3_
      have HO274 := n4_
      have HO277 := n5_
      have BK252 := n6_
      have BK253 := n7_
      have HB := n8_
      clear n0_ n1_ n2_ n3_ n4_ n5_ n6_ n7_ n8_
      (try clear hb)
      (try clear hb2)
      (try clear hk)
      (try clear hi)
      (try clear ho0)
      (try clear ho1)
      (try clear ho2)
      obtain ⟨Ao93, co93, eo93⟩ := Kd.R_slice HO261.out
      (first | subst eo93 | (injection eo93 with f1_ f2_ f3_; have f4_ := f1_.symm; have f5_ := f3_.symm; clear f1_ f2_ f3_; subst f4_; subst f5_))
      obtain ⟨Ao94, co94, eo94⟩ := Kd.R_slice HO264.out
      (first | subst eo94 | (injection eo94 with f1_ f2_ f3_; have f4_ := f1_.symm; have f5_ := f3_.symm; clear f1_ f2_ f3_; subst f4_; subst f5_))
      obtain ⟨Ao95, co95, eo95⟩ := Kd.R_slice HO267.out
      (first | subst eo95 | (injection eo95 with f1_ f2_ f3_; have f4_ := f1_.symm; have f5_ := f3_.symm; clear f1_ f2_ f3_; subst f4_; subst f5_))
      obtain ⟨Ao96, co96, eo96⟩ := Kd.R_slice HO271.out
      (first | subst eo96 | (injection eo96 with f1_ f2_ f3_; have f4_ := f1_.symm; have f5_ := f3_.symm; clear f1_ f2_ f3_; subst f4_; subst f5_))
      obtain ⟨Ao97, co97, eo97⟩ := Kd.R_slice HO274.out
      (first | subst eo97 | (injection eo97 with f1_ f2_ f3_; have f4_ := f1_.symm; have f5_ := f3_.symm; clear f1_ f2_ f3_; subst f4_; subst f5_))
      obtain ⟨Ao98, co98, eo98⟩ := Kd.R_slice HO277.out
      (first | subst eo98 | (injection eo98 with f1_ f2_ f3_; have f4_ := f1_.symm; have f5_ := f3_.symm; clear f1_ f2_ f3_; subst f4_; subst f5_))
      refine hK.out _ _ ⟨(blk_cell BK252.out 0).trans rfl, (blk_cell BK252.out 1).trans rfl, (blk_cell BK252.out 2).trans rfl, (blk_cell BK252.out 3).trans rfl, (blk_cell BK253.out 0).trans rfl, (blk_cell BK253.out 1).trans rfl, (blk_cell BK253.out 2).trans rfl, (blk_cell BK253.out 3).trans rfl⟩ (fun hHeld => ?_)
      clear hK K
      refine norm_ (a' := ?_) ?_ ?_
      rotate_left
      ·show Act.put _ (some 27) _ = _
       simp only [Act.put, List.setIfInBounds_toArray, List.set_cons_zero, List.set_cons_succ, i64_w, i32_w]
       rfl
      refine one_ (i := 4) (N := some 28) #[true, true, true, true, true, false, false, false, false, false] rfl rfl (one_of HT_.out (by kernel_rfl)) (by decide) (fun K hK => ?_)
      refine goes_ Tryd.func21 (by kernel_rfl) rfl #[.agg #[.int .i64 t258, .slice Ao93 t259.length co93, .slice Ao94 t262.length co94, .slice Ao95 t265.length co95], .agg #[.int .i64 t268, .slice Ao96 t269.length co96, .slice Ao97 t272.length co97, .slice Ao98 t275.length co98]] (by rfl) rfl rfl (by (try simp only [List.map_toArray, List.map_cons, List.map_nil]); first | done | rfl | (simp only [List.length_drop, List.length_take]; rfl)) ?_
      with_reducible refine (field_Diff.calls kj2 t258 _ _ t259 _ _ t262 _ _ t265 t268 _ _ t269 _ _ t272 _ _ t275 t278 t281 _ ?side1 ?side2 ?side3 ?side4 ?side5 ?side6 ?side7 ?side8 ?side9 ?side10 ?side11 ?side12 A26.out).mono ?_
      (case side1 => exact CR HO261)
      (case side2 => exact (Kd.R_reads' HO261.out).2.1)
      (case side3 => exact CR HO264)
      (case side4 => exact (Kd.R_reads' HO264.out).2.1)
      (case side5 => exact CR HO267)
      (case side6 => exact (Kd.R_reads' HO267.out).2.1)
      (case side7 => exact CR HO271)
      (case side8 => exact (Kd.R_reads' HO271.out).2.1)
      (case side9 => exact CR HO274)
      (case side10 => exact (Kd.R_reads' HO274.out).2.1)
      (case side11 => exact CR HO277)
      (case side12 => exact (Kd.R_reads' HO277.out).2.1)
      rintro e w99 ⟨v279, rfl, ho0, hb⟩
      refine ⟨_, rfl, ?_⟩
      have n0_ := Aside0.mk (Kd.R_below (RL HO261) hb)
      have n1_ := Aside0.mk (Kd.R_below (RL HO264) hb)
      have n2_ := Aside0.mk (Kd.R_below (RL HO267) hb)
      have n3_ := Aside0.mk (Kd.R_below (RL HO271) hb)
      have n4_ := Aside0.mk (Kd.R_below (RL HO274) hb)
      have n5_ := Aside0.mk (Kd.R_below (RL HO277) hb)
      have n6_ := Aside0.mk (Kd.R_lower ho0 (below_size (BB HB)))
      have n7_ := BE BK252 hb
      have n8_ := BE BK253 hb
      have n9_ := Aside0.mk (below_step (BB HB) hb)
      clear HO261
      clear HO264
      clear HO267
      clear HO271
      clear HO274
      clear HO277
      clear BK252
      clear BK253
      clear HB
      have HO261 := n0_
      have HO264 := n1_
      have HO267 := n2_
      have HO271 := n3_
      have HO274 := n4_
      have HO277 := n5_
      have HO280 := n6_
      have BK252 := n7_
      have BK253 := n8_
      have HB := n9_
      clear n0_ n1_ n2_ n3_ n4_ n5_ n6_ n7_ n8_ n9_
      (try clear hb)
      (try clear hb2)
      (try clear hk)
      (try clear hi)
      (try clear ho0)
      refine hK.out _ _ ⟨(blk_cell BK252.out 0).trans rfl, (blk_cell BK252.out 1).trans rfl, (blk_cell BK252.out 2).trans rfl, (blk_cell BK252.out 3).trans rfl, (blk_cell BK253.out 0).trans rfl, (blk_cell BK253.out 1).trans rfl, (blk_cell BK253.out 2).trans rfl, (blk_cell BK253.out 3).trans rfl⟩ (fun hHeld => ?_)
      clear hK K
      refine norm_ (a' := ?_) ?_ ?_
      rotate_left
      ·show Act.put _ (some 28) _ = _
       simp only [Act.put, List.setIfInBounds_toArray, List.set_cons_zero, List.set_cons_succ, i64_w, i32_w]
       rfl
      refine pure_ (i := 5) (N := some 23) (v := ?_) (a' := ?_) #[true, true, true, true, true, true, false, false, false, false] rfl rfl (any_of HT_.out (by kernel_rfl)) (fun _ _ _ h => h) (Or.inl ⟨by rfl, ?_⟩) ?_ ?_
      rotate_left
      ·intro w'
       go_simp
       with_reducible rfl
      rotate_left
      ·simp only [Act.put, List.setIfInBounds_toArray, List.set_cons_zero, List.set_cons_succ, i64_w, i32_w]
       rfl
      refine pure_ (i := 6) (N := some 29) (v := ?_) (a' := ?_) #[true, true, true, true, true, true, true, false, false, false] rfl rfl (any_of HT_.out (by kernel_rfl)) (fun _ _ _ h => h) (Or.inl ⟨by rfl, ?_⟩) ?_ ?_
      rotate_left
      ·intro w'
       go_simp
       with_reducible rfl
      rotate_left
      ·simp only [Act.put, List.setIfInBounds_toArray, List.set_cons_zero, List.set_cons_succ, i64_w, i32_w]
       rfl
      refine pure_ (i := 7) (N := some 30) (v := ?_) (a' := ?_) #[true, true, true, true, true, true, true, true, false, false] rfl rfl (any_of HT_.out (by kernel_rfl)) (fun _ _ _ h => h) (Or.inl ⟨by rfl, ?_⟩) ?_ ?_
      rotate_left
      ·intro w'
       go_simp
       with_reducible rfl
      rotate_left
      ·simp only [Act.put, List.setIfInBounds_toArray, List.set_cons_zero, List.set_cons_succ, i64_w, i32_w]
       rfl
      refine pure_ (i := 8) (N := some 5) (v := ?_) (a' := ?_) #[true, true, true, true, true, true, true, true, true, false] rfl rfl (any_of HT_.out (by kernel_rfl)) (fun _ _ _ h => h) (Or.inl ⟨by rfl, ?_⟩) ?_ ?_
      rotate_left
      ·intro w'
       go_simp
       with_reducible rfl
      rotate_left
      ·simp only [Act.put, List.setIfInBounds_toArray, List.set_cons_zero, List.set_cons_succ, i64_w, i32_w]
       rfl
      refine pure_ (i := 9) (N := some 6) (v := ?_) (a' := ?_) #[true, true, true, true, true, true, true, true, true, true] rfl rfl (any_of HT_.out (by kernel_rfl)) (fun _ _ _ h => h) (Or.inl ⟨by rfl, ?_⟩) ?_ ?_
      rotate_left
      ·intro w'
       go_simp
       with_reducible rfl
      rotate_left
      ·simp only [Act.put, List.setIfInBounds_toArray, List.set_cons_zero, List.set_cons_succ, i64_w, i32_w]
       rfl
      refine done_ (done_of HT_.out (by kernel_rfl)) ?_
      have hnb100 := NB252_253.out
      have hnc100 := NB253_252.out
      have hcz101_0 : w99.cell? ⟨gb252, 0, none⟩ = some (.int .i64 a0_0) := (blk_cell BK252.out 0).trans rfl
      have hcz101_1 : w99.cell? ⟨gb252, 1, none⟩ = some (.slice A0_1 l0_1.length c0_1) := (blk_cell BK252.out 1).trans rfl
      have hcz101_2 : w99.cell? ⟨gb252, 2, none⟩ = some (.slice A0_2 l0_2.length c0_2) := (blk_cell BK252.out 2).trans rfl
      have hcz101_3 : w99.cell? ⟨gb252, 3, none⟩ = some (.slice A0_3 l0_3.length c0_3) := (blk_cell BK252.out 3).trans rfl
      have hfz101_0 := blk_frozen BK252.out 0
      have hfz101_1 := blk_frozen BK252.out 1
      have hfz101_2 := blk_frozen BK252.out 2
      have hfz101_3 := blk_frozen BK252.out 3
      have hcz102_0 : w99.cell? ⟨gb253, 0, none⟩ = some (.int .i64 a1_0) := (blk_cell BK253.out 0).trans rfl
      have hcz102_1 : w99.cell? ⟨gb253, 1, none⟩ = some (.slice A1_1 l1_1.length c1_1) := (blk_cell BK253.out 1).trans rfl
      have hcz102_2 : w99.cell? ⟨gb253, 2, none⟩ = some (.slice A1_2 l1_2.length c1_2) := (blk_cell BK253.out 2).trans rfl
      have hcz102_3 : w99.cell? ⟨gb253, 3, none⟩ = some (.slice A1_3 l1_3.length c1_3) := (blk_cell BK253.out 3).trans rfl
      have hfz102_0 := blk_frozen BK253.out 0
      have hfz102_1 := blk_frozen BK253.out 1
      have hfz102_2 := blk_frozen BK253.out 2
      have hfz102_3 := blk_frozen BK253.out 3
      try go_wp2_with (first | ((with_reducible refine gate_callee (f := 22) rfl ?_); refine goesL_ (some 34) rfl rfl Tryd.func22 (by kernel_rfl) rfl #[.agg #[.int .i64 a0_0, .slice A0_1 l0_1.length c0_1, .slice A0_2 l0_2.length c0_2, .slice A0_3 l0_3.length c0_3], .agg #[.int .i64 a1_0, .slice A1_1 l1_1.length c1_1, .slice A1_2 l1_2.length c1_2, .slice A1_3 l1_3.length c1_3]] rfl (by (try simp only [List.map_toArray, List.map_cons, List.map_nil]); first | done | rfl | (simp only [List.length_drop, List.length_take]; rfl)) ?_; (with_reducible refine (dioramaref08_Diff.calls kj2 a0_0 _ _ l0_1 _ _ l0_2 _ _ l0_3 a1_0 _ _ l1_1 _ _ l1_2 _ _ l1_3 t282 t285 _ ?side1 ?side2 ?side3 ?side4 ?side5 ?side6 ?side7 ?side8 ?side9 ?side10 ?side11 ?side12 A27.out).mono ?_); (case side1 => repeat (first | exact (Kd.C_below HR0_1.out HB.out) | (with_reducible refine Kd.C_alloc ?_ _) | (with_reducible refine Kd.C_drewN ?_ _) | (with_reducible refine Kd.C_drew ?_))); (case side2 => exact HC0_1.out); (case side3 => repeat (first | exact (Kd.C_below HR0_2.out HB.out) | (with_reducible refine Kd.C_alloc ?_ _) | (with_reducible refine Kd.C_drewN ?_ _) | (with_reducible refine Kd.C_drew ?_))); (case side4 => exact HC0_2.out); (case side5 => repeat (first | exact (Kd.C_below HR0_3.out HB.out) | (with_reducible refine Kd.C_alloc ?_ _) | (with_reducible refine Kd.C_drewN ?_ _) | (with_reducible refine Kd.C_drew ?_))); (case side6 => exact HC0_3.out); (case side7 => repeat (first | exact (Kd.C_below HR1_1.out HB.out) | (with_reducible refine Kd.C_alloc ?_ _) | (with_reducible refine Kd.C_drewN ?_ _) | (with_reducible refine Kd.C_drew ?_))); (case side8 => exact HC1_1.out); (case side9 => repeat (first | exact (Kd.C_below HR1_2.out HB.out) | (with_reducible refine Kd.C_alloc ?_ _) | (with_reducible refine Kd.C_drewN ?_ _) | (with_reducible refine Kd.C_drew ?_))); (case side10 => exact HC1_2.out); (case side11 => repeat (first | exact (Kd.C_below HR1_3.out HB.out) | (with_reducible refine Kd.C_alloc ?_ _) | (with_reducible refine Kd.C_drewN ?_ _) | (with_reducible refine Kd.C_drew ?_))); (case side12 => exact HC1_3.out); rintro e w103 ⟨v283, rfl, ho0, hb⟩; refine ⟨_, rfl, ?_⟩; have n0_ := Aside0.mk (Kd.R_below (RL HO261) hb); have n1_ := Aside0.mk (Kd.R_below (RL HO264) hb); have n2_ := Aside0.mk (Kd.R_below (RL HO267) hb); have n3_ := Aside0.mk (Kd.R_below (RL HO271) hb); have n4_ := Aside0.mk (Kd.R_below (RL HO274) hb); have n5_ := Aside0.mk (Kd.R_below (RL HO277) hb); have n6_ := Aside0.mk (Kd.R_elder' (RL HO280) (Kd.R_base ho0) hb); have n7_ := Aside0.mk (Kd.R_lower (Kd.R_new' ho0 (Kd.R_lt (RL HO280))) (below_size (BB HB))); have n8_ := BE BK252 hb; have n9_ := BE BK253 hb; have n10_ := Aside0.mk (below_step (BB HB) hb); clear HO261; clear HO264; clear HO267; clear HO271; clear HO274; clear HO277; clear HO280; clear BK252; clear BK253; clear HB; have HO261 := n0_; have HO264 := n1_; have HO267 := n2_; have HO271 := n3_; have HO274 := n4_; have HO277 := n5_; have HO280 := n6_; have HO284 := n7_; have BK252 := n8_; have BK253 := n9_; have HB := n10_; clear n0_ n1_ n2_ n3_ n4_ n5_ n6_ n7_ n8_ n9_ n10_; (try clear hb); (try clear hb2); (try clear hk); (try clear hi); (try clear ho0); obtain ⟨Ao104, co104, eo104⟩ := Kd.R_slice HO280.out; subst eo104; obtain ⟨Ao105, co105, eo105⟩ := Kd.R_slice HO284.out; subst eo105) | (go_at_call 23; (with_reducible refine (dioramaref08_SameSets.calls kj2 _ _ t278 _ _ t282 false _ ?side1 ?side2 ?side3 ?side4 A29.out).mono ?_); (case side1 => exact CR HO280); (case side2 => exact (Kd.R_reads' HO280.out).2.1); (case side3 => exact CR HO284); (case side4 => exact (Kd.R_reads' HO284.out).2.1); rintro e w' ⟨rfl, ⟨nd, rfl⟩⟩))
      go_ret
      exact ⟨by first | rfl | (simp [errW_none, errW_some] <;> rfl) | (simp [*, errW_none, errW_some] <;> rfl), BB HB⟩

end Go.Proofs.YtmglknchklgokaaDoor.GX

