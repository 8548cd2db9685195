-- Printed by a program of the session (wip/gen/tprint.py, over a turned copy of the kit's print): Lean checks it.
import Derived.Test.YtcphcaiiofeflaaDoorLoGLx0
import Derived.Test.YtcphcaiiofeflaaDoorLoGLx1
import Derived.Test.YtcphcaiiofeflaaDoorLoGLx3
import Derived.Test.YtcphcaiiofeflaaDoorLoGLx5
import Derived.Test.YtcphcaiiofeflaaDoorLoGLx7
namespace Go.Proofs.YtcphcaiiofeflaaDoor.GL
open Go.RowKit Go.Proofs.YtcphcaiiofeflaaDoorW.PrintWords Go.Proofs.YtcphcaiiofeflaaDoorW.PrintLast Go.Proofs.YtcphcaiiofeflaaDoorW.PrintMore
attribute [local go_sem] max2_int min2_int max_two min_two max_three min_three max_four min_four   -- for this text's walks alone
set_option linter.unusedVariables false
set_option linter.unusedSimpArgs false

attribute [local go_sem high] eqA26
/-! ### limit_Valid: function 15 -/
def limit_Valid.f (k : Nat) (l0_0 : List (S53)) (a0_1 : Int) (a1_0 : Int) (a1_1 : Int) (a1_2 : Int) (a1_3 : Int) (a1_4 : Int) : Option (Int × Int) := (limit_Right.f a1_0 a1_1 a1_2 a1_3 a1_4).bind fun t179 => (if t179 = true then ((limit_Typed.f k l0_0 a0_1).bind fun bt180 => (if bt180.1 = 0 then ((graph_Check.f k l0_0 a0_1).bind fun bt182 => (if bt182.1 = 0 then ((limit_Measure.f k l0_0 a0_1).bind fun bt184 => ((limit_Within.f bt184.1 bt184.2.1 bt184.2.2.1 bt184.2.2.2.1 bt184.2.2.2.2 a1_0 a1_1 a1_2 a1_3 a1_4).bind fun t189 => (if t189 = true then (some (0, 0)) else (some (19, (-1)))))) else (some (bt182.1, bt182.2)))) else (some (bt180.1, bt180.2)))) else (some (1, (-1))))
theorem limit_Valid.mono : ∀ a0 a1 a2 a3 a4 a5 a6 k, LeO (limit_Valid.f k a0 a1 a2 a3 a4 a5 a6) (limit_Valid.f (k + 1) a0 a1 a2 a3 a4 a5 a6) := by
 intro a0 a1 a2 a3 a4 a5 a6 k
 unfold limit_Valid.f
 repeat' first
   | (with_reducible exact graph_Check.mono _ _ _)
   | (with_reducible exact limit_Measure.mono _ _ _)
   | (with_reducible exact limit_Typed.mono _ _ _)
   | (with_reducible exact LeO.refl _)
   | (with_reducible exact LeO.none _)
   | (with_reducible refine LeO.ite ?_ ?_)
   | (with_reducible refine LeO.bind ?_ (fun _ => ?_))
   | exact graph_Check.mono _ _ _
   | exact limit_Measure.mono _ _ _
   | exact limit_Typed.mono _ _ _
   | exact LeO.none _
   | refine LeO.ite ?_ ?_
   | refine LeO.bind ?_ (fun _ => ?_)
set_option maxHeartbeats 8000000 in
set_option maxRecDepth 100000 in
theorem limit_Valid.calls (k : Nat) (A0_0 : Option Addr) (c0_0 : Nat) (l0_0 : List (S53)) (a0_1 : Int) (a1_0 : Int) (a1_1 : Int) (a1_2 : Int) (a1_3 : Int) (a1_4 : Int) (r1 : Int) (r2 : Int) (w : World) (ht_ : ∀ w', Below w.heap.size w w' → Go.Lib.Utf8Tabs 0 1 w') (hr0_0 : Kd.C k53 w A0_0 l0_0.length l0_0) (hc0_0 : l0_0.length ≤ c0_0) (h : limit_Valid.f k l0_0 a0_1 a1_0 a1_1 a1_2 a1_3 a1_4 = some (r1, r2)) :
  Calls Tryd.prog 15 #[.agg #[.slice A0_0 l0_0.length c0_0, .int .i64 a0_1], .agg #[.int .i64 a1_0, .int .i64 a1_1, .int .i64 a1_2, .int .i64 a1_3, .int .i64 a1_4]] w fun e w' => e = .returned (.tuple #[.int .i64 r1, .int .i64 r2]) ∧ Below w.heap.size w w' := by
 have HTB_ := Aside0.mk ht_
 clear ht_
 have hu24 := Tryd.underlying24
 have hu26 := Tryd.underlying26
 have HR0_0 := Aside0.mk hr0_0
 have HC0_0 := Aside0.mk hc0_0
 clear hr0_0 hc0_0
 have HB := Aside0.mk (Below.refl w.heap.size w)
 have H : ((limit_Right.f a1_0 a1_1 a1_2 a1_3 a1_4).bind fun t179 => (if t179 = true then ((limit_Typed.f k l0_0 a0_1).bind fun bt180 => (if bt180.1 = 0 then ((graph_Check.f k l0_0 a0_1).bind fun bt182 => (if bt182.1 = 0 then ((limit_Measure.f k l0_0 a0_1).bind fun bt184 => ((limit_Within.f bt184.1 bt184.2.1 bt184.2.2.1 bt184.2.2.2.1 bt184.2.2.2.2 a1_0 a1_1 a1_2 a1_3 a1_4).bind fun t189 => (if t189 = true then (some (0, 0)) else (some (19, (-1)))))) else (some (bt182.1, bt182.2)))) else (some (bt180.1, bt180.2)))) else (some (1, (-1))))) = some (r1, r2) := h
 clear h
 replace H := Option.bind_eq_some_iff.mp H
 obtain ⟨t179, A30, H⟩ := H
 replace H : (if t179 = true then ((limit_Typed.f k l0_0 a0_1).bind fun bt180 => (if bt180.1 = 0 then ((graph_Check.f k l0_0 a0_1).bind fun bt182 => (if bt182.1 = 0 then ((limit_Measure.f k l0_0 a0_1).bind fun bt184 => ((limit_Within.f bt184.1 bt184.2.1 bt184.2.2.1 bt184.2.2.2.1 bt184.2.2.2.2 a1_0 a1_1 a1_2 a1_3 a1_4).bind fun t189 => (if t189 = true then (some (0, 0)) else (some (19, (-1)))))) else (some (bt182.1, bt182.2)))) else (some (bt180.1, bt180.2)))) else (some (1, (-1)))) = some (r1, r2) := H
 have A3 := Aside0.mk A30
 clear A30
 by_cases c4 : t179 = true
 ·subst c4
  have H1 : ((limit_Typed.f k l0_0 a0_1).bind fun bt180 => (if bt180.1 = 0 then ((graph_Check.f k l0_0 a0_1).bind fun bt182 => (if bt182.1 = 0 then ((limit_Measure.f k l0_0 a0_1).bind fun bt184 => ((limit_Within.f bt184.1 bt184.2.1 bt184.2.2.1 bt184.2.2.2.1 bt184.2.2.2.2 a1_0 a1_1 a1_2 a1_3 a1_4).bind fun t189 => (if t189 = true then (some (0, 0)) else (some (19, (-1)))))) else (some (bt182.1, bt182.2)))) else (some (bt180.1, bt180.2)))) = some (r1, r2) := by rw [if_pos rfl] at H; exact H
  clear H
  have H := H1
  clear H1
  replace H := Option.bind_eq_some_iff.mp H
  obtain ⟨⟨t180, t181⟩, A50, H⟩ := H
  replace H : (if t180 = 0 then ((graph_Check.f k l0_0 a0_1).bind fun bt182 => (if bt182.1 = 0 then ((limit_Measure.f k l0_0 a0_1).bind fun bt184 => ((limit_Within.f bt184.1 bt184.2.1 bt184.2.2.1 bt184.2.2.2.1 bt184.2.2.2.2 a1_0 a1_1 a1_2 a1_3 a1_4).bind fun t189 => (if t189 = true then (some (0, 0)) else (some (19, (-1)))))) else (some (bt182.1, bt182.2)))) else (some (t180, t181))) = some (r1, r2) := H
  have A5 := Aside0.mk A50
  clear A50
  by_cases c6 : t180 = 0
  ·rw [if_pos c6] at H
   have c6b0 : (t180 == 0) = true := beq_iff_eq.mpr c6
   have c6b1 : (t180 != 0) = false := bne_eq_false_iff_eq.mpr c6
   clear c6
   replace H := Option.bind_eq_some_iff.mp H
   obtain ⟨⟨t182, t183⟩, A70, H⟩ := H
   replace H : (if t182 = 0 then ((limit_Measure.f k l0_0 a0_1).bind fun bt184 => ((limit_Within.f bt184.1 bt184.2.1 bt184.2.2.1 bt184.2.2.2.1 bt184.2.2.2.2 a1_0 a1_1 a1_2 a1_3 a1_4).bind fun t189 => (if t189 = true then (some (0, 0)) else (some (19, (-1)))))) else (some (t182, t183))) = some (r1, r2) := H
   have A7 := Aside0.mk A70
   clear A70
   by_cases c8 : t182 = 0
   ·rw [if_pos c8] at H
    have c8b0 : (t182 == 0) = true := beq_iff_eq.mpr c8
    have c8b1 : (t182 != 0) = false := bne_eq_false_iff_eq.mpr c8
    clear c8
    replace H := Option.bind_eq_some_iff.mp H
    obtain ⟨⟨t184, t185, t186, t187, t188⟩, A90, H⟩ := H
    replace H : ((limit_Within.f t184 t185 t186 t187 t188 a1_0 a1_1 a1_2 a1_3 a1_4).bind fun t189 => (if t189 = true then (some (0, 0)) else (some (19, (-1))))) = some (r1, r2) := H
    have A9 := Aside0.mk A90
    clear A90
    replace H := Option.bind_eq_some_iff.mp H
    obtain ⟨t189, A100, H⟩ := H
    replace H : (if t189 = true then (some (0, 0)) else (some (19, (-1)))) = some (r1, r2) := H
    have A10 := Aside0.mk A100
    clear A100
    by_cases c11 : t189 = true
    ·subst c11
     have H1 : (some (0, 0)) = some (r1, r2) := by rw [if_pos rfl] at H; exact H
     clear H
     have H := H1
     clear H1
     simp only [Option.some.injEq, Prod.mk.injEq] at H
     obtain ⟨rfl, rfl⟩ := H
     go_enter Tryd.func15, Tryd.ntmps15
     try go_wp2_with (first | ((with_reducible refine gate_dst (N := 2) rfl ?_); refine box_event ?hg (N := 2) ?hd (cs := #[.slice A0_0 l0_0.length c0_0, .int .i64 a0_1]) (t := 24) ?hr ?_; (case hd => rfl); (case hg => rfl); (case hr => first | (go_simp; done) | (go_simp; rfl)); intro gb177 hg w12 hbox hb; have n0_ := Aside0.mk (below_step (BB HB) hb); have n1_ := Aside0.mk (hbox); have n2_ := Aside0.mk ((by rw [hg]; exact (below_size (BB HB)) : w.heap.size ≤ gb177)); have n3_ := Aside0.mk ((by rw [hg]; exact (below_size (BB HB)) : w.heap.size ≤ gb177)); clear HB; have HB := n0_; have BK177 := n1_; have GW177 := n2_; have GE177 := n3_; clear n0_ n1_ n2_ n3_; clear hb hbox hg) | ((with_reducible refine gate_dst (N := 3) rfl ?_); refine box_event ?hg (N := 3) ?hd (cs := #[.int .i64 a1_0, .int .i64 a1_1, .int .i64 a1_2, .int .i64 a1_3, .int .i64 a1_4]) (t := 26) ?hr ?_; (case hd => rfl); (case hg => rfl); (case hr => first | (go_simp; done) | (go_simp; rfl)); intro gb178 hg w13 hbox hb; have n0_ := BE BK177 hb; have n1_ := Aside0.mk (below_step (BB HB) hb); have n2_ := Aside0.mk (hbox); have n3_ := Aside0.mk ((by rw [hg]; exact (below_size (BB HB)) : w.heap.size ≤ gb178)); have n4_ := Aside0.mk ((by rw [hg]; exact (below_size (BB HB)) : w.heap.size ≤ gb178)); have n5_ := Aside0.mk ((by rw [hg]; exact Nat.ne_of_lt (blk_lt (g := gb177) (o := .cells #[.slice A0_0 l0_0.length c0_0, .int .i64 a0_1] 24 (0, 0)) (BL BK177)) : gb177 ≠ gb178)); have n6_ := Aside0.mk ((by rw [hg]; exact Nat.ne_of_gt (blk_lt (g := gb177) (o := .cells #[.slice A0_0 l0_0.length c0_0, .int .i64 a0_1] 24 (0, 0)) (BL BK177)) : gb178 ≠ gb177)); clear BK177; clear HB; have BK177 := n0_; have HB := n1_; have BK178 := n2_; have GW178 := n3_; have GE178 := n4_; have NB177_178 := n5_; have NB178_177 := n6_; clear n0_ n1_ n2_ n3_ n4_ n5_ n6_; clear hb hbox hg; have hnb14 := NB178_177.out; have hnc14 := NB177_178.out; have hcz15_0 : w13.cell? ⟨gb178, 0, none⟩ = some (.int .i64 a1_0) := (blk_cell BK178.out 0).trans rfl; have hcz15_1 : w13.cell? ⟨gb178, 1, none⟩ = some (.int .i64 a1_1) := (blk_cell BK178.out 1).trans rfl; have hcz15_2 : w13.cell? ⟨gb178, 2, none⟩ = some (.int .i64 a1_2) := (blk_cell BK178.out 2).trans rfl; have hcz15_3 : w13.cell? ⟨gb178, 3, none⟩ = some (.int .i64 a1_3) := (blk_cell BK178.out 3).trans rfl; have hcz15_4 : w13.cell? ⟨gb178, 4, none⟩ = some (.int .i64 a1_4) := (blk_cell BK178.out 4).trans rfl; have hfz15_0 := blk_frozen BK178.out 0; have hfz15_1 := blk_frozen BK178.out 1; have hfz15_2 := blk_frozen BK178.out 2; have hfz15_3 := blk_frozen BK178.out 3; have hfz15_4 := blk_frozen BK178.out 4) | ((with_reducible refine gate_callee (f := 22) rfl ?_); refine goesL_ (some 11) rfl rfl Tryd.func22 (by kernel_rfl) rfl #[.agg #[.int .i64 a1_0, .int .i64 a1_1, .int .i64 a1_2, .int .i64 a1_3, .int .i64 a1_4]] rfl (by (try simp only [List.map_toArray, List.map_cons, List.map_nil]); first | done | rfl | (simp only [List.length_drop, List.length_take]; rfl)) ?_; (with_reducible refine (limit_Right.calls a1_0 a1_1 a1_2 a1_3 a1_4 true _ A3.out).mono ?_); rintro e w16 ⟨rfl, hb⟩; refine ⟨_, rfl, ?_⟩; have n0_ := BE BK177 hb; have n1_ := BE BK178 hb; have n2_ := Aside0.mk (below_step (BB HB) hb); clear BK177; clear BK178; clear HB; have BK177 := n0_; have BK178 := n1_; have HB := n2_; clear n0_ n1_ n2_; (try clear hb); (try clear hb2); (try clear hk); (try clear hi); have hcz17_0 : w16.cell? ⟨gb177, 0, none⟩ = some (.slice A0_0 l0_0.length c0_0) := (blk_cell BK177.out 0).trans rfl; have hcz17_1 : w16.cell? ⟨gb177, 1, none⟩ = some (.int .i64 a0_1) := (blk_cell BK177.out 1).trans rfl; have hfz17_0 := blk_frozen BK177.out 0; have hfz17_1 := blk_frozen BK177.out 1) | ((with_reducible refine gate_callee (f := 18) rfl ?_); refine goesL_ (some 15) rfl rfl Tryd.func18 (by kernel_rfl) rfl #[.agg #[.slice A0_0 l0_0.length c0_0, .int .i64 a0_1]] rfl (by (try simp only [List.map_toArray, List.map_cons, List.map_nil]); first | done | rfl | (simp only [List.length_drop, List.length_take]; rfl)) ?_; (with_reducible refine (limit_Typed.calls k _ _ l0_0 a0_1 t180 t181 _ ?sideT ?side1 ?side2 A5.out).mono ?_); (case sideT => exact fun w_ hb_ => HTB_.out w_ (below_step (BB HB) hb_)); (case side1 => repeat (first | exact (Kd.C_below HR0_0.out HB.out) | (with_reducible refine Kd.C_alloc ?_ _) | (with_reducible refine Kd.C_drewN ?_ _) | (with_reducible refine Kd.C_drew ?_))); (case side2 => exact HC0_0.out); rintro e w18 ⟨rfl, hb⟩; refine ⟨_, rfl, ?_⟩; have n0_ := BE BK177 hb; have n1_ := BE BK178 hb; have n2_ := Aside0.mk (below_step (BB HB) hb); clear BK177; clear BK178; clear HB; have BK177 := n0_; have BK178 := n1_; have HB := n2_; clear n0_ n1_ n2_; (try clear hb); (try clear hb2); (try clear hk); (try clear hi); have hcz19_0 : w18.cell? ⟨gb177, 0, none⟩ = some (.slice A0_0 l0_0.length c0_0) := (blk_cell BK177.out 0).trans rfl; have hcz19_1 : w18.cell? ⟨gb177, 1, none⟩ = some (.int .i64 a0_1) := (blk_cell BK177.out 1).trans rfl; have hfz19_0 := blk_frozen BK177.out 0; have hfz19_1 := blk_frozen BK177.out 1) | ((with_reducible refine gate_callee (f := 40) rfl ?_); refine goesL_ (some 24) rfl rfl Tryd.func40 (by kernel_rfl) rfl #[.agg #[.slice A0_0 l0_0.length c0_0, .int .i64 a0_1]] rfl (by (try simp only [List.map_toArray, List.map_cons, List.map_nil]); first | done | rfl | (simp only [List.length_drop, List.length_take]; rfl)) ?_; (with_reducible refine (graph_Check.calls k _ _ l0_0 a0_1 t182 t183 _ ?side1 ?side2 A7.out).mono ?_); (case side1 => repeat (first | exact (Kd.C_below HR0_0.out HB.out) | (with_reducible refine Kd.C_alloc ?_ _) | (with_reducible refine Kd.C_drewN ?_ _) | (with_reducible refine Kd.C_drew ?_))); (case side2 => exact HC0_0.out); rintro e w20 ⟨rfl, hb⟩; refine ⟨_, rfl, ?_⟩; have n0_ := BE BK177 hb; have n1_ := BE BK178 hb; have n2_ := Aside0.mk (below_step (BB HB) hb); clear BK177; clear BK178; clear HB; have BK177 := n0_; have BK178 := n1_; have HB := n2_; clear n0_ n1_ n2_; (try clear hb); (try clear hb2); (try clear hk); (try clear hi)))
     have n0_ := Aside0.mk (blk_drew BK177.out)
     have n1_ := Aside0.mk (blk_drew BK178.out)
     have n2_ := Aside0.mk (below_drew1 HB.out)
     clear BK177
     clear BK178
     clear HB
     have BK177 := n0_
     have BK178 := n1_
     have HB := n2_
     clear n0_ n1_ n2_
     refine start_ (n := 5) (S := fun w' => w'.cell? ⟨gb177, 0, none⟩ = some (.slice A0_0 l0_0.length c0_0) ∧ w'.cell? ⟨gb177, 1, none⟩ = some (.int .i64 a0_1) ∧ w'.cell? ⟨gb178, 0, none⟩ = some (.int .i64 a1_0) ∧ w'.cell? ⟨gb178, 1, none⟩ = some (.int .i64 a1_1) ∧ w'.cell? ⟨gb178, 2, none⟩ = some (.int .i64 a1_2) ∧ w'.cell? ⟨gb178, 3, none⟩ = some (.int .i64 a1_3) ∧ w'.cell? ⟨gb178, 4, none⟩ = some (.int .i64 a1_4)) (ds := []) #[false, false, false, false, false] (by kernel_rfl) rfl rfl ⟨(blk_cell BK177.out 0).trans rfl, (blk_cell BK177.out 1).trans rfl, (blk_cell BK178.out 0).trans rfl, (blk_cell BK178.out 1).trans rfl, (blk_cell BK178.out 2).trans rfl, (blk_cell BK178.out 3).trans rfl, (blk_cell BK178.out 4).trans rfl⟩ (fun hHeld => ?_)
     generalize w20.drew = w21 at BK177 BK178 HB hHeld ⊢
     refine take_ (i := 0) (N := some 31) (v := ?_) (a' := ?_) #[true, false, false, false, false] rfl rfl (by kernel_rfl) (fun _ _ _ h => h) (Or.inl ⟨by rfl, ?_⟩) hHeld ?_ ?_
     rotate_left
     ·rintro w' ⟨s0, s1, s2, s3, s4, s5, s6⟩
      go_simp
      with_reducible rfl
     rotate_left
     ·simp only [Act.put, List.setIfInBounds_toArray, List.set_cons_zero, List.set_cons_succ, i64_w, i32_w]
      rfl
     refine take_ (i := 2) (N := some 33) (v := ?_) (a' := ?_) #[true, false, true, false, false] rfl rfl (by kernel_rfl) (fun _ _ _ h => h) (Or.inl ⟨by rfl, ?_⟩) hHeld ?_ ?_
     rotate_left
     ·rintro w' ⟨s0, s1, s2, s3, s4, s5, s6⟩
      go_simp
      with_reducible rfl
     rotate_left
     ·simp only [Act.put, List.setIfInBounds_toArray, List.set_cons_zero, List.set_cons_succ, i64_w, i32_w]
      rfl
     refine one_ (i := 1) (N := some 32) #[true, true, true, false, false] rfl rfl (by kernel_rfl) (by decide) (fun K hK => ?_)
     refine goes_ Tryd.func20 (by kernel_rfl) rfl #[.agg #[.slice A0_0 l0_0.length c0_0, .int .i64 a0_1]] (by rfl) rfl rfl (by (try simp only [List.map_toArray, List.map_cons, List.map_nil]); first | done | rfl | (simp only [List.length_drop, List.length_take]; rfl)) ?_
     with_reducible refine (limit_Measure.calls k _ _ l0_0 a0_1 t184 t185 t186 t187 t188 _ ?side1 ?side2 A9.out).mono ?_
     (case side1 => repeat (first | exact (Kd.C_below HR0_0.out HB.out) | (with_reducible refine Kd.C_alloc ?_ _) | (with_reducible refine Kd.C_drewN ?_ _) | (with_reducible refine Kd.C_drew ?_)))
     (case side2 => exact HC0_0.out)
     rintro e w22 ⟨rfl, hb⟩
     refine ⟨_, rfl, ?_⟩
     have n0_ := BE BK177 hb
     have n1_ := BE BK178 hb
     have n2_ := Aside0.mk (below_step (BB HB) hb)
     clear BK177
     clear BK178
     clear HB
     have BK177 := n0_
     have BK178 := n1_
     have HB := n2_
     clear n0_ n1_ n2_
     (try clear hb)
     (try clear hb2)
     (try clear hk)
     (try clear hi)
     refine hK.out _ _ ⟨(blk_cell BK177.out 0).trans rfl, (blk_cell BK177.out 1).trans rfl, (blk_cell BK178.out 0).trans rfl, (blk_cell BK178.out 1).trans rfl, (blk_cell BK178.out 2).trans rfl, (blk_cell BK178.out 3).trans rfl, (blk_cell BK178.out 4).trans rfl⟩ (fun hHeld => ?_)
     clear hK K
     refine norm_ (a' := ?_) ?_ ?_
     rotate_left
     ·show Act.put _ (some 32) _ = _
      simp only [Act.put, List.setIfInBounds_toArray, List.set_cons_zero, List.set_cons_succ, i64_w, i32_w]
      rfl
     refine one_ (i := 3) (N := some 34) #[true, true, true, true, false] rfl rfl (by kernel_rfl) (by decide) (fun K hK => ?_)
     refine goes_ Tryd.func24 (by kernel_rfl) rfl #[.agg #[.int .i64 t184, .int .i64 t185, .int .i64 t186, .int .i64 t187, .int .i64 t188], .agg #[.int .i64 a1_0, .int .i64 a1_1, .int .i64 a1_2, .int .i64 a1_3, .int .i64 a1_4]] (by rfl) rfl rfl (by (try simp only [List.map_toArray, List.map_cons, List.map_nil]); first | done | rfl | (simp only [List.length_drop, List.length_take]; rfl)) ?_
     with_reducible refine (limit_Within.calls t184 t185 t186 t187 t188 a1_0 a1_1 a1_2 a1_3 a1_4 true _ A10.out).mono ?_
     rintro e w23 ⟨rfl, hb⟩
     refine ⟨_, rfl, ?_⟩
     have n0_ := BE BK177 hb
     have n1_ := BE BK178 hb
     have n2_ := Aside0.mk (below_step (BB HB) hb)
     clear BK177
     clear BK178
     clear HB
     have BK177 := n0_
     have BK178 := n1_
     have HB := n2_
     clear n0_ n1_ n2_
     (try clear hb)
     (try clear hb2)
     (try clear hk)
     (try clear hi)
     refine hK.out _ _ ⟨(blk_cell BK177.out 0).trans rfl, (blk_cell BK177.out 1).trans rfl, (blk_cell BK178.out 0).trans rfl, (blk_cell BK178.out 1).trans rfl, (blk_cell BK178.out 2).trans rfl, (blk_cell BK178.out 3).trans rfl, (blk_cell BK178.out 4).trans rfl⟩ (fun hHeld => ?_)
     clear hK K
     refine norm_ (a' := ?_) ?_ ?_
     rotate_left
     ·show Act.put _ (some 34) _ = _
      simp only [Act.put, List.setIfInBounds_toArray, List.set_cons_zero, List.set_cons_succ, i64_w, i32_w]
      rfl
     refine pure_ (i := 4) (N := some 35) (v := ?_) (a' := ?_) #[true, true, true, true, true] rfl rfl (by kernel_rfl) (fun _ _ _ h => h) (Or.inl ⟨by rfl, ?_⟩) ?_ ?_
     rotate_left
     ·intro w'
      go_simp
      with_reducible rfl
     rotate_left
     ·simp only [Act.put, List.setIfInBounds_toArray, List.set_cons_zero, List.set_cons_succ, i64_w, i32_w]
      rfl
     refine done_ (by kernel_rfl) ?_
     try go_wp2
     go_ret2
     exact ⟨by first | rfl | (simp [errW_none, errW_some] <;> rfl) | (simp [*, errW_none, errW_some] <;> rfl), BB HB⟩
    ·replace c11 := Bool.eq_false_iff.mpr c11
     subst c11
     have H1 : (some (19, (-1))) = some (r1, r2) := by rw [if_neg (show ¬ (false = true) by decide)] at H; exact H
     clear H
     have H := H1
     clear H1
     simp only [Option.some.injEq, Prod.mk.injEq] at H
     obtain ⟨rfl, rfl⟩ := H
     go_enter Tryd.func15, Tryd.ntmps15
     try go_wp2_with (first | ((with_reducible refine gate_dst (N := 2) rfl ?_); refine box_event ?hg (N := 2) ?hd (cs := #[.slice A0_0 l0_0.length c0_0, .int .i64 a0_1]) (t := 24) ?hr ?_; (case hd => rfl); (case hg => rfl); (case hr => first | (go_simp; done) | (go_simp; rfl)); intro gb177 hg w24 hbox hb; have n0_ := Aside0.mk (below_step (BB HB) hb); have n1_ := Aside0.mk (hbox); have n2_ := Aside0.mk ((by rw [hg]; exact (below_size (BB HB)) : w.heap.size ≤ gb177)); have n3_ := Aside0.mk ((by rw [hg]; exact (below_size (BB HB)) : w.heap.size ≤ gb177)); clear HB; have HB := n0_; have BK177 := n1_; have GW177 := n2_; have GE177 := n3_; clear n0_ n1_ n2_ n3_; clear hb hbox hg) | ((with_reducible refine gate_dst (N := 3) rfl ?_); refine box_event ?hg (N := 3) ?hd (cs := #[.int .i64 a1_0, .int .i64 a1_1, .int .i64 a1_2, .int .i64 a1_3, .int .i64 a1_4]) (t := 26) ?hr ?_; (case hd => rfl); (case hg => rfl); (case hr => first | (go_simp; done) | (go_simp; rfl)); intro gb178 hg w25 hbox hb; have n0_ := BE BK177 hb; have n1_ := Aside0.mk (below_step (BB HB) hb); have n2_ := Aside0.mk (hbox); have n3_ := Aside0.mk ((by rw [hg]; exact (below_size (BB HB)) : w.heap.size ≤ gb178)); have n4_ := Aside0.mk ((by rw [hg]; exact (below_size (BB HB)) : w.heap.size ≤ gb178)); have n5_ := Aside0.mk ((by rw [hg]; exact Nat.ne_of_lt (blk_lt (g := gb177) (o := .cells #[.slice A0_0 l0_0.length c0_0, .int .i64 a0_1] 24 (0, 0)) (BL BK177)) : gb177 ≠ gb178)); have n6_ := Aside0.mk ((by rw [hg]; exact Nat.ne_of_gt (blk_lt (g := gb177) (o := .cells #[.slice A0_0 l0_0.length c0_0, .int .i64 a0_1] 24 (0, 0)) (BL BK177)) : gb178 ≠ gb177)); clear BK177; clear HB; have BK177 := n0_; have HB := n1_; have BK178 := n2_; have GW178 := n3_; have GE178 := n4_; have NB177_178 := n5_; have NB178_177 := n6_; clear n0_ n1_ n2_ n3_ n4_ n5_ n6_; clear hb hbox hg; have hnb26 := NB178_177.out; have hnc26 := NB177_178.out; have hcz27_0 : w25.cell? ⟨gb178, 0, none⟩ = some (.int .i64 a1_0) := (blk_cell BK178.out 0).trans rfl; have hcz27_1 : w25.cell? ⟨gb178, 1, none⟩ = some (.int .i64 a1_1) := (blk_cell BK178.out 1).trans rfl; have hcz27_2 : w25.cell? ⟨gb178, 2, none⟩ = some (.int .i64 a1_2) := (blk_cell BK178.out 2).trans rfl; have hcz27_3 : w25.cell? ⟨gb178, 3, none⟩ = some (.int .i64 a1_3) := (blk_cell BK178.out 3).trans rfl; have hcz27_4 : w25.cell? ⟨gb178, 4, none⟩ = some (.int .i64 a1_4) := (blk_cell BK178.out 4).trans rfl; have hfz27_0 := blk_frozen BK178.out 0; have hfz27_1 := blk_frozen BK178.out 1; have hfz27_2 := blk_frozen BK178.out 2; have hfz27_3 := blk_frozen BK178.out 3; have hfz27_4 := blk_frozen BK178.out 4) | ((with_reducible refine gate_callee (f := 22) rfl ?_); refine goesL_ (some 11) rfl rfl Tryd.func22 (by kernel_rfl) rfl #[.agg #[.int .i64 a1_0, .int .i64 a1_1, .int .i64 a1_2, .int .i64 a1_3, .int .i64 a1_4]] rfl (by (try simp only [List.map_toArray, List.map_cons, List.map_nil]); first | done | rfl | (simp only [List.length_drop, List.length_take]; rfl)) ?_; (with_reducible refine (limit_Right.calls a1_0 a1_1 a1_2 a1_3 a1_4 true _ A3.out).mono ?_); rintro e w28 ⟨rfl, hb⟩; refine ⟨_, rfl, ?_⟩; have n0_ := BE BK177 hb; have n1_ := BE BK178 hb; have n2_ := Aside0.mk (below_step (BB HB) hb); clear BK177; clear BK178; clear HB; have BK177 := n0_; have BK178 := n1_; have HB := n2_; clear n0_ n1_ n2_; (try clear hb); (try clear hb2); (try clear hk); (try clear hi); have hcz29_0 : w28.cell? ⟨gb177, 0, none⟩ = some (.slice A0_0 l0_0.length c0_0) := (blk_cell BK177.out 0).trans rfl; have hcz29_1 : w28.cell? ⟨gb177, 1, none⟩ = some (.int .i64 a0_1) := (blk_cell BK177.out 1).trans rfl; have hfz29_0 := blk_frozen BK177.out 0; have hfz29_1 := blk_frozen BK177.out 1) | ((with_reducible refine gate_callee (f := 18) rfl ?_); refine goesL_ (some 15) rfl rfl Tryd.func18 (by kernel_rfl) rfl #[.agg #[.slice A0_0 l0_0.length c0_0, .int .i64 a0_1]] rfl (by (try simp only [List.map_toArray, List.map_cons, List.map_nil]); first | done | rfl | (simp only [List.length_drop, List.length_take]; rfl)) ?_; (with_reducible refine (limit_Typed.calls k _ _ l0_0 a0_1 t180 t181 _ ?sideT ?side1 ?side2 A5.out).mono ?_); (case sideT => exact fun w_ hb_ => HTB_.out w_ (below_step (BB HB) hb_)); (case side1 => repeat (first | exact (Kd.C_below HR0_0.out HB.out) | (with_reducible refine Kd.C_alloc ?_ _) | (with_reducible refine Kd.C_drewN ?_ _) | (with_reducible refine Kd.C_drew ?_))); (case side2 => exact HC0_0.out); rintro e w30 ⟨rfl, hb⟩; refine ⟨_, rfl, ?_⟩; have n0_ := BE BK177 hb; have n1_ := BE BK178 hb; have n2_ := Aside0.mk (below_step (BB HB) hb); clear BK177; clear BK178; clear HB; have BK177 := n0_; have BK178 := n1_; have HB := n2_; clear n0_ n1_ n2_; (try clear hb); (try clear hb2); (try clear hk); (try clear hi); have hcz31_0 : w30.cell? ⟨gb177, 0, none⟩ = some (.slice A0_0 l0_0.length c0_0) := (blk_cell BK177.out 0).trans rfl; have hcz31_1 : w30.cell? ⟨gb177, 1, none⟩ = some (.int .i64 a0_1) := (blk_cell BK177.out 1).trans rfl; have hfz31_0 := blk_frozen BK177.out 0; have hfz31_1 := blk_frozen BK177.out 1) | ((with_reducible refine gate_callee (f := 40) rfl ?_); refine goesL_ (some 24) rfl rfl Tryd.func40 (by kernel_rfl) rfl #[.agg #[.slice A0_0 l0_0.length c0_0, .int .i64 a0_1]] rfl (by (try simp only [List.map_toArray, List.map_cons, List.map_nil]); first | done | rfl | (simp only [List.length_drop, List.length_take]; rfl)) ?_; (with_reducible refine (graph_Check.calls k _ _ l0_0 a0_1 t182 t183 _ ?side1 ?side2 A7.out).mono ?_); (case side1 => repeat (first | exact (Kd.C_below HR0_0.out HB.out) | (with_reducible refine Kd.C_alloc ?_ _) | (with_reducible refine Kd.C_drewN ?_ _) | (with_reducible refine Kd.C_drew ?_))); (case side2 => exact HC0_0.out); rintro e w32 ⟨rfl, hb⟩; refine ⟨_, rfl, ?_⟩; have n0_ := BE BK177 hb; have n1_ := BE BK178 hb; have n2_ := Aside0.mk (below_step (BB HB) hb); clear BK177; clear BK178; clear HB; have BK177 := n0_; have BK178 := n1_; have HB := n2_; clear n0_ n1_ n2_; (try clear hb); (try clear hb2); (try clear hk); (try clear hi)))
     have n0_ := Aside0.mk (blk_drew BK177.out)
     have n1_ := Aside0.mk (blk_drew BK178.out)
     have n2_ := Aside0.mk (below_drew1 HB.out)
     clear BK177
     clear BK178
     clear HB
     have BK177 := n0_
     have BK178 := n1_
     have HB := n2_
     clear n0_ n1_ n2_
     refine start_ (n := 5) (S := fun w' => w'.cell? ⟨gb177, 0, none⟩ = some (.slice A0_0 l0_0.length c0_0) ∧ w'.cell? ⟨gb177, 1, none⟩ = some (.int .i64 a0_1) ∧ w'.cell? ⟨gb178, 0, none⟩ = some (.int .i64 a1_0) ∧ w'.cell? ⟨gb178, 1, none⟩ = some (.int .i64 a1_1) ∧ w'.cell? ⟨gb178, 2, none⟩ = some (.int .i64 a1_2) ∧ w'.cell? ⟨gb178, 3, none⟩ = some (.int .i64 a1_3) ∧ w'.cell? ⟨gb178, 4, none⟩ = some (.int .i64 a1_4)) (ds := []) #[false, false, false, false, false] (by kernel_rfl) rfl rfl ⟨(blk_cell BK177.out 0).trans rfl, (blk_cell BK177.out 1).trans rfl, (blk_cell BK178.out 0).trans rfl, (blk_cell BK178.out 1).trans rfl, (blk_cell BK178.out 2).trans rfl, (blk_cell BK178.out 3).trans rfl, (blk_cell BK178.out 4).trans rfl⟩ (fun hHeld => ?_)
     generalize w32.drew = w33 at BK177 BK178 HB hHeld ⊢
     refine take_ (i := 0) (N := some 31) (v := ?_) (a' := ?_) #[true, false, false, false, false] rfl rfl (by kernel_rfl) (fun _ _ _ h => h) (Or.inl ⟨by rfl, ?_⟩) hHeld ?_ ?_
     rotate_left
     ·rintro w' ⟨s0, s1, s2, s3, s4, s5, s6⟩
      go_simp
      with_reducible rfl
     rotate_left
     ·simp only [Act.put, List.setIfInBounds_toArray, List.set_cons_zero, List.set_cons_succ, i64_w, i32_w]
      rfl
     refine take_ (i := 2) (N := some 33) (v := ?_) (a' := ?_) #[true, false, true, false, false] rfl rfl (by kernel_rfl) (fun _ _ _ h => h) (Or.inl ⟨by rfl, ?_⟩) hHeld ?_ ?_
     rotate_left
     ·rintro w' ⟨s0, s1, s2, s3, s4, s5, s6⟩
      go_simp
      with_reducible rfl
     rotate_left
     ·simp only [Act.put, List.setIfInBounds_toArray, List.set_cons_zero, List.set_cons_succ, i64_w, i32_w]
      rfl
     refine one_ (i := 1) (N := some 32) #[true, true, true, false, false] rfl rfl (by kernel_rfl) (by decide) (fun K hK => ?_)
     refine goes_ Tryd.func20 (by kernel_rfl) rfl #[.agg #[.slice A0_0 l0_0.length c0_0, .int .i64 a0_1]] (by rfl) rfl rfl (by (try simp only [List.map_toArray, List.map_cons, List.map_nil]); first | done | rfl | (simp only [List.length_drop, List.length_take]; rfl)) ?_
     with_reducible refine (limit_Measure.calls k _ _ l0_0 a0_1 t184 t185 t186 t187 t188 _ ?side1 ?side2 A9.out).mono ?_
     (case side1 => repeat (first | exact (Kd.C_below HR0_0.out HB.out) | (with_reducible refine Kd.C_alloc ?_ _) | (with_reducible refine Kd.C_drewN ?_ _) | (with_reducible refine Kd.C_drew ?_)))
     (case side2 => exact HC0_0.out)
     rintro e w34 ⟨rfl, hb⟩
     refine ⟨_, rfl, ?_⟩
     have n0_ := BE BK177 hb
     have n1_ := BE BK178 hb
     have n2_ := Aside0.mk (below_step (BB HB) hb)
     clear BK177
     clear BK178
     clear HB
     have BK177 := n0_
     have BK178 := n1_
     have HB := n2_
     clear n0_ n1_ n2_
     (try clear hb)
     (try clear hb2)
     (try clear hk)
     (try clear hi)
     refine hK.out _ _ ⟨(blk_cell BK177.out 0).trans rfl, (blk_cell BK177.out 1).trans rfl, (blk_cell BK178.out 0).trans rfl, (blk_cell BK178.out 1).trans rfl, (blk_cell BK178.out 2).trans rfl, (blk_cell BK178.out 3).trans rfl, (blk_cell BK178.out 4).trans rfl⟩ (fun hHeld => ?_)
     clear hK K
     refine norm_ (a' := ?_) ?_ ?_
     rotate_left
     ·show Act.put _ (some 32) _ = _
      simp only [Act.put, List.setIfInBounds_toArray, List.set_cons_zero, List.set_cons_succ, i64_w, i32_w]
      rfl
     refine one_ (i := 3) (N := some 34) #[true, true, true, true, false] rfl rfl (by kernel_rfl) (by decide) (fun K hK => ?_)
     refine goes_ Tryd.func24 (by kernel_rfl) rfl #[.agg #[.int .i64 t184, .int .i64 t185, .int .i64 t186, .int .i64 t187, .int .i64 t188], .agg #[.int .i64 a1_0, .int .i64 a1_1, .int .i64 a1_2, .int .i64 a1_3, .int .i64 a1_4]] (by rfl) rfl rfl (by (try simp only [List.map_toArray, List.map_cons, List.map_nil]); first | done | rfl | (simp only [List.length_drop, List.length_take]; rfl)) ?_
     with_reducible refine (limit_Within.calls t184 t185 t186 t187 t188 a1_0 a1_1 a1_2 a1_3 a1_4 false _ A10.out).mono ?_
     rintro e w35 ⟨rfl, hb⟩
     refine ⟨_, rfl, ?_⟩
     have n0_ := BE BK177 hb
     have n1_ := BE BK178 hb
     have n2_ := Aside0.mk (below_step (BB HB) hb)
     clear BK177
     clear BK178
     clear HB
     have BK177 := n0_
     have BK178 := n1_
     have HB := n2_
     clear n0_ n1_ n2_
     (try clear hb)
     (try clear hb2)
     (try clear hk)
     (try clear hi)
     refine hK.out _ _ ⟨(blk_cell BK177.out 0).trans rfl, (blk_cell BK177.out 1).trans rfl, (blk_cell BK178.out 0).trans rfl, (blk_cell BK178.out 1).trans rfl, (blk_cell BK178.out 2).trans rfl, (blk_cell BK178.out 3).trans rfl, (blk_cell BK178.out 4).trans rfl⟩ (fun hHeld => ?_)
     clear hK K
     refine norm_ (a' := ?_) ?_ ?_
     rotate_left
     ·show Act.put _ (some 34) _ = _
      simp only [Act.put, List.setIfInBounds_toArray, List.set_cons_zero, List.set_cons_succ, i64_w, i32_w]
      rfl
     refine pure_ (i := 4) (N := some 35) (v := ?_) (a' := ?_) #[true, true, true, true, true] rfl rfl (by kernel_rfl) (fun _ _ _ h => h) (Or.inl ⟨by rfl, ?_⟩) ?_ ?_
     rotate_left
     ·intro w'
      go_simp
      with_reducible rfl
     rotate_left
     ·simp only [Act.put, List.setIfInBounds_toArray, List.set_cons_zero, List.set_cons_succ, i64_w, i32_w]
      rfl
     refine done_ (by kernel_rfl) ?_
     try go_wp2
     go_ret2
     exact ⟨by first | rfl | (simp [errW_none, errW_some] <;> rfl) | (simp [*, errW_none, errW_some] <;> rfl), BB HB⟩
   ·rw [if_neg c8] at H
    have c8b0 : (t182 == 0) = false := beq_eq_false_iff_ne.mpr c8
    have c8b1 : (t182 != 0) = true := bne_iff_ne.mpr c8
    simp only [Option.some.injEq, Prod.mk.injEq] at H
    obtain ⟨rfl, rfl⟩ := H
    go_enter Tryd.func15, Tryd.ntmps15
    go_wp2_with (first | ((with_reducible refine gate_dst (N := 2) rfl ?_); refine box_event ?hg (N := 2) ?hd (cs := #[.slice A0_0 l0_0.length c0_0, .int .i64 a0_1]) (t := 24) ?hr ?_; (case hd => rfl); (case hg => rfl); (case hr => first | (go_simp; done) | (go_simp; rfl)); intro gb177 hg w36 hbox hb; have n0_ := Aside0.mk (below_step (BB HB) hb); have n1_ := Aside0.mk (hbox); have n2_ := Aside0.mk ((by rw [hg]; exact (below_size (BB HB)) : w.heap.size ≤ gb177)); have n3_ := Aside0.mk ((by rw [hg]; exact (below_size (BB HB)) : w.heap.size ≤ gb177)); clear HB; have HB := n0_; have BK177 := n1_; have GW177 := n2_; have GE177 := n3_; clear n0_ n1_ n2_ n3_; clear hb hbox hg) | ((with_reducible refine gate_dst (N := 3) rfl ?_); refine box_event ?hg (N := 3) ?hd (cs := #[.int .i64 a1_0, .int .i64 a1_1, .int .i64 a1_2, .int .i64 a1_3, .int .i64 a1_4]) (t := 26) ?hr ?_; (case hd => rfl); (case hg => rfl); (case hr => first | (go_simp; done) | (go_simp; rfl)); intro gb178 hg w37 hbox hb; have n0_ := BE BK177 hb; have n1_ := Aside0.mk (below_step (BB HB) hb); have n2_ := Aside0.mk (hbox); have n3_ := Aside0.mk ((by rw [hg]; exact (below_size (BB HB)) : w.heap.size ≤ gb178)); have n4_ := Aside0.mk ((by rw [hg]; exact (below_size (BB HB)) : w.heap.size ≤ gb178)); have n5_ := Aside0.mk ((by rw [hg]; exact Nat.ne_of_lt (blk_lt (g := gb177) (o := .cells #[.slice A0_0 l0_0.length c0_0, .int .i64 a0_1] 24 (0, 0)) (BL BK177)) : gb177 ≠ gb178)); have n6_ := Aside0.mk ((by rw [hg]; exact Nat.ne_of_gt (blk_lt (g := gb177) (o := .cells #[.slice A0_0 l0_0.length c0_0, .int .i64 a0_1] 24 (0, 0)) (BL BK177)) : gb178 ≠ gb177)); clear BK177; clear HB; have BK177 := n0_; have HB := n1_; have BK178 := n2_; have GW178 := n3_; have GE178 := n4_; have NB177_178 := n5_; have NB178_177 := n6_; clear n0_ n1_ n2_ n3_ n4_ n5_ n6_; clear hb hbox hg; have hnb38 := NB178_177.out; have hnc38 := NB177_178.out; have hcz39_0 : w37.cell? ⟨gb178, 0, none⟩ = some (.int .i64 a1_0) := (blk_cell BK178.out 0).trans rfl; have hcz39_1 : w37.cell? ⟨gb178, 1, none⟩ = some (.int .i64 a1_1) := (blk_cell BK178.out 1).trans rfl; have hcz39_2 : w37.cell? ⟨gb178, 2, none⟩ = some (.int .i64 a1_2) := (blk_cell BK178.out 2).trans rfl; have hcz39_3 : w37.cell? ⟨gb178, 3, none⟩ = some (.int .i64 a1_3) := (blk_cell BK178.out 3).trans rfl; have hcz39_4 : w37.cell? ⟨gb178, 4, none⟩ = some (.int .i64 a1_4) := (blk_cell BK178.out 4).trans rfl; have hfz39_0 := blk_frozen BK178.out 0; have hfz39_1 := blk_frozen BK178.out 1; have hfz39_2 := blk_frozen BK178.out 2; have hfz39_3 := blk_frozen BK178.out 3; have hfz39_4 := blk_frozen BK178.out 4) | ((with_reducible refine gate_callee (f := 22) rfl ?_); refine goesL_ (some 11) rfl rfl Tryd.func22 (by kernel_rfl) rfl #[.agg #[.int .i64 a1_0, .int .i64 a1_1, .int .i64 a1_2, .int .i64 a1_3, .int .i64 a1_4]] rfl (by (try simp only [List.map_toArray, List.map_cons, List.map_nil]); first | done | rfl | (simp only [List.length_drop, List.length_take]; rfl)) ?_; (with_reducible refine (limit_Right.calls a1_0 a1_1 a1_2 a1_3 a1_4 true _ A3.out).mono ?_); rintro e w40 ⟨rfl, hb⟩; refine ⟨_, rfl, ?_⟩; have n0_ := BE BK177 hb; have n1_ := BE BK178 hb; have n2_ := Aside0.mk (below_step (BB HB) hb); clear BK177; clear BK178; clear HB; have BK177 := n0_; have BK178 := n1_; have HB := n2_; clear n0_ n1_ n2_; (try clear hb); (try clear hb2); (try clear hk); (try clear hi); have hcz41_0 : w40.cell? ⟨gb177, 0, none⟩ = some (.slice A0_0 l0_0.length c0_0) := (blk_cell BK177.out 0).trans rfl; have hcz41_1 : w40.cell? ⟨gb177, 1, none⟩ = some (.int .i64 a0_1) := (blk_cell BK177.out 1).trans rfl; have hfz41_0 := blk_frozen BK177.out 0; have hfz41_1 := blk_frozen BK177.out 1) | ((with_reducible refine gate_callee (f := 18) rfl ?_); refine goesL_ (some 15) rfl rfl Tryd.func18 (by kernel_rfl) rfl #[.agg #[.slice A0_0 l0_0.length c0_0, .int .i64 a0_1]] rfl (by (try simp only [List.map_toArray, List.map_cons, List.map_nil]); first | done | rfl | (simp only [List.length_drop, List.length_take]; rfl)) ?_; (with_reducible refine (limit_Typed.calls k _ _ l0_0 a0_1 t180 t181 _ ?sideT ?side1 ?side2 A5.out).mono ?_); (case sideT => exact fun w_ hb_ => HTB_.out w_ (below_step (BB HB) hb_)); (case side1 => repeat (first | exact (Kd.C_below HR0_0.out HB.out) | (with_reducible refine Kd.C_alloc ?_ _) | (with_reducible refine Kd.C_drewN ?_ _) | (with_reducible refine Kd.C_drew ?_))); (case side2 => exact HC0_0.out); rintro e w42 ⟨rfl, hb⟩; refine ⟨_, rfl, ?_⟩; have n0_ := BE BK177 hb; have n1_ := BE BK178 hb; have n2_ := Aside0.mk (below_step (BB HB) hb); clear BK177; clear BK178; clear HB; have BK177 := n0_; have BK178 := n1_; have HB := n2_; clear n0_ n1_ n2_; (try clear hb); (try clear hb2); (try clear hk); (try clear hi); have hcz43_0 : w42.cell? ⟨gb177, 0, none⟩ = some (.slice A0_0 l0_0.length c0_0) := (blk_cell BK177.out 0).trans rfl; have hcz43_1 : w42.cell? ⟨gb177, 1, none⟩ = some (.int .i64 a0_1) := (blk_cell BK177.out 1).trans rfl; have hfz43_0 := blk_frozen BK177.out 0; have hfz43_1 := blk_frozen BK177.out 1) | ((with_reducible refine gate_callee (f := 40) rfl ?_); refine goesL_ (some 24) rfl rfl Tryd.func40 (by kernel_rfl) rfl #[.agg #[.slice A0_0 l0_0.length c0_0, .int .i64 a0_1]] rfl (by (try simp only [List.map_toArray, List.map_cons, List.map_nil]); first | done | rfl | (simp only [List.length_drop, List.length_take]; rfl)) ?_; (with_reducible refine (graph_Check.calls k _ _ l0_0 a0_1 t182 t183 _ ?side1 ?side2 A7.out).mono ?_); (case side1 => repeat (first | exact (Kd.C_below HR0_0.out HB.out) | (with_reducible refine Kd.C_alloc ?_ _) | (with_reducible refine Kd.C_drewN ?_ _) | (with_reducible refine Kd.C_drew ?_))); (case side2 => exact HC0_0.out); rintro e w44 ⟨rfl, hb⟩; refine ⟨_, rfl, ?_⟩; have n0_ := BE BK177 hb; have n1_ := BE BK178 hb; have n2_ := Aside0.mk (below_step (BB HB) hb); clear BK177; clear BK178; clear HB; have BK177 := n0_; have BK178 := n1_; have HB := n2_; clear n0_ n1_ n2_; (try clear hb); (try clear hb2); (try clear hk); (try clear hi)))
    go_ret2
    exact ⟨by first | rfl | (simp [errW_none, errW_some] <;> rfl) | (simp [*, errW_none, errW_some] <;> rfl), BB HB⟩
  ·rw [if_neg c6] at H
   have c6b0 : (t180 == 0) = false := beq_eq_false_iff_ne.mpr c6
   have c6b1 : (t180 != 0) = true := bne_iff_ne.mpr c6
   simp only [Option.some.injEq, Prod.mk.injEq] at H
   obtain ⟨rfl, rfl⟩ := H
   go_enter Tryd.func15, Tryd.ntmps15
   go_wp2_with (first | ((with_reducible refine gate_dst (N := 2) rfl ?_); refine box_event ?hg (N := 2) ?hd (cs := #[.slice A0_0 l0_0.length c0_0, .int .i64 a0_1]) (t := 24) ?hr ?_; (case hd => rfl); (case hg => rfl); (case hr => first | (go_simp; done) | (go_simp; rfl)); intro gb177 hg w45 hbox hb; have n0_ := Aside0.mk (below_step (BB HB) hb); have n1_ := Aside0.mk (hbox); have n2_ := Aside0.mk ((by rw [hg]; exact (below_size (BB HB)) : w.heap.size ≤ gb177)); have n3_ := Aside0.mk ((by rw [hg]; exact (below_size (BB HB)) : w.heap.size ≤ gb177)); clear HB; have HB := n0_; have BK177 := n1_; have GW177 := n2_; have GE177 := n3_; clear n0_ n1_ n2_ n3_; clear hb hbox hg) | ((with_reducible refine gate_dst (N := 3) rfl ?_); refine box_event ?hg (N := 3) ?hd (cs := #[.int .i64 a1_0, .int .i64 a1_1, .int .i64 a1_2, .int .i64 a1_3, .int .i64 a1_4]) (t := 26) ?hr ?_; (case hd => rfl); (case hg => rfl); (case hr => first | (go_simp; done) | (go_simp; rfl)); intro gb178 hg w46 hbox hb; have n0_ := BE BK177 hb; have n1_ := Aside0.mk (below_step (BB HB) hb); have n2_ := Aside0.mk (hbox); have n3_ := Aside0.mk ((by rw [hg]; exact (below_size (BB HB)) : w.heap.size ≤ gb178)); have n4_ := Aside0.mk ((by rw [hg]; exact (below_size (BB HB)) : w.heap.size ≤ gb178)); have n5_ := Aside0.mk ((by rw [hg]; exact Nat.ne_of_lt (blk_lt (g := gb177) (o := .cells #[.slice A0_0 l0_0.length c0_0, .int .i64 a0_1] 24 (0, 0)) (BL BK177)) : gb177 ≠ gb178)); have n6_ := Aside0.mk ((by rw [hg]; exact Nat.ne_of_gt (blk_lt (g := gb177) (o := .cells #[.slice A0_0 l0_0.length c0_0, .int .i64 a0_1] 24 (0, 0)) (BL BK177)) : gb178 ≠ gb177)); clear BK177; clear HB; have BK177 := n0_; have HB := n1_; have BK178 := n2_; have GW178 := n3_; have GE178 := n4_; have NB177_178 := n5_; have NB178_177 := n6_; clear n0_ n1_ n2_ n3_ n4_ n5_ n6_; clear hb hbox hg; have hnb47 := NB178_177.out; have hnc47 := NB177_178.out; have hcz48_0 : w46.cell? ⟨gb178, 0, none⟩ = some (.int .i64 a1_0) := (blk_cell BK178.out 0).trans rfl; have hcz48_1 : w46.cell? ⟨gb178, 1, none⟩ = some (.int .i64 a1_1) := (blk_cell BK178.out 1).trans rfl; have hcz48_2 : w46.cell? ⟨gb178, 2, none⟩ = some (.int .i64 a1_2) := (blk_cell BK178.out 2).trans rfl; have hcz48_3 : w46.cell? ⟨gb178, 3, none⟩ = some (.int .i64 a1_3) := (blk_cell BK178.out 3).trans rfl; have hcz48_4 : w46.cell? ⟨gb178, 4, none⟩ = some (.int .i64 a1_4) := (blk_cell BK178.out 4).trans rfl; have hfz48_0 := blk_frozen BK178.out 0; have hfz48_1 := blk_frozen BK178.out 1; have hfz48_2 := blk_frozen BK178.out 2; have hfz48_3 := blk_frozen BK178.out 3; have hfz48_4 := blk_frozen BK178.out 4) | ((with_reducible refine gate_callee (f := 22) rfl ?_); refine goesL_ (some 11) rfl rfl Tryd.func22 (by kernel_rfl) rfl #[.agg #[.int .i64 a1_0, .int .i64 a1_1, .int .i64 a1_2, .int .i64 a1_3, .int .i64 a1_4]] rfl (by (try simp only [List.map_toArray, List.map_cons, List.map_nil]); first | done | rfl | (simp only [List.length_drop, List.length_take]; rfl)) ?_; (with_reducible refine (limit_Right.calls a1_0 a1_1 a1_2 a1_3 a1_4 true _ A3.out).mono ?_); rintro e w49 ⟨rfl, hb⟩; refine ⟨_, rfl, ?_⟩; have n0_ := BE BK177 hb; have n1_ := BE BK178 hb; have n2_ := Aside0.mk (below_step (BB HB) hb); clear BK177; clear BK178; clear HB; have BK177 := n0_; have BK178 := n1_; have HB := n2_; clear n0_ n1_ n2_; (try clear hb); (try clear hb2); (try clear hk); (try clear hi); have hcz50_0 : w49.cell? ⟨gb177, 0, none⟩ = some (.slice A0_0 l0_0.length c0_0) := (blk_cell BK177.out 0).trans rfl; have hcz50_1 : w49.cell? ⟨gb177, 1, none⟩ = some (.int .i64 a0_1) := (blk_cell BK177.out 1).trans rfl; have hfz50_0 := blk_frozen BK177.out 0; have hfz50_1 := blk_frozen BK177.out 1) | ((with_reducible refine gate_callee (f := 18) rfl ?_); refine goesL_ (some 15) rfl rfl Tryd.func18 (by kernel_rfl) rfl #[.agg #[.slice A0_0 l0_0.length c0_0, .int .i64 a0_1]] rfl (by (try simp only [List.map_toArray, List.map_cons, List.map_nil]); first | done | rfl | (simp only [List.length_drop, List.length_take]; rfl)) ?_; (with_reducible refine (limit_Typed.calls k _ _ l0_0 a0_1 t180 t181 _ ?sideT ?side1 ?side2 A5.out).mono ?_); (case sideT => exact fun w_ hb_ => HTB_.out w_ (below_step (BB HB) hb_)); (case side1 => repeat (first | exact (Kd.C_below HR0_0.out HB.out) | (with_reducible refine Kd.C_alloc ?_ _) | (with_reducible refine Kd.C_drewN ?_ _) | (with_reducible refine Kd.C_drew ?_))); (case side2 => exact HC0_0.out); rintro e w51 ⟨rfl, hb⟩; refine ⟨_, rfl, ?_⟩; have n0_ := BE BK177 hb; have n1_ := BE BK178 hb; have n2_ := Aside0.mk (below_step (BB HB) hb); clear BK177; clear BK178; clear HB; have BK177 := n0_; have BK178 := n1_; have HB := n2_; clear n0_ n1_ n2_; (try clear hb); (try clear hb2); (try clear hk); (try clear hi)))
   go_ret2
   exact ⟨by first | rfl | (simp [errW_none, errW_some] <;> rfl) | (simp [*, errW_none, errW_some] <;> rfl), BB HB⟩
 ·replace c4 := Bool.eq_false_iff.mpr c4
  subst c4
  have H1 : (some (1, (-1))) = some (r1, r2) := by rw [if_neg (show ¬ (false = true) by decide)] at H; exact H
  clear H
  have H := H1
  clear H1
  simp only [Option.some.injEq, Prod.mk.injEq] at H
  obtain ⟨rfl, rfl⟩ := H
  go_enter Tryd.func15, Tryd.ntmps15
  go_wp2_with (first | ((with_reducible refine gate_dst (N := 2) rfl ?_); refine box_event ?hg (N := 2) ?hd (cs := #[.slice A0_0 l0_0.length c0_0, .int .i64 a0_1]) (t := 24) ?hr ?_; (case hd => rfl); (case hg => rfl); (case hr => first | (go_simp; done) | (go_simp; rfl)); intro gb177 hg w52 hbox hb; have n0_ := Aside0.mk (below_step (BB HB) hb); have n1_ := Aside0.mk (hbox); have n2_ := Aside0.mk ((by rw [hg]; exact (below_size (BB HB)) : w.heap.size ≤ gb177)); have n3_ := Aside0.mk ((by rw [hg]; exact (below_size (BB HB)) : w.heap.size ≤ gb177)); clear HB; have HB := n0_; have BK177 := n1_; have GW177 := n2_; have GE177 := n3_; clear n0_ n1_ n2_ n3_; clear hb hbox hg) | ((with_reducible refine gate_dst (N := 3) rfl ?_); refine box_event ?hg (N := 3) ?hd (cs := #[.int .i64 a1_0, .int .i64 a1_1, .int .i64 a1_2, .int .i64 a1_3, .int .i64 a1_4]) (t := 26) ?hr ?_; (case hd => rfl); (case hg => rfl); (case hr => first | (go_simp; done) | (go_simp; rfl)); intro gb178 hg w53 hbox hb; have n0_ := BE BK177 hb; have n1_ := Aside0.mk (below_step (BB HB) hb); have n2_ := Aside0.mk (hbox); have n3_ := Aside0.mk ((by rw [hg]; exact (below_size (BB HB)) : w.heap.size ≤ gb178)); have n4_ := Aside0.mk ((by rw [hg]; exact (below_size (BB HB)) : w.heap.size ≤ gb178)); have n5_ := Aside0.mk ((by rw [hg]; exact Nat.ne_of_lt (blk_lt (g := gb177) (o := .cells #[.slice A0_0 l0_0.length c0_0, .int .i64 a0_1] 24 (0, 0)) (BL BK177)) : gb177 ≠ gb178)); have n6_ := Aside0.mk ((by rw [hg]; exact Nat.ne_of_gt (blk_lt (g := gb177) (o := .cells #[.slice A0_0 l0_0.length c0_0, .int .i64 a0_1] 24 (0, 0)) (BL BK177)) : gb178 ≠ gb177)); clear BK177; clear HB; have BK177 := n0_; have HB := n1_; have BK178 := n2_; have GW178 := n3_; have GE178 := n4_; have NB177_178 := n5_; have NB178_177 := n6_; clear n0_ n1_ n2_ n3_ n4_ n5_ n6_; clear hb hbox hg; have hnb54 := NB178_177.out; have hnc54 := NB177_178.out; have hcz55_0 : w53.cell? ⟨gb178, 0, none⟩ = some (.int .i64 a1_0) := (blk_cell BK178.out 0).trans rfl; have hcz55_1 : w53.cell? ⟨gb178, 1, none⟩ = some (.int .i64 a1_1) := (blk_cell BK178.out 1).trans rfl; have hcz55_2 : w53.cell? ⟨gb178, 2, none⟩ = some (.int .i64 a1_2) := (blk_cell BK178.out 2).trans rfl; have hcz55_3 : w53.cell? ⟨gb178, 3, none⟩ = some (.int .i64 a1_3) := (blk_cell BK178.out 3).trans rfl; have hcz55_4 : w53.cell? ⟨gb178, 4, none⟩ = some (.int .i64 a1_4) := (blk_cell BK178.out 4).trans rfl; have hfz55_0 := blk_frozen BK178.out 0; have hfz55_1 := blk_frozen BK178.out 1; have hfz55_2 := blk_frozen BK178.out 2; have hfz55_3 := blk_frozen BK178.out 3; have hfz55_4 := blk_frozen BK178.out 4) | ((with_reducible refine gate_callee (f := 22) rfl ?_); refine goesL_ (some 11) rfl rfl Tryd.func22 (by kernel_rfl) rfl #[.agg #[.int .i64 a1_0, .int .i64 a1_1, .int .i64 a1_2, .int .i64 a1_3, .int .i64 a1_4]] rfl (by (try simp only [List.map_toArray, List.map_cons, List.map_nil]); first | done | rfl | (simp only [List.length_drop, List.length_take]; rfl)) ?_; (with_reducible refine (limit_Right.calls a1_0 a1_1 a1_2 a1_3 a1_4 false _ A3.out).mono ?_); rintro e w56 ⟨rfl, hb⟩; refine ⟨_, rfl, ?_⟩; have n0_ := BE BK177 hb; have n1_ := BE BK178 hb; have n2_ := Aside0.mk (below_step (BB HB) hb); clear BK177; clear BK178; clear HB; have BK177 := n0_; have BK178 := n1_; have HB := n2_; clear n0_ n1_ n2_; (try clear hb); (try clear hb2); (try clear hk); (try clear hi)))
  go_ret2
  exact ⟨by first | rfl | (simp [errW_none, errW_some] <;> rfl) | (simp [*, errW_none, errW_some] <;> rfl), BB HB⟩

/-! ### dioramalaw12_awake: function 13 -/
def dioramalaw12_awake.f (k : Nat)  : Option (Bool) := (some (([(⟨3, (([1, 2, 3] : List Int)), (([(⟨#[119, 111, 111, 100]⟩ : ByteArray)] : List ByteArray)), ([] : List Int)⟩ : S53)] : List (S53)) : List (S53))).bind fun y196 => ((limit_Valid.f k y196 0 0 1 0 1 4).bind fun bt201 => ((limit_Valid.f k y196 0 0 1 0 1 3).bind fun bt203 => ((limit_Valid.f k y196 0 0 1 0 1 (-1)).bind fun bt205 => (if bt201.1 = 0 then (if bt201.2 = 0 then (if bt203.1 = 19 then (if bt203.2 = (-1) then (if bt205.1 = 1 then (if bt205.2 = (-1) then ((limit_Measure.f k y196 0).bind fun bt207 => (if (bt207.1 == 0 && (bt207.2.1 == 1 && (bt207.2.2.1 == 0 && (bt207.2.2.2.1 == 1 && (bt207.2.2.2.2 == 4))))) = true then ((limit_Right.f 0 1 0 1 (-1)).bind fun t212 => (if t212 = true then (none) else ((limit_Right.f 0 0 0 0 0).bind fun t213 => (some t213)))) else (none))) else (none)) else (none)) else (none)) else (none)) else (none)) else (none)))))
theorem dioramalaw12_awake.mono : ∀ k, LeO (dioramalaw12_awake.f k ) (dioramalaw12_awake.f (k + 1) ) := by
 intro  k
 unfold dioramalaw12_awake.f
 repeat' first
   | (with_reducible exact limit_Measure.mono _ _ _)
   | (with_reducible exact limit_Valid.mono _ _ _ _ _ _ _ _)
   | (with_reducible exact LeO.refl _)
   | (with_reducible exact LeO.none _)
   | (with_reducible refine LeO.ite ?_ ?_)
   | (with_reducible refine LeO.bind ?_ (fun _ => ?_))
   | exact limit_Measure.mono _ _ _
   | exact limit_Valid.mono _ _ _ _ _ _ _ _
   | exact LeO.none _
   | refine LeO.ite ?_ ?_
   | refine LeO.bind ?_ (fun _ => ?_)
set_option maxHeartbeats 8000000 in
set_option maxRecDepth 100000 in
theorem dioramalaw12_awake.calls (k : Nat)  (r : Bool) (w : World) (ht_ : ∀ w', Below w.heap.size w w' → Go.Lib.Utf8Tabs 0 1 w') (h : dioramalaw12_awake.f k  = some r) :
  Calls Tryd.prog 13 #[] w fun e w' => e = .returned (.bool r) ∧ Below w.heap.size w w' := by
 have HTB_ := Aside0.mk ht_
 clear ht_
 have hu53 := Tryd.underlying53
 have hu24 := Tryd.underlying24
 have hu26 := Tryd.underlying26
 have HB := Aside0.mk (Below.refl w.heap.size w)
 have H : ((some (([(⟨3, (([1, 2, 3] : List Int)), (([(⟨#[119, 111, 111, 100]⟩ : ByteArray)] : List ByteArray)), ([] : List Int)⟩ : S53)] : List (S53)) : List (S53))).bind fun y196 => ((limit_Valid.f k y196 0 0 1 0 1 4).bind fun bt201 => ((limit_Valid.f k y196 0 0 1 0 1 3).bind fun bt203 => ((limit_Valid.f k y196 0 0 1 0 1 (-1)).bind fun bt205 => (if bt201.1 = 0 then (if bt201.2 = 0 then (if bt203.1 = 19 then (if bt203.2 = (-1) then (if bt205.1 = 1 then (if bt205.2 = (-1) then ((limit_Measure.f k y196 0).bind fun bt207 => (if (bt207.1 == 0 && (bt207.2.1 == 1 && (bt207.2.2.1 == 0 && (bt207.2.2.2.1 == 1 && (bt207.2.2.2.2 == 4))))) = true then ((limit_Right.f 0 1 0 1 (-1)).bind fun t212 => (if t212 = true then (none) else ((limit_Right.f 0 0 0 0 0).bind fun t213 => (some t213)))) else (none))) else (none)) else (none)) else (none)) else (none)) else (none)) else (none)))))) = some r := h
 clear h
 obtain ⟨y190, hy190⟩ : ∃ y_ : List Int, y_ = (([1, 2, 3] : List Int)) := ⟨_, rfl⟩
 replace H : ((some (([(⟨3, y190, (([(⟨#[119, 111, 111, 100]⟩ : ByteArray)] : List ByteArray)), ([] : List Int)⟩ : S53)] : List (S53)) : List (S53))).bind fun y196 => ((limit_Valid.f k y196 0 0 1 0 1 4).bind fun bt201 => ((limit_Valid.f k y196 0 0 1 0 1 3).bind fun bt203 => ((limit_Valid.f k y196 0 0 1 0 1 (-1)).bind fun bt205 => (if bt201.1 = 0 then (if bt201.2 = 0 then (if bt203.1 = 19 then (if bt203.2 = (-1) then (if bt205.1 = 1 then (if bt205.2 = (-1) then ((limit_Measure.f k y196 0).bind fun bt207 => (if (bt207.1 == 0 && (bt207.2.1 == 1 && (bt207.2.2.1 == 0 && (bt207.2.2.2.1 == 1 && (bt207.2.2.2.2 == 4))))) = true then ((limit_Right.f 0 1 0 1 (-1)).bind fun t212 => (if t212 = true then (none) else ((limit_Right.f 0 0 0 0 0).bind fun t213 => (some t213)))) else (none))) else (none)) else (none)) else (none)) else (none)) else (none)) else (none)))))) = some r := by first | (rw [hy190]; with_reducible exact H) | (have H2_ := (Option.bind_some _ _).symm.trans H; rw [hy190]; with_reducible exact H2_) | (have H2_ := (Option.bind_some _ _).symm.trans H; with_reducible exact H2_) | with_reducible exact H | (rw [hy190]; exact H) | exact H
 have Ny190 := Aside0.mk hy190
 clear hy190
 obtain ⟨y193, hy193⟩ : ∃ y_ : List ByteArray, y_ = (([(⟨#[119, 111, 111, 100]⟩ : ByteArray)] : List ByteArray)) := ⟨_, rfl⟩
 replace H : ((some (([(⟨3, y190, y193, ([] : List Int)⟩ : S53)] : List (S53)) : List (S53))).bind fun y196 => ((limit_Valid.f k y196 0 0 1 0 1 4).bind fun bt201 => ((limit_Valid.f k y196 0 0 1 0 1 3).bind fun bt203 => ((limit_Valid.f k y196 0 0 1 0 1 (-1)).bind fun bt205 => (if bt201.1 = 0 then (if bt201.2 = 0 then (if bt203.1 = 19 then (if bt203.2 = (-1) then (if bt205.1 = 1 then (if bt205.2 = (-1) then ((limit_Measure.f k y196 0).bind fun bt207 => (if (bt207.1 == 0 && (bt207.2.1 == 1 && (bt207.2.2.1 == 0 && (bt207.2.2.2.1 == 1 && (bt207.2.2.2.2 == 4))))) = true then ((limit_Right.f 0 1 0 1 (-1)).bind fun t212 => (if t212 = true then (none) else ((limit_Right.f 0 0 0 0 0).bind fun t213 => (some t213)))) else (none))) else (none)) else (none)) else (none)) else (none)) else (none)) else (none)))))) = some r := by first | (rw [hy193]; with_reducible exact H) | (have H2_ := (Option.bind_some _ _).symm.trans H; rw [hy193]; with_reducible exact H2_) | (have H2_ := (Option.bind_some _ _).symm.trans H; with_reducible exact H2_) | with_reducible exact H | (rw [hy193]; exact H) | exact H
 have Ny193 := Aside0.mk hy193
 clear hy193
 obtain ⟨y196, hy196⟩ : ∃ y_ : List (S53), y_ = (([(⟨3, y190, y193, ([] : List Int)⟩ : S53)] : List (S53))) := ⟨_, rfl⟩
 replace H : ((limit_Valid.f k y196 0 0 1 0 1 4).bind fun bt201 => ((limit_Valid.f k y196 0 0 1 0 1 3).bind fun bt203 => ((limit_Valid.f k y196 0 0 1 0 1 (-1)).bind fun bt205 => (if bt201.1 = 0 then (if bt201.2 = 0 then (if bt203.1 = 19 then (if bt203.2 = (-1) then (if bt205.1 = 1 then (if bt205.2 = (-1) then ((limit_Measure.f k y196 0).bind fun bt207 => (if (bt207.1 == 0 && (bt207.2.1 == 1 && (bt207.2.2.1 == 0 && (bt207.2.2.2.1 == 1 && (bt207.2.2.2.2 == 4))))) = true then ((limit_Right.f 0 1 0 1 (-1)).bind fun t212 => (if t212 = true then (none) else ((limit_Right.f 0 0 0 0 0).bind fun t213 => (some t213)))) else (none))) else (none)) else (none)) else (none)) else (none)) else (none)) else (none))))) = some r := by first | (rw [hy196]; with_reducible exact H) | (have H2_ := (Option.bind_some _ _).symm.trans H; rw [hy196]; with_reducible exact H2_) | (have H2_ := (Option.bind_some _ _).symm.trans H; with_reducible exact H2_) | with_reducible exact H | (rw [hy196]; exact H) | exact H
 have Ny196 := Aside0.mk hy196
 clear hy196
 replace H := Option.bind_eq_some_iff.mp H
 obtain ⟨⟨t201, t202⟩, A10, H⟩ := H
 replace H : ((limit_Valid.f k y196 0 0 1 0 1 3).bind fun bt203 => ((limit_Valid.f k y196 0 0 1 0 1 (-1)).bind fun bt205 => (if t201 = 0 then (if t202 = 0 then (if bt203.1 = 19 then (if bt203.2 = (-1) then (if bt205.1 = 1 then (if bt205.2 = (-1) then ((limit_Measure.f k y196 0).bind fun bt207 => (if (bt207.1 == 0 && (bt207.2.1 == 1 && (bt207.2.2.1 == 0 && (bt207.2.2.2.1 == 1 && (bt207.2.2.2.2 == 4))))) = true then ((limit_Right.f 0 1 0 1 (-1)).bind fun t212 => (if t212 = true then (none) else ((limit_Right.f 0 0 0 0 0).bind fun t213 => (some t213)))) else (none))) else (none)) else (none)) else (none)) else (none)) else (none)) else (none)))) = some r := H
 have A1 := Aside0.mk A10
 clear A10
 replace H := Option.bind_eq_some_iff.mp H
 obtain ⟨⟨t203, t204⟩, A20, H⟩ := H
 replace H : ((limit_Valid.f k y196 0 0 1 0 1 (-1)).bind fun bt205 => (if t201 = 0 then (if t202 = 0 then (if t203 = 19 then (if t204 = (-1) then (if bt205.1 = 1 then (if bt205.2 = (-1) then ((limit_Measure.f k y196 0).bind fun bt207 => (if (bt207.1 == 0 && (bt207.2.1 == 1 && (bt207.2.2.1 == 0 && (bt207.2.2.2.1 == 1 && (bt207.2.2.2.2 == 4))))) = true then ((limit_Right.f 0 1 0 1 (-1)).bind fun t212 => (if t212 = true then (none) else ((limit_Right.f 0 0 0 0 0).bind fun t213 => (some t213)))) else (none))) else (none)) else (none)) else (none)) else (none)) else (none)) else (none))) = some r := H
 have A2 := Aside0.mk A20
 clear A20
 replace H := Option.bind_eq_some_iff.mp H
 obtain ⟨⟨t205, t206⟩, A30, H⟩ := H
 replace H : (if t201 = 0 then (if t202 = 0 then (if t203 = 19 then (if t204 = (-1) then (if t205 = 1 then (if t206 = (-1) then ((limit_Measure.f k y196 0).bind fun bt207 => (if (bt207.1 == 0 && (bt207.2.1 == 1 && (bt207.2.2.1 == 0 && (bt207.2.2.2.1 == 1 && (bt207.2.2.2.2 == 4))))) = true then ((limit_Right.f 0 1 0 1 (-1)).bind fun t212 => (if t212 = true then (none) else ((limit_Right.f 0 0 0 0 0).bind fun t213 => (some t213)))) else (none))) else (none)) else (none)) else (none)) else (none)) else (none)) else (none)) = some r := H
 have A3 := Aside0.mk A30
 clear A30
 by_cases c4 : t201 = 0
 ·rw [if_pos c4] at H
  have c4b0 : (t201 == 0) = true := beq_iff_eq.mpr c4
  have c4b1 : (t201 != 0) = false := bne_eq_false_iff_eq.mpr c4
  clear c4
  by_cases c5 : t202 = 0
  ·rw [if_pos c5] at H
   have c5b0 : (t202 == 0) = true := beq_iff_eq.mpr c5
   have c5b1 : (t202 != 0) = false := bne_eq_false_iff_eq.mpr c5
   clear c5
   by_cases c6 : t203 = 19
   ·rw [if_pos c6] at H
    have c6b0 : (t203 == 19) = true := beq_iff_eq.mpr c6
    have c6b1 : (t203 != 19) = false := bne_eq_false_iff_eq.mpr c6
    clear c6
    by_cases c7 : t204 = (-1)
    ·rw [if_pos c7] at H
     have c7b0 : (t204 == (-1)) = true := beq_iff_eq.mpr c7
     have c7b1 : (t204 != (-1)) = false := bne_eq_false_iff_eq.mpr c7
     clear c7
     by_cases c8 : t205 = 1
     ·rw [if_pos c8] at H
      have c8b0 : (t205 == 1) = true := beq_iff_eq.mpr c8
      have c8b1 : (t205 != 1) = false := bne_eq_false_iff_eq.mpr c8
      clear c8
      by_cases c9 : t206 = (-1)
      ·rw [if_pos c9] at H
       have c9b0 : (t206 == (-1)) = true := beq_iff_eq.mpr c9
       have c9b1 : (t206 != (-1)) = false := bne_eq_false_iff_eq.mpr c9
       clear c9
       replace H := Option.bind_eq_some_iff.mp H
       obtain ⟨⟨t207, t208, t209, t210, t211⟩, A100, H⟩ := H
       replace H : (if (t207 == 0 && (t208 == 1 && (t209 == 0 && (t210 == 1 && (t211 == 4))))) = true then ((limit_Right.f 0 1 0 1 (-1)).bind fun t212 => (if t212 = true then (none) else ((limit_Right.f 0 0 0 0 0).bind fun t213 => (some t213)))) else (none)) = some r := H
       have A10 := Aside0.mk A100
       clear A100
       by_cases c11 : (t207 == 0 && (t208 == 1 && (t209 == 0 && (t210 == 1 && (t211 == 4))))) = true
       ·rw [if_pos c11] at H
        have c11b0 : (t207 == 0 && (t208 == 1 && (t209 == 0 && (t210 == 1 && (t211 == 4))))) = true := c11
        (try (have c11b1 : decide (t207 = 0 && (t208 == 1 && (t209 == 0 && (t210 == 1 && (t211 == 4))))) = true := by simpa using c11))
        (try (have c11b2 : (t207 == 0 && (t208 == 1 && (t209 == 0 && (t210 == 1 && (t211 == 4))))) = true := by simpa using c11))
        clear c11
        replace H := Option.bind_eq_some_iff.mp H
        obtain ⟨t212, A120, H⟩ := H
        replace H : (if t212 = true then (none) else ((limit_Right.f 0 0 0 0 0).bind fun t213 => (some t213))) = some r := H
        have A12 := Aside0.mk A120
        clear A120
        by_cases c13 : t212 = true
        ·subst c13
         have H1 : (none) = some r := by rw [if_pos rfl] at H; exact H
         clear H
         have H := H1
         clear H1
         exact absurd H (by simp)
        ·replace c13 := Bool.eq_false_iff.mpr c13
         subst c13
         have H1 : ((limit_Right.f 0 0 0 0 0).bind fun t213 => (some t213)) = some r := by rw [if_neg (show ¬ (false = true) by decide)] at H; exact H
         clear H
         have H := H1
         clear H1
         replace H := Option.bind_eq_some_iff.mp H
         obtain ⟨t213, A140, H⟩ := H
         replace H : (some t213) = some r := H
         have A14 := Aside0.mk A140
         clear A140
         obtain rfl := Option.some.inj H
         go_enter Tryd.func13, Tryd.ntmps13
         go_wp2_with (first | ((with_reducible refine gate_dst (N := 9) rfl ?_); refine Kd.R_lit (Kd.int .i64) _ 2 ?hg (N := 9) ?hd (xs := ([1, 2, 3] : List Int)) (inner := [.int .i64 1, .int .i64 2, .int .i64 3]) (ok := fun _ => True) (okp := fun _ => True) ?hr ?hp (fun _ hk => hk) trivial (Below.refl _ _) (Nat.le_refl _) (by simp) ?_; (case hd => rfl); (case hg => rfl); (case hr => first | (go_simp; done) | (go_simp; rfl)); (case hp => exact (Reps.one (show Kd.M (Kd.int .i64) _ _ _ 1 [.int .i64 1] from rfl) (Reps.one (show Kd.M (Kd.int .i64) _ _ _ 2 [.int .i64 2] from rfl) (Reps.one (show Kd.M (Kd.int .i64) _ _ _ 3 [.int .i64 3] from rfl) (Reps.none _ _))))); intro v191 w15 ho16 hb hg_ hnew_; clear hg_ hnew_; (first | rw [← Ny190.out] at ho16 | (simp only [Int.reduceToNat] at ho16; rw [← Ny190.out] at ho16)); have n0_ := Aside0.mk (Kd.R_lower ho16 (below_size (BB HB))); have n1_ := Aside0.mk (below_step (BB HB) hb); clear HB; have HO192 := n0_; have HB := n1_; clear n0_ n1_; clear hb ho16) | ((with_reducible refine gate_dst (N := 10) rfl ?_); refine Kd.R_lit Kd.string _ 9 ?hg (N := 10) ?hd (xs := ([(⟨#[119, 111, 111, 100]⟩ : ByteArray)] : List ByteArray)) (inner := [.string (⟨#[119, 111, 111, 100]⟩ : ByteArray)]) (ok := fun _ => True) (okp := fun _ => True) ?hr ?hp (fun _ hk => hk) trivial (Below.refl _ _) (Nat.le_refl _) (by simp) ?_; (case hd => rfl); (case hg => rfl); (case hr => first | (go_simp; done) | (go_simp; rfl)); (case hp => exact (Reps.one (show Kd.M Kd.string _ _ _ (⟨#[119, 111, 111, 100]⟩ : ByteArray) [.string (⟨#[119, 111, 111, 100]⟩ : ByteArray)] from rfl) (Reps.none _ _))); intro v194 w17 ho18 hb hg_ hnew_; clear hg_ hnew_; (first | rw [← Ny193.out] at ho18 | (simp only [Int.reduceToNat] at ho18; rw [← Ny193.out] at ho18)); have n0_ := Aside0.mk (Kd.R_below (RL HO192) hb); have n1_ := Aside0.mk (Kd.R_lower ho18 (below_size (BB HB))); have n2_ := Aside0.mk (below_step (BB HB) hb); clear HO192; clear HB; have HO192 := n0_; have HO195 := n1_; have HB := n2_; clear n0_ n1_ n2_; clear hb ho18; obtain ⟨Ao19, co19, eo19⟩ := Kd.R_slice HO195.out; subst eo19; obtain ⟨Ao20, co20, eo20⟩ := Kd.R_slice HO192.out; subst eo20) | ((with_reducible refine gate_dst (N := 12) rfl ?_); refine Kd.N_lit k53 _ 53 ?hg (N' := 12) ?hd (xs := ([(⟨3, y190, y193, ([] : List Int)⟩ : S53)] : List (S53))) (inner := [.int .i64 3, .slice Ao20 y190.length co20, .slice Ao19 y193.length co19, .slice none 0 0]) (ok := (fun _ => True)) (okp := (fun _ => True)) ?hr ?hp (fun _ hk => hk) ((show ∀ k_, w17.heap.size ≤ k_ → (fun _ => True) k_ from fun k_ hk => trivial) _ (Nat.le_refl _)) (Below.refl _ _) (Nat.le_refl _) (by simp) ?_; (case hd => rfl); (case hg => rfl); (case hr => first | (go_simp; done) | (go_simp; rfl)); (case hp => exact (Reps.c4 (show Kd.FK k53 _ _ (⟨3, y190, y193, ([] : List Int)⟩ : S53) [.int .i64 3, .slice Ao20 y190.length co20, .slice Ao19 y193.length co19, .slice none 0 0] from (k53_mkF _ _ (⟨3, y190, y193, ([] : List Int)⟩ : S53) (Kd.R_reads' (Kd.R_mono (ok' := (fun _ => True)) (HO192.out) (fun k_ hk => trivial))).2.1 (Kd.R_F (Kd.R_mono (ok' := (fun _ => True)) (HO192.out) (fun k_ hk => trivial))) (Kd.R_reads' (Kd.R_mono (ok' := (fun _ => True)) (HO195.out) (fun k_ hk => trivial))).2.1 (Kd.R_F (Kd.R_mono (ok' := (fun _ => True)) (HO195.out) (fun k_ hk => trivial))) (Nat.le_refl _) (Kd.F_nil _ _ _))) (Reps.none _ _))); intro v197 w21 ho22 hb hg_ hnew_; clear hg_ hnew_; (first | rw [← Ny196.out] at ho22 | (simp only [Int.reduceToNat] at ho22; rw [← Ny196.out] at ho22)); have n0_ := Aside0.mk (Kd.N_lower ho22 (below_size (BB HB))); have n1_ := Aside0.mk (below_step (BB HB) hb); clear HB; clear HO192; clear HO195; have HO198 := n0_; have HB := n1_; clear n0_ n1_; clear hb ho22; obtain ⟨Ao23, co23, eo23⟩ := Kd.N_slice HO198.out; subst eo23) | ((with_reducible refine gate_dst (N := 1) rfl ?_); refine box_event ?hg (N := 1) ?hd (cs := #[.slice none 0 0, .int .i64 0]) (t := 24) ?hr ?_; (case hd => rfl); (case hg => rfl); (case hr => first | (go_simp; done) | (go_simp; rfl)); intro gb199 hg w24 hbox hb; have n0_ := Aside0.mk (Kd.N_below (Kd.N_elderB (by (with_reducible repeat (first | apply Kd.N_alloc | apply Kd.N_drewN | apply Kd.N_drew)); exact HO198.out) gb199 (Nat.le_of_eq hg.symm)) hb); have n1_ := Aside0.mk (below_step (BB HB) hb); have n2_ := Aside0.mk (hbox); have n3_ := Aside0.mk ((by rw [hg]; exact (below_size (BB HB)) : w.heap.size ≤ gb199)); have n4_ := Aside0.mk ((by rw [hg]; exact (below_size (BB HB)) : w.heap.size ≤ gb199)); clear HO198; clear HB; have HO198 := n0_; have HB := n1_; have BK199 := n2_; have GW199 := n3_; have GE199 := n4_; clear n0_ n1_ n2_ n3_ n4_; clear hb hbox hg; have hcz25_0 : w24.cell? ⟨gb199, 0, none⟩ = some (.slice none 0 0) := (blk_cell BK199.out 0).trans rfl; have hcz25_1 : w24.cell? ⟨gb199, 1, none⟩ = some (.int .i64 0) := (blk_cell BK199.out 1).trans rfl; have hfz25_0 := blk_frozen BK199.out 0; have hfz25_1 := blk_frozen BK199.out 1) | ((with_reducible refine gate_dst (N := 2) rfl ?_); refine box_event ?hg (N := 2) ?hd (cs := #[.int .i64 0, .int .i64 0, .int .i64 0, .int .i64 0, .int .i64 0]) (t := 26) ?hr ?_; (case hd => rfl); (case hg => rfl); (case hr => first | (go_simp; done) | (go_simp; rfl)); intro gb200 hg w26 hbox hb; have n0_ := Aside0.mk (Kd.N_below (Kd.N_elderB (by (with_reducible repeat (first | apply Kd.N_alloc | apply Kd.N_drewN | apply Kd.N_drew)); exact (Kd.N_mono (Kd.N_far (p := ⟨gb199, 1, none⟩) (Kd.N_far (p := ⟨gb199, 0, none⟩) (Kd.N_mono HO198.out (fun k_ hk => (⟨hk, hk.2⟩ : _ ∧ k_ ≠ gb199))) (fun _ hk => hk.2) (.slice Ao23 y196.length co23)) (fun _ hk => hk.2) (.int .i64 0)) (fun _ h_ => h_.1))) gb200 (Nat.le_of_eq hg.symm)) hb); have n1_ := Aside0.mk (blk_below (g := gb199) (o := .cells #[.slice Ao23 y196.length co23, .int .i64 0] 24 (0, 0)) (by refine blk_put (cs := #[.slice Ao23 y196.length co23, .int .i64 0]) ?_ 1 _ rfl; refine blk_put (cs := #[.slice none 0 0, .int .i64 0]) ?_ 0 _ rfl; (with_reducible repeat (first | refine blk_drewN ?_ _ | refine blk_drew ?_ | refine blk_alloc ?_ _)); exact BK199.out) hb); have n2_ := Aside0.mk (below_step (BB HB) hb); have n3_ := Aside0.mk (hbox); have n4_ := Aside0.mk ((by rw [hg]; exact (below_size (BB HB)) : w.heap.size ≤ gb200)); have n5_ := Aside0.mk ((by rw [hg]; exact (below_size (BB HB)) : w.heap.size ≤ gb200)); have n6_ := Aside0.mk ((by rw [hg]; exact Nat.ne_of_lt (blk_lt (g := gb199) (o := .cells #[.slice Ao23 y196.length co23, .int .i64 0] 24 (0, 0)) (by refine blk_put (cs := #[.slice Ao23 y196.length co23, .int .i64 0]) ?_ 1 _ rfl; refine blk_put (cs := #[.slice none 0 0, .int .i64 0]) ?_ 0 _ rfl; (with_reducible repeat (first | refine blk_drewN ?_ _ | refine blk_drew ?_ | refine blk_alloc ?_ _)); exact BK199.out)) : gb199 ≠ gb200)); have n7_ := Aside0.mk ((by rw [hg]; exact Nat.ne_of_gt (blk_lt (g := gb199) (o := .cells #[.slice Ao23 y196.length co23, .int .i64 0] 24 (0, 0)) (by refine blk_put (cs := #[.slice Ao23 y196.length co23, .int .i64 0]) ?_ 1 _ rfl; refine blk_put (cs := #[.slice none 0 0, .int .i64 0]) ?_ 0 _ rfl; (with_reducible repeat (first | refine blk_drewN ?_ _ | refine blk_drew ?_ | refine blk_alloc ?_ _)); exact BK199.out)) : gb200 ≠ gb199)); clear HO198; clear BK199; clear HB; have HO198 := n0_; have BK199 := n1_; have HB := n2_; have BK200 := n3_; have GW200 := n4_; have GE200 := n5_; have NB199_200 := n6_; have NB200_199 := n7_; clear n0_ n1_ n2_ n3_ n4_ n5_ n6_ n7_; clear hb hbox hg; have hnb27 := NB200_199.out; have hnc27 := NB199_200.out; have hcz28_0 : w26.cell? ⟨gb200, 0, none⟩ = some (.int .i64 0) := (blk_cell BK200.out 0).trans rfl; have hcz28_1 : w26.cell? ⟨gb200, 1, none⟩ = some (.int .i64 0) := (blk_cell BK200.out 1).trans rfl; have hcz28_2 : w26.cell? ⟨gb200, 2, none⟩ = some (.int .i64 0) := (blk_cell BK200.out 2).trans rfl; have hcz28_3 : w26.cell? ⟨gb200, 3, none⟩ = some (.int .i64 0) := (blk_cell BK200.out 3).trans rfl; have hcz28_4 : w26.cell? ⟨gb200, 4, none⟩ = some (.int .i64 0) := (blk_cell BK200.out 4).trans rfl; have hfz28_0 := blk_frozen BK200.out 0; have hfz28_1 := blk_frozen BK200.out 1; have hfz28_2 := blk_frozen BK200.out 2; have hfz28_3 := blk_frozen BK200.out 3; have hfz28_4 := blk_frozen BK200.out 4; have hcz29_0 : w26.cell? ⟨gb199, 0, none⟩ = some (.slice Ao23 y196.length co23) := (blk_cell BK199.out 0).trans rfl; have hcz29_1 : w26.cell? ⟨gb199, 1, none⟩ = some (.int .i64 0) := (blk_cell BK199.out 1).trans rfl; have hfz29_0 := blk_frozen BK199.out 0; have hfz29_1 := blk_frozen BK199.out 1) | ((with_reducible refine gate_callee (f := 15) rfl ?_); refine goesL_ (some 18) rfl rfl Tryd.func15 (by kernel_rfl) rfl #[.agg #[.slice Ao23 y196.length co23, .int .i64 0], .agg #[.int .i64 0, .int .i64 1, .int .i64 0, .int .i64 1, .int .i64 4]] rfl (by (try simp only [List.map_toArray, List.map_cons, List.map_nil]); first | done | rfl | (simp only [List.length_drop, List.length_take]; rfl)) ?_; (with_reducible refine (limit_Valid.calls k _ _ y196 0 0 1 0 1 4 t201 t202 _ ?sideT ?side1 ?side2 A1.out).mono ?_); (case sideT => exact fun w_ hb_ => HTB_.out w_ (below_step (BB HB) hb_)); (case side1 => refine (Kd.N_reads' (e := 53) (base := w.heap.size) (ok := fun k_ => ((True ∧ k_ ≠ gb199) ∧ k_ ≠ gb200)) (n := y196.length) (c := co23) ?_).2.2; exact (by (with_reducible repeat (first | apply Kd.N_alloc | apply Kd.N_drewN | apply Kd.N_drew)); exact (Kd.N_mono (Kd.N_far (p := ⟨gb200, 4, none⟩) (Kd.N_far (p := ⟨gb200, 3, none⟩) (Kd.N_far (p := ⟨gb200, 2, none⟩) (Kd.N_far (p := ⟨gb200, 1, none⟩) (Kd.N_far (p := ⟨gb200, 0, none⟩) (Kd.N_mono HO198.out (fun k_ hk => (⟨hk, hk.2⟩ : _ ∧ k_ ≠ gb200))) (fun _ hk => hk.2) (.int .i64 0)) (fun _ hk => hk.2) (.int .i64 1)) (fun _ hk => hk.2) (.int .i64 0)) (fun _ hk => hk.2) (.int .i64 1)) (fun _ hk => hk.2) (.int .i64 4)) (fun _ h_ => h_.1)))); (case side2 => exact (Kd.N_reads' HO198.out).2.1); rintro e w30 ⟨rfl, hb⟩; refine ⟨_, rfl, ?_⟩; have n0_ := Aside0.mk (Kd.N_below (by (with_reducible repeat (first | apply Kd.N_alloc | apply Kd.N_drewN | apply Kd.N_drew)); exact (Kd.N_mono (Kd.N_far (p := ⟨gb200, 4, none⟩) (Kd.N_far (p := ⟨gb200, 3, none⟩) (Kd.N_far (p := ⟨gb200, 2, none⟩) (Kd.N_far (p := ⟨gb200, 1, none⟩) (Kd.N_far (p := ⟨gb200, 0, none⟩) (Kd.N_mono HO198.out (fun k_ hk => (⟨hk, hk.2⟩ : _ ∧ k_ ≠ gb200))) (fun _ hk => hk.2) (.int .i64 0)) (fun _ hk => hk.2) (.int .i64 1)) (fun _ hk => hk.2) (.int .i64 0)) (fun _ hk => hk.2) (.int .i64 1)) (fun _ hk => hk.2) (.int .i64 4)) (fun _ h_ => h_.1))) hb); have n1_ := Aside0.mk (blk_below (g := gb199) (o := .cells #[.slice Ao23 y196.length co23, .int .i64 0] 24 (0, 0)) (by refine blk_far ?_ NB199_200.out _; refine blk_far ?_ NB199_200.out _; refine blk_far ?_ NB199_200.out _; refine blk_far ?_ NB199_200.out _; refine blk_far ?_ NB199_200.out _; (with_reducible repeat (first | refine blk_drewN ?_ _ | refine blk_drew ?_ | refine blk_alloc ?_ _)); exact BK199.out) hb); have n2_ := Aside0.mk (blk_below (g := gb200) (o := .cells #[.int .i64 0, .int .i64 1, .int .i64 0, .int .i64 1, .int .i64 4] 26 (0, 0)) (by refine blk_put (cs := #[.int .i64 0, .int .i64 1, .int .i64 0, .int .i64 1, .int .i64 0]) ?_ 4 _ rfl; refine blk_put (cs := #[.int .i64 0, .int .i64 1, .int .i64 0, .int .i64 0, .int .i64 0]) ?_ 3 _ rfl; refine blk_put (cs := #[.int .i64 0, .int .i64 1, .int .i64 0, .int .i64 0, .int .i64 0]) ?_ 2 _ rfl; refine blk_put (cs := #[.int .i64 0, .int .i64 0, .int .i64 0, .int .i64 0, .int .i64 0]) ?_ 1 _ rfl; refine blk_put (cs := #[.int .i64 0, .int .i64 0, .int .i64 0, .int .i64 0, .int .i64 0]) ?_ 0 _ rfl; (with_reducible repeat (first | refine blk_drewN ?_ _ | refine blk_drew ?_ | refine blk_alloc ?_ _)); exact BK200.out) hb); have n3_ := Aside0.mk (below_step (BB HB) hb); clear HO198; clear BK199; clear BK200; clear HB; have HO198 := n0_; have BK199 := n1_; have BK200 := n2_; have HB := n3_; clear n0_ n1_ n2_ n3_; (try clear hb); (try clear hb2); (try clear hk); (try clear hi); have hcz31_0 : w30.cell? ⟨gb200, 0, none⟩ = some (.int .i64 0) := (blk_cell BK200.out 0).trans rfl; have hcz31_1 : w30.cell? ⟨gb200, 1, none⟩ = some (.int .i64 1) := (blk_cell BK200.out 1).trans rfl; have hcz31_2 : w30.cell? ⟨gb200, 2, none⟩ = some (.int .i64 0) := (blk_cell BK200.out 2).trans rfl; have hcz31_3 : w30.cell? ⟨gb200, 3, none⟩ = some (.int .i64 1) := (blk_cell BK200.out 3).trans rfl; have hcz31_4 : w30.cell? ⟨gb200, 4, none⟩ = some (.int .i64 4) := (blk_cell BK200.out 4).trans rfl; have hfz31_0 := blk_frozen BK200.out 0; have hfz31_1 := blk_frozen BK200.out 1; have hfz31_2 := blk_frozen BK200.out 2; have hfz31_3 := blk_frozen BK200.out 3; have hfz31_4 := blk_frozen BK200.out 4; have hcz32_0 : w30.cell? ⟨gb199, 0, none⟩ = some (.slice Ao23 y196.length co23) := (blk_cell BK199.out 0).trans rfl; have hcz32_1 : w30.cell? ⟨gb199, 1, none⟩ = some (.int .i64 0) := (blk_cell BK199.out 1).trans rfl; have hfz32_0 := blk_frozen BK199.out 0; have hfz32_1 := blk_frozen BK199.out 1) | ((with_reducible refine gate_callee (f := 15) rfl ?_); refine goesL_ (some 25) rfl rfl Tryd.func15 (by kernel_rfl) rfl #[.agg #[.slice Ao23 y196.length co23, .int .i64 0], .agg #[.int .i64 0, .int .i64 1, .int .i64 0, .int .i64 1, .int .i64 3]] rfl (by (try simp only [List.map_toArray, List.map_cons, List.map_nil]); first | done | rfl | (simp only [List.length_drop, List.length_take]; rfl)) ?_; (with_reducible refine (limit_Valid.calls k _ _ y196 0 0 1 0 1 3 t203 t204 _ ?sideT ?side1 ?side2 A2.out).mono ?_); (case sideT => exact fun w_ hb_ => HTB_.out w_ (below_step (BB HB) hb_)); (case side1 => refine (Kd.N_reads' (e := 53) (base := w.heap.size) (ok := fun k_ => ((True ∧ k_ ≠ gb199) ∧ k_ ≠ gb200)) (n := y196.length) (c := co23) ?_).2.2; exact (by (with_reducible repeat (first | apply Kd.N_alloc | apply Kd.N_drewN | apply Kd.N_drew)); exact (Kd.N_mono (Kd.N_far (p := ⟨gb200, 4, none⟩) (Kd.N_mono HO198.out (fun k_ hk => (⟨hk, hk.2⟩ : _ ∧ k_ ≠ gb200))) (fun _ hk => hk.2) (.int .i64 3)) (fun _ h_ => h_.1)))); (case side2 => exact (Kd.N_reads' HO198.out).2.1); rintro e w33 ⟨rfl, hb⟩; refine ⟨_, rfl, ?_⟩; have n0_ := Aside0.mk (Kd.N_below (by (with_reducible repeat (first | apply Kd.N_alloc | apply Kd.N_drewN | apply Kd.N_drew)); exact (Kd.N_mono (Kd.N_far (p := ⟨gb200, 4, none⟩) (Kd.N_mono HO198.out (fun k_ hk => (⟨hk, hk.2⟩ : _ ∧ k_ ≠ gb200))) (fun _ hk => hk.2) (.int .i64 3)) (fun _ h_ => h_.1))) hb); have n1_ := Aside0.mk (blk_below (g := gb199) (o := .cells #[.slice Ao23 y196.length co23, .int .i64 0] 24 (0, 0)) (by refine blk_far ?_ NB199_200.out _; (with_reducible repeat (first | refine blk_drewN ?_ _ | refine blk_drew ?_ | refine blk_alloc ?_ _)); exact BK199.out) hb); have n2_ := Aside0.mk (blk_below (g := gb200) (o := .cells #[.int .i64 0, .int .i64 1, .int .i64 0, .int .i64 1, .int .i64 3] 26 (0, 0)) (by refine blk_put (cs := #[.int .i64 0, .int .i64 1, .int .i64 0, .int .i64 1, .int .i64 4]) ?_ 4 _ rfl; (with_reducible repeat (first | refine blk_drewN ?_ _ | refine blk_drew ?_ | refine blk_alloc ?_ _)); exact BK200.out) hb); have n3_ := Aside0.mk (below_step (BB HB) hb); clear HO198; clear BK199; clear BK200; clear HB; have HO198 := n0_; have BK199 := n1_; have BK200 := n2_; have HB := n3_; clear n0_ n1_ n2_ n3_; (try clear hb); (try clear hb2); (try clear hk); (try clear hi); have hcz34_0 : w33.cell? ⟨gb200, 0, none⟩ = some (.int .i64 0) := (blk_cell BK200.out 0).trans rfl; have hcz34_1 : w33.cell? ⟨gb200, 1, none⟩ = some (.int .i64 1) := (blk_cell BK200.out 1).trans rfl; have hcz34_2 : w33.cell? ⟨gb200, 2, none⟩ = some (.int .i64 0) := (blk_cell BK200.out 2).trans rfl; have hcz34_3 : w33.cell? ⟨gb200, 3, none⟩ = some (.int .i64 1) := (blk_cell BK200.out 3).trans rfl; have hcz34_4 : w33.cell? ⟨gb200, 4, none⟩ = some (.int .i64 3) := (blk_cell BK200.out 4).trans rfl; have hfz34_0 := blk_frozen BK200.out 0; have hfz34_1 := blk_frozen BK200.out 1; have hfz34_2 := blk_frozen BK200.out 2; have hfz34_3 := blk_frozen BK200.out 3; have hfz34_4 := blk_frozen BK200.out 4; have hcz35_0 : w33.cell? ⟨gb199, 0, none⟩ = some (.slice Ao23 y196.length co23) := (blk_cell BK199.out 0).trans rfl; have hcz35_1 : w33.cell? ⟨gb199, 1, none⟩ = some (.int .i64 0) := (blk_cell BK199.out 1).trans rfl; have hfz35_0 := blk_frozen BK199.out 0; have hfz35_1 := blk_frozen BK199.out 1) | ((with_reducible refine gate_callee (f := 15) rfl ?_); refine goesL_ (some 32) rfl rfl Tryd.func15 (by kernel_rfl) rfl #[.agg #[.slice Ao23 y196.length co23, .int .i64 0], .agg #[.int .i64 0, .int .i64 1, .int .i64 0, .int .i64 1, .int .i64 (-1)]] rfl (by (try simp only [List.map_toArray, List.map_cons, List.map_nil]); first | done | rfl | (simp only [List.length_drop, List.length_take]; rfl)) ?_; (with_reducible refine (limit_Valid.calls k _ _ y196 0 0 1 0 1 (-1) t205 t206 _ ?sideT ?side1 ?side2 A3.out).mono ?_); (case sideT => exact fun w_ hb_ => HTB_.out w_ (below_step (BB HB) hb_)); (case side1 => refine (Kd.N_reads' (e := 53) (base := w.heap.size) (ok := fun k_ => ((True ∧ k_ ≠ gb199) ∧ k_ ≠ gb200)) (n := y196.length) (c := co23) ?_).2.2; exact (by (with_reducible repeat (first | apply Kd.N_alloc | apply Kd.N_drewN | apply Kd.N_drew)); exact (Kd.N_mono (Kd.N_far (p := ⟨gb200, 4, none⟩) (Kd.N_mono HO198.out (fun k_ hk => (⟨hk, hk.2⟩ : _ ∧ k_ ≠ gb200))) (fun _ hk => hk.2) (.int .i64 (-1))) (fun _ h_ => h_.1)))); (case side2 => exact (Kd.N_reads' HO198.out).2.1); rintro e w36 ⟨rfl, hb⟩; refine ⟨_, rfl, ?_⟩; have n0_ := Aside0.mk (Kd.N_below (by (with_reducible repeat (first | apply Kd.N_alloc | apply Kd.N_drewN | apply Kd.N_drew)); exact (Kd.N_mono (Kd.N_far (p := ⟨gb200, 4, none⟩) (Kd.N_mono HO198.out (fun k_ hk => (⟨hk, hk.2⟩ : _ ∧ k_ ≠ gb200))) (fun _ hk => hk.2) (.int .i64 (-1))) (fun _ h_ => h_.1))) hb); have n1_ := Aside0.mk (blk_below (g := gb199) (o := .cells #[.slice Ao23 y196.length co23, .int .i64 0] 24 (0, 0)) (by refine blk_far ?_ NB199_200.out _; (with_reducible repeat (first | refine blk_drewN ?_ _ | refine blk_drew ?_ | refine blk_alloc ?_ _)); exact BK199.out) hb); have n2_ := Aside0.mk (blk_below (g := gb200) (o := .cells #[.int .i64 0, .int .i64 1, .int .i64 0, .int .i64 1, .int .i64 (-1)] 26 (0, 0)) (by refine blk_put (cs := #[.int .i64 0, .int .i64 1, .int .i64 0, .int .i64 1, .int .i64 3]) ?_ 4 _ rfl; (with_reducible repeat (first | refine blk_drewN ?_ _ | refine blk_drew ?_ | refine blk_alloc ?_ _)); exact BK200.out) hb); have n3_ := Aside0.mk (below_step (BB HB) hb); clear HO198; clear BK199; clear BK200; clear HB; have HO198 := n0_; have BK199 := n1_; have BK200 := n2_; have HB := n3_; clear n0_ n1_ n2_ n3_; (try clear hb); (try clear hb2); (try clear hk); (try clear hi); have hcz37_0 : w36.cell? ⟨gb199, 0, none⟩ = some (.slice Ao23 y196.length co23) := (blk_cell BK199.out 0).trans rfl; have hcz37_1 : w36.cell? ⟨gb199, 1, none⟩ = some (.int .i64 0) := (blk_cell BK199.out 1).trans rfl; have hfz37_0 := blk_frozen BK199.out 0; have hfz37_1 := blk_frozen BK199.out 1) | (go_at_call 20; (with_reducible refine (limit_Measure.calls k _ _ y196 0 t207 t208 t209 t210 t211 _ ?side1 ?side2 A10.out).mono ?_); (case side1 => repeat (first | exact (Kd.N_reads' HO198.out).2.2 | (with_reducible refine Kd.C_alloc ?_ _) | (with_reducible refine Kd.C_drewN ?_ _) | (with_reducible refine Kd.C_drew ?_))); (case side2 => exact (Kd.N_reads' HO198.out).2.1); rintro e w38 ⟨rfl, hb⟩; have n0_ := Aside0.mk (Kd.N_below (by (with_reducible repeat (first | apply Kd.N_alloc | apply Kd.N_drewN | apply Kd.N_drew)); exact HO198.out) hb); have n1_ := BE BK199 hb; have n2_ := BE BK200 hb; have n3_ := Aside0.mk (below_step (BB HB) hb); clear HO198; clear BK199; clear BK200; clear HB; have HO198 := n0_; have BK199 := n1_; have BK200 := n2_; have HB := n3_; clear n0_ n1_ n2_ n3_; (try clear hb); (try clear hb2); (try clear hk); (try clear hi); have hcz39_0 : w38.cell? ⟨gb200, 0, none⟩ = some (.int .i64 0) := (blk_cell BK200.out 0).trans rfl; have hcz39_1 : w38.cell? ⟨gb200, 1, none⟩ = some (.int .i64 1) := (blk_cell BK200.out 1).trans rfl; have hcz39_2 : w38.cell? ⟨gb200, 2, none⟩ = some (.int .i64 0) := (blk_cell BK200.out 2).trans rfl; have hcz39_3 : w38.cell? ⟨gb200, 3, none⟩ = some (.int .i64 1) := (blk_cell BK200.out 3).trans rfl; have hcz39_4 : w38.cell? ⟨gb200, 4, none⟩ = some (.int .i64 (-1)) := (blk_cell BK200.out 4).trans rfl; have hfz39_0 := blk_frozen BK200.out 0; have hfz39_1 := blk_frozen BK200.out 1; have hfz39_2 := blk_frozen BK200.out 2; have hfz39_3 := blk_frozen BK200.out 3; have hfz39_4 := blk_frozen BK200.out 4) | (go_at_call 22; (with_reducible refine (limit_Right.calls 0 1 0 1 (-1) false _ A12.out).mono ?_); rintro e w40 ⟨rfl, hb⟩; have n0_ := Aside0.mk (Kd.N_below (by (with_reducible repeat (first | apply Kd.N_alloc | apply Kd.N_drewN | apply Kd.N_drew)); exact HO198.out) hb); have n1_ := BE BK199 hb; have n2_ := BE BK200 hb; have n3_ := Aside0.mk (below_step (BB HB) hb); clear HO198; clear BK199; clear BK200; clear HB; have HO198 := n0_; have BK199 := n1_; have BK200 := n2_; have HB := n3_; clear n0_ n1_ n2_ n3_; (try clear hb); (try clear hb2); (try clear hk); (try clear hi)) | (go_at_call 22; (with_reducible refine (limit_Right.calls 0 0 0 0 0 t213 _ A14.out).mono ?_); rintro e w41 ⟨rfl, hb⟩; have n0_ := Aside0.mk (Kd.N_below (by (with_reducible repeat (first | apply Kd.N_alloc | apply Kd.N_drewN | apply Kd.N_drew)); exact HO198.out) hb); have n1_ := BE BK199 hb; have n2_ := BE BK200 hb; have n3_ := Aside0.mk (below_step (BB HB) hb); clear HO198; clear BK199; clear BK200; clear HB; have HO198 := n0_; have BK199 := n1_; have BK200 := n2_; have HB := n3_; clear n0_ n1_ n2_ n3_; (try clear hb); (try clear hb2); (try clear hk); (try clear hi)))
         go_ret
         exact ⟨by first | rfl | (simp [errW_none, errW_some] <;> rfl) | (simp [*, errW_none, errW_some] <;> rfl), BB HB⟩
       ·rw [if_neg c11] at H
        exact absurd H (by simp)
      ·rw [if_neg c9] at H
       exact absurd H (by simp)
     ·rw [if_neg c8] at H
      exact absurd H (by simp)
    ·rw [if_neg c7] at H
     exact absurd H (by simp)
   ·rw [if_neg c6] at H
    exact absurd H (by simp)
  ·rw [if_neg c5] at H
   exact absurd H (by simp)
 ·rw [if_neg c4] at H
  exact absurd H (by simp)

end Go.Proofs.YtcphcaiiofeflaaDoor.GL
