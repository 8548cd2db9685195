-- Printed by a program of the session (wip/gen/tprint.py, over a turned copy of the kit's print): Lean checks it.
import Derived.Test.YtoigkneoaemcfaaDoorRxGRx0
import Derived.Test.YtoigkneoaemcfaaDoorRxGRx9
namespace Go.Proofs.YtoigkneoaemcfaaDoor.GR
open Go.RowKit Go.Proofs.YtoigkneoaemcfaaDoorW.PrintWords Go.Proofs.YtoigkneoaemcfaaDoorW.PrintLast Go.Proofs.YtoigkneoaemcfaaDoorW.PrintMore
attribute [local go_sem] max2_int min2_int max_two min_two max_three min_three max_four min_four   -- for this text's walks alone
set_option linter.unusedVariables false
set_option linter.unusedSimpArgs false

/-! ### dioramaref08_Check: function 52 -/
mutual
def dioramaref08_Check.l0 : Nat → Int → Int → List Int → List ByteArray → List Int → List Int → Int → Int → Int → Option (Int)
 | 0, _, _, _, _, _, _, _, _, _ => none
 | k + 1, x5, x215000, x215001, x215002, x215003, x216000, x216001, x216002, x216003 => if x5 < (x215001.length : Int) then (if 0 ≤ x5 then (if x5 < (x216000.length : Int) then ((dioramaref07_In.f (rd x216000 x5) (rd x215001 x5)).bind fun t218 => (if t218 = true then (dioramaref08_Check.l0 k (wrap64 (x5 + 1)) x215000 x215001 x215002 x215003 x216000 x216001 x216002 x216003) else (some 10))) else (none)) else (none)) else (if (x215002.length : Int) = x216001 then (dioramaref08_Check.l1 k 0 x215000 x215001 x215002 x215003 x216000 x216001 x216002 x216003) else (some 11))
def dioramaref08_Check.l1 : Nat → Int → Int → List Int → List ByteArray → List Int → List Int → Int → Int → Int → Option (Int)
 | 0, _, _, _, _, _, _, _, _, _ => none
 | k + 1, x6, x215000, x215001, x215002, x215003, x216000, x216001, x216002, x216003 => if x6 < (x215002.length : Int) then (if 0 ≤ x6 then ((dioramaref05_Right.f k (rdOf ByteArray.empty x215002 x6)).bind fun t220 => (if t220 = true then (dioramaref08_Check.l1 k (wrap64 (x6 + 1)) x215000 x215001 x215002 x215003 x216000 x216001 x216002 x216003) else (some 11))) else (none)) else (if (x215003.length : Int) < x216002 then (some 12) else (if x216003 ≥ 0 then (if (x215003.length : Int) > x216003 then (some 12) else (some 0)) else (some 0)))
end
def dioramaref08_Check.f (k : Nat) (a0_0 : Int) (l0_1 : List Int) (l0_2 : List ByteArray) (l0_3 : List Int) (l1_0 : List Int) (a1_1 : Int) (a1_2 : Int) (a1_3 : Int) : Option (Int) := if (l0_1.length : Int) = (l1_0.length : Int) then (dioramaref08_Check.l0 k 0 a0_0 l0_1 l0_2 l0_3 l1_0 a1_1 a1_2 a1_3) else (some 10)
set_option maxHeartbeats 8000000 in
set_option maxRecDepth 100000 in
theorem dioramaref08_Check.calls (k : Nat) (a0_0 : Int) (A0_1 : Option Addr) (c0_1 : Nat) (l0_1 : List Int) (A0_2 : Option Addr) (c0_2 : Nat) (l0_2 : List ByteArray) (A0_3 : Option Addr) (c0_3 : Nat) (l0_3 : List Int) (A1_0 : Option Addr) (c1_0 : Nat) (l1_0 : List Int) (a1_1 : Int) (a1_2 : Int) (a1_3 : Int) (r : Int) (w : World) (hr0_1 : Kd.C (Kd.int .i64) w A0_1 l0_1.length l0_1) (hc0_1 : l0_1.length ≤ c0_1) (hr0_2 : Kd.C Kd.string w A0_2 l0_2.length l0_2) (hc0_2 : l0_2.length ≤ c0_2) (hr0_3 : Kd.C (Kd.int .i64) w A0_3 l0_3.length l0_3) (hc0_3 : l0_3.length ≤ c0_3) (hr1_0 : Kd.C (Kd.int .i64) w A1_0 l1_0.length l1_0) (hc1_0 : l1_0.length ≤ c1_0) (h : dioramaref08_Check.f k a0_0 l0_1 l0_2 l0_3 l1_0 a1_1 a1_2 a1_3 = some r) :
  Calls Tryd.prog 52 #[.agg #[.int .i64 a0_0, .slice A0_1 l0_1.length c0_1, .slice A0_2 l0_2.length c0_2, .slice A0_3 l0_3.length c0_3], .agg #[.slice A1_0 l1_0.length c1_0, .int .i64 a1_1, .int .i64 a1_2, .int .i64 a1_3]] w fun e w' => e = .returned (.int .i64 r) ∧ Below w.heap.size w w' := by
 have hu40 := Tryd.underlying40
 have hu97 := Tryd.underlying97
 have HR0_1 := Aside0.mk hr0_1
 have HC0_1 := Aside0.mk hc0_1
 clear hr0_1 hc0_1
 have HR0_2 := Aside0.mk hr0_2
 have HC0_2 := Aside0.mk hc0_2
 clear hr0_2 hc0_2
 have HR0_3 := Aside0.mk hr0_3
 have HC0_3 := Aside0.mk hc0_3
 clear hr0_3 hc0_3
 have HR1_0 := Aside0.mk hr1_0
 have HC1_0 := Aside0.mk hc1_0
 clear hr1_0 hc1_0
 have HB := Aside0.mk (Below.refl w.heap.size w)
 have H : (if (l0_1.length : Int) = (l1_0.length : Int) then (dioramaref08_Check.l0 k 0 a0_0 l0_1 l0_2 l0_3 l1_0 a1_1 a1_2 a1_3) else (some 10)) = some r := h
 clear h
 by_cases c3 : (l0_1.length : Int) = (l1_0.length : Int)
 ·rw [if_pos c3] at H
  have c3b0 : ((l0_1.length : Int) == (l1_0.length : Int)) = true := beq_iff_eq.mpr c3
  have c3b1 : ((l0_1.length : Int) != (l1_0.length : Int)) = false := bne_eq_false_iff_eq.mpr c3
  have c3b2 : (l0_1.length == l1_0.length) = true := by first | simpa using c3 | (simp at c3 ⊢; omega)
  clear c3
  have H' := Aside0.mk H
  clear H
  go_enter Tryd.func52, Tryd.ntmps52
  go_wp2_with (first | ((with_reducible refine gate_dst (N := 2) rfl ?_); refine box_event ?hg (N := 2) ?hd (cs := #[.int .i64 a0_0, .slice A0_1 l0_1.length c0_1, .slice A0_2 l0_2.length c0_2, .slice A0_3 l0_3.length c0_3]) (t := 40) ?hr ?_; (case hd => rfl); (case hg => rfl); (case hr => first | (go_simp; done) | (go_simp; rfl)); intro gb214 hg w4 hbox hb; have n0_ := Aside0.mk (below_step (BB HB) hb); have n1_ := Aside0.mk (hbox); have n2_ := Aside0.mk ((by rw [hg]; exact (below_size (BB HB)) : w.heap.size ≤ gb214)); have n3_ := Aside0.mk ((by rw [hg]; exact (below_size (BB HB)) : w.heap.size ≤ gb214)); clear HB; have HB := n0_; have BK214 := n1_; have GW214 := n2_; have GE214 := n3_; clear n0_ n1_ n2_ n3_; clear hb hbox hg) | ((with_reducible refine gate_dst (N := 3) rfl ?_); refine box_event ?hg (N := 3) ?hd (cs := #[.slice A1_0 l1_0.length c1_0, .int .i64 a1_1, .int .i64 a1_2, .int .i64 a1_3]) (t := 97) ?hr ?_; (case hd => rfl); (case hg => rfl); (case hr => first | (go_simp; done) | (go_simp; rfl)); intro gb215 hg w5 hbox hb; have n0_ := BE BK214 hb; have n1_ := Aside0.mk (below_step (BB HB) hb); have n2_ := Aside0.mk (hbox); have n3_ := Aside0.mk ((by rw [hg]; exact (below_size (BB HB)) : w.heap.size ≤ gb215)); have n4_ := Aside0.mk ((by rw [hg]; exact (below_size (BB HB)) : w.heap.size ≤ gb215)); have n5_ := Aside0.mk ((by rw [hg]; exact Nat.ne_of_lt (blk_lt (g := gb214) (o := .cells #[.int .i64 a0_0, .slice A0_1 l0_1.length c0_1, .slice A0_2 l0_2.length c0_2, .slice A0_3 l0_3.length c0_3] 40 (0, 0)) (BL BK214)) : gb214 ≠ gb215)); have n6_ := Aside0.mk ((by rw [hg]; exact Nat.ne_of_gt (blk_lt (g := gb214) (o := .cells #[.int .i64 a0_0, .slice A0_1 l0_1.length c0_1, .slice A0_2 l0_2.length c0_2, .slice A0_3 l0_3.length c0_3] 40 (0, 0)) (BL BK214)) : gb215 ≠ gb214)); clear BK214; clear HB; have BK214 := n0_; have HB := n1_; have BK215 := n2_; have GW215 := n3_; have GE215 := n4_; have NB214_215 := n5_; have NB215_214 := n6_; clear n0_ n1_ n2_ n3_ n4_ n5_ n6_; clear hb hbox hg; have hnb6 := NB214_215.out; have hnc6 := NB215_214.out; have hcz7_0 : w5.cell? ⟨gb214, 0, none⟩ = some (.int .i64 a0_0) := (blk_cell BK214.out 0).trans rfl; have hcz7_1 : w5.cell? ⟨gb214, 1, none⟩ = some (.slice A0_1 l0_1.length c0_1) := (blk_cell BK214.out 1).trans rfl; have hcz7_2 : w5.cell? ⟨gb214, 2, none⟩ = some (.slice A0_2 l0_2.length c0_2) := (blk_cell BK214.out 2).trans rfl; have hcz7_3 : w5.cell? ⟨gb214, 3, none⟩ = some (.slice A0_3 l0_3.length c0_3) := (blk_cell BK214.out 3).trans rfl; have hfz7_0 := blk_frozen BK214.out 0; have hfz7_1 := blk_frozen BK214.out 1; have hfz7_2 := blk_frozen BK214.out 2; have hfz7_3 := blk_frozen BK214.out 3; have hcz8_0 : w5.cell? ⟨gb215, 0, none⟩ = some (.slice A1_0 l1_0.length c1_0) := (blk_cell BK215.out 0).trans rfl; have hcz8_1 : w5.cell? ⟨gb215, 1, none⟩ = some (.int .i64 a1_1) := (blk_cell BK215.out 1).trans rfl; have hcz8_2 : w5.cell? ⟨gb215, 2, none⟩ = some (.int .i64 a1_2) := (blk_cell BK215.out 2).trans rfl; have hcz8_3 : w5.cell? ⟨gb215, 3, none⟩ = some (.int .i64 a1_3) := (blk_cell BK215.out 3).trans rfl; have hfz8_0 := blk_frozen BK215.out 0; have hfz8_1 := blk_frozen BK215.out 1; have hfz8_2 := blk_frozen BK215.out 2; have hfz8_3 := blk_frozen BK215.out 3))
  repeat (go_quiet (first | ((with_reducible refine gate_dst (N := 2) rfl ?_); refine box_event ?hg (N := 2) ?hd (cs := #[.int .i64 a0_0, .slice A0_1 l0_1.length c0_1, .slice A0_2 l0_2.length c0_2, .slice A0_3 l0_3.length c0_3]) (t := 40) ?hr ?_; (case hd => rfl); (case hg => rfl); (case hr => first | (go_simp; done) | (go_simp; rfl)); intro gb214 hg w4 hbox hb; have n0_ := Aside0.mk (below_step (BB HB) hb); have n1_ := Aside0.mk (hbox); have n2_ := Aside0.mk ((by rw [hg]; exact (below_size (BB HB)) : w.heap.size ≤ gb214)); have n3_ := Aside0.mk ((by rw [hg]; exact (below_size (BB HB)) : w.heap.size ≤ gb214)); clear HB; have HB := n0_; have BK214 := n1_; have GW214 := n2_; have GE214 := n3_; clear n0_ n1_ n2_ n3_; clear hb hbox hg) | ((with_reducible refine gate_dst (N := 3) rfl ?_); refine box_event ?hg (N := 3) ?hd (cs := #[.slice A1_0 l1_0.length c1_0, .int .i64 a1_1, .int .i64 a1_2, .int .i64 a1_3]) (t := 97) ?hr ?_; (case hd => rfl); (case hg => rfl); (case hr => first | (go_simp; done) | (go_simp; rfl)); intro gb215 hg w5 hbox hb; have n0_ := BE BK214 hb; have n1_ := Aside0.mk (below_step (BB HB) hb); have n2_ := Aside0.mk (hbox); have n3_ := Aside0.mk ((by rw [hg]; exact (below_size (BB HB)) : w.heap.size ≤ gb215)); have n4_ := Aside0.mk ((by rw [hg]; exact (below_size (BB HB)) : w.heap.size ≤ gb215)); have n5_ := Aside0.mk ((by rw [hg]; exact Nat.ne_of_lt (blk_lt (g := gb214) (o := .cells #[.int .i64 a0_0, .slice A0_1 l0_1.length c0_1, .slice A0_2 l0_2.length c0_2, .slice A0_3 l0_3.length c0_3] 40 (0, 0)) (BL BK214)) : gb214 ≠ gb215)); have n6_ := Aside0.mk ((by rw [hg]; exact Nat.ne_of_gt (blk_lt (g := gb214) (o := .cells #[.int .i64 a0_0, .slice A0_1 l0_1.length c0_1, .slice A0_2 l0_2.length c0_2, .slice A0_3 l0_3.length c0_3] 40 (0, 0)) (BL BK214)) : gb215 ≠ gb214)); clear BK214; clear HB; have BK214 := n0_; have HB := n1_; have BK215 := n2_; have GW215 := n3_; have GE215 := n4_; have NB214_215 := n5_; have NB215_214 := n6_; clear n0_ n1_ n2_ n3_ n4_ n5_ n6_; clear hb hbox hg; have hnb6 := NB214_215.out; have hnc6 := NB215_214.out; have hcz7_0 : w5.cell? ⟨gb214, 0, none⟩ = some (.int .i64 a0_0) := (blk_cell BK214.out 0).trans rfl; have hcz7_1 : w5.cell? ⟨gb214, 1, none⟩ = some (.slice A0_1 l0_1.length c0_1) := (blk_cell BK214.out 1).trans rfl; have hcz7_2 : w5.cell? ⟨gb214, 2, none⟩ = some (.slice A0_2 l0_2.length c0_2) := (blk_cell BK214.out 2).trans rfl; have hcz7_3 : w5.cell? ⟨gb214, 3, none⟩ = some (.slice A0_3 l0_3.length c0_3) := (blk_cell BK214.out 3).trans rfl; have hfz7_0 := blk_frozen BK214.out 0; have hfz7_1 := blk_frozen BK214.out 1; have hfz7_2 := blk_frozen BK214.out 2; have hfz7_3 := blk_frozen BK214.out 3; have hcz8_0 : w5.cell? ⟨gb215, 0, none⟩ = some (.slice A1_0 l1_0.length c1_0) := (blk_cell BK215.out 0).trans rfl; have hcz8_1 : w5.cell? ⟨gb215, 1, none⟩ = some (.int .i64 a1_1) := (blk_cell BK215.out 1).trans rfl; have hcz8_2 : w5.cell? ⟨gb215, 2, none⟩ = some (.int .i64 a1_2) := (blk_cell BK215.out 2).trans rfl; have hcz8_3 : w5.cell? ⟨gb215, 3, none⟩ = some (.int .i64 a1_3) := (blk_cell BK215.out 3).trans rfl; have hfz8_0 := blk_frozen BK215.out 0; have hfz8_1 := blk_frozen BK215.out 1; have hfz8_2 := blk_frozen BK215.out 2; have hfz8_3 := blk_frozen BK215.out 3)); try go_wp2_with (first | ((with_reducible refine gate_dst (N := 2) rfl ?_); refine box_event ?hg (N := 2) ?hd (cs := #[.int .i64 a0_0, .slice A0_1 l0_1.length c0_1, .slice A0_2 l0_2.length c0_2, .slice A0_3 l0_3.length c0_3]) (t := 40) ?hr ?_; (case hd => rfl); (case hg => rfl); (case hr => first | (go_simp; done) | (go_simp; rfl)); intro gb214 hg w4 hbox hb; have n0_ := Aside0.mk (below_step (BB HB) hb); have n1_ := Aside0.mk (hbox); have n2_ := Aside0.mk ((by rw [hg]; exact (below_size (BB HB)) : w.heap.size ≤ gb214)); have n3_ := Aside0.mk ((by rw [hg]; exact (below_size (BB HB)) : w.heap.size ≤ gb214)); clear HB; have HB := n0_; have BK214 := n1_; have GW214 := n2_; have GE214 := n3_; clear n0_ n1_ n2_ n3_; clear hb hbox hg) | ((with_reducible refine gate_dst (N := 3) rfl ?_); refine box_event ?hg (N := 3) ?hd (cs := #[.slice A1_0 l1_0.length c1_0, .int .i64 a1_1, .int .i64 a1_2, .int .i64 a1_3]) (t := 97) ?hr ?_; (case hd => rfl); (case hg => rfl); (case hr => first | (go_simp; done) | (go_simp; rfl)); intro gb215 hg w5 hbox hb; have n0_ := BE BK214 hb; have n1_ := Aside0.mk (below_step (BB HB) hb); have n2_ := Aside0.mk (hbox); have n3_ := Aside0.mk ((by rw [hg]; exact (below_size (BB HB)) : w.heap.size ≤ gb215)); have n4_ := Aside0.mk ((by rw [hg]; exact (below_size (BB HB)) : w.heap.size ≤ gb215)); have n5_ := Aside0.mk ((by rw [hg]; exact Nat.ne_of_lt (blk_lt (g := gb214) (o := .cells #[.int .i64 a0_0, .slice A0_1 l0_1.length c0_1, .slice A0_2 l0_2.length c0_2, .slice A0_3 l0_3.length c0_3] 40 (0, 0)) (BL BK214)) : gb214 ≠ gb215)); have n6_ := Aside0.mk ((by rw [hg]; exact Nat.ne_of_gt (blk_lt (g := gb214) (o := .cells #[.int .i64 a0_0, .slice A0_1 l0_1.length c0_1, .slice A0_2 l0_2.length c0_2, .slice A0_3 l0_3.length c0_3] 40 (0, 0)) (BL BK214)) : gb215 ≠ gb214)); clear BK214; clear HB; have BK214 := n0_; have HB := n1_; have BK215 := n2_; have GW215 := n3_; have GE215 := n4_; have NB214_215 := n5_; have NB215_214 := n6_; clear n0_ n1_ n2_ n3_ n4_ n5_ n6_; clear hb hbox hg; have hnb6 := NB214_215.out; have hnc6 := NB215_214.out; have hcz7_0 : w5.cell? ⟨gb214, 0, none⟩ = some (.int .i64 a0_0) := (blk_cell BK214.out 0).trans rfl; have hcz7_1 : w5.cell? ⟨gb214, 1, none⟩ = some (.slice A0_1 l0_1.length c0_1) := (blk_cell BK214.out 1).trans rfl; have hcz7_2 : w5.cell? ⟨gb214, 2, none⟩ = some (.slice A0_2 l0_2.length c0_2) := (blk_cell BK214.out 2).trans rfl; have hcz7_3 : w5.cell? ⟨gb214, 3, none⟩ = some (.slice A0_3 l0_3.length c0_3) := (blk_cell BK214.out 3).trans rfl; have hfz7_0 := blk_frozen BK214.out 0; have hfz7_1 := blk_frozen BK214.out 1; have hfz7_2 := blk_frozen BK214.out 2; have hfz7_3 := blk_frozen BK214.out 3; have hcz8_0 : w5.cell? ⟨gb215, 0, none⟩ = some (.slice A1_0 l1_0.length c1_0) := (blk_cell BK215.out 0).trans rfl; have hcz8_1 : w5.cell? ⟨gb215, 1, none⟩ = some (.int .i64 a1_1) := (blk_cell BK215.out 1).trans rfl; have hcz8_2 : w5.cell? ⟨gb215, 2, none⟩ = some (.int .i64 a1_2) := (blk_cell BK215.out 2).trans rfl; have hcz8_3 : w5.cell? ⟨gb215, 3, none⟩ = some (.int .i64 a1_3) := (blk_cell BK215.out 3).trans rfl; have hfz8_0 := blk_frozen BK215.out 0; have hfz8_1 := blk_frozen BK215.out 1; have hfz8_2 := blk_frozen BK215.out 2; have hfz8_3 := blk_frozen BK215.out 3)))
  go_loopg [5] k (fun kq v5 w' => ∃ (x5_1 : Int), v5 = .int .i64 x5_1 ∧ Aside0 (dioramaref08_Check.l0 kq x5_1 a0_0 l0_1 l0_2 l0_3 l1_0 a1_1 a1_2 a1_3 = some r) ∧ Aside0 (kq ≤ k) ∧ Aside0 (w'.heap[gb214]? = some (.cells #[.int .i64 a0_0, (.slice A0_1 l0_1.length c0_1), (.slice A0_2 l0_2.length c0_2), (.slice A0_3 l0_3.length c0_3)] 40 (0, 0))) ∧ Aside0 (w'.heap[gb215]? = some (.cells #[(.slice A1_0 l1_0.length c1_0), .int .i64 a1_1, .int .i64 a1_2, .int .i64 a1_3] 97 (0, 0))) ∧ Aside0 (Below w.heap.size w w'))
  case atStart => exact ⟨(0), (by first | rfl | (simp; done) | (simp [*]; done)), H', ⟨Nat.le_refl _⟩, ⟨BL BK214⟩, ⟨BL BK215⟩, ⟨BB HB⟩⟩
  case round =>
   clear H'
   try clear c1
   try clear p2
   try clear c3
   try clear c3b0
   try clear c3b1
   try clear c3b2
   try clear c5
   try clear c6
   try clear hcz7_0
   try clear hcz7_1
   try clear hcz7_2
   try clear hcz7_3
   try clear hcz8_0
   try clear hcz8_1
   try clear hcz8_2
   try clear hcz8_3
   try clear hfz7_0
   try clear hfz7_1
   try clear hfz7_2
   try clear hfz7_3
   try clear hfz8_0
   try clear hfz8_1
   try clear hfz8_2
   try clear hfz8_3
   obtain ⟨x5_1, rfl, HA, HK1, BK214, BK215, HB⟩ := hrel
   cases gk with
   | zero => exact absurd HA.out (by simp [dioramaref08_Check.l0])
   | succ k1 =>
    have H := HA.out
    clear HA
    simp only [dioramaref08_Check.l0] at H
    by_cases c9 : x5_1 < (l0_1.length : Int)
    ·rw [if_pos c9] at H
     have c9b0 : decide (x5_1 < (l0_1.length : Int)) = true := decide_eq_true c9
     clear c9
     by_cases c10 : 0 ≤ x5_1
     ·rw [if_pos c10] at H
      have c10b0 : decide (0 ≤ x5_1) = true := decide_eq_true c10
      clear c10
      by_cases c11 : x5_1 < (l1_0.length : Int)
      ·rw [if_pos c11] at H
       have c11b0 : decide (x5_1 < (l1_0.length : Int)) = true := decide_eq_true c11
       clear c11
       replace H := Option.bind_eq_some_iff.mp H
       obtain ⟨t218, A120, H⟩ := H
       replace H : (if t218 = true then (dioramaref08_Check.l0 k1 (wrap64 (x5_1 + 1)) a0_0 l0_1 l0_2 l0_3 l1_0 a1_1 a1_2 a1_3) else (some 10)) = some r := H
       have A12 := Aside0.mk A120
       clear A120
       by_cases c13 : t218 = true
       ·subst c13
        have H1 : (dioramaref08_Check.l0 k1 (wrap64 (x5_1 + 1)) a0_0 l0_1 l0_2 l0_3 l1_0 a1_1 a1_2 a1_3) = some r := by rw [if_pos rfl] at H; exact H
        clear H
        have H := H1
        clear H1
        have H' := Aside0.mk H
        clear H
        have hnb14 := NB214_215.out
        have hnc14 := NB215_214.out
        have hcz15_0 : wr.cell? ⟨gb214, 0, none⟩ = some (.int .i64 a0_0) := (blk_cell BK214.out 0).trans rfl
        have hcz15_1 : wr.cell? ⟨gb214, 1, none⟩ = some (.slice A0_1 l0_1.length c0_1) := (blk_cell BK214.out 1).trans rfl
        have hcz15_2 : wr.cell? ⟨gb214, 2, none⟩ = some (.slice A0_2 l0_2.length c0_2) := (blk_cell BK214.out 2).trans rfl
        have hcz15_3 : wr.cell? ⟨gb214, 3, none⟩ = some (.slice A0_3 l0_3.length c0_3) := (blk_cell BK214.out 3).trans rfl
        have hfz15_0 := blk_frozen BK214.out 0
        have hfz15_1 := blk_frozen BK214.out 1
        have hfz15_2 := blk_frozen BK214.out 2
        have hfz15_3 := blk_frozen BK214.out 3
        have hcz16_0 : wr.cell? ⟨gb215, 0, none⟩ = some (.slice A1_0 l1_0.length c1_0) := (blk_cell BK215.out 0).trans rfl
        have hcz16_1 : wr.cell? ⟨gb215, 1, none⟩ = some (.int .i64 a1_1) := (blk_cell BK215.out 1).trans rfl
        have hcz16_2 : wr.cell? ⟨gb215, 2, none⟩ = some (.int .i64 a1_2) := (blk_cell BK215.out 2).trans rfl
        have hcz16_3 : wr.cell? ⟨gb215, 3, none⟩ = some (.int .i64 a1_3) := (blk_cell BK215.out 3).trans rfl
        have hfz16_0 := blk_frozen BK215.out 0
        have hfz16_1 := blk_frozen BK215.out 1
        have hfz16_2 := blk_frozen BK215.out 2
        have hfz16_3 := blk_frozen BK215.out 3
        have p216 : 0 ≤ (x5_1 : Int) := of_decide_eq_true (by first | (with_reducible assumption) | assumption)
        have q216 : x5_1 < (l1_0.length : Int) := of_decide_eq_true (by first | (with_reducible assumption) | assumption)
        obtain ⟨ad216, e216, hx216_0⟩ := Kd.at_int HR1_0.out x5_1 p216 q216
        cases e216
        replace hx216_0 := (HB.out.cell (World.block_lt_of_cell? w _ hx216_0)).trans hx216_0
        replace p216 := eq_true p216
        replace q216 := eq_true q216
        have p217 : 0 ≤ (x5_1 : Int) := of_decide_eq_true (by first | (with_reducible assumption) | assumption)
        have q217 : x5_1 < (l0_1.length : Int) := of_decide_eq_true (by first | (with_reducible assumption) | assumption)
        obtain ⟨ad217, e217, hx217_0⟩ := Kd.at_int HR0_1.out x5_1 p217 q217
        cases e217
        replace hx217_0 := (HB.out.cell (World.block_lt_of_cell? w _ hx217_0)).trans hx217_0
        replace p217 := eq_true p217
        replace q217 := eq_true q217
        go_wp2_with (first | (go_at_call 62; (with_reducible refine (dioramaref07_In.calls (rd l1_0 x5_1) (rd l0_1 x5_1) true _ A12.out).mono ?_); rintro e w' ⟨rfl, ⟨nd, rfl⟩⟩; (try first | exact ⟨rfl, _, World.drewN_drewN _ _ _⟩ | exact ⟨rfl, _, Eq.trans (World.drewN_drewN _ _ _) (congrArg (World.drewN _) (Nat.add_assoc _ _ _))⟩)))
        repeat (go_quiet (first | (go_at_call 62; (with_reducible refine (dioramaref07_In.calls (rd l1_0 x5_1) (rd l0_1 x5_1) true _ A12.out).mono ?_); rintro e w' ⟨rfl, ⟨nd, rfl⟩⟩; (try first | exact ⟨rfl, _, World.drewN_drewN _ _ _⟩ | exact ⟨rfl, _, Eq.trans (World.drewN_drewN _ _ _) (congrArg (World.drewN _) (Nat.add_assoc _ _ _))⟩))); try go_wp2_with (first | (go_at_call 62; (with_reducible refine (dioramaref07_In.calls (rd l1_0 x5_1) (rd l0_1 x5_1) true _ A12.out).mono ?_); rintro e w' ⟨rfl, ⟨nd, rfl⟩⟩; (try first | exact ⟨rfl, _, World.drewN_drewN _ _ _⟩ | exact ⟨rfl, _, Eq.trans (World.drewN_drewN _ _ _) (congrArg (World.drewN _) (Nat.add_assoc _ _ _))⟩))))
        go_roundg k1
        case measure => have := HK1.out; omega
        case rel => exact ⟨(wrap64 (x5_1 + 1)), (by first | rfl | (simp; done) | (simp [*]; done)), H', ⟨by have := HK1.out; omega⟩, ⟨BL BK214⟩, ⟨BL BK215⟩, ⟨BB HB⟩⟩
       ·replace c13 := Bool.eq_false_iff.mpr c13
        subst c13
        have H1 : (some 10) = some r := by rw [if_neg (show ¬ (false = true) by decide)] at H; exact H
        clear H
        have H := H1
        clear H1
        obtain rfl := Option.some.inj H
        have hnb17 := NB214_215.out
        have hnc17 := NB215_214.out
        have hcz18_0 : wr.cell? ⟨gb214, 0, none⟩ = some (.int .i64 a0_0) := (blk_cell BK214.out 0).trans rfl
        have hcz18_1 : wr.cell? ⟨gb214, 1, none⟩ = some (.slice A0_1 l0_1.length c0_1) := (blk_cell BK214.out 1).trans rfl
        have hcz18_2 : wr.cell? ⟨gb214, 2, none⟩ = some (.slice A0_2 l0_2.length c0_2) := (blk_cell BK214.out 2).trans rfl
        have hcz18_3 : wr.cell? ⟨gb214, 3, none⟩ = some (.slice A0_3 l0_3.length c0_3) := (blk_cell BK214.out 3).trans rfl
        have hfz18_0 := blk_frozen BK214.out 0
        have hfz18_1 := blk_frozen BK214.out 1
        have hfz18_2 := blk_frozen BK214.out 2
        have hfz18_3 := blk_frozen BK214.out 3
        have hcz19_0 : wr.cell? ⟨gb215, 0, none⟩ = some (.slice A1_0 l1_0.length c1_0) := (blk_cell BK215.out 0).trans rfl
        have hcz19_1 : wr.cell? ⟨gb215, 1, none⟩ = some (.int .i64 a1_1) := (blk_cell BK215.out 1).trans rfl
        have hcz19_2 : wr.cell? ⟨gb215, 2, none⟩ = some (.int .i64 a1_2) := (blk_cell BK215.out 2).trans rfl
        have hcz19_3 : wr.cell? ⟨gb215, 3, none⟩ = some (.int .i64 a1_3) := (blk_cell BK215.out 3).trans rfl
        have hfz19_0 := blk_frozen BK215.out 0
        have hfz19_1 := blk_frozen BK215.out 1
        have hfz19_2 := blk_frozen BK215.out 2
        have hfz19_3 := blk_frozen BK215.out 3
        have p216 : 0 ≤ (x5_1 : Int) := of_decide_eq_true (by first | (with_reducible assumption) | assumption)
        have q216 : x5_1 < (l1_0.length : Int) := of_decide_eq_true (by first | (with_reducible assumption) | assumption)
        obtain ⟨ad216, e216, hx216_0⟩ := Kd.at_int HR1_0.out x5_1 p216 q216
        cases e216
        replace hx216_0 := (HB.out.cell (World.block_lt_of_cell? w _ hx216_0)).trans hx216_0
        replace p216 := eq_true p216
        replace q216 := eq_true q216
        have p217 : 0 ≤ (x5_1 : Int) := of_decide_eq_true (by first | (with_reducible assumption) | assumption)
        have q217 : x5_1 < (l0_1.length : Int) := of_decide_eq_true (by first | (with_reducible assumption) | assumption)
        obtain ⟨ad217, e217, hx217_0⟩ := Kd.at_int HR0_1.out x5_1 p217 q217
        cases e217
        replace hx217_0 := (HB.out.cell (World.block_lt_of_cell? w _ hx217_0)).trans hx217_0
        replace p217 := eq_true p217
        replace q217 := eq_true q217
        go_wp2_with (first | (go_at_call 62; (with_reducible refine (dioramaref07_In.calls (rd l1_0 x5_1) (rd l0_1 x5_1) false _ A12.out).mono ?_); rintro e w' ⟨rfl, ⟨nd, rfl⟩⟩; (try first | exact ⟨rfl, _, World.drewN_drewN _ _ _⟩ | exact ⟨rfl, _, Eq.trans (World.drewN_drewN _ _ _) (congrArg (World.drewN _) (Nat.add_assoc _ _ _))⟩)))
        repeat (go_quiet (first | (go_at_call 62; (with_reducible refine (dioramaref07_In.calls (rd l1_0 x5_1) (rd l0_1 x5_1) false _ A12.out).mono ?_); rintro e w' ⟨rfl, ⟨nd, rfl⟩⟩; (try first | exact ⟨rfl, _, World.drewN_drewN _ _ _⟩ | exact ⟨rfl, _, Eq.trans (World.drewN_drewN _ _ _) (congrArg (World.drewN _) (Nat.add_assoc _ _ _))⟩))); try go_wp2_with (first | (go_at_call 62; (with_reducible refine (dioramaref07_In.calls (rd l1_0 x5_1) (rd l0_1 x5_1) false _ A12.out).mono ?_); rintro e w' ⟨rfl, ⟨nd, rfl⟩⟩; (try first | exact ⟨rfl, _, World.drewN_drewN _ _ _⟩ | exact ⟨rfl, _, Eq.trans (World.drewN_drewN _ _ _) (congrArg (World.drewN _) (Nat.add_assoc _ _ _))⟩))))
        go_ret
        exact ⟨by first | rfl | (simp [errW_none, errW_some] <;> rfl) | (simp [*, errW_none, errW_some] <;> rfl), BB HB⟩
      ·rw [if_neg c11] at H
       exact absurd H (by simp)
     ·rw [if_neg c10] at H
      exact absurd H (by simp)
    ·rw [if_neg c9] at H
     have c9b0 : decide (x5_1 < (l0_1.length : Int)) = false := decide_eq_false c9
     clear c9
     by_cases c20 : (l0_2.length : Int) = a1_1
     ·rw [if_pos c20] at H
      have c20b0 : ((l0_2.length : Int) == a1_1) = true := beq_iff_eq.mpr c20
      have c20b1 : ((l0_2.length : Int) != a1_1) = false := bne_eq_false_iff_eq.mpr c20
      clear c20
      have H' := Aside0.mk H
      clear H
      have hnb21 := NB214_215.out
      have hnc21 := NB215_214.out
      have hcz22_0 : wr.cell? ⟨gb214, 0, none⟩ = some (.int .i64 a0_0) := (blk_cell BK214.out 0).trans rfl
      have hcz22_1 : wr.cell? ⟨gb214, 1, none⟩ = some (.slice A0_1 l0_1.length c0_1) := (blk_cell BK214.out 1).trans rfl
      have hcz22_2 : wr.cell? ⟨gb214, 2, none⟩ = some (.slice A0_2 l0_2.length c0_2) := (blk_cell BK214.out 2).trans rfl
      have hcz22_3 : wr.cell? ⟨gb214, 3, none⟩ = some (.slice A0_3 l0_3.length c0_3) := (blk_cell BK214.out 3).trans rfl
      have hfz22_0 := blk_frozen BK214.out 0
      have hfz22_1 := blk_frozen BK214.out 1
      have hfz22_2 := blk_frozen BK214.out 2
      have hfz22_3 := blk_frozen BK214.out 3
      have hcz23_0 : wr.cell? ⟨gb215, 0, none⟩ = some (.slice A1_0 l1_0.length c1_0) := (blk_cell BK215.out 0).trans rfl
      have hcz23_1 : wr.cell? ⟨gb215, 1, none⟩ = some (.int .i64 a1_1) := (blk_cell BK215.out 1).trans rfl
      have hcz23_2 : wr.cell? ⟨gb215, 2, none⟩ = some (.int .i64 a1_2) := (blk_cell BK215.out 2).trans rfl
      have hcz23_3 : wr.cell? ⟨gb215, 3, none⟩ = some (.int .i64 a1_3) := (blk_cell BK215.out 3).trans rfl
      have hfz23_0 := blk_frozen BK215.out 0
      have hfz23_1 := blk_frozen BK215.out 1
      have hfz23_2 := blk_frozen BK215.out 2
      have hfz23_3 := blk_frozen BK215.out 3
      go_wp2
      repeat (go_quiet (fail); try go_wp2)
      go_loopg [6] k1 (fun kq v6 w' => ∃ (x6_2 : Int), v6 = .int .i64 x6_2 ∧ Aside0 (dioramaref08_Check.l1 kq x6_2 a0_0 l0_1 l0_2 l0_3 l1_0 a1_1 a1_2 a1_3 = some r) ∧ Aside0 (kq ≤ k1) ∧ Aside0 (w'.heap[gb214]? = some (.cells #[.int .i64 a0_0, (.slice A0_1 l0_1.length c0_1), (.slice A0_2 l0_2.length c0_2), (.slice A0_3 l0_3.length c0_3)] 40 (0, 0))) ∧ Aside0 (w'.heap[gb215]? = some (.cells #[(.slice A1_0 l1_0.length c1_0), .int .i64 a1_1, .int .i64 a1_2, .int .i64 a1_3] 97 (0, 0))) ∧ Aside0 (Below w.heap.size w w'))
      case atStart => exact ⟨(0), (by first | rfl | (simp; done) | (simp [*]; done)), H', ⟨Nat.le_refl _⟩, ⟨BL BK214⟩, ⟨BL BK215⟩, ⟨BB HB⟩⟩
      case round =>
       clear H'
       try clear c1
       try clear c2
       try clear p2
       try clear q2
       try clear hx2
       try clear c3
       try clear c3b0
       try clear c3b1
       try clear c3b2
       try clear c5
       try clear c6
       try clear p6
       try clear c9
       try clear c9b0
       try clear c10
       try clear c10b0
       try clear c11
       try clear c11b0
       try clear c13
       try clear c14
       try clear c17
       try clear c20
       try clear c20b0
       try clear c20b1
       try clear c21
       try clear p21
       try clear q21
       try clear hx21
       try clear hcz15_0
       try clear hcz15_1
       try clear hcz15_2
       try clear hcz15_3
       try clear hcz16_0
       try clear hcz16_1
       try clear hcz16_2
       try clear hcz16_3
       try clear hcz18_0
       try clear hcz18_1
       try clear hcz18_2
       try clear hcz18_3
       try clear hcz19_0
       try clear hcz19_1
       try clear hcz19_2
       try clear hcz19_3
       try clear hcz22_0
       try clear hcz22_1
       try clear hcz22_2
       try clear hcz22_3
       try clear hcz23_0
       try clear hcz23_1
       try clear hcz23_2
       try clear hcz23_3
       try clear hcz7_0
       try clear hcz7_1
       try clear hcz7_2
       try clear hcz7_3
       try clear hcz8_0
       try clear hcz8_1
       try clear hcz8_2
       try clear hcz8_3
       try clear hfz15_0
       try clear hfz15_1
       try clear hfz15_2
       try clear hfz15_3
       try clear hfz16_0
       try clear hfz16_1
       try clear hfz16_2
       try clear hfz16_3
       try clear hfz18_0
       try clear hfz18_1
       try clear hfz18_2
       try clear hfz18_3
       try clear hfz19_0
       try clear hfz19_1
       try clear hfz19_2
       try clear hfz19_3
       try clear hfz22_0
       try clear hfz22_1
       try clear hfz22_2
       try clear hfz22_3
       try clear hfz23_0
       try clear hfz23_1
       try clear hfz23_2
       try clear hfz23_3
       try clear hfz7_0
       try clear hfz7_1
       try clear hfz7_2
       try clear hfz7_3
       try clear hfz8_0
       try clear hfz8_1
       try clear hfz8_2
       try clear hfz8_3
       try clear hx216_0
       try clear hx217_0
       try clear p2
       try clear p216
       try clear p217
       try clear q216
       try clear q217
       obtain ⟨x6_2, rfl, HA, HK2, BK214, BK215, HB⟩ := hrel
       cases gk with
       | zero => exact absurd HA.out (by simp [dioramaref08_Check.l1])
       | succ k2 =>
        have H := HA.out
        clear HA
        simp only [dioramaref08_Check.l1] at H
        by_cases c24 : x6_2 < (l0_2.length : Int)
        ·rw [if_pos c24] at H
         have c24b0 : decide (x6_2 < (l0_2.length : Int)) = true := decide_eq_true c24
         clear c24
         by_cases c25 : 0 ≤ x6_2
         ·rw [if_pos c25] at H
          have c25b0 : decide (0 ≤ x6_2) = true := decide_eq_true c25
          clear c25
          replace H := Option.bind_eq_some_iff.mp H
          obtain ⟨t220, A260, H⟩ := H
          replace H : (if t220 = true then (dioramaref08_Check.l1 k2 (wrap64 (x6_2 + 1)) a0_0 l0_1 l0_2 l0_3 l1_0 a1_1 a1_2 a1_3) else (some 11)) = some r := H
          have A26 := Aside0.mk A260
          clear A260
          by_cases c27 : t220 = true
          ·subst c27
           have H1 : (dioramaref08_Check.l1 k2 (wrap64 (x6_2 + 1)) a0_0 l0_1 l0_2 l0_3 l1_0 a1_1 a1_2 a1_3) = some r := by rw [if_pos rfl] at H; exact H
           clear H
           have H := H1
           clear H1
           have H' := Aside0.mk H
           clear H
           have hnb28 := NB214_215.out
           have hnc28 := NB215_214.out
           have hcz29_0 : wr.cell? ⟨gb214, 0, none⟩ = some (.int .i64 a0_0) := (blk_cell BK214.out 0).trans rfl
           have hcz29_1 : wr.cell? ⟨gb214, 1, none⟩ = some (.slice A0_1 l0_1.length c0_1) := (blk_cell BK214.out 1).trans rfl
           have hcz29_2 : wr.cell? ⟨gb214, 2, none⟩ = some (.slice A0_2 l0_2.length c0_2) := (blk_cell BK214.out 2).trans rfl
           have hcz29_3 : wr.cell? ⟨gb214, 3, none⟩ = some (.slice A0_3 l0_3.length c0_3) := (blk_cell BK214.out 3).trans rfl
           have hfz29_0 := blk_frozen BK214.out 0
           have hfz29_1 := blk_frozen BK214.out 1
           have hfz29_2 := blk_frozen BK214.out 2
           have hfz29_3 := blk_frozen BK214.out 3
           have p219 : 0 ≤ (x6_2 : Int) := of_decide_eq_true (by first | (with_reducible assumption) | assumption)
           have q219 : x6_2 < (l0_2.length : Int) := of_decide_eq_true (by first | (with_reducible assumption) | assumption)
           obtain ⟨ad219, e219, hx219_0⟩ := Kd.at_string HR0_2.out x6_2 p219 q219
           cases e219
           replace hx219_0 := (HB.out.cell (World.block_lt_of_cell? w _ hx219_0)).trans hx219_0
           replace p219 := eq_true p219
           replace q219 := eq_true q219
           go_wp2_with (first | (go_at_call 28; (with_reducible refine (dioramaref05_Right.calls k2 (rdOf ByteArray.empty l0_2 x6_2) true _ A26.out).mono ?_); rintro e w30 ⟨rfl, hb⟩; have n0_ := BE BK214 hb; have n1_ := BE BK215 hb; have n2_ := Aside0.mk (below_step (BB HB) hb); clear BK214; clear BK215; clear HB; have BK214 := n0_; have BK215 := n1_; have HB := n2_; clear n0_ n1_ n2_; (try clear hb); (try clear hb2); (try clear hk); (try clear hi)))
           repeat (go_quiet (first | (go_at_call 28; (with_reducible refine (dioramaref05_Right.calls k2 (rdOf ByteArray.empty l0_2 x6_2) true _ A26.out).mono ?_); rintro e w30 ⟨rfl, hb⟩; have n0_ := BE BK214 hb; have n1_ := BE BK215 hb; have n2_ := Aside0.mk (below_step (BB HB) hb); clear BK214; clear BK215; clear HB; have BK214 := n0_; have BK215 := n1_; have HB := n2_; clear n0_ n1_ n2_; (try clear hb); (try clear hb2); (try clear hk); (try clear hi))); try go_wp2_with (first | (go_at_call 28; (with_reducible refine (dioramaref05_Right.calls k2 (rdOf ByteArray.empty l0_2 x6_2) true _ A26.out).mono ?_); rintro e w30 ⟨rfl, hb⟩; have n0_ := BE BK214 hb; have n1_ := BE BK215 hb; have n2_ := Aside0.mk (below_step (BB HB) hb); clear BK214; clear BK215; clear HB; have BK214 := n0_; have BK215 := n1_; have HB := n2_; clear n0_ n1_ n2_; (try clear hb); (try clear hb2); (try clear hk); (try clear hi))))
           go_roundg k2
           case measure => have := HK1.out; have := HK2.out; omega
           case rel => exact ⟨(wrap64 (x6_2 + 1)), (by first | rfl | (simp; done) | (simp [*]; done)), H', ⟨by have := HK1.out; have := HK2.out; omega⟩, ⟨BL BK214⟩, ⟨BL BK215⟩, ⟨BB HB⟩⟩
          ·replace c27 := Bool.eq_false_iff.mpr c27
           subst c27
           have H1 : (some 11) = some r := by rw [if_neg (show ¬ (false = true) by decide)] at H; exact H
           clear H
           have H := H1
           clear H1
           obtain rfl := Option.some.inj H
           have hnb31 := NB214_215.out
           have hnc31 := NB215_214.out
           have hcz32_0 : wr.cell? ⟨gb214, 0, none⟩ = some (.int .i64 a0_0) := (blk_cell BK214.out 0).trans rfl
           have hcz32_1 : wr.cell? ⟨gb214, 1, none⟩ = some (.slice A0_1 l0_1.length c0_1) := (blk_cell BK214.out 1).trans rfl
           have hcz32_2 : wr.cell? ⟨gb214, 2, none⟩ = some (.slice A0_2 l0_2.length c0_2) := (blk_cell BK214.out 2).trans rfl
           have hcz32_3 : wr.cell? ⟨gb214, 3, none⟩ = some (.slice A0_3 l0_3.length c0_3) := (blk_cell BK214.out 3).trans rfl
           have hfz32_0 := blk_frozen BK214.out 0
           have hfz32_1 := blk_frozen BK214.out 1
           have hfz32_2 := blk_frozen BK214.out 2
           have hfz32_3 := blk_frozen BK214.out 3
           have p219 : 0 ≤ (x6_2 : Int) := of_decide_eq_true (by first | (with_reducible assumption) | assumption)
           have q219 : x6_2 < (l0_2.length : Int) := of_decide_eq_true (by first | (with_reducible assumption) | assumption)
           obtain ⟨ad219, e219, hx219_0⟩ := Kd.at_string HR0_2.out x6_2 p219 q219
           cases e219
           replace hx219_0 := (HB.out.cell (World.block_lt_of_cell? w _ hx219_0)).trans hx219_0
           replace p219 := eq_true p219
           replace q219 := eq_true q219
           go_wp2_with (first | (go_at_call 28; (with_reducible refine (dioramaref05_Right.calls k2 (rdOf ByteArray.empty l0_2 x6_2) false _ A26.out).mono ?_); rintro e w33 ⟨rfl, hb⟩; have n0_ := BE BK214 hb; have n1_ := BE BK215 hb; have n2_ := Aside0.mk (below_step (BB HB) hb); clear BK214; clear BK215; clear HB; have BK214 := n0_; have BK215 := n1_; have HB := n2_; clear n0_ n1_ n2_; (try clear hb); (try clear hb2); (try clear hk); (try clear hi)))
           repeat (go_quiet (first | (go_at_call 28; (with_reducible refine (dioramaref05_Right.calls k2 (rdOf ByteArray.empty l0_2 x6_2) false _ A26.out).mono ?_); rintro e w33 ⟨rfl, hb⟩; have n0_ := BE BK214 hb; have n1_ := BE BK215 hb; have n2_ := Aside0.mk (below_step (BB HB) hb); clear BK214; clear BK215; clear HB; have BK214 := n0_; have BK215 := n1_; have HB := n2_; clear n0_ n1_ n2_; (try clear hb); (try clear hb2); (try clear hk); (try clear hi))); try go_wp2_with (first | (go_at_call 28; (with_reducible refine (dioramaref05_Right.calls k2 (rdOf ByteArray.empty l0_2 x6_2) false _ A26.out).mono ?_); rintro e w33 ⟨rfl, hb⟩; have n0_ := BE BK214 hb; have n1_ := BE BK215 hb; have n2_ := Aside0.mk (below_step (BB HB) hb); clear BK214; clear BK215; clear HB; have BK214 := n0_; have BK215 := n1_; have HB := n2_; clear n0_ n1_ n2_; (try clear hb); (try clear hb2); (try clear hk); (try clear hi))))
           go_ret
           exact ⟨by first | rfl | (simp [errW_none, errW_some] <;> rfl) | (simp [*, errW_none, errW_some] <;> rfl), BB HB⟩
         ·rw [if_neg c25] at H
          exact absurd H (by simp)
        ·rw [if_neg c24] at H
         have c24b0 : decide (x6_2 < (l0_2.length : Int)) = false := decide_eq_false c24
         clear c24
         by_cases c34 : (l0_3.length : Int) < a1_2
         ·rw [if_pos c34] at H
          have c34b0 : decide ((l0_3.length : Int) < a1_2) = true := decide_eq_true c34
          clear c34
          obtain rfl := Option.some.inj H
          have hnb35 := NB214_215.out
          have hnc35 := NB215_214.out
          have hcz36_0 : wr.cell? ⟨gb214, 0, none⟩ = some (.int .i64 a0_0) := (blk_cell BK214.out 0).trans rfl
          have hcz36_1 : wr.cell? ⟨gb214, 1, none⟩ = some (.slice A0_1 l0_1.length c0_1) := (blk_cell BK214.out 1).trans rfl
          have hcz36_2 : wr.cell? ⟨gb214, 2, none⟩ = some (.slice A0_2 l0_2.length c0_2) := (blk_cell BK214.out 2).trans rfl
          have hcz36_3 : wr.cell? ⟨gb214, 3, none⟩ = some (.slice A0_3 l0_3.length c0_3) := (blk_cell BK214.out 3).trans rfl
          have hfz36_0 := blk_frozen BK214.out 0
          have hfz36_1 := blk_frozen BK214.out 1
          have hfz36_2 := blk_frozen BK214.out 2
          have hfz36_3 := blk_frozen BK214.out 3
          have hcz37_0 : wr.cell? ⟨gb215, 0, none⟩ = some (.slice A1_0 l1_0.length c1_0) := (blk_cell BK215.out 0).trans rfl
          have hcz37_1 : wr.cell? ⟨gb215, 1, none⟩ = some (.int .i64 a1_1) := (blk_cell BK215.out 1).trans rfl
          have hcz37_2 : wr.cell? ⟨gb215, 2, none⟩ = some (.int .i64 a1_2) := (blk_cell BK215.out 2).trans rfl
          have hcz37_3 : wr.cell? ⟨gb215, 3, none⟩ = some (.int .i64 a1_3) := (blk_cell BK215.out 3).trans rfl
          have hfz37_0 := blk_frozen BK215.out 0
          have hfz37_1 := blk_frozen BK215.out 1
          have hfz37_2 := blk_frozen BK215.out 2
          have hfz37_3 := blk_frozen BK215.out 3
          go_wp2
          repeat (go_quiet (fail); try go_wp2)
          go_ret
          exact ⟨by first | rfl | (simp [errW_none, errW_some] <;> rfl) | (simp [*, errW_none, errW_some] <;> rfl), BB HB⟩
         ·rw [if_neg c34] at H
          have c34b0 : decide ((l0_3.length : Int) < a1_2) = false := decide_eq_false c34
          clear c34
          by_cases c38 : a1_3 ≥ 0
          ·rw [if_pos c38] at H
           have c38b0 : decide (0 ≤ a1_3) = true := decide_eq_true c38
           clear c38
           by_cases c39 : (l0_3.length : Int) > a1_3
           ·rw [if_pos c39] at H
            have c39b0 : decide (a1_3 < (l0_3.length : Int)) = true := decide_eq_true c39
            clear c39
            obtain rfl := Option.some.inj H
            have hnb40 := NB214_215.out
            have hnc40 := NB215_214.out
            have hcz41_0 : wr.cell? ⟨gb214, 0, none⟩ = some (.int .i64 a0_0) := (blk_cell BK214.out 0).trans rfl
            have hcz41_1 : wr.cell? ⟨gb214, 1, none⟩ = some (.slice A0_1 l0_1.length c0_1) := (blk_cell BK214.out 1).trans rfl
            have hcz41_2 : wr.cell? ⟨gb214, 2, none⟩ = some (.slice A0_2 l0_2.length c0_2) := (blk_cell BK214.out 2).trans rfl
            have hcz41_3 : wr.cell? ⟨gb214, 3, none⟩ = some (.slice A0_3 l0_3.length c0_3) := (blk_cell BK214.out 3).trans rfl
            have hfz41_0 := blk_frozen BK214.out 0
            have hfz41_1 := blk_frozen BK214.out 1
            have hfz41_2 := blk_frozen BK214.out 2
            have hfz41_3 := blk_frozen BK214.out 3
            have hcz42_0 : wr.cell? ⟨gb215, 0, none⟩ = some (.slice A1_0 l1_0.length c1_0) := (blk_cell BK215.out 0).trans rfl
            have hcz42_1 : wr.cell? ⟨gb215, 1, none⟩ = some (.int .i64 a1_1) := (blk_cell BK215.out 1).trans rfl
            have hcz42_2 : wr.cell? ⟨gb215, 2, none⟩ = some (.int .i64 a1_2) := (blk_cell BK215.out 2).trans rfl
            have hcz42_3 : wr.cell? ⟨gb215, 3, none⟩ = some (.int .i64 a1_3) := (blk_cell BK215.out 3).trans rfl
            have hfz42_0 := blk_frozen BK215.out 0
            have hfz42_1 := blk_frozen BK215.out 1
            have hfz42_2 := blk_frozen BK215.out 2
            have hfz42_3 := blk_frozen BK215.out 3
            go_wp2
            repeat (go_quiet (fail); try go_wp2)
            go_ret
            exact ⟨by first | rfl | (simp [errW_none, errW_some] <;> rfl) | (simp [*, errW_none, errW_some] <;> rfl), BB HB⟩
           ·rw [if_neg c39] at H
            have c39b0 : decide (a1_3 < (l0_3.length : Int)) = false := decide_eq_false c39
            clear c39
            obtain rfl := Option.some.inj H
            have hnb43 := NB214_215.out
            have hnc43 := NB215_214.out
            have hcz44_0 : wr.cell? ⟨gb214, 0, none⟩ = some (.int .i64 a0_0) := (blk_cell BK214.out 0).trans rfl
            have hcz44_1 : wr.cell? ⟨gb214, 1, none⟩ = some (.slice A0_1 l0_1.length c0_1) := (blk_cell BK214.out 1).trans rfl
            have hcz44_2 : wr.cell? ⟨gb214, 2, none⟩ = some (.slice A0_2 l0_2.length c0_2) := (blk_cell BK214.out 2).trans rfl
            have hcz44_3 : wr.cell? ⟨gb214, 3, none⟩ = some (.slice A0_3 l0_3.length c0_3) := (blk_cell BK214.out 3).trans rfl
            have hfz44_0 := blk_frozen BK214.out 0
            have hfz44_1 := blk_frozen BK214.out 1
            have hfz44_2 := blk_frozen BK214.out 2
            have hfz44_3 := blk_frozen BK214.out 3
            have hcz45_0 : wr.cell? ⟨gb215, 0, none⟩ = some (.slice A1_0 l1_0.length c1_0) := (blk_cell BK215.out 0).trans rfl
            have hcz45_1 : wr.cell? ⟨gb215, 1, none⟩ = some (.int .i64 a1_1) := (blk_cell BK215.out 1).trans rfl
            have hcz45_2 : wr.cell? ⟨gb215, 2, none⟩ = some (.int .i64 a1_2) := (blk_cell BK215.out 2).trans rfl
            have hcz45_3 : wr.cell? ⟨gb215, 3, none⟩ = some (.int .i64 a1_3) := (blk_cell BK215.out 3).trans rfl
            have hfz45_0 := blk_frozen BK215.out 0
            have hfz45_1 := blk_frozen BK215.out 1
            have hfz45_2 := blk_frozen BK215.out 2
            have hfz45_3 := blk_frozen BK215.out 3
            go_wp2
            repeat (go_quiet (fail); try go_wp2)
            go_ret
            exact ⟨by first | rfl | (simp [errW_none, errW_some] <;> rfl) | (simp [*, errW_none, errW_some] <;> rfl), BB HB⟩
          ·rw [if_neg c38] at H
           have c38b0 : decide (0 ≤ a1_3) = false := decide_eq_false c38
           clear c38
           obtain rfl := Option.some.inj H
           have hnb46 := NB214_215.out
           have hnc46 := NB215_214.out
           have hcz47_0 : wr.cell? ⟨gb214, 0, none⟩ = some (.int .i64 a0_0) := (blk_cell BK214.out 0).trans rfl
           have hcz47_1 : wr.cell? ⟨gb214, 1, none⟩ = some (.slice A0_1 l0_1.length c0_1) := (blk_cell BK214.out 1).trans rfl
           have hcz47_2 : wr.cell? ⟨gb214, 2, none⟩ = some (.slice A0_2 l0_2.length c0_2) := (blk_cell BK214.out 2).trans rfl
           have hcz47_3 : wr.cell? ⟨gb214, 3, none⟩ = some (.slice A0_3 l0_3.length c0_3) := (blk_cell BK214.out 3).trans rfl
           have hfz47_0 := blk_frozen BK214.out 0
           have hfz47_1 := blk_frozen BK214.out 1
           have hfz47_2 := blk_frozen BK214.out 2
           have hfz47_3 := blk_frozen BK214.out 3
           have hcz48_0 : wr.cell? ⟨gb215, 0, none⟩ = some (.slice A1_0 l1_0.length c1_0) := (blk_cell BK215.out 0).trans rfl
           have hcz48_1 : wr.cell? ⟨gb215, 1, none⟩ = some (.int .i64 a1_1) := (blk_cell BK215.out 1).trans rfl
           have hcz48_2 : wr.cell? ⟨gb215, 2, none⟩ = some (.int .i64 a1_2) := (blk_cell BK215.out 2).trans rfl
           have hcz48_3 : wr.cell? ⟨gb215, 3, none⟩ = some (.int .i64 a1_3) := (blk_cell BK215.out 3).trans rfl
           have hfz48_0 := blk_frozen BK215.out 0
           have hfz48_1 := blk_frozen BK215.out 1
           have hfz48_2 := blk_frozen BK215.out 2
           have hfz48_3 := blk_frozen BK215.out 3
           go_wp2
           repeat (go_quiet (fail); try go_wp2)
           go_ret
           exact ⟨by first | rfl | (simp [errW_none, errW_some] <;> rfl) | (simp [*, errW_none, errW_some] <;> rfl), BB HB⟩
     ·rw [if_neg c20] at H
      have c20b0 : ((l0_2.length : Int) == a1_1) = false := beq_eq_false_iff_ne.mpr c20
      have c20b1 : ((l0_2.length : Int) != a1_1) = true := bne_iff_ne.mpr c20
      obtain rfl := Option.some.inj H
      have hnb49 := NB214_215.out
      have hnc49 := NB215_214.out
      have hcz50_0 : wr.cell? ⟨gb214, 0, none⟩ = some (.int .i64 a0_0) := (blk_cell BK214.out 0).trans rfl
      have hcz50_1 : wr.cell? ⟨gb214, 1, none⟩ = some (.slice A0_1 l0_1.length c0_1) := (blk_cell BK214.out 1).trans rfl
      have hcz50_2 : wr.cell? ⟨gb214, 2, none⟩ = some (.slice A0_2 l0_2.length c0_2) := (blk_cell BK214.out 2).trans rfl
      have hcz50_3 : wr.cell? ⟨gb214, 3, none⟩ = some (.slice A0_3 l0_3.length c0_3) := (blk_cell BK214.out 3).trans rfl
      have hfz50_0 := blk_frozen BK214.out 0
      have hfz50_1 := blk_frozen BK214.out 1
      have hfz50_2 := blk_frozen BK214.out 2
      have hfz50_3 := blk_frozen BK214.out 3
      have hcz51_0 : wr.cell? ⟨gb215, 0, none⟩ = some (.slice A1_0 l1_0.length c1_0) := (blk_cell BK215.out 0).trans rfl
      have hcz51_1 : wr.cell? ⟨gb215, 1, none⟩ = some (.int .i64 a1_1) := (blk_cell BK215.out 1).trans rfl
      have hcz51_2 : wr.cell? ⟨gb215, 2, none⟩ = some (.int .i64 a1_2) := (blk_cell BK215.out 2).trans rfl
      have hcz51_3 : wr.cell? ⟨gb215, 3, none⟩ = some (.int .i64 a1_3) := (blk_cell BK215.out 3).trans rfl
      have hfz51_0 := blk_frozen BK215.out 0
      have hfz51_1 := blk_frozen BK215.out 1
      have hfz51_2 := blk_frozen BK215.out 2
      have hfz51_3 := blk_frozen BK215.out 3
      go_wp2
      repeat (go_quiet (fail); try go_wp2)
      go_ret
      exact ⟨by first | rfl | (simp [errW_none, errW_some] <;> rfl) | (simp [*, errW_none, errW_some] <;> rfl), BB HB⟩
 ·rw [if_neg c3] at H
  have c3b0 : ((l0_1.length : Int) == (l1_0.length : Int)) = false := beq_eq_false_iff_ne.mpr c3
  have c3b1 : ((l0_1.length : Int) != (l1_0.length : Int)) = true := bne_iff_ne.mpr c3
  have c3b2 : (l0_1.length == l1_0.length) = false := by first | simpa using c3 | (simp at c3 ⊢; omega)
  obtain rfl := Option.some.inj H
  go_enter Tryd.func52, Tryd.ntmps52
  go_wp2_with (first | ((with_reducible refine gate_dst (N := 2) rfl ?_); refine box_event ?hg (N := 2) ?hd (cs := #[.int .i64 a0_0, .slice A0_1 l0_1.length c0_1, .slice A0_2 l0_2.length c0_2, .slice A0_3 l0_3.length c0_3]) (t := 40) ?hr ?_; (case hd => rfl); (case hg => rfl); (case hr => first | (go_simp; done) | (go_simp; rfl)); intro gb214 hg w52 hbox hb; have n0_ := Aside0.mk (below_step (BB HB) hb); have n1_ := Aside0.mk (hbox); have n2_ := Aside0.mk ((by rw [hg]; exact (below_size (BB HB)) : w.heap.size ≤ gb214)); have n3_ := Aside0.mk ((by rw [hg]; exact (below_size (BB HB)) : w.heap.size ≤ gb214)); clear HB; have HB := n0_; have BK214 := n1_; have GW214 := n2_; have GE214 := n3_; clear n0_ n1_ n2_ n3_; clear hb hbox hg) | ((with_reducible refine gate_dst (N := 3) rfl ?_); refine box_event ?hg (N := 3) ?hd (cs := #[.slice A1_0 l1_0.length c1_0, .int .i64 a1_1, .int .i64 a1_2, .int .i64 a1_3]) (t := 97) ?hr ?_; (case hd => rfl); (case hg => rfl); (case hr => first | (go_simp; done) | (go_simp; rfl)); intro gb215 hg w53 hbox hb; have n0_ := BE BK214 hb; have n1_ := Aside0.mk (below_step (BB HB) hb); have n2_ := Aside0.mk (hbox); have n3_ := Aside0.mk ((by rw [hg]; exact (below_size (BB HB)) : w.heap.size ≤ gb215)); have n4_ := Aside0.mk ((by rw [hg]; exact (below_size (BB HB)) : w.heap.size ≤ gb215)); have n5_ := Aside0.mk ((by rw [hg]; exact Nat.ne_of_lt (blk_lt (g := gb214) (o := .cells #[.int .i64 a0_0, .slice A0_1 l0_1.length c0_1, .slice A0_2 l0_2.length c0_2, .slice A0_3 l0_3.length c0_3] 40 (0, 0)) (BL BK214)) : gb214 ≠ gb215)); have n6_ := Aside0.mk ((by rw [hg]; exact Nat.ne_of_gt (blk_lt (g := gb214) (o := .cells #[.int .i64 a0_0, .slice A0_1 l0_1.length c0_1, .slice A0_2 l0_2.length c0_2, .slice A0_3 l0_3.length c0_3] 40 (0, 0)) (BL BK214)) : gb215 ≠ gb214)); clear BK214; clear HB; have BK214 := n0_; have HB := n1_; have BK215 := n2_; have GW215 := n3_; have GE215 := n4_; have NB214_215 := n5_; have NB215_214 := n6_; clear n0_ n1_ n2_ n3_ n4_ n5_ n6_; clear hb hbox hg; have hnb54 := NB214_215.out; have hnc54 := NB215_214.out; have hcz55_0 : w53.cell? ⟨gb214, 0, none⟩ = some (.int .i64 a0_0) := (blk_cell BK214.out 0).trans rfl; have hcz55_1 : w53.cell? ⟨gb214, 1, none⟩ = some (.slice A0_1 l0_1.length c0_1) := (blk_cell BK214.out 1).trans rfl; have hcz55_2 : w53.cell? ⟨gb214, 2, none⟩ = some (.slice A0_2 l0_2.length c0_2) := (blk_cell BK214.out 2).trans rfl; have hcz55_3 : w53.cell? ⟨gb214, 3, none⟩ = some (.slice A0_3 l0_3.length c0_3) := (blk_cell BK214.out 3).trans rfl; have hfz55_0 := blk_frozen BK214.out 0; have hfz55_1 := blk_frozen BK214.out 1; have hfz55_2 := blk_frozen BK214.out 2; have hfz55_3 := blk_frozen BK214.out 3; have hcz56_0 : w53.cell? ⟨gb215, 0, none⟩ = some (.slice A1_0 l1_0.length c1_0) := (blk_cell BK215.out 0).trans rfl; have hcz56_1 : w53.cell? ⟨gb215, 1, none⟩ = some (.int .i64 a1_1) := (blk_cell BK215.out 1).trans rfl; have hcz56_2 : w53.cell? ⟨gb215, 2, none⟩ = some (.int .i64 a1_2) := (blk_cell BK215.out 2).trans rfl; have hcz56_3 : w53.cell? ⟨gb215, 3, none⟩ = some (.int .i64 a1_3) := (blk_cell BK215.out 3).trans rfl; have hfz56_0 := blk_frozen BK215.out 0; have hfz56_1 := blk_frozen BK215.out 1; have hfz56_2 := blk_frozen BK215.out 2; have hfz56_3 := blk_frozen BK215.out 3))
  repeat (go_quiet (first | ((with_reducible refine gate_dst (N := 2) rfl ?_); refine box_event ?hg (N := 2) ?hd (cs := #[.int .i64 a0_0, .slice A0_1 l0_1.length c0_1, .slice A0_2 l0_2.length c0_2, .slice A0_3 l0_3.length c0_3]) (t := 40) ?hr ?_; (case hd => rfl); (case hg => rfl); (case hr => first | (go_simp; done) | (go_simp; rfl)); intro gb214 hg w52 hbox hb; have n0_ := Aside0.mk (below_step (BB HB) hb); have n1_ := Aside0.mk (hbox); have n2_ := Aside0.mk ((by rw [hg]; exact (below_size (BB HB)) : w.heap.size ≤ gb214)); have n3_ := Aside0.mk ((by rw [hg]; exact (below_size (BB HB)) : w.heap.size ≤ gb214)); clear HB; have HB := n0_; have BK214 := n1_; have GW214 := n2_; have GE214 := n3_; clear n0_ n1_ n2_ n3_; clear hb hbox hg) | ((with_reducible refine gate_dst (N := 3) rfl ?_); refine box_event ?hg (N := 3) ?hd (cs := #[.slice A1_0 l1_0.length c1_0, .int .i64 a1_1, .int .i64 a1_2, .int .i64 a1_3]) (t := 97) ?hr ?_; (case hd => rfl); (case hg => rfl); (case hr => first | (go_simp; done) | (go_simp; rfl)); intro gb215 hg w53 hbox hb; have n0_ := BE BK214 hb; have n1_ := Aside0.mk (below_step (BB HB) hb); have n2_ := Aside0.mk (hbox); have n3_ := Aside0.mk ((by rw [hg]; exact (below_size (BB HB)) : w.heap.size ≤ gb215)); have n4_ := Aside0.mk ((by rw [hg]; exact (below_size (BB HB)) : w.heap.size ≤ gb215)); have n5_ := Aside0.mk ((by rw [hg]; exact Nat.ne_of_lt (blk_lt (g := gb214) (o := .cells #[.int .i64 a0_0, .slice A0_1 l0_1.length c0_1, .slice A0_2 l0_2.length c0_2, .slice A0_3 l0_3.length c0_3] 40 (0, 0)) (BL BK214)) : gb214 ≠ gb215)); have n6_ := Aside0.mk ((by rw [hg]; exact Nat.ne_of_gt (blk_lt (g := gb214) (o := .cells #[.int .i64 a0_0, .slice A0_1 l0_1.length c0_1, .slice A0_2 l0_2.length c0_2, .slice A0_3 l0_3.length c0_3] 40 (0, 0)) (BL BK214)) : gb215 ≠ gb214)); clear BK214; clear HB; have BK214 := n0_; have HB := n1_; have BK215 := n2_; have GW215 := n3_; have GE215 := n4_; have NB214_215 := n5_; have NB215_214 := n6_; clear n0_ n1_ n2_ n3_ n4_ n5_ n6_; clear hb hbox hg; have hnb54 := NB214_215.out; have hnc54 := NB215_214.out; have hcz55_0 : w53.cell? ⟨gb214, 0, none⟩ = some (.int .i64 a0_0) := (blk_cell BK214.out 0).trans rfl; have hcz55_1 : w53.cell? ⟨gb214, 1, none⟩ = some (.slice A0_1 l0_1.length c0_1) := (blk_cell BK214.out 1).trans rfl; have hcz55_2 : w53.cell? ⟨gb214, 2, none⟩ = some (.slice A0_2 l0_2.length c0_2) := (blk_cell BK214.out 2).trans rfl; have hcz55_3 : w53.cell? ⟨gb214, 3, none⟩ = some (.slice A0_3 l0_3.length c0_3) := (blk_cell BK214.out 3).trans rfl; have hfz55_0 := blk_frozen BK214.out 0; have hfz55_1 := blk_frozen BK214.out 1; have hfz55_2 := blk_frozen BK214.out 2; have hfz55_3 := blk_frozen BK214.out 3; have hcz56_0 : w53.cell? ⟨gb215, 0, none⟩ = some (.slice A1_0 l1_0.length c1_0) := (blk_cell BK215.out 0).trans rfl; have hcz56_1 : w53.cell? ⟨gb215, 1, none⟩ = some (.int .i64 a1_1) := (blk_cell BK215.out 1).trans rfl; have hcz56_2 : w53.cell? ⟨gb215, 2, none⟩ = some (.int .i64 a1_2) := (blk_cell BK215.out 2).trans rfl; have hcz56_3 : w53.cell? ⟨gb215, 3, none⟩ = some (.int .i64 a1_3) := (blk_cell BK215.out 3).trans rfl; have hfz56_0 := blk_frozen BK215.out 0; have hfz56_1 := blk_frozen BK215.out 1; have hfz56_2 := blk_frozen BK215.out 2; have hfz56_3 := blk_frozen BK215.out 3)); try go_wp2_with (first | ((with_reducible refine gate_dst (N := 2) rfl ?_); refine box_event ?hg (N := 2) ?hd (cs := #[.int .i64 a0_0, .slice A0_1 l0_1.length c0_1, .slice A0_2 l0_2.length c0_2, .slice A0_3 l0_3.length c0_3]) (t := 40) ?hr ?_; (case hd => rfl); (case hg => rfl); (case hr => first | (go_simp; done) | (go_simp; rfl)); intro gb214 hg w52 hbox hb; have n0_ := Aside0.mk (below_step (BB HB) hb); have n1_ := Aside0.mk (hbox); have n2_ := Aside0.mk ((by rw [hg]; exact (below_size (BB HB)) : w.heap.size ≤ gb214)); have n3_ := Aside0.mk ((by rw [hg]; exact (below_size (BB HB)) : w.heap.size ≤ gb214)); clear HB; have HB := n0_; have BK214 := n1_; have GW214 := n2_; have GE214 := n3_; clear n0_ n1_ n2_ n3_; clear hb hbox hg) | ((with_reducible refine gate_dst (N := 3) rfl ?_); refine box_event ?hg (N := 3) ?hd (cs := #[.slice A1_0 l1_0.length c1_0, .int .i64 a1_1, .int .i64 a1_2, .int .i64 a1_3]) (t := 97) ?hr ?_; (case hd => rfl); (case hg => rfl); (case hr => first | (go_simp; done) | (go_simp; rfl)); intro gb215 hg w53 hbox hb; have n0_ := BE BK214 hb; have n1_ := Aside0.mk (below_step (BB HB) hb); have n2_ := Aside0.mk (hbox); have n3_ := Aside0.mk ((by rw [hg]; exact (below_size (BB HB)) : w.heap.size ≤ gb215)); have n4_ := Aside0.mk ((by rw [hg]; exact (below_size (BB HB)) : w.heap.size ≤ gb215)); have n5_ := Aside0.mk ((by rw [hg]; exact Nat.ne_of_lt (blk_lt (g := gb214) (o := .cells #[.int .i64 a0_0, .slice A0_1 l0_1.length c0_1, .slice A0_2 l0_2.length c0_2, .slice A0_3 l0_3.length c0_3] 40 (0, 0)) (BL BK214)) : gb214 ≠ gb215)); have n6_ := Aside0.mk ((by rw [hg]; exact Nat.ne_of_gt (blk_lt (g := gb214) (o := .cells #[.int .i64 a0_0, .slice A0_1 l0_1.length c0_1, .slice A0_2 l0_2.length c0_2, .slice A0_3 l0_3.length c0_3] 40 (0, 0)) (BL BK214)) : gb215 ≠ gb214)); clear BK214; clear HB; have BK214 := n0_; have HB := n1_; have BK215 := n2_; have GW215 := n3_; have GE215 := n4_; have NB214_215 := n5_; have NB215_214 := n6_; clear n0_ n1_ n2_ n3_ n4_ n5_ n6_; clear hb hbox hg; have hnb54 := NB214_215.out; have hnc54 := NB215_214.out; have hcz55_0 : w53.cell? ⟨gb214, 0, none⟩ = some (.int .i64 a0_0) := (blk_cell BK214.out 0).trans rfl; have hcz55_1 : w53.cell? ⟨gb214, 1, none⟩ = some (.slice A0_1 l0_1.length c0_1) := (blk_cell BK214.out 1).trans rfl; have hcz55_2 : w53.cell? ⟨gb214, 2, none⟩ = some (.slice A0_2 l0_2.length c0_2) := (blk_cell BK214.out 2).trans rfl; have hcz55_3 : w53.cell? ⟨gb214, 3, none⟩ = some (.slice A0_3 l0_3.length c0_3) := (blk_cell BK214.out 3).trans rfl; have hfz55_0 := blk_frozen BK214.out 0; have hfz55_1 := blk_frozen BK214.out 1; have hfz55_2 := blk_frozen BK214.out 2; have hfz55_3 := blk_frozen BK214.out 3; have hcz56_0 : w53.cell? ⟨gb215, 0, none⟩ = some (.slice A1_0 l1_0.length c1_0) := (blk_cell BK215.out 0).trans rfl; have hcz56_1 : w53.cell? ⟨gb215, 1, none⟩ = some (.int .i64 a1_1) := (blk_cell BK215.out 1).trans rfl; have hcz56_2 : w53.cell? ⟨gb215, 2, none⟩ = some (.int .i64 a1_2) := (blk_cell BK215.out 2).trans rfl; have hcz56_3 : w53.cell? ⟨gb215, 3, none⟩ = some (.int .i64 a1_3) := (blk_cell BK215.out 3).trans rfl; have hfz56_0 := blk_frozen BK215.out 0; have hfz56_1 := blk_frozen BK215.out 1; have hfz56_2 := blk_frozen BK215.out 2; have hfz56_3 := blk_frozen BK215.out 3)))
  go_ret
  exact ⟨by first | rfl | (simp [errW_none, errW_some] <;> rfl) | (simp [*, errW_none, errW_some] <;> rfl), BB HB⟩

end Go.Proofs.YtoigkneoaemcfaaDoor.GR
