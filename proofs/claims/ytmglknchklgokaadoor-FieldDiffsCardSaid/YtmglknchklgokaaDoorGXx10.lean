-- Printed by a program of the session (wip/gen/tprint.py, over a turned copy of the kit's print): Lean checks it.
import Derived.Test.YtmglknchklgokaaDoorGXx0
import Derived.Test.YtmglknchklgokaaDoorGXx1
namespace Go.Proofs.YtmglknchklgokaaDoor.GX
open Go.RowKit Go.Proofs.YtmglknchklgokaaDoorW.PrintWords Go.Proofs.YtmglknchklgokaaDoorW.PrintLast Go.Proofs.YtmglknchklgokaaDoorW.PrintMore
attribute [local go_sem] max2_int min2_int max_two min_two max_three min_three max_four min_four   -- for this text's walks alone
set_option linter.unusedVariables false
set_option linter.unusedSimpArgs false

attribute [local go_sem high] eqA75
/-! ### dioramaref08_Great: function 14 -/
mutual
def dioramaref08_Great.j0 : Nat → Bool → Int → List Int → List ByteArray → List Int → Option (Bool)
 | 0, _, _, _, _, _ => none
 | k + 1, x19, x249000, x249001, x249002, x249003 => if x19 = true then (some true) else (dioramaref08_Great.l0 k 0 x249000 x249001 x249002 x249003)
def dioramaref08_Great.l0 : Nat → Int → Int → List Int → List ByteArray → List Int → Option (Bool)
 | 0, _, _, _, _, _ => none
 | k + 1, x3, x249000, x249001, x249002, x249003 => if x3 < (x249002.length : Int) then (if 0 ≤ x3 then (if ((rdOf ByteArray.empty x249002 x3).size : Int) > 500 then (some true) else (dioramaref08_Great.l0 k (wrap64 (x3 + 1)) x249000 x249001 x249002 x249003)) else (none)) else (some false)
end
def dioramaref08_Great.f (k : Nat) (a0_0 : Int) (l0_1 : List Int) (l0_2 : List ByteArray) (l0_3 : List Int) : Option (Bool) := if (l0_1.length : Int) > 100 then (dioramaref08_Great.j0 k true a0_0 l0_1 l0_2 l0_3) else (if (l0_2.length : Int) > 100 then (dioramaref08_Great.j0 k true a0_0 l0_1 l0_2 l0_3) else (dioramaref08_Great.j0 k (decide ((l0_3.length : Int) > 300)) a0_0 l0_1 l0_2 l0_3))
theorem dioramaref08_Great.mono_l : ∀ k, (∀ y0 y1 y2 y3 y4, LeO (dioramaref08_Great.j0 k y0 y1 y2 y3 y4) (dioramaref08_Great.j0 (k + 1) y0 y1 y2 y3 y4)) ∧ (∀ y0 y1 y2 y3 y4, LeO (dioramaref08_Great.l0 k y0 y1 y2 y3 y4) (dioramaref08_Great.l0 (k + 1) y0 y1 y2 y3 y4))
 | 0 => ⟨fun _ _ _ _ _ r h => by simp [dioramaref08_Great.j0] at h, fun _ _ _ _ _ r h => by simp [dioramaref08_Great.l0] at h⟩
 | k + 1 => by
  obtain ⟨ih0, ih1⟩ := dioramaref08_Great.mono_l k
  refine ⟨?_, ?_⟩
  ·intro y0 y1 y2 y3 y4
   unfold dioramaref08_Great.j0
   repeat' first
   | (with_reducible exact ih0 _ _ _ _ _)
   | (with_reducible exact ih1 _ _ _ _ _)
   | (with_reducible exact LeO.refl _)
   | (with_reducible exact LeO.none _)
   | (with_reducible refine LeO.ite ?_ ?_)
   | (with_reducible refine LeO.bind ?_ (fun _ => ?_))
   | exact ih0 _ _ _ _ _
   | exact ih1 _ _ _ _ _
   | exact LeO.none _
   | refine LeO.ite ?_ ?_
   | refine LeO.bind ?_ (fun _ => ?_)
  ·intro y0 y1 y2 y3 y4
   unfold dioramaref08_Great.l0
   repeat' first
   | (with_reducible exact ih0 _ _ _ _ _)
   | (with_reducible exact ih1 _ _ _ _ _)
   | (with_reducible exact LeO.refl _)
   | (with_reducible exact LeO.none _)
   | (with_reducible refine LeO.ite ?_ ?_)
   | (with_reducible refine LeO.bind ?_ (fun _ => ?_))
   | exact ih0 _ _ _ _ _
   | exact ih1 _ _ _ _ _
   | exact LeO.none _
   | refine LeO.ite ?_ ?_
   | refine LeO.bind ?_ (fun _ => ?_)
theorem dioramaref08_Great.mono : ∀ a0 a1 a2 a3 k, LeO (dioramaref08_Great.f k a0 a1 a2 a3) (dioramaref08_Great.f (k + 1) a0 a1 a2 a3) := by
 intro a0 a1 a2 a3 k
 obtain ⟨ih0, ih1⟩ := dioramaref08_Great.mono_l k
 unfold dioramaref08_Great.f
 repeat' first
   | (with_reducible exact ih0 _ _ _ _ _)
   | (with_reducible exact ih1 _ _ _ _ _)
   | (with_reducible exact LeO.refl _)
   | (with_reducible exact LeO.none _)
   | (with_reducible refine LeO.ite ?_ ?_)
   | (with_reducible refine LeO.bind ?_ (fun _ => ?_))
   | exact ih0 _ _ _ _ _
   | exact ih1 _ _ _ _ _
   | exact LeO.none _
   | refine LeO.ite ?_ ?_
   | refine LeO.bind ?_ (fun _ => ?_)
set_option maxHeartbeats 8000000 in
set_option maxRecDepth 100000 in
theorem dioramaref08_Great.calls (k : Nat) (a0_0 : Int) (A0_1 : Option Addr) (c0_1 : Nat) (l0_1 : List Int) (A0_2 : Option Addr) (c0_2 : Nat) (l0_2 : List ByteArray) (A0_3 : Option Addr) (c0_3 : Nat) (l0_3 : List Int) (r : Bool) (w : World) (hr0_1 : Kd.C (Kd.int .i64) w A0_1 l0_1.length l0_1) (hc0_1 : l0_1.length ≤ c0_1) (hr0_2 : Kd.C Kd.string w A0_2 l0_2.length l0_2) (hc0_2 : l0_2.length ≤ c0_2) (hr0_3 : Kd.C (Kd.int .i64) w A0_3 l0_3.length l0_3) (hc0_3 : l0_3.length ≤ c0_3) (h : dioramaref08_Great.f k a0_0 l0_1 l0_2 l0_3 = some r) :
  Calls Tryd.prog 14 #[.agg #[.int .i64 a0_0, .slice A0_1 l0_1.length c0_1, .slice A0_2 l0_2.length c0_2, .slice A0_3 l0_3.length c0_3]] w fun e w' => e = .returned (.bool r) ∧ Below w.heap.size w w' := by
 have hu26 := Tryd.underlying26
 have HR0_1 := Aside0.mk hr0_1
 have HC0_1 := Aside0.mk hc0_1
 clear hr0_1 hc0_1
 have HR0_2 := Aside0.mk hr0_2
 have HC0_2 := Aside0.mk hc0_2
 clear hr0_2 hc0_2
 have HR0_3 := Aside0.mk hr0_3
 have HC0_3 := Aside0.mk hc0_3
 clear hr0_3 hc0_3
 have HB := Aside0.mk (Below.refl w.heap.size w)
 have H : (if (l0_1.length : Int) > 100 then (dioramaref08_Great.j0 k true a0_0 l0_1 l0_2 l0_3) else (if (l0_2.length : Int) > 100 then (dioramaref08_Great.j0 k true a0_0 l0_1 l0_2 l0_3) else (dioramaref08_Great.j0 k (decide ((l0_3.length : Int) > 300)) a0_0 l0_1 l0_2 l0_3))) = some r := h
 clear h
 have HC2 := Aside0.mk H
 clear H
 go_enter Tryd.func14, Tryd.ntmps14
 go_upto_region 1 with (first | ((with_reducible refine gate_dst (N := 1) rfl ?_); refine box_event ?hg (N := 1) ?hd (cs := #[.int .i64 a0_0, .slice A0_1 l0_1.length c0_1, .slice A0_2 l0_2.length c0_2, .slice A0_3 l0_3.length c0_3]) (t := 26) ?hr ?_; (case hd => rfl); (case hg => rfl); (case hr => first | (go_simp; done) | (go_simp; rfl)); intro gb248 hg w3 hbox hb; have n0_ := Aside0.mk (below_step (BB HB) hb); have n1_ := Aside0.mk (hbox); have n2_ := Aside0.mk ((by rw [hg]; exact (below_size (BB HB)) : w.heap.size ≤ gb248)); have n3_ := Aside0.mk ((by rw [hg]; exact (below_size (BB HB)) : w.heap.size ≤ gb248)); clear HB; have HB := n0_; have BK248 := n1_; have GW248 := n2_; have GE248 := n3_; clear n0_ n1_ n2_ n3_; clear hb hbox hg))
 (try simp only [Act.put, List.setIfInBounds_toArray, List.set_cons_zero, List.set_cons_succ])
 go_cut [19] (fun v19 wc => ∃ (kq : Nat) (x19_1 : Bool), v19 = .bool x19_1 ∧ Aside0 (dioramaref08_Great.j0 kq x19_1 a0_0 l0_1 l0_2 l0_3 = some r) ∧ Aside0 (kq ≤ k) ∧ Aside0 (wc.heap[gb248]? = some (.cells #[.int .i64 a0_0, (.slice A0_1 l0_1.length c0_1), (.slice A0_2 l0_2.length c0_2), (.slice A0_3 l0_3.length c0_3)] 26 (0, 0))) ∧ Aside0 (Below w.heap.size w wc))
 case first =>
  have H := HC2.out
  clear HC2
  by_cases c4 : (l0_1.length : Int) > 100
  ·rw [if_pos c4] at H
   have c4b0 : decide (100 < (l0_1.length : Int)) = true := decide_eq_true c4
   have c4b1 : decide (100 < l0_1.length) = true := decide_eq_true (by omega)
   clear c4
   (first | rw [c4b0] | (simp only [i64_w, i32_w]; rw [c4b0]) | skip)
   have H' := Aside0.mk H
   clear H
   have hcz5_0 : w3.cell? ⟨gb248, 0, none⟩ = some (.int .i64 a0_0) := (blk_cell BK248.out 0).trans rfl
   have hcz5_1 : w3.cell? ⟨gb248, 1, none⟩ = some (.slice A0_1 l0_1.length c0_1) := (blk_cell BK248.out 1).trans rfl
   have hcz5_2 : w3.cell? ⟨gb248, 2, none⟩ = some (.slice A0_2 l0_2.length c0_2) := (blk_cell BK248.out 2).trans rfl
   have hcz5_3 : w3.cell? ⟨gb248, 3, none⟩ = some (.slice A0_3 l0_3.length c0_3) := (blk_cell BK248.out 3).trans rfl
   have hfz5_0 := blk_frozen BK248.out 0
   have hfz5_1 := blk_frozen BK248.out 1
   have hfz5_2 := blk_frozen BK248.out 2
   have hfz5_3 := blk_frozen BK248.out 3
   go_wp2
   go_meet
   case rel => exact ⟨_, (true), (by first | rfl | (simp; done) | (simp [*]; done)), H', ⟨by first | omega | exact Nat.le_refl _⟩, ⟨BL BK248⟩, ⟨BB HB⟩⟩
  ·rw [if_neg c4] at H
   have c4b0 : decide (100 < (l0_1.length : Int)) = false := decide_eq_false c4
   have c4b1 : decide (100 < l0_1.length) = false := decide_eq_false (by omega)
   clear c4
   (first | rw [c4b0] | (simp only [i64_w, i32_w]; rw [c4b0]) | skip)
   by_cases c6 : (l0_2.length : Int) > 100
   ·rw [if_pos c6] at H
    have c6b0 : decide (100 < (l0_2.length : Int)) = true := decide_eq_true c6
    have c6b1 : decide (100 < l0_2.length) = true := decide_eq_true (by omega)
    clear c6
    have H' := Aside0.mk H
    clear H
    have hcz7_0 : w3.cell? ⟨gb248, 0, none⟩ = some (.int .i64 a0_0) := (blk_cell BK248.out 0).trans rfl
    have hcz7_1 : w3.cell? ⟨gb248, 1, none⟩ = some (.slice A0_1 l0_1.length c0_1) := (blk_cell BK248.out 1).trans rfl
    have hcz7_2 : w3.cell? ⟨gb248, 2, none⟩ = some (.slice A0_2 l0_2.length c0_2) := (blk_cell BK248.out 2).trans rfl
    have hcz7_3 : w3.cell? ⟨gb248, 3, none⟩ = some (.slice A0_3 l0_3.length c0_3) := (blk_cell BK248.out 3).trans rfl
    have hfz7_0 := blk_frozen BK248.out 0
    have hfz7_1 := blk_frozen BK248.out 1
    have hfz7_2 := blk_frozen BK248.out 2
    have hfz7_3 := blk_frozen BK248.out 3
    go_wp2
    go_meet
    case rel => exact ⟨_, (true), (by first | rfl | (simp; done) | (simp [*]; done)), H', ⟨by first | omega | exact Nat.le_refl _⟩, ⟨BL BK248⟩, ⟨BB HB⟩⟩
   ·rw [if_neg c6] at H
    have c6b0 : decide (100 < (l0_2.length : Int)) = false := decide_eq_false c6
    have c6b1 : decide (100 < l0_2.length) = false := decide_eq_false (by omega)
    clear c6
    have H' := Aside0.mk H
    clear H
    have hcz8_0 : w3.cell? ⟨gb248, 0, none⟩ = some (.int .i64 a0_0) := (blk_cell BK248.out 0).trans rfl
    have hcz8_1 : w3.cell? ⟨gb248, 1, none⟩ = some (.slice A0_1 l0_1.length c0_1) := (blk_cell BK248.out 1).trans rfl
    have hcz8_2 : w3.cell? ⟨gb248, 2, none⟩ = some (.slice A0_2 l0_2.length c0_2) := (blk_cell BK248.out 2).trans rfl
    have hcz8_3 : w3.cell? ⟨gb248, 3, none⟩ = some (.slice A0_3 l0_3.length c0_3) := (blk_cell BK248.out 3).trans rfl
    have hfz8_0 := blk_frozen BK248.out 0
    have hfz8_1 := blk_frozen BK248.out 1
    have hfz8_2 := blk_frozen BK248.out 2
    have hfz8_3 := blk_frozen BK248.out 3
    go_wp2
    go_meet
    case rel => exact ⟨_, (decide ((l0_3.length : Int) > 300)), (by first | rfl | (simp; done) | (simp [*]; done)), H', ⟨by first | omega | exact Nat.le_refl _⟩, ⟨BL BK248⟩, ⟨BB HB⟩⟩
 case rest =>
  clear HC2
  try clear c1
  try clear p2
  try clear c4
  try clear c4b0
  try clear c4b1
  try clear c6
  try clear c6b0
  try clear c6b1
  try clear hcz5_0
  try clear hcz5_1
  try clear hcz5_2
  try clear hcz5_3
  try clear hcz7_0
  try clear hcz7_1
  try clear hcz7_2
  try clear hcz7_3
  try clear hcz8_0
  try clear hcz8_1
  try clear hcz8_2
  try clear hcz8_3
  try clear hfz5_0
  try clear hfz5_1
  try clear hfz5_2
  try clear hfz5_3
  try clear hfz7_0
  try clear hfz7_1
  try clear hfz7_2
  try clear hfz7_3
  try clear hfz8_0
  try clear hfz8_1
  try clear hfz8_2
  try clear hfz8_3
  obtain ⟨kq, x19_1, rfl, HA, HJ1, BK248, HB⟩ := hcut
  cases kq with
  | zero => exact absurd HA.out (by simp [dioramaref08_Great.j0])
  | succ kj1 =>
   have H := HA.out
   clear HA
   simp only [dioramaref08_Great.j0] at H
   by_cases c9 : x19_1 = true
   ·subst c9
    have H1 : (some true) = some r := by rw [if_pos rfl] at H; exact H
    clear H
    have H := H1
    clear H1
    obtain rfl := Option.some.inj H
    go_wp2
    go_ret
    exact ⟨by first | rfl | (simp [errW_none, errW_some] <;> rfl) | (simp [*, errW_none, errW_some] <;> rfl), BB HB⟩
   ·replace c9 := Bool.eq_false_iff.mpr c9
    subst c9
    have H1 : (dioramaref08_Great.l0 kj1 0 a0_0 l0_1 l0_2 l0_3) = some r := by rw [if_neg (show ¬ (false = true) by decide)] at H; exact H
    clear H
    have H := H1
    clear H1
    have H' := Aside0.mk H
    clear H
    go_wp2
    go_loopg [3] kj1 (fun kq v3 w' => ∃ (x3_2 : Int), v3 = .int .i64 x3_2 ∧ Aside0 (dioramaref08_Great.l0 kq x3_2 a0_0 l0_1 l0_2 l0_3 = some r) ∧ Aside0 (kq ≤ kj1) ∧ Aside0 (w'.heap[gb248]? = some (.cells #[.int .i64 a0_0, (.slice A0_1 l0_1.length c0_1), (.slice A0_2 l0_2.length c0_2), (.slice A0_3 l0_3.length c0_3)] 26 (0, 0))) ∧ Aside0 (Below w.heap.size w w'))
    case atStart => exact ⟨(0), (by first | rfl | (simp; done) | (simp [*]; done)), H', ⟨Nat.le_refl _⟩, ⟨BL BK248⟩, ⟨BB HB⟩⟩
    case round =>
     clear H'
     try clear c1
     try clear p2
     try clear c4
     try clear c4b0
     try clear c4b1
     try clear c6
     try clear c6b0
     try clear c6b1
     try clear c9
     try clear hcz5_0
     try clear hcz5_1
     try clear hcz5_2
     try clear hcz5_3
     try clear hcz7_0
     try clear hcz7_1
     try clear hcz7_2
     try clear hcz7_3
     try clear hcz8_0
     try clear hcz8_1
     try clear hcz8_2
     try clear hcz8_3
     try clear hfz5_0
     try clear hfz5_1
     try clear hfz5_2
     try clear hfz5_3
     try clear hfz7_0
     try clear hfz7_1
     try clear hfz7_2
     try clear hfz7_3
     try clear hfz8_0
     try clear hfz8_1
     try clear hfz8_2
     try clear hfz8_3
     try clear p2
     obtain ⟨x3_2, rfl, HA, HK2, BK248, HB⟩ := hrel
     cases gk with
     | zero => exact absurd HA.out (by simp [dioramaref08_Great.l0])
     | succ k2 =>
      have H := HA.out
      clear HA
      simp only [dioramaref08_Great.l0] at H
      by_cases c10 : x3_2 < (l0_2.length : Int)
      ·rw [if_pos c10] at H
       have c10b0 : decide (x3_2 < (l0_2.length : Int)) = true := decide_eq_true c10
       clear c10
       by_cases c11 : 0 ≤ x3_2
       ·rw [if_pos c11] at H
        have c11b0 : decide (0 ≤ x3_2) = true := decide_eq_true c11
        clear c11
        by_cases c12 : ((rdOf ByteArray.empty l0_2 x3_2).size : Int) > 500
        ·rw [if_pos c12] at H
         have c12b0 : decide (500 < ((rdOf ByteArray.empty l0_2 x3_2).size : Int)) = true := decide_eq_true c12
         have c12b1 : decide (500 < (rdOf ByteArray.empty l0_2 x3_2).size) = true := decide_eq_true (by omega)
         clear c12
         obtain rfl := Option.some.inj H
         have hcz13_0 : wr.cell? ⟨gb248, 0, none⟩ = some (.int .i64 a0_0) := (blk_cell BK248.out 0).trans rfl
         have hcz13_1 : wr.cell? ⟨gb248, 1, none⟩ = some (.slice A0_1 l0_1.length c0_1) := (blk_cell BK248.out 1).trans rfl
         have hcz13_2 : wr.cell? ⟨gb248, 2, none⟩ = some (.slice A0_2 l0_2.length c0_2) := (blk_cell BK248.out 2).trans rfl
         have hcz13_3 : wr.cell? ⟨gb248, 3, none⟩ = some (.slice A0_3 l0_3.length c0_3) := (blk_cell BK248.out 3).trans rfl
         have hfz13_0 := blk_frozen BK248.out 0
         have hfz13_1 := blk_frozen BK248.out 1
         have hfz13_2 := blk_frozen BK248.out 2
         have hfz13_3 := blk_frozen BK248.out 3
         have p249 : 0 ≤ (x3_2 : Int) := of_decide_eq_true (by first | (with_reducible assumption) | assumption)
         have q249 : x3_2 < (l0_2.length : Int) := of_decide_eq_true (by first | (with_reducible assumption) | assumption)
         obtain ⟨ad249, e249, hx249_0⟩ := Kd.at_string HR0_2.out x3_2 p249 q249
         cases e249
         replace hx249_0 := (HB.out.cell (World.block_lt_of_cell? w _ hx249_0)).trans hx249_0
         replace p249 := eq_true p249
         replace q249 := eq_true q249
         go_wp2
         go_ret
         exact ⟨by first | rfl | (simp [errW_none, errW_some] <;> rfl) | (simp [*, errW_none, errW_some] <;> rfl), BB HB⟩
        ·rw [if_neg c12] at H
         have c12b0 : decide (500 < ((rdOf ByteArray.empty l0_2 x3_2).size : Int)) = false := decide_eq_false c12
         have c12b1 : decide (500 < (rdOf ByteArray.empty l0_2 x3_2).size) = false := decide_eq_false (by omega)
         clear c12
         have H' := Aside0.mk H
         clear H
         have hcz14_0 : wr.cell? ⟨gb248, 0, none⟩ = some (.int .i64 a0_0) := (blk_cell BK248.out 0).trans rfl
         have hcz14_1 : wr.cell? ⟨gb248, 1, none⟩ = some (.slice A0_1 l0_1.length c0_1) := (blk_cell BK248.out 1).trans rfl
         have hcz14_2 : wr.cell? ⟨gb248, 2, none⟩ = some (.slice A0_2 l0_2.length c0_2) := (blk_cell BK248.out 2).trans rfl
         have hcz14_3 : wr.cell? ⟨gb248, 3, none⟩ = some (.slice A0_3 l0_3.length c0_3) := (blk_cell BK248.out 3).trans rfl
         have hfz14_0 := blk_frozen BK248.out 0
         have hfz14_1 := blk_frozen BK248.out 1
         have hfz14_2 := blk_frozen BK248.out 2
         have hfz14_3 := blk_frozen BK248.out 3
         have p249 : 0 ≤ (x3_2 : Int) := of_decide_eq_true (by first | (with_reducible assumption) | assumption)
         have q249 : x3_2 < (l0_2.length : Int) := of_decide_eq_true (by first | (with_reducible assumption) | assumption)
         obtain ⟨ad249, e249, hx249_0⟩ := Kd.at_string HR0_2.out x3_2 p249 q249
         cases e249
         replace hx249_0 := (HB.out.cell (World.block_lt_of_cell? w _ hx249_0)).trans hx249_0
         replace p249 := eq_true p249
         replace q249 := eq_true q249
         go_wp2
         go_roundg k2
         case measure => have := HJ1.out; have := HK2.out; omega
         case rel => exact ⟨(wrap64 (x3_2 + 1)), (by first | rfl | (simp; done) | (simp [*]; done)), H', ⟨by have := HJ1.out; have := HK2.out; omega⟩, ⟨BL BK248⟩, ⟨BB HB⟩⟩
       ·rw [if_neg c11] at H
        exact absurd H (by simp)
      ·rw [if_neg c10] at H
       have c10b0 : decide (x3_2 < (l0_2.length : Int)) = false := decide_eq_false c10
       clear c10
       obtain rfl := Option.some.inj H
       have hcz15_0 : wr.cell? ⟨gb248, 0, none⟩ = some (.int .i64 a0_0) := (blk_cell BK248.out 0).trans rfl
       have hcz15_1 : wr.cell? ⟨gb248, 1, none⟩ = some (.slice A0_1 l0_1.length c0_1) := (blk_cell BK248.out 1).trans rfl
       have hcz15_2 : wr.cell? ⟨gb248, 2, none⟩ = some (.slice A0_2 l0_2.length c0_2) := (blk_cell BK248.out 2).trans rfl
       have hcz15_3 : wr.cell? ⟨gb248, 3, none⟩ = some (.slice A0_3 l0_3.length c0_3) := (blk_cell BK248.out 3).trans rfl
       have hfz15_0 := blk_frozen BK248.out 0
       have hfz15_1 := blk_frozen BK248.out 1
       have hfz15_2 := blk_frozen BK248.out 2
       have hfz15_3 := blk_frozen BK248.out 3
       go_wp2
       go_ret
       exact ⟨by first | rfl | (simp [errW_none, errW_some] <;> rfl) | (simp [*, errW_none, errW_some] <;> rfl), BB HB⟩

/-! ### dioramaref08_Copy: function 16 -/
section
open Go.Lib
def dioramaref08_Copy.f (a0_0 : Int) (l0_1 : List Int) (l0_2 : List ByteArray) (l0_3 : List Int) : Option (Int × List Int × List ByteArray × List Int) :=
 if l0_1.length < 17592186044416 ∧ l0_2.length < 8796093022208 ∧ l0_3.length < 17592186044416 then some (a0_0, l0_1, l0_2, l0_3) else none
def dioramaref08_Copy.T1 : Bool × List (List Nat × List Nat) := (true, [([], []), ([0], [0]), ([], []), ([], []), ([3], [3]), ([2, 4], [2, 4]), ([], []), ([], []), ([7], [7]), ([6, 8, 5], [6, 8]), ([], []), ([], []), ([11], [11]), ([10, 12, 9], [10, 12]), ([1, 5, 9, 13], [1, 5, 9, 13]), ([14, 13, 0, 1, 2, 3, 4, 5, 6, 7, 8, 9, 10, 11, 12, 13, 14], [14])])
def dioramaref08_Copy.B1 : List Nat := [0, 1, 0, 0, 8, 28, 0, 0, 128, 508, 0, 0, 2048, 8188, 16383, 32767]
theorem dioramaref08_Copy.tab1 : rtab .any (opsOf Tryd.f16 1) = dioramaref08_Copy.T1 := by kernel_rfl
theorem dioramaref08_Copy.bits1 : waitsOk dioramaref08_Copy.T1.2 dioramaref08_Copy.B1 = true := by kernel_rfl
theorem wpOp_intro {P : Program} {ops : Array Oper} {Q : Exit → Act → World → Prop} {i : Nat} {oi : Oper} {N : Option Tmp} {K : Act → World → Prop} {a : Act} {w : World} (hi : ops[i]? = some oi) (hN : oi.dst = N) (h : if Region.wanted oi (yielded ops a.tmps) = true then Oper.wp P oi a w K Q else K (a.put N undef) w) : wpOp P ops Q i K a w := by
 subst hN
 unfold wpOp
 rw [hi]
 simp only
 by_cases hc : Region.wanted oi (yielded ops a.tmps) = true
 ·rw [if_pos hc] at h ⊢
  exact .inl h
 ·rw [if_neg hc] at h ⊢
  exact h
/-- What is done: p, q, r of each row's two steps. -/
def dioramaref08_Copy.L (p q r : Nat) : Array Bool := #[true, true, decide (1 ≤ p), true, true, decide (2 ≤ p), decide (1 ≤ q), true, true, decide (2 ≤ q), decide (1 ≤ r), true, true, decide (2 ≤ r), false, false]
theorem dioramaref08_Copy.ready : ∀ p, p < 3 → ∀ q, q < 3 → ∀ r, r < 3 → (readyT dioramaref08_Copy.T1.2 (dioramaref08_Copy.L p q r).toList).all (fun i => ((if p = 0 then [2] else if p = 1 then [5] else []) ++ (if q = 0 then [6] else if q = 1 then [9] else []) ++ (if r = 0 then [10] else if r = 1 then [13] else []) ++ (if p + q + r = 6 then [14] else [])).contains i) = true ∧ readyT dioramaref08_Copy.T1.2 (dioramaref08_Copy.L p q r).toList ≠ [] := by decide
set_option maxHeartbeats 4000000 in
set_option maxRecDepth 100000 in
theorem dioramaref08_Copy.run {ops : Array Oper} (hops : ops = opsOf Tryd.f16 1) {Q : Exit → Act → World → Prop} {S : World → Prop} {w0 : World} {x0 x1 x2 x3 x4 x6 x10 x14 x17 : Value} {A1 A2 A3 : Option Addr} {c1 c2 c3 : Nat} {l1 : List Int} {l2 : List ByteArray} {l3 : List Int}
  (g1 : Kd.C (Kd.int .i64) w0 A1 l1.length l1) (g2 : Kd.C Kd.string w0 A2 l2.length l2) (g3 : Kd.C (Kd.int .i64) w0 A3 l3.length l3) (m1 : l1.length < 17592186044416) (m2 : l2.length < 8796093022208) (m3 : l3.length < 17592186044416)
  (hS : ∀ w', Below w0.heap.size w0 w' → S w')
  (hfin : ∀ v1 v1' v2 v2' v3 v3' W, Below w0.heap.size w0 W → Kd.R (Kd.int .i64) 2 W w0.heap.size (fun _ => True) v1' l1 → Kd.R Kd.string 9 W w0.heap.size (fun _ => True) v2' l2 → Kd.R (Kd.int .i64) 3 W w0.heap.size (fun _ => True) v3' l3 →
   wpAnyLast Tryd.prog .any ops Q S [] 2 (dioramaref08_Copy.L 2 2 2) { tmps := #[x0, x1, x2, x3, x4, v1, x6, .slice A1 l1.length c1, v1', v2, x10, .slice A2 l2.length c2, v2', v3, x14, .slice A3 l3.length c3, v3', x17], defers := [] } W) :
  ∀ (n p q r : Nat) (v1 v1' v2 v2' v3 v3' : Value) (W : World), p < 3 → q < 3 → r < 3 → n + p + q + r = 6 → Below w0.heap.size w0 W →
   (p = 1 → Kd.R (Kd.int .i64) 2 W w0.heap.size (fun _ => True) v1 []) → (p = 2 → Kd.R (Kd.int .i64) 2 W w0.heap.size (fun _ => True) v1' l1) →
   (q = 1 → Kd.R Kd.string 9 W w0.heap.size (fun _ => True) v2 []) → (q = 2 → Kd.R Kd.string 9 W w0.heap.size (fun _ => True) v2' l2) →
   (r = 1 → Kd.R (Kd.int .i64) 3 W w0.heap.size (fun _ => True) v3 []) → (r = 2 → Kd.R (Kd.int .i64) 3 W w0.heap.size (fun _ => True) v3' l3) →
   wpAnyLast Tryd.prog .any ops Q S [] (n + 2) (dioramaref08_Copy.L p q r) { tmps := #[x0, x1, x2, x3, x4, v1, x6, .slice A1 l1.length c1, v1', v2, x10, .slice A2 l2.length c2, v2', v3, x14, .slice A3 l3.length c3, v3', x17], defers := [] } W := by
 subst hops
 intro n
 induction n with
 | zero =>
  intro p q r v1 v1' v2 v2' v3 v3' W hp hq hr hn hB _ h1 _ h2 _ h3
  obtain rfl : p = 2 := by omega
  obtain rfl : q = 2 := by omega
  obtain rfl : r = 2 := by omega
  exact hfin v1 v1' v2 v2' v3 v3' W hB (h1 rfl) (h2 rfl) (h3 rfl)
 | succ n ih =>
  intro p q r v1 v1' v2 v2' v3 v3' W hp hq hr hn hB h1 h1' h2 h2' h3 h3'
  have hrd : Region.ready .any (opsOf Tryd.f16 1) (dioramaref08_Copy.L p q r) = readyT dioramaref08_Copy.T1.2 (dioramaref08_Copy.L p q r).toList := ready_eq.trans (by rw [dioramaref08_Copy.tab1])
  obtain ⟨hr1, hr2⟩ := dioramaref08_Copy.ready p hp q hq r hr
  have hn6 : ¬ p + q + r = 6 := by omega
  have hz := hB.size
  refine ⟨fun h => absurd (hrd.symm.trans h) hr2, fun i hi => ?_⟩
  ·rw [hrd] at hi
   have hi := List.contains_iff_mem.1 (List.all_eq_true.1 hr1 i hi)
   rw [if_neg hn6, List.append_nil, List.mem_append, List.mem_append] at hi
   rcases hi with (hi | hi) | hi
   ·by_cases e1 : p = 0
    ·subst e1
     rw [if_pos rfl, List.mem_singleton] at hi
     subst hi
     refine wpOp_intro (i := 2) (N := some 5) rfl rfl ?_
     refine Kd.R_lit_step (Kd.int .i64) (w0 := w0) w0.heap.size 2 ?hg (N := 5) ?hd (xs := ([] : List Int)) (inner := []) (ok := fun _ => True) (okp := fun _ => True) ?hr ?hp (fun _ hk => hk) trivial hB hz (by simp) ?_
     case hd => rfl
     case hg => rfl
     case hr => kernel_rfl
     case hp => exact Reps.none _ _
     intro u W1 hu hB1 hg _
     exact ⟨fun _ _ => hS _ hB1, ih 1 q r u v1' v2 v2' v3 v3' W1 (by omega) hq hr (by omega) hB1 (fun _ => hu) (fun h => by cases h) (fun h => Kd.R_grown (h2 h) hg (fun _ _ => by simp)) (fun h => Kd.R_grown (h2' h) hg (fun _ _ => by simp)) (fun h => Kd.R_grown (h3 h) hg (fun _ _ => by simp)) (fun h => Kd.R_grown (h3' h) hg (fun _ _ => by simp))⟩
    ·by_cases e2 : p = 1
     ·subst e2
      rw [if_neg (by omega), if_pos rfl, List.mem_singleton] at hi
      subst hi
      refine wpOp_intro (i := 5) (N := some 8) rfl rfl ?_
      refine Kd.R_append_rows_step (Kd.int .i64) (w0 := w0) w0.heap.size (by rfl) (.tmp 5) (.tmp 7) 22 2 (.int .i64 0) 8 rfl Tryd.underlying22 (show (Tryd.prog.info? 2).map (fun i => (i.zero, i.size, i.bytes)) = some (some (.int .i64 0), 1, 8) from by kernel_rfl) rfl (by decide) (by omega) v1 [] l1 A1 _ c1 (fun _ => True) (fun _ => False) rfl rfl (h1 rfl) (Kd.C_below g1 hB) (fun _ _ h => h) (fun _ h => h.elim) (fun _ _ => trivial) hB hz (by simp; omega) ?_
      intro u W1 hu hB1 hg _
      exact ⟨fun _ _ => hS _ hB1, ih 2 q r v1 u v2 v2' v3 v3' W1 (by omega) hq hr (by omega) hB1 (fun h => by cases h) (fun _ => by simpa using hu) (fun h => Kd.R_over (h2 h) (h1 rfl) (by decide) hg) (fun h => Kd.R_over (h2' h) (h1 rfl) (by decide) hg) (fun h => Kd.R_over (h3 h) (h1 rfl) (by decide) hg) (fun h => Kd.R_over (h3' h) (h1 rfl) (by decide) hg)⟩
     ·rw [if_neg e1, if_neg e2] at hi
      cases hi
   ·by_cases e1 : q = 0
    ·subst e1
     rw [if_pos rfl, List.mem_singleton] at hi
     subst hi
     refine wpOp_intro (i := 6) (N := some 9) rfl rfl ?_
     refine Kd.R_lit_step Kd.string (w0 := w0) w0.heap.size 9 ?hg (N := 9) ?hd (xs := ([] : List ByteArray)) (inner := []) (ok := fun _ => True) (okp := fun _ => True) ?hr ?hp (fun _ hk => hk) trivial hB hz (by simp) ?_
     case hd => rfl
     case hg => rfl
     case hr => kernel_rfl
     case hp => exact Reps.none _ _
     intro u W1 hu hB1 hg _
     exact ⟨fun _ _ => hS _ hB1, ih p 1 r v1 v1' u v2' v3 v3' W1 hp (by omega) hr (by omega) hB1 (fun h => Kd.R_grown (h1 h) hg (fun _ _ => by simp)) (fun h => Kd.R_grown (h1' h) hg (fun _ _ => by simp)) (fun _ => hu) (fun h => by cases h) (fun h => Kd.R_grown (h3 h) hg (fun _ _ => by simp)) (fun h => Kd.R_grown (h3' h) hg (fun _ _ => by simp))⟩
    ·by_cases e2 : q = 1
     ·subst e2
      rw [if_neg (by omega), if_pos rfl, List.mem_singleton] at hi
      subst hi
      refine wpOp_intro (i := 9) (N := some 12) rfl rfl ?_
      refine Kd.R_append_rows_step Kd.string (w0 := w0) w0.heap.size (by rfl) (.tmp 9) (.tmp 11) 23 9 (.string ⟨#[]⟩) 16 rfl Tryd.underlying23 (show (Tryd.prog.info? 9).map (fun i => (i.zero, i.size, i.bytes)) = some (some (.string ⟨#[]⟩), 1, 16) from by kernel_rfl) rfl (by decide) (by omega) v2 [] l2 A2 _ c2 (fun _ => True) (fun _ => False) rfl rfl (h2 rfl) (Kd.C_below g2 hB) (fun _ _ h => h) (fun _ h => h.elim) (fun _ _ => trivial) hB hz (by simp; omega) ?_
      intro u W1 hu hB1 hg _
      exact ⟨fun _ _ => hS _ hB1, ih p 2 r v1 v1' v2 u v3 v3' W1 hp (by omega) hr (by omega) hB1 (fun h => Kd.R_over (h1 h) (h2 rfl) (by decide) hg) (fun h => Kd.R_over (h1' h) (h2 rfl) (by decide) hg) (fun h => by cases h) (fun _ => by simpa using hu) (fun h => Kd.R_over (h3 h) (h2 rfl) (by decide) hg) (fun h => Kd.R_over (h3' h) (h2 rfl) (by decide) hg)⟩
     ·rw [if_neg e1, if_neg e2] at hi
      cases hi
   ·by_cases e1 : r = 0
    ·subst e1
     rw [if_pos rfl, List.mem_singleton] at hi
     subst hi
     refine wpOp_intro (i := 10) (N := some 13) rfl rfl ?_
     refine Kd.R_lit_step (Kd.int .i64) (w0 := w0) w0.heap.size 3 ?hg (N := 13) ?hd (xs := ([] : List Int)) (inner := []) (ok := fun _ => True) (okp := fun _ => True) ?hr ?hp (fun _ hk => hk) trivial hB hz (by simp) ?_
     case hd => rfl
     case hg => rfl
     case hr => kernel_rfl
     case hp => exact Reps.none _ _
     intro u W1 hu hB1 hg _
     exact ⟨fun _ _ => hS _ hB1, ih p q 1 v1 v1' v2 v2' u v3' W1 hp hq (by omega) (by omega) hB1 (fun h => Kd.R_grown (h1 h) hg (fun _ _ => by simp)) (fun h => Kd.R_grown (h1' h) hg (fun _ _ => by simp)) (fun h => Kd.R_grown (h2 h) hg (fun _ _ => by simp)) (fun h => Kd.R_grown (h2' h) hg (fun _ _ => by simp)) (fun _ => hu) (fun h => by cases h)⟩
    ·by_cases e2 : r = 1
     ·subst e2
      rw [if_neg (by omega), if_pos rfl, List.mem_singleton] at hi
      subst hi
      refine wpOp_intro (i := 13) (N := some 16) rfl rfl ?_
      refine Kd.R_append_rows_step (Kd.int .i64) (w0 := w0) w0.heap.size (by rfl) (.tmp 13) (.tmp 15) 24 3 (.int .i64 0) 8 rfl Tryd.underlying24 (show (Tryd.prog.info? 3).map (fun i => (i.zero, i.size, i.bytes)) = some (some (.int .i64 0), 1, 8) from by kernel_rfl) rfl (by decide) (by omega) v3 [] l3 A3 _ c3 (fun _ => True) (fun _ => False) rfl rfl (h3 rfl) (Kd.C_below g3 hB) (fun _ _ h => h) (fun _ h => h.elim) (fun _ _ => trivial) hB hz (by simp; omega) ?_
      intro u W1 hu hB1 hg _
      exact ⟨fun _ _ => hS _ hB1, ih p q 2 v1 v1' v2 v2' v3 u W1 hp hq (by omega) (by omega) hB1 (fun h => Kd.R_over (h1 h) (h3 rfl) (by decide) hg) (fun h => Kd.R_over (h1' h) (h3 rfl) (by decide) hg) (fun h => Kd.R_over (h2 h) (h3 rfl) (by decide) hg) (fun h => Kd.R_over (h2' h) (h3 rfl) (by decide) hg) (fun h => by cases h) (fun _ => by simpa using hu)⟩
     ·rw [if_neg e1, if_neg e2] at hi
      cases hi
set_option maxHeartbeats 4000000 in
set_option maxRecDepth 100000 in
theorem dioramaref08_Copy.calls (a0_0 : Int) (A0_1 : Option Addr) (c0_1 : Nat) (l0_1 : List Int) (A0_2 : Option Addr) (c0_2 : Nat) (l0_2 : List ByteArray) (A0_3 : Option Addr) (c0_3 : Nat) (l0_3 : List Int) (r1 : Int) (r2 : List Int) (r3 : List ByteArray) (r4 : List Int) (w : World) (hr0_1 : Kd.C (Kd.int .i64) w A0_1 l0_1.length l0_1) (hc0_1 : l0_1.length ≤ c0_1) (hr0_2 : Kd.C Kd.string w A0_2 l0_2.length l0_2) (hc0_2 : l0_2.length ≤ c0_2) (hr0_3 : Kd.C (Kd.int .i64) w A0_3 l0_3.length l0_3) (hc0_3 : l0_3.length ≤ c0_3) (h : dioramaref08_Copy.f a0_0 l0_1 l0_2 l0_3 = some (r1, r2, r3, r4)) :
  Calls Tryd.prog 16 #[.agg #[.int .i64 a0_0, .slice A0_1 l0_1.length c0_1, .slice A0_2 l0_2.length c0_2, .slice A0_3 l0_3.length c0_3]] w fun e w' => ∃ v1_ v2_ v3_ : Value, e = .returned (.agg #[.int .i64 r1, v1_, v2_, v3_]) ∧ Kd.R (Kd.int .i64) 2 w' w.heap.size (fun _ => True) v1_ r2 ∧ Kd.R Kd.string 9 w' w.heap.size (fun _ => True) v2_ r3 ∧ Kd.R (Kd.int .i64) 3 w' w.heap.size (fun _ => True) v3_ r4 ∧ Below w.heap.size w w' := by
 unfold dioramaref08_Copy.f at h
 split at h
 ·rename_i hm
  simp only [Option.some.injEq, Prod.mk.injEq] at h
  obtain ⟨rfl, rfl, rfl, rfl⟩ := h
  obtain ⟨m1, m2, m3⟩ := hm
  have H1 := Lib.hid hr0_1
  have H2 := Lib.hid hr0_2
  have H3 := Lib.hid hr0_3
  have M1 := Lib.hid m1
  have M2 := Lib.hid m2
  have M3 := Lib.hid m3
  clear hr0_1 hr0_2 hr0_3 m1 m2 m3
  go_enter Tryd.func16, Tryd.ntmps16
  go_upto_region 1 with (fail)
  have hb := blk_alloc (heap_alloc_new w (.cells #[.int .i64 a0_0, .slice A0_1 l0_1.length c0_1, .slice A0_2 l0_2.length c0_2, .slice A0_3 l0_3.length c0_3] 26)) (.cells #[.int .i64 0, .slice none 0 0, .slice none 0 0, .slice none 0 0] 26)
  have ho := heap_alloc_new (w.alloc (.cells #[.int .i64 a0_0, .slice A0_1 l0_1.length c0_1, .slice A0_2 l0_2.length c0_2, .slice A0_3 l0_3.length c0_3] 26)) (.cells #[.int .i64 0, .slice none 0 0, .slice none 0 0, .slice none 0 0] 26)
  have hB : Below w.heap.size w ((w.alloc (.cells #[.int .i64 a0_0, .slice A0_1 l0_1.length c0_1, .slice A0_2 l0_2.length c0_2, .slice A0_3 l0_3.length c0_3] 26)).alloc (.cells #[.int .i64 0, .slice none 0 0, .slice none 0 0, .slice none 0 0] 26)) := ((Below.refl _ w).alloc (Nat.le_refl _) _).alloc (by simp) _
  have hz1 : (w.alloc (.cells #[.int .i64 a0_0, .slice A0_1 l0_1.length c0_1, .slice A0_2 l0_2.length c0_2, .slice A0_3 l0_3.length c0_3] 26)).heap.size = w.heap.size + 1 := by simp
  rw [hz1] at ho
  clear hz1
  generalize ((w.alloc (.cells #[.int .i64 a0_0, .slice A0_1 l0_1.length c0_1, .slice A0_2 l0_2.length c0_2, .slice A0_3 l0_3.length c0_3] 26)).alloc (.cells #[.int .i64 0, .slice none 0 0, .slice none 0 0, .slice none 0 0] 26)) = w2 at hb ho hB ⊢
  have BK := Lib.hid (blk_drew hb)
  have BO := Lib.hid (blk_drew ho)
  have HB := Lib.hid hB.drew
  clear hb ho hB
  refine start_ (n := 16) (S := fun w' => w'.cell? ⟨w.heap.size, 0, none⟩ = some (.int .i64 a0_0) ∧ w'.cell? ⟨w.heap.size, 1, none⟩ = some (.slice A0_1 l0_1.length c0_1) ∧ w'.cell? ⟨w.heap.size, 2, none⟩ = some (.slice A0_2 l0_2.length c0_2) ∧ w'.cell? ⟨w.heap.size, 3, none⟩ = some (.slice A0_3 l0_3.length c0_3)) (ds := []) #[false, false, false, false, false, false, false, false, false, false, false, false, false, false, false, false] (by kernel_rfl) rfl rfl ⟨(blk_cell BK.out 0).trans rfl, (blk_cell BK.out 1).trans rfl, (blk_cell BK.out 2).trans rfl, (blk_cell BK.out 3).trans rfl⟩ (fun hHeld => ?_)
  refine with_tabW dioramaref08_Copy.tab1 dioramaref08_Copy.bits1 (fun HT_ HW_ => ?_)
  generalize w2.drew = w3 at BK BO HB hHeld ⊢
  refine pure_ (i := 0) (N := some 3) (v := ?_) (a' := ?_) #[true, false, false, false, false, false, false, false, false, false, false, false, false, false, false, false] rfl rfl (any_of HT_.out (by kernel_rfl)) (fun _ _ _ h => h) (Or.inl ⟨by rfl, ?_⟩) ?_ ?_
  rotate_left
  ·intro w'; go_simp; with_reducible rfl
  rotate_left
  ·simp only [Act.put, List.setIfInBounds_toArray, List.set_cons_zero, List.set_cons_succ, i64_w, i32_w]; rfl
  refine pure_ (i := 3) (N := some 6) (v := ?_) (a' := ?_) #[true, false, false, true, false, false, false, false, false, false, false, false, false, false, false, false] rfl rfl (any_of HT_.out (by kernel_rfl)) (fun _ _ _ h => h) (Or.inl ⟨by rfl, ?_⟩) ?_ ?_
  rotate_left
  ·intro w'; go_simp; with_reducible rfl
  rotate_left
  ·simp only [Act.put, List.setIfInBounds_toArray, List.set_cons_zero, List.set_cons_succ, i64_w, i32_w]; rfl
  refine pure_ (i := 7) (N := some 10) (v := ?_) (a' := ?_) #[true, false, false, true, false, false, false, true, false, false, false, false, false, false, false, false] rfl rfl (any_of HT_.out (by kernel_rfl)) (fun _ _ _ h => h) (Or.inl ⟨by rfl, ?_⟩) ?_ ?_
  rotate_left
  ·intro w'; go_simp; with_reducible rfl
  rotate_left
  ·simp only [Act.put, List.setIfInBounds_toArray, List.set_cons_zero, List.set_cons_succ, i64_w, i32_w]; rfl
  refine pure_ (i := 11) (N := some 14) (v := ?_) (a' := ?_) #[true, false, false, true, false, false, false, true, false, false, false, true, false, false, false, false] rfl rfl (any_of HT_.out (by kernel_rfl)) (fun _ _ _ h => h) (Or.inl ⟨by rfl, ?_⟩) ?_ ?_
  rotate_left
  ·intro w'; go_simp; with_reducible rfl
  rotate_left
  ·simp only [Act.put, List.setIfInBounds_toArray, List.set_cons_zero, List.set_cons_succ, i64_w, i32_w]; rfl
  refine take_ (i := 1) (N := some 4) (v := ?_) (a' := ?_) #[true, true, false, true, false, false, false, true, false, false, false, true, false, false, false, false] rfl rfl (take_ofW HT_.out HW_.out (by kernel_rfl)) (fun _ _ _ h => h) (Or.inl ⟨by rfl, ?_⟩) hHeld ?_ ?_
  rotate_left
  ·rintro w' ⟨s0, s1, s2, s3⟩; go_simp; with_reducible rfl
  rotate_left
  ·simp only [Act.put, List.setIfInBounds_toArray, List.set_cons_zero, List.set_cons_succ, i64_w, i32_w]; rfl
  refine take_ (i := 4) (N := some 7) (v := ?_) (a' := ?_) #[true, true, false, true, true, false, false, true, false, false, false, true, false, false, false, false] rfl rfl (take_ofW HT_.out HW_.out (by kernel_rfl)) (fun _ _ _ h => h) (Or.inl ⟨by rfl, ?_⟩) hHeld ?_ ?_
  rotate_left
  ·rintro w' ⟨s0, s1, s2, s3⟩; go_simp; with_reducible rfl
  rotate_left
  ·simp only [Act.put, List.setIfInBounds_toArray, List.set_cons_zero, List.set_cons_succ, i64_w, i32_w]; rfl
  refine take_ (i := 8) (N := some 11) (v := ?_) (a' := ?_) #[true, true, false, true, true, false, false, true, true, false, false, true, false, false, false, false] rfl rfl (take_ofW HT_.out HW_.out (by kernel_rfl)) (fun _ _ _ h => h) (Or.inl ⟨by rfl, ?_⟩) hHeld ?_ ?_
  rotate_left
  ·rintro w' ⟨s0, s1, s2, s3⟩; go_simp; with_reducible rfl
  rotate_left
  ·simp only [Act.put, List.setIfInBounds_toArray, List.set_cons_zero, List.set_cons_succ, i64_w, i32_w]; rfl
  refine take_ (i := 12) (N := some 15) (v := ?_) (a' := ?_) #[true, true, false, true, true, false, false, true, true, false, false, true, true, false, false, false] rfl rfl (take_ofW HT_.out HW_.out (by kernel_rfl)) (fun _ _ _ h => h) (Or.inl ⟨by rfl, ?_⟩) hHeld ?_ ?_
  rotate_left
  ·rintro w' ⟨s0, s1, s2, s3⟩; go_simp; with_reducible rfl
  rotate_left
  ·simp only [Act.put, List.setIfInBounds_toArray, List.set_cons_zero, List.set_cons_succ, i64_w, i32_w]; rfl
  have hblt := blk_lt BK.out
  have holt := blk_lt BO.out
  refine dioramaref08_Copy.run (by kernel_rfl) (Kd.C_below H1.out HB.out) (Kd.C_below H2.out HB.out) (Kd.C_below H3.out HB.out) M1.out M2.out M3.out (fun w' hb => ⟨(hb.cell hblt).trans hHeld.1, (hb.cell hblt).trans hHeld.2.1, (hb.cell hblt).trans hHeld.2.2.1, (hb.cell hblt).trans hHeld.2.2.2⟩) ?_ 6 0 0 0 _ _ _ _ _ _ w3 (by omega) (by omega) (by omega) rfl (Below.refl _ _) (fun h => by cases h) (fun h => by cases h) (fun h => by cases h) (fun h => by cases h) (fun h => by cases h) (fun h => by cases h)
  intro u1 v1 u2 v2 u3 v3 W hb ho1 ho2 ho3
  have BO2 := Lib.hid ((hb.block _ holt).trans BO.out)
  have BK2 := Lib.hid ((hb.block _ hblt).trans BK.out)
  have HB2 := Lib.hid (below_step HB.out hb)
  have O1 := Lib.hid ho1
  have O2 := Lib.hid ho2
  have O3 := Lib.hid ho3
  obtain ⟨B1, d1, rfl⟩ := Kd.R_slice O1.out
  obtain ⟨B2, d2, rfl⟩ := Kd.R_slice O2.out
  obtain ⟨B3, d3, rfl⟩ := Kd.R_slice O3.out
  have hW : W.cell? ⟨w.heap.size, 0, none⟩ = some (.int .i64 a0_0) ∧ W.cell? ⟨w.heap.size, 1, none⟩ = some (.slice A0_1 l0_1.length c0_1) ∧ W.cell? ⟨w.heap.size, 2, none⟩ = some (.slice A0_2 l0_2.length c0_2) ∧ W.cell? ⟨w.heap.size, 3, none⟩ = some (.slice A0_3 l0_3.length c0_3) := ⟨(blk_cell BK2.out 0).trans rfl, (blk_cell BK2.out 1).trans rfl, (blk_cell BK2.out 2).trans rfl, (blk_cell BK2.out 3).trans rfl⟩
  refine pure_ (i := 14) (N := some 17) (v := ?_) (a' := ?_) #[true, true, true, true, true, true, true, true, true, true, true, true, true, true, true, false] rfl rfl (any_of HT_.out (by kernel_rfl)) (fun _ _ _ h => h) (Or.inl ⟨by rfl, ?_⟩) ?_ ?_
  rotate_left
  ·intro w'; go_simp; with_reducible rfl
  rotate_left
  ·simp only [Act.put, List.setIfInBounds_toArray, List.set_cons_zero, List.set_cons_succ, i64_w, i32_w]; rfl
  refine one_ (i := 15) (N := none) #[true, true, true, true, true, true, true, true, true, true, true, true, true, true, true, true] rfl rfl (one_of HT_.out (by kernel_rfl)) (by decide) (fun K hK => ?_)
  have hs0 : W.cell? ⟨w.heap.size + 1, 0, none⟩ = some (.int .i64 0) := (blk_cell BO2.out 0).trans rfl
  have hs1 : W.cell? ⟨w.heap.size + 1, 1, none⟩ = some (.slice none 0 0) := (blk_cell BO2.out 1).trans rfl
  have hs2 : W.cell? ⟨w.heap.size + 1, 2, none⟩ = some (.slice none 0 0) := (blk_cell BO2.out 2).trans rfl
  have hs3 : W.cell? ⟨w.heap.size + 1, 3, none⟩ = some (.slice none 0 0) := (blk_cell BO2.out 3).trans rfl
  have hf0 := blk_frozen BO2.out 0
  have hf1 := blk_frozen BO2.out 1
  have hf2 := blk_frozen BO2.out 2
  have hf3 := blk_frozen BO2.out 3
  have hne : w.heap.size ≠ w.heap.size + 1 := by omega
  refine skip_ (w1 := ?_) (by rfl) rfl ?_ ?_
  rotate_left
  ·go_simp; rfl
  have far : ∀ (V : World) (j i : Nat) (u x : Value), V.cell? ⟨w.heap.size, j, none⟩ = some x → (V.setCell ⟨w.heap.size + 1, i, none⟩ u).cell? ⟨w.heap.size, j, none⟩ = some x := fun V j i u x h => (cell_far (p := ⟨w.heap.size + 1, i, none⟩) hne u).trans h
  refine hK.out _ _ ⟨far _ _ _ _ _ (far _ _ _ _ _ (far _ _ _ _ _ (far _ _ _ _ _ hW.1))), far _ _ _ _ _ (far _ _ _ _ _ (far _ _ _ _ _ (far _ _ _ _ _ hW.2.1))), far _ _ _ _ _ (far _ _ _ _ _ (far _ _ _ _ _ (far _ _ _ _ _ hW.2.2.1))), far _ _ _ _ _ (far _ _ _ _ _ (far _ _ _ _ _ (far _ _ _ _ _ hW.2.2.2)))⟩ (fun hHeld => ?_)
  clear hK K
  refine done_ (done_of HT_.out (by kernel_rfl)) ?_
  try go_wp2
  have hp0 := blk_put BO2.out 0 (.int .i64 a0_0) rfl
  have hp1 := blk_put hp0 1 (.slice B1 l0_1.length d1) rfl
  have hp2 := blk_put hp1 2 (.slice B2 l0_2.length d2) rfl
  have hp3 := blk_put hp2 3 (.slice B3 l0_3.length d3) rfl
  refine bodyPost_ret (results_cell_row rfl _ _ (w.heap.size + 1) 26 #[.int .i64 a0_0, .slice B1 l0_1.length d1, .slice B2 l0_2.length d2, .slice B3 l0_3.length d3] (0, 0) _ rfl hp3 Tryd.underlying26 rfl (by kernel_rfl)) rfl ?_
  have hsz := HB.out.size
  have far1 : ∀ {α : Type} {d : Kd α} {e : Nat} {v : Value} {xs : List α} (V : World) (i : Nat) (u : Value), Kd.R d e V w3.heap.size (fun _ => True) v xs → Kd.R d e (V.setCell ⟨w.heap.size + 1, i, none⟩ u) w3.heap.size (fun _ => True) v xs := fun V i u h => Kd.R_mono (Kd.R_far (p := ⟨w.heap.size + 1, i, none⟩) (Kd.R_bound h) (fun k hk => by have := hk.2.1; show k ≠ w.heap.size + 1; omega) u) (fun _ _ => trivial)
  exact ⟨_, _, _, rfl, Kd.R_lower (far1 _ _ _ (far1 _ _ _ (far1 _ _ _ (far1 _ _ _ O1.out)))) hsz, Kd.R_lower (far1 _ _ _ (far1 _ _ _ (far1 _ _ _ (far1 _ _ _ O2.out)))) hsz, Kd.R_lower (far1 _ _ _ (far1 _ _ _ (far1 _ _ _ (far1 _ _ _ O3.out)))) hsz, (((HB2.out.setCell (p := ⟨w.heap.size + 1, 0, none⟩) (by simp) _).setCell (p := ⟨w.heap.size + 1, 1, none⟩) (by simp) _).setCell (p := ⟨w.heap.size + 1, 2, none⟩) (by simp) _).setCell (p := ⟨w.heap.size + 1, 3, none⟩) (by simp) _⟩
 ·cases h
end


/-! ### dioramaref08_SameSets: function 23 -/
def dioramaref08_SameSets.l0 : Nat → List (S75) → List (S75) → Int → Option (Bool)
 | 0, _, _, _ => none
 | k + 1, x0, x1, x5 => if x5 < (x0.length : Int) then (if 0 ≤ x5 then (if x5 < (x1.length : Int) then (if (!(((rd_T75 x0 x5).f0) == ((rd_T75 x1 x5).f0)) || (!(((rd_T75 x0 x5).f1) == ((rd_T75 x1 x5).f1)) || (!(((rd_T75 x0 x5).f2) == ((rd_T75 x1 x5).f2)) || (!((((rd_T75 x0 x5).f3).toList) == (((rd_T75 x1 x5).f3).toList)))))) = true then (some false) else (dioramaref08_SameSets.l0 k x0 x1 (wrap64 (x5 + 1)))) else (none)) else (none)) else (some true)
def dioramaref08_SameSets.f (k : Nat) (l0 : List (S75)) (l1 : List (S75)) : Option (Bool) := if (l0.length : Int) = (l1.length : Int) then (dioramaref08_SameSets.l0 k l0 l1 0) else (some false)
theorem dioramaref08_SameSets.mono_l : ∀ k, (∀ y0 y1 y2, LeO (dioramaref08_SameSets.l0 k y0 y1 y2) (dioramaref08_SameSets.l0 (k + 1) y0 y1 y2))
 | 0 => fun _ _ _ r h => by simp [dioramaref08_SameSets.l0] at h
 | k + 1 => by
  have ih0 := dioramaref08_SameSets.mono_l k
  ·intro y0 y1 y2
   unfold dioramaref08_SameSets.l0
   repeat' first
   | (with_reducible exact ih0 _ _ _)
   | (with_reducible exact LeO.refl _)
   | (with_reducible exact LeO.none _)
   | (with_reducible refine LeO.ite ?_ ?_)
   | (with_reducible refine LeO.bind ?_ (fun _ => ?_))
   | exact ih0 _ _ _
   | exact LeO.none _
   | refine LeO.ite ?_ ?_
   | refine LeO.bind ?_ (fun _ => ?_)
theorem dioramaref08_SameSets.mono : ∀ a0 a1 k, LeO (dioramaref08_SameSets.f k a0 a1) (dioramaref08_SameSets.f (k + 1) a0 a1) := by
 intro a0 a1 k
 have ih0 := dioramaref08_SameSets.mono_l k
 unfold dioramaref08_SameSets.f
 repeat' first
   | (with_reducible exact ih0 _ _ _)
   | (with_reducible exact LeO.refl _)
   | (with_reducible exact LeO.none _)
   | (with_reducible refine LeO.ite ?_ ?_)
   | (with_reducible refine LeO.bind ?_ (fun _ => ?_))
   | exact ih0 _ _ _
   | exact LeO.none _
   | refine LeO.ite ?_ ?_
   | refine LeO.bind ?_ (fun _ => ?_)
set_option maxHeartbeats 8000000 in
set_option maxRecDepth 100000 in
theorem dioramaref08_SameSets.calls (k : Nat) (A0 : Option Addr) (c0 : Nat) (l0 : List (S75)) (A1 : Option Addr) (c1 : Nat) (l1 : List (S75)) (r : Bool) (w : World) (hr0 : Kd.C k75 w A0 l0.length l0) (hc0 : l0.length ≤ c0) (hr1 : Kd.C k75 w A1 l1.length l1) (hc1 : l1.length ≤ c1) (h : dioramaref08_SameSets.f k l0 l1 = some r) :
  Calls Tryd.prog 23 #[.slice A0 l0.length c0, .slice A1 l1.length c1] w fun e w' => e = .returned (.bool r) ∧ Drawn0 w w' := by
 have hu75 := Tryd.underlying75
 have HR0 := Aside0.mk hr0
 have HC0 := Aside0.mk hc0
 clear hr0 hc0
 have HR1 := Aside0.mk hr1
 have HC1 := Aside0.mk hc1
 clear hr1 hc1
 have H : (if (l0.length : Int) = (l1.length : Int) then (dioramaref08_SameSets.l0 k l0 l1 0) else (some false)) = some r := h
 clear h
 by_cases c3 : (l0.length : Int) = (l1.length : Int)
 ·rw [if_pos c3] at H
  have c3b0 : ((l0.length : Int) == (l1.length : Int)) = true := beq_iff_eq.mpr c3
  have c3b1 : ((l0.length : Int) != (l1.length : Int)) = false := bne_eq_false_iff_eq.mpr c3
  have c3b2 : (l0.length == l1.length) = true := by first | simpa using c3 | (simp at c3 ⊢; omega)
  clear c3
  have H' := Aside0.mk H
  clear H
  go_enter Tryd.func23, Tryd.ntmps23
  go_wp2
  repeat (go_quiet (fail); try go_wp2)
  go_loopg [5] k (fun kq v5 w' => ∃ (x5_1 : Int), v5 = .int .i64 x5_1 ∧ Aside0 (dioramaref08_SameSets.l0 kq l0 l1 x5_1 = some r) ∧ Aside0 (kq ≤ k) ∧ Drawn0 w w')
  case atStart => exact ⟨(0), (by first | rfl | (simp; done) | (simp [*]; done)), H', ⟨Nat.le_refl _⟩, by repeat (first | exact Drawn0.refl _ | apply Drawn0.step)⟩
  case round =>
   clear H'
   try clear c1
   try clear c2
   try clear p2
   try clear c3
   try clear c3b0
   try clear c3b1
   try clear c3b2
   obtain ⟨x5_1, rfl, HA, HK1, ⟨m1, rfl⟩⟩ := hrel
   cases gk with
   | zero => exact absurd HA.out (by simp [dioramaref08_SameSets.l0])
   | succ k1 =>
    have H := HA.out
    clear HA
    simp only [dioramaref08_SameSets.l0] at H
    by_cases c4 : x5_1 < (l0.length : Int)
    ·rw [if_pos c4] at H
     have c4b0 : decide (x5_1 < (l0.length : Int)) = true := decide_eq_true c4
     clear c4
     by_cases c5 : 0 ≤ x5_1
     ·rw [if_pos c5] at H
      have c5b0 : decide (0 ≤ x5_1) = true := decide_eq_true c5
      clear c5
      by_cases c6 : x5_1 < (l1.length : Int)
      ·rw [if_pos c6] at H
       have c6b0 : decide (x5_1 < (l1.length : Int)) = true := decide_eq_true c6
       clear c6
       by_cases c7 : (!(((rd_T75 l0 x5_1).f0) == ((rd_T75 l1 x5_1).f0)) || (!(((rd_T75 l0 x5_1).f1) == ((rd_T75 l1 x5_1).f1)) || (!(((rd_T75 l0 x5_1).f2) == ((rd_T75 l1 x5_1).f2)) || (!((((rd_T75 l0 x5_1).f3).toList) == (((rd_T75 l1 x5_1).f3).toList)))))) = true
       ·rw [if_pos c7] at H
        have c7b0 : (!(((rd_T75 l0 x5_1).f0) == ((rd_T75 l1 x5_1).f0)) || (!(((rd_T75 l0 x5_1).f1) == ((rd_T75 l1 x5_1).f1)) || (!(((rd_T75 l0 x5_1).f2) == ((rd_T75 l1 x5_1).f2)) || (!((((rd_T75 l0 x5_1).f3).toList) == (((rd_T75 l1 x5_1).f3).toList)))))) = true := c7
        clear c7
        obtain rfl := Option.some.inj H
        have p250 : 0 ≤ (x5_1 : Int) := of_decide_eq_true (by first | (with_reducible assumption) | assumption)
        have q250 : x5_1 < (l0.length : Int) := of_decide_eq_true (by first | (with_reducible assumption) | assumption)
        obtain ⟨ad250, e250, hx250_0, hx250_1, hx250_2, hx250_3⟩ := at_T75 HR0.out x5_1 p250 q250
        cases e250
        replace p250 := eq_true p250
        replace q250 := eq_true q250
        have p251 : 0 ≤ (x5_1 : Int) := of_decide_eq_true (by first | (with_reducible assumption) | assumption)
        have q251 : x5_1 < (l1.length : Int) := of_decide_eq_true (by first | (with_reducible assumption) | assumption)
        obtain ⟨ad251, e251, hx251_0, hx251_1, hx251_2, hx251_3⟩ := at_T75 HR1.out x5_1 p251 q251
        cases e251
        replace p251 := eq_true p251
        replace q251 := eq_true q251
        go_wp2
        repeat (go_quiet (fail); try go_wp2)
        go_ret
        exact ⟨by first | rfl | (simp; done) | (simp [*]; done), by repeat (first | exact Drawn0.refl _ | apply Drawn0.step)⟩
       ·rw [if_neg c7] at H
        have c7b0 : (!(((rd_T75 l0 x5_1).f0) == ((rd_T75 l1 x5_1).f0)) || (!(((rd_T75 l0 x5_1).f1) == ((rd_T75 l1 x5_1).f1)) || (!(((rd_T75 l0 x5_1).f2) == ((rd_T75 l1 x5_1).f2)) || (!((((rd_T75 l0 x5_1).f3).toList) == (((rd_T75 l1 x5_1).f3).toList)))))) = false := by simpa using c7
        clear c7
        have H' := Aside0.mk H
        clear H
        have p250 : 0 ≤ (x5_1 : Int) := of_decide_eq_true (by first | (with_reducible assumption) | assumption)
        have q250 : x5_1 < (l0.length : Int) := of_decide_eq_true (by first | (with_reducible assumption) | assumption)
        obtain ⟨ad250, e250, hx250_0, hx250_1, hx250_2, hx250_3⟩ := at_T75 HR0.out x5_1 p250 q250
        cases e250
        replace p250 := eq_true p250
        replace q250 := eq_true q250
        have p251 : 0 ≤ (x5_1 : Int) := of_decide_eq_true (by first | (with_reducible assumption) | assumption)
        have q251 : x5_1 < (l1.length : Int) := of_decide_eq_true (by first | (with_reducible assumption) | assumption)
        obtain ⟨ad251, e251, hx251_0, hx251_1, hx251_2, hx251_3⟩ := at_T75 HR1.out x5_1 p251 q251
        cases e251
        replace p251 := eq_true p251
        replace q251 := eq_true q251
        go_wp2
        repeat (go_quiet (fail); try go_wp2)
        go_roundg k1
        case measure => have := HK1.out; omega
        case rel => exact ⟨(wrap64 (x5_1 + 1)), (by first | rfl | (simp; done) | (simp [*]; done)), H', ⟨by have := HK1.out; omega⟩, by repeat (first | exact Drawn0.refl _ | apply Drawn0.step)⟩
      ·rw [if_neg c6] at H
       exact absurd H (by simp)
     ·rw [if_neg c5] at H
      exact absurd H (by simp)
    ·rw [if_neg c4] at H
     have c4b0 : decide (x5_1 < (l0.length : Int)) = false := decide_eq_false c4
     clear c4
     obtain rfl := Option.some.inj H
     go_wp2
     repeat (go_quiet (fail); try go_wp2)
     go_ret
     exact ⟨by first | rfl | (simp; done) | (simp [*]; done), by repeat (first | exact Drawn0.refl _ | apply Drawn0.step)⟩
 ·rw [if_neg c3] at H
  have c3b0 : ((l0.length : Int) == (l1.length : Int)) = false := beq_eq_false_iff_ne.mpr c3
  have c3b1 : ((l0.length : Int) != (l1.length : Int)) = true := bne_iff_ne.mpr c3
  have c3b2 : (l0.length == l1.length) = false := by first | simpa using c3 | (simp at c3 ⊢; omega)
  obtain rfl := Option.some.inj H
  go_enter Tryd.func23, Tryd.ntmps23
  go_wp2
  repeat (go_quiet (fail); try go_wp2)
  go_ret
  exact ⟨by first | rfl | (simp; done) | (simp [*]; done), by repeat (first | exact Drawn0.refl _ | apply Drawn0.step)⟩

end Go.Proofs.YtmglknchklgokaaDoor.GX
