-- Printed by a program of the session (wip/gen/tprint.py, over a turned copy of the kit's print): Lean checks it.
import Derived.Test.YtlfjjapndlkamaaPeGEx0
namespace Go.Proofs.Ytlfjjapndlkamaa.GE
open Go.RowKit Go.Proofs.YtlfjjapndlkamaaW.PrintWords Go.Proofs.YtlfjjapndlkamaaW.PrintLast Go.Proofs.YtlfjjapndlkamaaW.PrintMore
attribute [local go_sem] max2_int min2_int max_two min_two max_three min_three max_four min_four   -- for this text's walks alone
set_option linter.unusedVariables false
set_option linter.unusedSimpArgs false

/-! ### dioramaref09_Place: function 27 -/
def dioramaref09_Place.f (l0_0 : List (S40)) (a0_1 : Int) (a1 : Int) : Option (Bool) := if a1 ≥ 0 then (some (decide (a1 < (l0_0.length : Int)))) else (some false)
set_option maxHeartbeats 8000000 in
set_option maxRecDepth 100000 in
theorem dioramaref09_Place.calls (A0_0 : Option Addr) (c0_0 : Nat) (l0_0 : List (S40)) (a0_1 : Int) (a1 : Int) (r : Bool) (w : World) (hr0_0 : Kd.C k40 w A0_0 l0_0.length l0_0) (hc0_0 : l0_0.length ≤ c0_0) (h : dioramaref09_Place.f l0_0 a0_1 a1 = some r) :
  Calls Try.prog 27 #[.agg #[.slice A0_0 l0_0.length c0_0, .int .i64 a0_1], .int .i64 a1] w fun e w' => e = .returned (.bool r) ∧ Below w.heap.size w w' := by
 have hu24 := Try.underlying24
 have HR0_0 := Aside0.mk hr0_0
 have HC0_0 := Aside0.mk hc0_0
 clear hr0_0 hc0_0
 have HB := Aside0.mk (Below.refl w.heap.size w)
 have H : (if a1 ≥ 0 then (some (decide (a1 < (l0_0.length : Int)))) else (some false)) = some r := h
 clear h
 by_cases c3 : a1 ≥ 0
 ·rw [if_pos c3] at H
  have c3b0 : decide (0 ≤ a1) = true := decide_eq_true c3
  clear c3
  obtain rfl := Option.some.inj H
  go_enter Try.func27, Try.ntmps27
  go_wp2_with (first | ((with_reducible refine gate_dst (N := 2) rfl ?_); refine box_event ?hg (N := 2) ?hd (cs := #[.slice A0_0 l0_0.length c0_0, .int .i64 a0_1]) (t := 24) ?hr ?_; (case hd => rfl); (case hg => rfl); (case hr => first | (go_simp; done) | (go_simp; rfl)); intro gb259 hg w4 hbox hb; have n0_ := Aside0.mk (below_step (BB HB) hb); have n1_ := Aside0.mk (hbox); have n2_ := Aside0.mk ((by rw [hg]; exact (below_size (BB HB)) : w.heap.size ≤ gb259)); have n3_ := Aside0.mk ((by rw [hg]; exact (below_size (BB HB)) : w.heap.size ≤ gb259)); clear HB; have HB := n0_; have BK259 := n1_; have GW259 := n2_; have GE259 := n3_; clear n0_ n1_ n2_ n3_; clear hb hbox hg; have hcz5_0 : w4.cell? ⟨gb259, 0, none⟩ = some (.slice A0_0 l0_0.length c0_0) := (blk_cell BK259.out 0).trans rfl; have hcz5_1 : w4.cell? ⟨gb259, 1, none⟩ = some (.int .i64 a0_1) := (blk_cell BK259.out 1).trans rfl; have hfz5_0 := blk_frozen BK259.out 0; have hfz5_1 := blk_frozen BK259.out 1))
  go_ret
  exact ⟨by first | rfl | (simp [errW_none, errW_some] <;> rfl) | (simp [*, errW_none, errW_some] <;> rfl), BB HB⟩
 ·rw [if_neg c3] at H
  have c3b0 : decide (0 ≤ a1) = false := decide_eq_false c3
  clear c3
  obtain rfl := Option.some.inj H
  go_enter Try.func27, Try.ntmps27
  go_wp2_with (first | ((with_reducible refine gate_dst (N := 2) rfl ?_); refine box_event ?hg (N := 2) ?hd (cs := #[.slice A0_0 l0_0.length c0_0, .int .i64 a0_1]) (t := 24) ?hr ?_; (case hd => rfl); (case hg => rfl); (case hr => first | (go_simp; done) | (go_simp; rfl)); intro gb259 hg w6 hbox hb; have n0_ := Aside0.mk (below_step (BB HB) hb); have n1_ := Aside0.mk (hbox); have n2_ := Aside0.mk ((by rw [hg]; exact (below_size (BB HB)) : w.heap.size ≤ gb259)); have n3_ := Aside0.mk ((by rw [hg]; exact (below_size (BB HB)) : w.heap.size ≤ gb259)); clear HB; have HB := n0_; have BK259 := n1_; have GW259 := n2_; have GE259 := n3_; clear n0_ n1_ n2_ n3_; clear hb hbox hg))
  go_ret
  exact ⟨by first | rfl | (simp [errW_none, errW_some] <;> rfl) | (simp [*, errW_none, errW_some] <;> rfl), BB HB⟩

/-! ### dioramaref09_Refs: function 37 -/
mutual
def dioramaref09_Refs.l0 : Nat → Int → List (S40) → Int → Option (Int)
 | 0, _, _, _ => none
 | k + 1, x3, x261000, x261001 => if x3 < (x261000.length : Int) then (dioramaref09_Refs.l1 k x3 0 x261000 x261001) else (some (-1))
def dioramaref09_Refs.l1 : Nat → Int → Int → List (S40) → Int → Option (Int)
 | 0, _, _, _, _ => none
 | k + 1, x3, x4, x261000, x261001 => if 0 ≤ x3 then (if x3 < (x261000.length : Int) then (if x4 < (((rd_T40 x261000 x3).f3).length : Int) then (if 0 ≤ x4 then ((dioramaref09_Place.f x261000 x261001 (rd ((rd_T40 x261000 x3).f3) x4)).bind fun t264 => (if t264 = true then (dioramaref09_Refs.l1 k x3 (wrap64 (x4 + 1)) x261000 x261001) else (some x3))) else (none)) else (dioramaref09_Refs.l0 k (wrap64 (x3 + 1)) x261000 x261001)) else (none)) else (none)
end
def dioramaref09_Refs.f (k : Nat) (l0_0 : List (S40)) (a0_1 : Int) : Option (Int) := dioramaref09_Refs.l0 k 0 l0_0 a0_1
theorem dioramaref09_Refs.mono_l : ∀ k, (∀ y0 y1 y2, LeO (dioramaref09_Refs.l0 k y0 y1 y2) (dioramaref09_Refs.l0 (k + 1) y0 y1 y2)) ∧ (∀ y0 y1 y2 y3, LeO (dioramaref09_Refs.l1 k y0 y1 y2 y3) (dioramaref09_Refs.l1 (k + 1) y0 y1 y2 y3))
 | 0 => ⟨fun _ _ _ r h => by simp [dioramaref09_Refs.l0] at h, fun _ _ _ _ r h => by simp [dioramaref09_Refs.l1] at h⟩
 | k + 1 => by
  obtain ⟨ih0, ih1⟩ := dioramaref09_Refs.mono_l k
  refine ⟨?_, ?_⟩
  ·intro y0 y1 y2
   unfold dioramaref09_Refs.l0
   repeat' first
   | (with_reducible exact ih0 _ _ _)
   | (with_reducible exact ih1 _ _ _ _)
   | (with_reducible exact LeO.refl _)
   | (with_reducible exact LeO.none _)
   | (with_reducible refine LeO.ite ?_ ?_)
   | (with_reducible refine LeO.bind ?_ (fun _ => ?_))
   | exact ih0 _ _ _
   | exact ih1 _ _ _ _
   | exact LeO.none _
   | refine LeO.ite ?_ ?_
   | refine LeO.bind ?_ (fun _ => ?_)
  ·intro y0 y1 y2 y3
   unfold dioramaref09_Refs.l1
   repeat' first
   | (with_reducible exact ih0 _ _ _)
   | (with_reducible exact ih1 _ _ _ _)
   | (with_reducible exact LeO.refl _)
   | (with_reducible exact LeO.none _)
   | (with_reducible refine LeO.ite ?_ ?_)
   | (with_reducible refine LeO.bind ?_ (fun _ => ?_))
   | exact ih0 _ _ _
   | exact ih1 _ _ _ _
   | exact LeO.none _
   | refine LeO.ite ?_ ?_
   | refine LeO.bind ?_ (fun _ => ?_)
theorem dioramaref09_Refs.mono : ∀ a0 a1 k, LeO (dioramaref09_Refs.f k a0 a1) (dioramaref09_Refs.f (k + 1) a0 a1) := by
 intro a0 a1 k
 obtain ⟨ih0, ih1⟩ := dioramaref09_Refs.mono_l k
 unfold dioramaref09_Refs.f
 repeat' first
   | (with_reducible exact ih0 _ _ _)
   | (with_reducible exact ih1 _ _ _ _)
   | (with_reducible exact LeO.refl _)
   | (with_reducible exact LeO.none _)
   | (with_reducible refine LeO.ite ?_ ?_)
   | (with_reducible refine LeO.bind ?_ (fun _ => ?_))
   | exact ih0 _ _ _
   | exact ih1 _ _ _ _
   | exact LeO.none _
   | refine LeO.ite ?_ ?_
   | refine LeO.bind ?_ (fun _ => ?_)
def dioramaref09_Refs.T7 : Bool × List (List Nat × List Nat) := (true, [([], []), ([], []), ([1], [1]), ([], []), ([2, 3], [2, 3]), ([4], [4]), ([5], [5]), ([], []), ([6, 7], [6, 7]), ([8], [8]), ([0, 9], [0, 9]), ([10], [10])])
def dioramaref09_Refs.B7 : List Nat := [0, 0, 2, 0, 14, 30, 62, 0, 254, 510, 1023, 2047]
theorem dioramaref09_Refs.tab7 : rtab .any (opsOf Try.f37 7) = dioramaref09_Refs.T7 := by kernel_rfl
theorem dioramaref09_Refs.bits7 : waitsOk dioramaref09_Refs.T7.2 dioramaref09_Refs.B7 = true := by kernel_rfl
set_option maxHeartbeats 8000000 in
set_option maxRecDepth 100000 in
theorem dioramaref09_Refs.calls (k : Nat) (A0_0 : Option Addr) (c0_0 : Nat) (l0_0 : List (S40)) (a0_1 : Int) (r : Int) (w : World) (hr0_0 : Kd.C k40 w A0_0 l0_0.length l0_0) (hc0_0 : l0_0.length ≤ c0_0) (h : dioramaref09_Refs.f k l0_0 a0_1 = some r) :
  Calls Try.prog 37 #[.agg #[.slice A0_0 l0_0.length c0_0, .int .i64 a0_1]] w fun e w' => e = .returned (.int .i64 r) ∧ Below w.heap.size w w' := by
 have hu24 := Try.underlying24
 have HR0_0 := Aside0.mk hr0_0
 have HC0_0 := Aside0.mk hc0_0
 clear hr0_0 hc0_0
 have HB := Aside0.mk (Below.refl w.heap.size w)
 have H : (dioramaref09_Refs.l0 k 0 l0_0 a0_1) = some r := h
 clear h
 have H' := Aside0.mk H
 clear H
 go_enter Try.func37, Try.ntmps37
 go_wp2_with (first | ((with_reducible refine gate_dst (N := 1) rfl ?_); refine box_event ?hg (N := 1) ?hd (cs := #[.slice A0_0 l0_0.length c0_0, .int .i64 a0_1]) (t := 24) ?hr ?_; (case hd => rfl); (case hg => rfl); (case hr => first | (go_simp; done) | (go_simp; rfl)); intro gb260 hg w2 hbox hb; have n0_ := Aside0.mk (below_step (BB HB) hb); have n1_ := Aside0.mk (hbox); have n2_ := Aside0.mk ((by rw [hg]; exact (below_size (BB HB)) : w.heap.size ≤ gb260)); have n3_ := Aside0.mk ((by rw [hg]; exact (below_size (BB HB)) : w.heap.size ≤ gb260)); clear HB; have HB := n0_; have BK260 := n1_; have GW260 := n2_; have GE260 := n3_; clear n0_ n1_ n2_ n3_; clear hb hbox hg))
 go_loopg [3] k (fun kq v3 w' => ∃ (x3_1 : Int), v3 = .int .i64 x3_1 ∧ Aside0 (dioramaref09_Refs.l0 kq x3_1 l0_0 a0_1 = some r) ∧ Aside0 (kq ≤ k) ∧ Aside0 (w'.heap[gb260]? = some (.cells #[(.slice A0_0 l0_0.length c0_0), .int .i64 a0_1] 24 (0, 0))) ∧ Aside0 (Below w.heap.size w w'))
 case atStart => exact ⟨(0), (by first | rfl | (simp; done) | (simp [*]; done)), H', ⟨Nat.le_refl _⟩, ⟨BL BK260⟩, ⟨BB HB⟩⟩
 case round =>
  clear H'
  try clear p2
  obtain ⟨x3_1, rfl, HA, HK1, BK260, HB⟩ := hrel
  cases gk with
  | zero => exact absurd HA.out (by simp [dioramaref09_Refs.l0])
  | succ k1 =>
   have H := HA.out
   clear HA
   simp only [dioramaref09_Refs.l0] at H
   by_cases c3 : x3_1 < (l0_0.length : Int)
   ·rw [if_pos c3] at H
    have c3b0 : decide (x3_1 < (l0_0.length : Int)) = true := decide_eq_true c3
    clear c3
    have H' := Aside0.mk H
    clear H
    have hcz4_0 : wr.cell? ⟨gb260, 0, none⟩ = some (.slice A0_0 l0_0.length c0_0) := (blk_cell BK260.out 0).trans rfl
    have hcz4_1 : wr.cell? ⟨gb260, 1, none⟩ = some (.int .i64 a0_1) := (blk_cell BK260.out 1).trans rfl
    have hfz4_0 := blk_frozen BK260.out 0
    have hfz4_1 := blk_frozen BK260.out 1
    go_wp2
    go_loopg [4] k1 (fun kq v4 w' => ∃ (x4_2 : Int), v4 = .int .i64 x4_2 ∧ Aside0 (dioramaref09_Refs.l1 kq x3_1 x4_2 l0_0 a0_1 = some r) ∧ Aside0 (kq ≤ k1) ∧ Aside0 (w'.heap[gb260]? = some (.cells #[(.slice A0_0 l0_0.length c0_0), .int .i64 a0_1] 24 (0, 0))) ∧ Aside0 (Below w.heap.size w w'))
    case atStart => exact ⟨(0), (by first | rfl | (simp; done) | (simp [*]; done)), H', ⟨Nat.le_refl _⟩, ⟨BL BK260⟩, ⟨BB HB⟩⟩
    case round =>
     clear H'
     try clear p2
     try clear c3
     try clear c3b0
     try clear hcz4_0
     try clear hcz4_1
     try clear hfz4_0
     try clear hfz4_1
     try clear p2
     obtain ⟨x4_2, rfl, HA, HK2, BK260, HB⟩ := hrel
     cases gk with
     | zero => exact absurd HA.out (by simp [dioramaref09_Refs.l1])
     | succ k2 =>
      have H := HA.out
      clear HA
      simp only [dioramaref09_Refs.l1] at H
      by_cases c5 : 0 ≤ x3_1
      ·rw [if_pos c5] at H
       have c5b0 : decide (0 ≤ x3_1) = true := decide_eq_true c5
       clear c5
       by_cases c6 : x3_1 < (l0_0.length : Int)
       ·rw [if_pos c6] at H
        have c6b0 : decide (x3_1 < (l0_0.length : Int)) = true := decide_eq_true c6
        clear c6
        by_cases c7 : x4_2 < (((rd_T40 l0_0 x3_1).f3).length : Int)
        ·rw [if_pos c7] at H
         have c7b0 : decide (x4_2 < (((rd_T40 l0_0 x3_1).f3).length : Int)) = true := decide_eq_true c7
         clear c7
         by_cases c8 : 0 ≤ x4_2
         ·rw [if_pos c8] at H
          have c8b0 : decide (0 ≤ x4_2) = true := decide_eq_true c8
          clear c8
          replace H := Option.bind_eq_some_iff.mp H
          obtain ⟨t264, A90, H⟩ := H
          replace H : (if t264 = true then (dioramaref09_Refs.l1 k2 x3_1 (wrap64 (x4_2 + 1)) l0_0 a0_1) else (some x3_1)) = some r := H
          have A9 := Aside0.mk A90
          clear A90
          by_cases c10 : t264 = true
          ·subst c10
           have H1 : (dioramaref09_Refs.l1 k2 x3_1 (wrap64 (x4_2 + 1)) l0_0 a0_1) = some r := by rw [if_pos rfl] at H; exact H
           clear H
           have H := H1
           clear H1
           have H' := Aside0.mk H
           clear H
           have hcz11_0 : wr.cell? ⟨gb260, 0, none⟩ = some (.slice A0_0 l0_0.length c0_0) := (blk_cell BK260.out 0).trans rfl
           have hcz11_1 : wr.cell? ⟨gb260, 1, none⟩ = some (.int .i64 a0_1) := (blk_cell BK260.out 1).trans rfl
           have hfz11_0 := blk_frozen BK260.out 0
           have hfz11_1 := blk_frozen BK260.out 1
           have p261 : 0 ≤ (x3_1 : Int) := of_decide_eq_true (by first | (with_reducible assumption) | assumption)
           have q261 : x3_1 < (l0_0.length : Int) := of_decide_eq_true (by first | (with_reducible assumption) | assumption)
           obtain ⟨ad261, A261_1, c261_1, A261_2, c261_2, A261_3, c261_3, e261, hx261_0, hx261_1, hx261_2, hx261_3, hl261_1, hi261_1, hl261_2, hi261_2, hl261_3, hi261_3⟩ := at_T40 HR0_0.out x3_1 p261 q261
           cases e261
           replace hx261_0 := (HB.out.cell (World.block_lt_of_cell? w _ hx261_0)).trans hx261_0
           replace hx261_1 := (HB.out.cell (World.block_lt_of_cell? w _ hx261_1)).trans hx261_1
           replace hx261_2 := (HB.out.cell (World.block_lt_of_cell? w _ hx261_2)).trans hx261_2
           replace hx261_3 := (HB.out.cell (World.block_lt_of_cell? w _ hx261_3)).trans hx261_3
           have HR261_1 := Aside0.mk hi261_1
           have HC261_1 := Aside0.mk hl261_1
           clear hi261_1 hl261_1
           have HR261_2 := Aside0.mk hi261_2
           have HC261_2 := Aside0.mk hl261_2
           clear hi261_2 hl261_2
           have HR261_3 := Aside0.mk hi261_3
           have HC261_3 := Aside0.mk hl261_3
           clear hi261_3 hl261_3
           replace p261 := eq_true p261
           replace q261 := eq_true q261
           try go_wp2
           have n0_ := Aside0.mk (blk_drew BK260.out)
           have n1_ := Aside0.mk (below_drew1 HB.out)
           clear BK260
           clear HB
           have BK260 := n0_
           have HB := n1_
           clear n0_ n1_
           have p262 : 0 ≤ (x3_1 : Int) := of_decide_eq_true (by first | (with_reducible assumption) | assumption)
           have q262 : x3_1 < (l0_0.length : Int) := of_decide_eq_true (by first | (with_reducible assumption) | assumption)
           obtain ⟨ad262, A262_1, c262_1, A262_2, c262_2, A262_3, c262_3, e262, hx262_0, hx262_1, hx262_2, hx262_3, hl262_1, hi262_1, hl262_2, hi262_2, hl262_3, hi262_3⟩ := at_T40 HR0_0.out x3_1 p262 q262
           have hw262_3 := hx262_3
           have hw262_2 := hx262_2
           have hw262_1 := hx262_1
           have hw262_0 := hx262_0
           obtain rfl : ad261 = ad262 := (by injection e262)
           replace hx262_0 := (HB.out.cell (World.block_lt_of_cell? w _ hx262_0)).trans hx262_0
           replace hx262_1 := (HB.out.cell (World.block_lt_of_cell? w _ hx262_1)).trans hx262_1
           replace hx262_2 := (HB.out.cell (World.block_lt_of_cell? w _ hx262_2)).trans hx262_2
           replace hx262_3 := (HB.out.cell (World.block_lt_of_cell? w _ hx262_3)).trans hx262_3
           have HR262_1 := Aside0.mk hi262_1
           have HC262_1 := Aside0.mk hl262_1
           clear hi262_1 hl262_1
           have HR262_2 := Aside0.mk hi262_2
           have HC262_2 := Aside0.mk hl262_2
           clear hi262_2 hl262_2
           have HR262_3 := Aside0.mk hi262_3
           have HC262_3 := Aside0.mk hl262_3
           clear hi262_3 hl262_3
           replace p262 := eq_true p262
           replace q262 := eq_true q262
           have p263 : 0 ≤ (x4_2 : Int) := of_decide_eq_true (by first | (with_reducible assumption) | assumption)
           have q263 : x4_2 < (((rd_T40 l0_0 x3_1).f3).length : Int) := of_decide_eq_true (by first | (with_reducible assumption) | assumption)
           obtain ⟨ad263, e263, hx263_0⟩ := Kd.at_int HR262_3.out x4_2 p263 q263
           have hw263_0 := hx263_0
           cases e263
           replace hx263_0 := (HB.out.cell (World.block_lt_of_cell? w _ hx263_0)).trans hx263_0
           replace p263 := eq_true p263
           replace q263 := eq_true q263
           refine start_ (n := 12) (S := fun w' => w'.cell? ⟨gb260, 0, none⟩ = some (.slice (some ad261) l0_0.length c0_0) ∧ w'.cell? ⟨gb260, 1, none⟩ = some (.int .i64 a0_1) ∧ w'.cell? (ad261.add ((x3_1).toNat * 4)) = some (.int .i64 ((rd_T40 l0_0 x3_1).f0)) ∧ w'.cell? ⟨(ad261.add ((x3_1).toNat * 4)).block, (ad261.add ((x3_1).toNat * 4)).off + 1, none⟩ = some (.slice A262_1 ((rd_T40 l0_0 x3_1).f1).length c262_1) ∧ w'.cell? ⟨(ad261.add ((x3_1).toNat * 4)).block, (ad261.add ((x3_1).toNat * 4)).off + 2, none⟩ = some (.slice A262_2 ((rd_T40 l0_0 x3_1).f2).length c262_2) ∧ w'.cell? ⟨(ad261.add ((x3_1).toNat * 4)).block, (ad261.add ((x3_1).toNat * 4)).off + 3, none⟩ = some (.slice (some ad263) ((rd_T40 l0_0 x3_1).f3).length c262_3) ∧ w'.cell? (ad263.add (x4_2).toNat) = some (.int .i64 (rd ((rd_T40 l0_0 x3_1).f3) x4_2))) (ds := []) #[false, false, false, false, false, false, false, false, false, false, false, false] (by kernel_rfl) rfl rfl ⟨(blk_cell BK260.out 0).trans rfl, (blk_cell BK260.out 1).trans rfl, ((HB.out.cell (World.block_lt_of_cell? w _ hw262_0)).trans hw262_0), ((HB.out.cell (World.block_lt_of_cell? w _ hw262_1)).trans hw262_1), ((HB.out.cell (World.block_lt_of_cell? w _ hw262_2)).trans hw262_2), ((HB.out.cell (World.block_lt_of_cell? w _ hw262_3)).trans hw262_3), ((HB.out.cell (World.block_lt_of_cell? w _ hw263_0)).trans hw263_0)⟩ (fun hHeld => ?_); refine with_tabW dioramaref09_Refs.tab7 dioramaref09_Refs.bits7 (fun HT_ HW_ => ?_)
           generalize wr.drew = w12 at BK260 HB HR262_1 HR262_2 HR262_3 hx262_0 hx262_1 hx262_2 hx262_3 hx263_0 hHeld ⊢
           refine pure_ (i := 1) (N := some 24) (v := ?_) (a' := ?_) #[false, true, false, false, false, false, false, false, false, false, false, false] rfl rfl (any_of HT_.out (by kernel_rfl)) (fun _ _ _ h => h) (Or.inl ⟨by rfl, ?_⟩) ?_ ?_
           rotate_left
           ·intro w'
            go_simp
            with_reducible rfl
           rotate_left
           ·simp only [Act.put, List.setIfInBounds_toArray, List.set_cons_zero, List.set_cons_succ, i64_w, i32_w]
            rfl
           refine pure_ (i := 3) (N := some 26) (v := ?_) (a' := ?_) #[false, true, false, true, false, false, false, false, false, false, false, false] rfl rfl (any_of HT_.out (by kernel_rfl)) (fun _ _ _ h => h) (Or.inl ⟨by rfl, ?_⟩) ?_ ?_
           rotate_left
           ·intro w'
            go_simp
            with_reducible rfl
           rotate_left
           ·simp only [Act.put, List.setIfInBounds_toArray, List.set_cons_zero, List.set_cons_succ, i64_w, i32_w]
            rfl
           refine pure_ (i := 7) (N := some 30) (v := ?_) (a' := ?_) #[false, true, false, true, false, false, false, true, false, false, false, false] rfl rfl (any_of HT_.out (by kernel_rfl)) (fun _ _ _ h => h) (Or.inl ⟨by rfl, ?_⟩) ?_ ?_
           rotate_left
           ·intro w'
            go_simp
            with_reducible rfl
           rotate_left
           ·simp only [Act.put, List.setIfInBounds_toArray, List.set_cons_zero, List.set_cons_succ, i64_w, i32_w]
            rfl
           refine take_ (i := 0) (N := some 23) (v := ?_) (a' := ?_) #[true, true, false, true, false, false, false, true, false, false, false, false] rfl rfl (take_ofW HT_.out HW_.out (by kernel_rfl)) (fun _ _ _ h => h) (Or.inl ⟨by rfl, ?_⟩) hHeld ?_ ?_
           rotate_left
           ·rintro w' ⟨s0, s1, s2, s3, s4, s5, s6⟩
            go_simp
            with_reducible rfl
           rotate_left
           ·simp only [Act.put, List.setIfInBounds_toArray, List.set_cons_zero, List.set_cons_succ, i64_w, i32_w]
            rfl
           refine take_ (i := 2) (N := some 25) (v := ?_) (a' := ?_) #[true, true, true, true, false, false, false, true, false, false, false, false] rfl rfl (take_ofW HT_.out HW_.out (by kernel_rfl)) (fun _ _ _ h => h) (Or.inl ⟨by rfl, ?_⟩) hHeld ?_ ?_
           rotate_left
           ·rintro w' ⟨s0, s1, s2, s3, s4, s5, s6⟩
            go_simp
            with_reducible rfl
           rotate_left
           ·simp only [Act.put, List.setIfInBounds_toArray, List.set_cons_zero, List.set_cons_succ, i64_w, i32_w]
            rfl
           refine pure_ (i := 4) (N := some 27) (v := ?_) (a' := ?_) #[true, true, true, true, true, false, false, true, false, false, false, false] rfl rfl (any_of HT_.out (by kernel_rfl)) (fun _ _ _ h => h) (Or.inl ⟨by rfl, ?_⟩) ?_ ?_
           rotate_left
           ·intro w'
            go_simp
            with_reducible rfl
           rotate_left
           ·simp only [Act.put, List.setIfInBounds_toArray, List.set_cons_zero, List.set_cons_succ, i64_w, i32_w]
            rfl
           refine pure_ (i := 5) (N := some 28) (v := ?_) (a' := ?_) #[true, true, true, true, true, true, false, true, false, false, false, false] rfl rfl (any_of HT_.out (by kernel_rfl)) (fun _ _ _ h => h) (Or.inl ⟨by rfl, ?_⟩) ?_ ?_
           rotate_left
           ·intro w'
            go_simp
            with_reducible rfl
           rotate_left
           ·simp only [Act.put, List.setIfInBounds_toArray, List.set_cons_zero, List.set_cons_succ, i64_w, i32_w]
            rfl
           refine take_ (i := 6) (N := some 29) (v := ?_) (a' := ?_) #[true, true, true, true, true, true, true, true, false, false, false, false] rfl rfl (take_ofW HT_.out HW_.out (by kernel_rfl)) (fun _ _ _ h => h) (Or.inl ⟨by rfl, ?_⟩) hHeld ?_ ?_
           rotate_left
           ·rintro w' ⟨s0, s1, s2, s3, s4, s5, s6⟩
            go_simp
            with_reducible rfl
           rotate_left
           ·simp only [Act.put, List.setIfInBounds_toArray, List.set_cons_zero, List.set_cons_succ, i64_w, i32_w]
            rfl
           refine pure_ (i := 8) (N := some 31) (v := ?_) (a' := ?_) #[true, true, true, true, true, true, true, true, true, false, false, false] rfl rfl (any_of HT_.out (by kernel_rfl)) (fun _ _ _ h => h) (Or.inl ⟨by rfl, ?_⟩) ?_ ?_
           rotate_left
           ·intro w'
            go_simp
            with_reducible rfl
           rotate_left
           ·simp only [Act.put, List.setIfInBounds_toArray, List.set_cons_zero, List.set_cons_succ, i64_w, i32_w]
            rfl
           refine take_ (i := 9) (N := some 32) (v := ?_) (a' := ?_) #[true, true, true, true, true, true, true, true, true, true, false, false] rfl rfl (take_ofW HT_.out HW_.out (by kernel_rfl)) (fun _ _ _ h => h) (Or.inl ⟨by rfl, ?_⟩) hHeld ?_ ?_
           rotate_left
           ·rintro w' ⟨s0, s1, s2, s3, s4, s5, s6⟩
            go_simp
            with_reducible rfl
           rotate_left
           ·simp only [Act.put, List.setIfInBounds_toArray, List.set_cons_zero, List.set_cons_succ, i64_w, i32_w]
            rfl
           refine one_ (i := 10) (N := some 33) #[true, true, true, true, true, true, true, true, true, true, true, false] rfl rfl (one_of HT_.out (by kernel_rfl)) (by decide) (fun K hK => ?_)
           refine goes_ Try.func27 (by kernel_rfl) rfl #[.agg #[.slice (some ad261) l0_0.length c0_0, .int .i64 a0_1], .int .i64 (rd ((rd_T40 l0_0 x3_1).f3) x4_2)] (by rfl) rfl rfl (by (try simp only [List.map_toArray, List.map_cons, List.map_nil]); first | done | rfl | (simp only [List.length_drop, List.length_take]; rfl)) ?_
           with_reducible refine (dioramaref09_Place.calls _ _ l0_0 a0_1 (rd ((rd_T40 l0_0 x3_1).f3) x4_2) true _ ?side1 ?side2 A9.out).mono ?_
           (case side1 => repeat (first | exact (Kd.C_below HR0_0.out HB.out) | (with_reducible refine Kd.C_alloc ?_ _) | (with_reducible refine Kd.C_drewN ?_ _) | (with_reducible refine Kd.C_drew ?_)))
           (case side2 => exact HC0_0.out)
           rintro e w13 ⟨rfl, hb⟩
           refine ⟨_, rfl, ?_⟩
           have n0_ := BE BK260 hb
           have n1_ := Aside0.mk (below_step (BB HB) hb)
           clear BK260
           clear HB
           have BK260 := n0_
           have HB := n1_
           clear n0_ n1_
           (try clear hb)
           (try clear hb2)
           (try clear hk)
           (try clear hi)
           refine hK.out _ _ ⟨(blk_cell BK260.out 0).trans rfl, (blk_cell BK260.out 1).trans rfl, ((HB.out.cell (World.block_lt_of_cell? w _ hw262_0)).trans hw262_0), ((HB.out.cell (World.block_lt_of_cell? w _ hw262_1)).trans hw262_1), ((HB.out.cell (World.block_lt_of_cell? w _ hw262_2)).trans hw262_2), ((HB.out.cell (World.block_lt_of_cell? w _ hw262_3)).trans hw262_3), ((HB.out.cell (World.block_lt_of_cell? w _ hw263_0)).trans hw263_0)⟩ (fun hHeld => ?_)
           clear hK K
           refine norm_ (a' := ?_) ?_ ?_
           rotate_left
           ·show Act.put _ (some 33) _ = _
            simp only [Act.put, List.setIfInBounds_toArray, List.set_cons_zero, List.set_cons_succ, i64_w, i32_w]
            rfl
           refine pure_ (i := 11) (N := some 34) (v := ?_) (a' := ?_) #[true, true, true, true, true, true, true, true, true, true, true, true] rfl rfl (any_of HT_.out (by kernel_rfl)) (fun _ _ _ h => h) (Or.inl ⟨by rfl, ?_⟩) ?_ ?_
           rotate_left
           ·intro w'
            go_simp
            with_reducible rfl
           rotate_left
           ·simp only [Act.put, List.setIfInBounds_toArray, List.set_cons_zero, List.set_cons_succ, i64_w, i32_w]
            rfl
           refine done_ (done_of HT_.out (by kernel_rfl)) ?_
           try go_wp2
           go_roundg k2
           case measure => have := HK1.out; have := HK2.out; omega
           case rel => exact ⟨(wrap64 (x4_2 + 1)), (by first | rfl | (simp; done) | (simp [*]; done)), H', ⟨by have := HK1.out; have := HK2.out; omega⟩, ⟨BL BK260⟩, ⟨BB HB⟩⟩
          ·replace c10 := Bool.eq_false_iff.mpr c10
           subst c10
           have H1 : (some x3_1) = some r := by rw [if_neg (show ¬ (false = true) by decide)] at H; exact H
           clear H
           have H := H1
           clear H1
           obtain rfl := Option.some.inj H
           have hcz14_0 : wr.cell? ⟨gb260, 0, none⟩ = some (.slice A0_0 l0_0.length c0_0) := (blk_cell BK260.out 0).trans rfl
           have hcz14_1 : wr.cell? ⟨gb260, 1, none⟩ = some (.int .i64 a0_1) := (blk_cell BK260.out 1).trans rfl
           have hfz14_0 := blk_frozen BK260.out 0
           have hfz14_1 := blk_frozen BK260.out 1
           have p261 : 0 ≤ (x3_1 : Int) := of_decide_eq_true (by first | (with_reducible assumption) | assumption)
           have q261 : x3_1 < (l0_0.length : Int) := of_decide_eq_true (by first | (with_reducible assumption) | assumption)
           obtain ⟨ad261, A261_1, c261_1, A261_2, c261_2, A261_3, c261_3, e261, hx261_0, hx261_1, hx261_2, hx261_3, hl261_1, hi261_1, hl261_2, hi261_2, hl261_3, hi261_3⟩ := at_T40 HR0_0.out x3_1 p261 q261
           cases e261
           replace hx261_0 := (HB.out.cell (World.block_lt_of_cell? w _ hx261_0)).trans hx261_0
           replace hx261_1 := (HB.out.cell (World.block_lt_of_cell? w _ hx261_1)).trans hx261_1
           replace hx261_2 := (HB.out.cell (World.block_lt_of_cell? w _ hx261_2)).trans hx261_2
           replace hx261_3 := (HB.out.cell (World.block_lt_of_cell? w _ hx261_3)).trans hx261_3
           have HR261_1 := Aside0.mk hi261_1
           have HC261_1 := Aside0.mk hl261_1
           clear hi261_1 hl261_1
           have HR261_2 := Aside0.mk hi261_2
           have HC261_2 := Aside0.mk hl261_2
           clear hi261_2 hl261_2
           have HR261_3 := Aside0.mk hi261_3
           have HC261_3 := Aside0.mk hl261_3
           clear hi261_3 hl261_3
           replace p261 := eq_true p261
           replace q261 := eq_true q261
           try go_wp2
           have n0_ := Aside0.mk (blk_drew BK260.out)
           have n1_ := Aside0.mk (below_drew1 HB.out)
           clear BK260
           clear HB
           have BK260 := n0_
           have HB := n1_
           clear n0_ n1_
           have p262 : 0 ≤ (x3_1 : Int) := of_decide_eq_true (by first | (with_reducible assumption) | assumption)
           have q262 : x3_1 < (l0_0.length : Int) := of_decide_eq_true (by first | (with_reducible assumption) | assumption)
           obtain ⟨ad262, A262_1, c262_1, A262_2, c262_2, A262_3, c262_3, e262, hx262_0, hx262_1, hx262_2, hx262_3, hl262_1, hi262_1, hl262_2, hi262_2, hl262_3, hi262_3⟩ := at_T40 HR0_0.out x3_1 p262 q262
           have hw262_3 := hx262_3
           have hw262_2 := hx262_2
           have hw262_1 := hx262_1
           have hw262_0 := hx262_0
           obtain rfl : ad261 = ad262 := (by injection e262)
           replace hx262_0 := (HB.out.cell (World.block_lt_of_cell? w _ hx262_0)).trans hx262_0
           replace hx262_1 := (HB.out.cell (World.block_lt_of_cell? w _ hx262_1)).trans hx262_1
           replace hx262_2 := (HB.out.cell (World.block_lt_of_cell? w _ hx262_2)).trans hx262_2
           replace hx262_3 := (HB.out.cell (World.block_lt_of_cell? w _ hx262_3)).trans hx262_3
           have HR262_1 := Aside0.mk hi262_1
           have HC262_1 := Aside0.mk hl262_1
           clear hi262_1 hl262_1
           have HR262_2 := Aside0.mk hi262_2
           have HC262_2 := Aside0.mk hl262_2
           clear hi262_2 hl262_2
           have HR262_3 := Aside0.mk hi262_3
           have HC262_3 := Aside0.mk hl262_3
           clear hi262_3 hl262_3
           replace p262 := eq_true p262
           replace q262 := eq_true q262
           have p263 : 0 ≤ (x4_2 : Int) := of_decide_eq_true (by first | (with_reducible assumption) | assumption)
           have q263 : x4_2 < (((rd_T40 l0_0 x3_1).f3).length : Int) := of_decide_eq_true (by first | (with_reducible assumption) | assumption)
           obtain ⟨ad263, e263, hx263_0⟩ := Kd.at_int HR262_3.out x4_2 p263 q263
           have hw263_0 := hx263_0
           cases e263
           replace hx263_0 := (HB.out.cell (World.block_lt_of_cell? w _ hx263_0)).trans hx263_0
           replace p263 := eq_true p263
           replace q263 := eq_true q263
           refine start_ (n := 12) (S := fun w' => w'.cell? ⟨gb260, 0, none⟩ = some (.slice (some ad261) l0_0.length c0_0) ∧ w'.cell? ⟨gb260, 1, none⟩ = some (.int .i64 a0_1) ∧ w'.cell? (ad261.add ((x3_1).toNat * 4)) = some (.int .i64 ((rd_T40 l0_0 x3_1).f0)) ∧ w'.cell? ⟨(ad261.add ((x3_1).toNat * 4)).block, (ad261.add ((x3_1).toNat * 4)).off + 1, none⟩ = some (.slice A262_1 ((rd_T40 l0_0 x3_1).f1).length c262_1) ∧ w'.cell? ⟨(ad261.add ((x3_1).toNat * 4)).block, (ad261.add ((x3_1).toNat * 4)).off + 2, none⟩ = some (.slice A262_2 ((rd_T40 l0_0 x3_1).f2).length c262_2) ∧ w'.cell? ⟨(ad261.add ((x3_1).toNat * 4)).block, (ad261.add ((x3_1).toNat * 4)).off + 3, none⟩ = some (.slice (some ad263) ((rd_T40 l0_0 x3_1).f3).length c262_3) ∧ w'.cell? (ad263.add (x4_2).toNat) = some (.int .i64 (rd ((rd_T40 l0_0 x3_1).f3) x4_2))) (ds := []) #[false, false, false, false, false, false, false, false, false, false, false, false] (by kernel_rfl) rfl rfl ⟨(blk_cell BK260.out 0).trans rfl, (blk_cell BK260.out 1).trans rfl, ((HB.out.cell (World.block_lt_of_cell? w _ hw262_0)).trans hw262_0), ((HB.out.cell (World.block_lt_of_cell? w _ hw262_1)).trans hw262_1), ((HB.out.cell (World.block_lt_of_cell? w _ hw262_2)).trans hw262_2), ((HB.out.cell (World.block_lt_of_cell? w _ hw262_3)).trans hw262_3), ((HB.out.cell (World.block_lt_of_cell? w _ hw263_0)).trans hw263_0)⟩ (fun hHeld => ?_); refine with_tabW dioramaref09_Refs.tab7 dioramaref09_Refs.bits7 (fun HT_ HW_ => ?_)
           generalize wr.drew = w15 at BK260 HB HR262_1 HR262_2 HR262_3 hx262_0 hx262_1 hx262_2 hx262_3 hx263_0 hHeld ⊢
           refine pure_ (i := 1) (N := some 24) (v := ?_) (a' := ?_) #[false, true, false, false, false, false, false, false, false, false, false, false] rfl rfl (any_of HT_.out (by kernel_rfl)) (fun _ _ _ h => h) (Or.inl ⟨by rfl, ?_⟩) ?_ ?_
           rotate_left
           ·intro w'
            go_simp
            with_reducible rfl
           rotate_left
           ·simp only [Act.put, List.setIfInBounds_toArray, List.set_cons_zero, List.set_cons_succ, i64_w, i32_w]
            rfl
           refine pure_ (i := 3) (N := some 26) (v := ?_) (a' := ?_) #[false, true, false, true, false, false, false, false, false, false, false, false] rfl rfl (any_of HT_.out (by kernel_rfl)) (fun _ _ _ h => h) (Or.inl ⟨by rfl, ?_⟩) ?_ ?_
           rotate_left
           ·intro w'
            go_simp
            with_reducible rfl
           rotate_left
           ·simp only [Act.put, List.setIfInBounds_toArray, List.set_cons_zero, List.set_cons_succ, i64_w, i32_w]
            rfl
           refine pure_ (i := 7) (N := some 30) (v := ?_) (a' := ?_) #[false, true, false, true, false, false, false, true, false, false, false, false] rfl rfl (any_of HT_.out (by kernel_rfl)) (fun _ _ _ h => h) (Or.inl ⟨by rfl, ?_⟩) ?_ ?_
           rotate_left
           ·intro w'
            go_simp
            with_reducible rfl
           rotate_left
           ·simp only [Act.put, List.setIfInBounds_toArray, List.set_cons_zero, List.set_cons_succ, i64_w, i32_w]
            rfl
           refine take_ (i := 0) (N := some 23) (v := ?_) (a' := ?_) #[true, true, false, true, false, false, false, true, false, false, false, false] rfl rfl (take_ofW HT_.out HW_.out (by kernel_rfl)) (fun _ _ _ h => h) (Or.inl ⟨by rfl, ?_⟩) hHeld ?_ ?_
           rotate_left
           ·rintro w' ⟨s0, s1, s2, s3, s4, s5, s6⟩
            go_simp
            with_reducible rfl
           rotate_left
           ·simp only [Act.put, List.setIfInBounds_toArray, List.set_cons_zero, List.set_cons_succ, i64_w, i32_w]
            rfl
           refine take_ (i := 2) (N := some 25) (v := ?_) (a' := ?_) #[true, true, true, true, false, false, false, true, false, false, false, false] rfl rfl (take_ofW HT_.out HW_.out (by kernel_rfl)) (fun _ _ _ h => h) (Or.inl ⟨by rfl, ?_⟩) hHeld ?_ ?_
           rotate_left
           ·rintro w' ⟨s0, s1, s2, s3, s4, s5, s6⟩
            go_simp
            with_reducible rfl
           rotate_left
           ·simp only [Act.put, List.setIfInBounds_toArray, List.set_cons_zero, List.set_cons_succ, i64_w, i32_w]
            rfl
           refine pure_ (i := 4) (N := some 27) (v := ?_) (a' := ?_) #[true, true, true, true, true, false, false, true, false, false, false, false] rfl rfl (any_of HT_.out (by kernel_rfl)) (fun _ _ _ h => h) (Or.inl ⟨by rfl, ?_⟩) ?_ ?_
           rotate_left
           ·intro w'
            go_simp
            with_reducible rfl
           rotate_left
           ·simp only [Act.put, List.setIfInBounds_toArray, List.set_cons_zero, List.set_cons_succ, i64_w, i32_w]
            rfl
           refine pure_ (i := 5) (N := some 28) (v := ?_) (a' := ?_) #[true, true, true, true, true, true, false, true, false, false, false, false] rfl rfl (any_of HT_.out (by kernel_rfl)) (fun _ _ _ h => h) (Or.inl ⟨by rfl, ?_⟩) ?_ ?_
           rotate_left
           ·intro w'
            go_simp
            with_reducible rfl
           rotate_left
           ·simp only [Act.put, List.setIfInBounds_toArray, List.set_cons_zero, List.set_cons_succ, i64_w, i32_w]
            rfl
           refine take_ (i := 6) (N := some 29) (v := ?_) (a' := ?_) #[true, true, true, true, true, true, true, true, false, false, false, false] rfl rfl (take_ofW HT_.out HW_.out (by kernel_rfl)) (fun _ _ _ h => h) (Or.inl ⟨by rfl, ?_⟩) hHeld ?_ ?_
           rotate_left
           ·rintro w' ⟨s0, s1, s2, s3, s4, s5, s6⟩
            go_simp
            with_reducible rfl
           rotate_left
           ·simp only [Act.put, List.setIfInBounds_toArray, List.set_cons_zero, List.set_cons_succ, i64_w, i32_w]
            rfl
           refine pure_ (i := 8) (N := some 31) (v := ?_) (a' := ?_) #[true, true, true, true, true, true, true, true, true, false, false, false] rfl rfl (any_of HT_.out (by kernel_rfl)) (fun _ _ _ h => h) (Or.inl ⟨by rfl, ?_⟩) ?_ ?_
           rotate_left
           ·intro w'
            go_simp
            with_reducible rfl
           rotate_left
           ·simp only [Act.put, List.setIfInBounds_toArray, List.set_cons_zero, List.set_cons_succ, i64_w, i32_w]
            rfl
           refine take_ (i := 9) (N := some 32) (v := ?_) (a' := ?_) #[true, true, true, true, true, true, true, true, true, true, false, false] rfl rfl (take_ofW HT_.out HW_.out (by kernel_rfl)) (fun _ _ _ h => h) (Or.inl ⟨by rfl, ?_⟩) hHeld ?_ ?_
           rotate_left
           ·rintro w' ⟨s0, s1, s2, s3, s4, s5, s6⟩
            go_simp
            with_reducible rfl
           rotate_left
           ·simp only [Act.put, List.setIfInBounds_toArray, List.set_cons_zero, List.set_cons_succ, i64_w, i32_w]
            rfl
           refine one_ (i := 10) (N := some 33) #[true, true, true, true, true, true, true, true, true, true, true, false] rfl rfl (one_of HT_.out (by kernel_rfl)) (by decide) (fun K hK => ?_)
           refine goes_ Try.func27 (by kernel_rfl) rfl #[.agg #[.slice (some ad261) l0_0.length c0_0, .int .i64 a0_1], .int .i64 (rd ((rd_T40 l0_0 x3_1).f3) x4_2)] (by rfl) rfl rfl (by (try simp only [List.map_toArray, List.map_cons, List.map_nil]); first | done | rfl | (simp only [List.length_drop, List.length_take]; rfl)) ?_
           with_reducible refine (dioramaref09_Place.calls _ _ l0_0 a0_1 (rd ((rd_T40 l0_0 x3_1).f3) x4_2) false _ ?side1 ?side2 A9.out).mono ?_
           (case side1 => repeat (first | exact (Kd.C_below HR0_0.out HB.out) | (with_reducible refine Kd.C_alloc ?_ _) | (with_reducible refine Kd.C_drewN ?_ _) | (with_reducible refine Kd.C_drew ?_)))
           (case side2 => exact HC0_0.out)
           rintro e w16 ⟨rfl, hb⟩
           refine ⟨_, rfl, ?_⟩
           have n0_ := BE BK260 hb
           have n1_ := Aside0.mk (below_step (BB HB) hb)
           clear BK260
           clear HB
           have BK260 := n0_
           have HB := n1_
           clear n0_ n1_
           (try clear hb)
           (try clear hb2)
           (try clear hk)
           (try clear hi)
           refine hK.out _ _ ⟨(blk_cell BK260.out 0).trans rfl, (blk_cell BK260.out 1).trans rfl, ((HB.out.cell (World.block_lt_of_cell? w _ hw262_0)).trans hw262_0), ((HB.out.cell (World.block_lt_of_cell? w _ hw262_1)).trans hw262_1), ((HB.out.cell (World.block_lt_of_cell? w _ hw262_2)).trans hw262_2), ((HB.out.cell (World.block_lt_of_cell? w _ hw262_3)).trans hw262_3), ((HB.out.cell (World.block_lt_of_cell? w _ hw263_0)).trans hw263_0)⟩ (fun hHeld => ?_)
           clear hK K
           refine norm_ (a' := ?_) ?_ ?_
           rotate_left
           ·show Act.put _ (some 33) _ = _
            simp only [Act.put, List.setIfInBounds_toArray, List.set_cons_zero, List.set_cons_succ, i64_w, i32_w]
            rfl
           refine pure_ (i := 11) (N := some 34) (v := ?_) (a' := ?_) #[true, true, true, true, true, true, true, true, true, true, true, true] rfl rfl (any_of HT_.out (by kernel_rfl)) (fun _ _ _ h => h) (Or.inl ⟨by rfl, ?_⟩) ?_ ?_
           rotate_left
           ·intro w'
            go_simp
            with_reducible rfl
           rotate_left
           ·simp only [Act.put, List.setIfInBounds_toArray, List.set_cons_zero, List.set_cons_succ, i64_w, i32_w]
            rfl
           refine done_ (done_of HT_.out (by kernel_rfl)) ?_
           try go_wp2
           go_ret
           exact ⟨by first | rfl | (simp [errW_none, errW_some] <;> rfl) | (simp [*, errW_none, errW_some] <;> rfl), BB HB⟩
         ·rw [if_neg c8] at H
          exact absurd H (by simp)
        ·rw [if_neg c7] at H
         have c7b0 : decide (x4_2 < (((rd_T40 l0_0 x3_1).f3).length : Int)) = false := decide_eq_false c7
         clear c7
         have H' := Aside0.mk H
         clear H
         have hcz17_0 : wr.cell? ⟨gb260, 0, none⟩ = some (.slice A0_0 l0_0.length c0_0) := (blk_cell BK260.out 0).trans rfl
         have hcz17_1 : wr.cell? ⟨gb260, 1, none⟩ = some (.int .i64 a0_1) := (blk_cell BK260.out 1).trans rfl
         have hfz17_0 := blk_frozen BK260.out 0
         have hfz17_1 := blk_frozen BK260.out 1
         have p261 : 0 ≤ (x3_1 : Int) := of_decide_eq_true (by first | (with_reducible assumption) | assumption)
         have q261 : x3_1 < (l0_0.length : Int) := of_decide_eq_true (by first | (with_reducible assumption) | assumption)
         obtain ⟨ad261, A261_1, c261_1, A261_2, c261_2, A261_3, c261_3, e261, hx261_0, hx261_1, hx261_2, hx261_3, hl261_1, hi261_1, hl261_2, hi261_2, hl261_3, hi261_3⟩ := at_T40 HR0_0.out x3_1 p261 q261
         cases e261
         replace hx261_0 := (HB.out.cell (World.block_lt_of_cell? w _ hx261_0)).trans hx261_0
         replace hx261_1 := (HB.out.cell (World.block_lt_of_cell? w _ hx261_1)).trans hx261_1
         replace hx261_2 := (HB.out.cell (World.block_lt_of_cell? w _ hx261_2)).trans hx261_2
         replace hx261_3 := (HB.out.cell (World.block_lt_of_cell? w _ hx261_3)).trans hx261_3
         have HR261_1 := Aside0.mk hi261_1
         have HC261_1 := Aside0.mk hl261_1
         clear hi261_1 hl261_1
         have HR261_2 := Aside0.mk hi261_2
         have HC261_2 := Aside0.mk hl261_2
         clear hi261_2 hl261_2
         have HR261_3 := Aside0.mk hi261_3
         have HC261_3 := Aside0.mk hl261_3
         clear hi261_3 hl261_3
         replace p261 := eq_true p261
         replace q261 := eq_true q261
         go_wp2
         go_roundg k2
         case measure => have := HK1.out; have := HK2.out; omega
         case rel => exact ⟨(wrap64 (x3_1 + 1)), (by first | rfl | (simp; done) | (simp [*]; done)), H', ⟨by have := HK1.out; have := HK2.out; omega⟩, ⟨BL BK260⟩, ⟨BB HB⟩⟩
       ·rw [if_neg c6] at H
        exact absurd H (by simp)
      ·rw [if_neg c5] at H
       exact absurd H (by simp)
   ·rw [if_neg c3] at H
    have c3b0 : decide (x3_1 < (l0_0.length : Int)) = false := decide_eq_false c3
    clear c3
    obtain rfl := Option.some.inj H
    have hcz18_0 : wr.cell? ⟨gb260, 0, none⟩ = some (.slice A0_0 l0_0.length c0_0) := (blk_cell BK260.out 0).trans rfl
    have hcz18_1 : wr.cell? ⟨gb260, 1, none⟩ = some (.int .i64 a0_1) := (blk_cell BK260.out 1).trans rfl
    have hfz18_0 := blk_frozen BK260.out 0
    have hfz18_1 := blk_frozen BK260.out 1
    go_wp2
    go_ret
    exact ⟨by first | rfl | (simp [errW_none, errW_some] <;> rfl) | (simp [*, errW_none, errW_some] <;> rfl), BB HB⟩

end Go.Proofs.Ytlfjjapndlkamaa.GE
