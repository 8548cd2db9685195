-- Printed by a program of the session (wip/gen/tprint.py, over a turned copy of the kit's print): Lean checks it.
import Derived.Test.YtlfjjapndlkamaaPaGAx0
namespace Go.Proofs.Ytlfjjapndlkamaa.GA
open Go.RowKit Go.Proofs.YtlfjjapndlkamaaW.PrintWords Go.Proofs.YtlfjjapndlkamaaW.PrintLast Go.Proofs.YtlfjjapndlkamaaW.PrintMore
attribute [local go_sem] max2_int min2_int max_two min_two max_three min_three max_four min_four   -- for this text's walks alone
set_option linter.unusedVariables false
set_option linter.unusedSimpArgs false

/-! ### dioramaref10_meet: function 56 -/
mutual
def dioramaref10_meet.l0 : Nat → Int → List Int → Int → List (S40) → Int → Option (List Int)
 | 0, _, _, _, _, _ => none
 | k + 1, x1, x2, x7, x257000, x257001 => if x7 < (x2.length : Int) then (if 0 ≤ x7 then (if (rd x2 x7) = x1 then (some x2) else (dioramaref10_meet.l0 k x1 x2 (wrap64 (x7 + 1)) x257000 x257001)) else (none)) else (dioramaref10_meet.l1 k x1 x2 0 x257000 x257001)
def dioramaref10_meet.l1 : Nat → Int → List Int → Int → List (S40) → Int → Option (List Int)
 | 0, _, _, _, _, _ => none
 | k + 1, x1, x2, x8, x257000, x257001 => if 0 ≤ x1 then (if x1 < (x257000.length : Int) then (if x8 < (((rd_T40 x257000 x1).f3).length : Int) then (if 0 ≤ x8 then ((dioramaref10_meet.f k x257000 x257001 (rd ((rd_T40 x257000 x1).f3) x8) x2).bind fun t261 => (dioramaref10_meet.l1 k x1 t261 (wrap64 (x8 + 1)) x257000 x257001)) else (none)) else ((some (([] : List Int) : List Int)).bind fun y264 => (if y264.length + x2.length < 17592186044416 then ((some (y264 ++ x2 : List Int)).bind fun y267 => (if y267.length < 17592186044416 then (some (y267 ++ [x1])) else (none))) else (none)))) else (none)) else (none)
def dioramaref10_meet.f : Nat → List (S40) → Int → Int → List Int → Option (List Int)
 | 0, _, _, _, _ => none
 | k + 1, l0_0, a0_1, a1, l2 => dioramaref10_meet.l0 k a1 l2 0 l0_0 a0_1
end
def dioramaref10_meet.T9 : Bool × List (List Nat × List Nat) := (true, [([], []), ([], []), ([1], [1]), ([], []), ([2, 3], [2, 3]), ([4], [4]), ([5], [5]), ([], []), ([6, 7], [6, 7]), ([8], [8]), ([], []), ([0, 9, 10], [0, 9, 10]), ([11, 11, 0, 1, 2, 3, 4, 5, 6, 7, 8, 9, 10, 11], [10, 11])])
def dioramaref10_meet.B9 : List Nat := [0, 0, 2, 0, 14, 30, 62, 0, 254, 510, 0, 2047, 4095]
theorem dioramaref10_meet.tab9 : rtab .any (opsOf Try.f56 9) = dioramaref10_meet.T9 := by kernel_rfl
theorem dioramaref10_meet.bits9 : waitsOk dioramaref10_meet.T9.2 dioramaref10_meet.B9 = true := by kernel_rfl
set_option maxHeartbeats 8000000 in
set_option maxRecDepth 100000 in
theorem dioramaref10_meet.calls (k : Nat) : ∀ (A0_0 : Option Addr) (c0_0 : Nat) (l0_0 : List (S40)) (a0_1 : Int) (a1 : Int) (P2_ : Nat → Prop) (A2 : Option Addr) (c2 : Nat) (l2 : List Int) (r : List Int) (w : World) (hr0_0 : Kd.C k40 w A0_0 l0_0.length l0_0) (hc0_0 : l0_0.length ≤ c0_0) (hs2 : Kd.V (Kd.int .i64) 3 w w.heap.size (fun k_ => P2_ k_) (.slice A2 l2.length c2) l2) (h : dioramaref10_meet.f k l0_0 a0_1 a1 l2 = some r),
  Calls Try.prog 56 #[.agg #[.slice A0_0 l0_0.length c0_0, .int .i64 a0_1], .int .i64 a1, .slice A2 l2.length c2] w fun e w' => ∃ v0_ : Value, e = .returned (v0_) ∧ Kd.V (Kd.int .i64) 3 w' w.heap.size (fun k_ => (P2_ k_ ∨ w.heap.size ≤ k_)) v0_ r ∧ Below w.heap.size w w' := by
 induction k using Nat.strongRecOn with
 | _ k ih =>
 intro A0_0 c0_0 l0_0 a0_1 a1 P2_ A2 c2 l2 r w hr0_0 hc0_0 hs2 h
 cases k with
 | zero => exact absurd h (by simp [dioramaref10_meet.f])
 | succ k =>
 simp only [dioramaref10_meet.f] at h
 have hu24 := Try.underlying24
 have HR0_0 := Aside0.mk hr0_0
 have HC0_0 := Aside0.mk hc0_0
 clear hr0_0 hc0_0
 have HO2 := Aside0.mk (show Kd.V (Kd.int .i64) 3 w w.heap.size (fun k_ => (P2_ k_ ∨ w.heap.size ≤ k_)) (.slice A2 l2.length c2) l2 from Kd.V_mono hs2 (fun k_ hk => .inl hk))
 have HB := Aside0.mk (Below.refl w.heap.size w)
 have H : (dioramaref10_meet.l0 k a1 l2 0 l0_0 a0_1) = some r := h
 clear h
 have H' := Aside0.mk H
 clear H
 go_enter Try.func56, Try.ntmps56
 go_wp2_with (first | ((with_reducible refine gate_dst (N := 3) rfl ?_); refine box_event ?hg (N := 3) ?hd (cs := #[.slice A0_0 l0_0.length c0_0, .int .i64 a0_1]) (t := 24) ?hr ?_; (case hd => rfl); (case hg => rfl); (case hr => first | (go_simp; done) | (go_simp; rfl)); intro gb256 hg w4 hbox hb; have n0_ := Aside0.mk (Kd.V_below (Kd.V_elderB (by (with_reducible repeat (first | apply Kd.V_alloc | apply Kd.V_drewN | apply Kd.V_drew)); exact HO2.out) gb256 (Nat.le_of_eq hg.symm)) hb); have n1_ := Aside0.mk (below_step (BB HB) hb); have n2_ := Aside0.mk (hbox); have n3_ := Aside0.mk ((by rw [hg]; exact (below_size (BB HB)) : w.heap.size ≤ gb256)); have n4_ := Aside0.mk ((by rw [hg]; exact (below_size (BB HB)) : w.heap.size ≤ gb256)); clear HO2; clear HB; have HO2 := n0_; have HB := n1_; have BK256 := n2_; have GW256 := n3_; have GE256 := n4_; clear n0_ n1_ n2_ n3_ n4_; clear hb hbox hg))
 go_loopg [7] k (fun kq v7 w' => ∃ (x7_1 : Int), v7 = .int .i64 x7_1 ∧ Aside0 (dioramaref10_meet.l0 kq a1 l2 x7_1 l0_0 a0_1 = some r) ∧ Aside0 (kq ≤ k) ∧ Aside0 (Kd.V (Kd.int .i64) 3 w' w.heap.size (fun k_ => (P2_ k_ ∨ w.heap.size ≤ k_) ∧ k_ ≠ gb256) (.slice A2 l2.length c2) l2) ∧ Aside0 (w'.heap[gb256]? = some (.cells #[(.slice A0_0 l0_0.length c0_0), .int .i64 a0_1] 24 (0, 0))) ∧ Aside0 (Below w.heap.size w w'))
 case atStart => exact ⟨(0), (by first | rfl | (simp; done) | (simp [*]; done)), H', ⟨Nat.le_refl _⟩, ⟨by (with_reducible repeat (first | apply Kd.V_alloc | apply Kd.V_drewN | apply Kd.V_drew)); exact HO2.out⟩, ⟨BL BK256⟩, ⟨BB HB⟩⟩
 case round =>
  clear H'
  try clear c2
  try clear p2
  obtain ⟨x7_1, rfl, HA, HK1, HO_2, BK256, HB⟩ := hrel
  cases gk with
  | zero => exact absurd HA.out (by simp [dioramaref10_meet.l0])
  | succ k1 =>
   have H := HA.out
   clear HA
   simp only [dioramaref10_meet.l0] at H
   by_cases c5 : x7_1 < (l2.length : Int)
   ·rw [if_pos c5] at H
    have c5b0 : decide (x7_1 < (l2.length : Int)) = true := decide_eq_true c5
    clear c5
    by_cases c6 : 0 ≤ x7_1
    ·rw [if_pos c6] at H
     have c6b0 : decide (0 ≤ x7_1) = true := decide_eq_true c6
     clear c6
     by_cases c7 : (rd l2 x7_1) = a1
     ·rw [if_pos c7] at H
      have c7b0 : ((rd l2 x7_1) == a1) = true := beq_iff_eq.mpr c7
      have c7b1 : ((rd l2 x7_1) != a1) = false := bne_eq_false_iff_eq.mpr c7
      clear c7
      obtain rfl := Option.some.inj H
      have p257 : 0 ≤ (x7_1 : Int) := of_decide_eq_true (by first | (with_reducible assumption) | assumption)
      have q257 : x7_1 < (l2.length : Int) := of_decide_eq_true (by first | (with_reducible assumption) | assumption)
      obtain ⟨ad257, e257, hx257_0⟩ := Kd.at_int (Kd.V_reads' HO_2.out).2.2 x7_1 p257 q257
      cases e257
      replace p257 := eq_true p257
      replace q257 := eq_true q257
      go_wp2
      go_ret
      exact ⟨_, by first | rfl | (simp [errW_none, errW_some] <;> rfl) | (simp [*, errW_none, errW_some] <;> rfl), by (with_reducible repeat (first | apply Kd.V_alloc | apply Kd.V_drewN | apply Kd.V_drew)); exact Kd.V_mono HO_2.out (fun _ hk => hk.1), BB HB⟩
     ·rw [if_neg c7] at H
      have c7b0 : ((rd l2 x7_1) == a1) = false := beq_eq_false_iff_ne.mpr c7
      have c7b1 : ((rd l2 x7_1) != a1) = true := bne_iff_ne.mpr c7
      have H' := Aside0.mk H
      clear H
      have p257 : 0 ≤ (x7_1 : Int) := of_decide_eq_true (by first | (with_reducible assumption) | assumption)
      have q257 : x7_1 < (l2.length : Int) := of_decide_eq_true (by first | (with_reducible assumption) | assumption)
      obtain ⟨ad257, e257, hx257_0⟩ := Kd.at_int (Kd.V_reads' HO_2.out).2.2 x7_1 p257 q257
      cases e257
      replace p257 := eq_true p257
      replace q257 := eq_true q257
      go_wp2
      go_roundg k1
      case measure => have := HK1.out; omega
      case rel => exact ⟨(wrap64 (x7_1 + 1)), (by first | rfl | (simp; done) | (simp [*]; done)), H', ⟨by have := HK1.out; omega⟩, ⟨by (with_reducible repeat (first | apply Kd.V_alloc | apply Kd.V_drewN | apply Kd.V_drew)); exact HO_2.out⟩, ⟨BL BK256⟩, ⟨BB HB⟩⟩
    ·rw [if_neg c6] at H
     exact absurd H (by simp)
   ·rw [if_neg c5] at H
    have c5b0 : decide (x7_1 < (l2.length : Int)) = false := decide_eq_false c5
    clear c5
    have H' := Aside0.mk H
    clear H
    go_wp2
    go_loopg [2, 8] k1 (fun kq v2 v8 w' => ∃ (x2_2 : List Int) (x8_2 : Int), v8 = .int .i64 x8_2 ∧ Aside0 (dioramaref10_meet.l1 kq a1 x2_2 x8_2 l0_0 a0_1 = some r) ∧ Aside0 (kq ≤ k1) ∧ Aside0 (Kd.V (Kd.int .i64) 3 w' w.heap.size (fun k_ => (P2_ k_ ∨ w.heap.size ≤ k_) ∧ k_ ≠ gb256) v2 x2_2) ∧ Aside0 (w'.heap[gb256]? = some (.cells #[(.slice A0_0 l0_0.length c0_0), .int .i64 a0_1] 24 (0, 0))) ∧ Aside0 (Below w.heap.size w w'))
    case atStart => exact ⟨(l2), (0), (by first | rfl | (simp; done) | (simp [*]; done)), H', ⟨Nat.le_refl _⟩, ⟨by (with_reducible repeat (first | apply Kd.V_alloc | apply Kd.V_drewN | apply Kd.V_drew)); exact HO_2.out⟩, ⟨BL BK256⟩, ⟨BB HB⟩⟩
    case round =>
     clear H'
     try clear c2
     try clear p2
     try clear q2
     try clear hx2
     try clear c5
     try clear c5b0
     try clear c6
     try clear c6b0
     try clear p6
     try clear c7
     try clear c7b0
     try clear c7b1
     try clear hx257_0
     try clear p2
     try clear p257
     try clear q257
     obtain ⟨x2_2, x8_2, rfl, HA, HK2, HO_2, BK256, HB⟩ := hrel
     cases gk with
     | zero => exact absurd HA.out (by simp [dioramaref10_meet.l1])
     | succ k2 =>
      have H := HA.out
      clear HA
      simp only [dioramaref10_meet.l1] at H
      by_cases c8 : 0 ≤ a1
      ·rw [if_pos c8] at H
       have c8b0 : decide (0 ≤ a1) = true := decide_eq_true c8
       clear c8
       by_cases c9 : a1 < (l0_0.length : Int)
       ·rw [if_pos c9] at H
        have c9b0 : decide (a1 < (l0_0.length : Int)) = true := decide_eq_true c9
        clear c9
        by_cases c10 : x8_2 < (((rd_T40 l0_0 a1).f3).length : Int)
        ·rw [if_pos c10] at H
         have c10b0 : decide (x8_2 < (((rd_T40 l0_0 a1).f3).length : Int)) = true := decide_eq_true c10
         clear c10
         by_cases c11 : 0 ≤ x8_2
         ·rw [if_pos c11] at H
          have c11b0 : decide (0 ≤ x8_2) = true := decide_eq_true c11
          clear c11
          replace H := Option.bind_eq_some_iff.mp H
          obtain ⟨t261, A120, H⟩ := H
          replace H : (dioramaref10_meet.l1 k2 a1 t261 (wrap64 (x8_2 + 1)) l0_0 a0_1) = some r := H
          have A12 := Aside0.mk A120
          clear A120
          have H' := Aside0.mk H
          clear H
          have hcz13_0 : wr.cell? ⟨gb256, 0, none⟩ = some (.slice A0_0 l0_0.length c0_0) := (blk_cell BK256.out 0).trans rfl
          have hcz13_1 : wr.cell? ⟨gb256, 1, none⟩ = some (.int .i64 a0_1) := (blk_cell BK256.out 1).trans rfl
          have hfz13_0 := blk_frozen BK256.out 0
          have hfz13_1 := blk_frozen BK256.out 1
          have p258 : 0 ≤ (a1 : Int) := of_decide_eq_true (by first | (with_reducible assumption) | assumption)
          have q258 : a1 < (l0_0.length : Int) := of_decide_eq_true (by first | (with_reducible assumption) | assumption)
          obtain ⟨ad258, A258_1, c258_1, A258_2, c258_2, A258_3, c258_3, e258, hx258_0, hx258_1, hx258_2, hx258_3, hl258_1, hi258_1, hl258_2, hi258_2, hl258_3, hi258_3⟩ := at_T40 HR0_0.out a1 p258 q258
          cases e258
          replace hx258_0 := (HB.out.cell (World.block_lt_of_cell? w _ hx258_0)).trans hx258_0
          replace hx258_1 := (HB.out.cell (World.block_lt_of_cell? w _ hx258_1)).trans hx258_1
          replace hx258_2 := (HB.out.cell (World.block_lt_of_cell? w _ hx258_2)).trans hx258_2
          replace hx258_3 := (HB.out.cell (World.block_lt_of_cell? w _ hx258_3)).trans hx258_3
          have HR258_1 := Aside0.mk hi258_1
          have HC258_1 := Aside0.mk hl258_1
          clear hi258_1 hl258_1
          have HR258_2 := Aside0.mk hi258_2
          have HC258_2 := Aside0.mk hl258_2
          clear hi258_2 hl258_2
          have HR258_3 := Aside0.mk hi258_3
          have HC258_3 := Aside0.mk hl258_3
          clear hi258_3 hl258_3
          replace p258 := eq_true p258
          replace q258 := eq_true q258
          try go_wp2
          have n0_ := Aside0.mk (Kd.V_drew HO_2.out)
          have n1_ := Aside0.mk (blk_drew BK256.out)
          have n2_ := Aside0.mk (below_drew1 HB.out)
          clear HO_2
          clear BK256
          clear HB
          have HO_2 := n0_
          have BK256 := n1_
          have HB := n2_
          clear n0_ n1_ n2_
          have p259 : 0 ≤ (a1 : Int) := of_decide_eq_true (by first | (with_reducible assumption) | assumption)
          have q259 : a1 < (l0_0.length : Int) := of_decide_eq_true (by first | (with_reducible assumption) | assumption)
          obtain ⟨ad259, A259_1, c259_1, A259_2, c259_2, A259_3, c259_3, e259, hx259_0, hx259_1, hx259_2, hx259_3, hl259_1, hi259_1, hl259_2, hi259_2, hl259_3, hi259_3⟩ := at_T40 HR0_0.out a1 p259 q259
          have hw259_3 := hx259_3
          have hw259_2 := hx259_2
          have hw259_1 := hx259_1
          have hw259_0 := hx259_0
          obtain rfl : ad258 = ad259 := (by injection e259)
          replace hx259_0 := (HB.out.cell (World.block_lt_of_cell? w _ hx259_0)).trans hx259_0
          replace hx259_1 := (HB.out.cell (World.block_lt_of_cell? w _ hx259_1)).trans hx259_1
          replace hx259_2 := (HB.out.cell (World.block_lt_of_cell? w _ hx259_2)).trans hx259_2
          replace hx259_3 := (HB.out.cell (World.block_lt_of_cell? w _ hx259_3)).trans hx259_3
          have HR259_1 := Aside0.mk hi259_1
          have HC259_1 := Aside0.mk hl259_1
          clear hi259_1 hl259_1
          have HR259_2 := Aside0.mk hi259_2
          have HC259_2 := Aside0.mk hl259_2
          clear hi259_2 hl259_2
          have HR259_3 := Aside0.mk hi259_3
          have HC259_3 := Aside0.mk hl259_3
          clear hi259_3 hl259_3
          replace p259 := eq_true p259
          replace q259 := eq_true q259
          have p260 : 0 ≤ (x8_2 : Int) := of_decide_eq_true (by first | (with_reducible assumption) | assumption)
          have q260 : x8_2 < (((rd_T40 l0_0 a1).f3).length : Int) := of_decide_eq_true (by first | (with_reducible assumption) | assumption)
          obtain ⟨ad260, e260, hx260_0⟩ := Kd.at_int HR259_3.out x8_2 p260 q260
          have hw260_0 := hx260_0
          cases e260
          replace hx260_0 := (HB.out.cell (World.block_lt_of_cell? w _ hx260_0)).trans hx260_0
          replace p260 := eq_true p260
          replace q260 := eq_true q260
          obtain ⟨Ao15, co15, eo15⟩ := Kd.V_slice HO_2.out
          (first | subst eo15 | (injection eo15 with f1_ f2_ f3_; have f4_ := f1_.symm; have f5_ := f3_.symm; clear f1_ f2_ f3_; subst f4_; subst f5_))
          refine start_ (n := 13) (S := fun w' => w'.cell? ⟨gb256, 0, none⟩ = some (.slice (some ad258) l0_0.length c0_0) ∧ w'.cell? ⟨gb256, 1, none⟩ = some (.int .i64 a0_1) ∧ w'.cell? (ad258.add ((a1).toNat * 4)) = some (.int .i64 ((rd_T40 l0_0 a1).f0)) ∧ w'.cell? ⟨(ad258.add ((a1).toNat * 4)).block, (ad258.add ((a1).toNat * 4)).off + 1, none⟩ = some (.slice A259_1 ((rd_T40 l0_0 a1).f1).length c259_1) ∧ w'.cell? ⟨(ad258.add ((a1).toNat * 4)).block, (ad258.add ((a1).toNat * 4)).off + 2, none⟩ = some (.slice A259_2 ((rd_T40 l0_0 a1).f2).length c259_2) ∧ w'.cell? ⟨(ad258.add ((a1).toNat * 4)).block, (ad258.add ((a1).toNat * 4)).off + 3, none⟩ = some (.slice (some ad260) ((rd_T40 l0_0 a1).f3).length c259_3) ∧ w'.cell? (ad260.add (x8_2).toNat) = some (.int .i64 (rd ((rd_T40 l0_0 a1).f3) x8_2))) (ds := []) #[false, false, false, false, false, false, false, false, false, false, false, false, false] (by kernel_rfl) rfl rfl ⟨(blk_cell BK256.out 0).trans rfl, (blk_cell BK256.out 1).trans rfl, ((HB.out.cell (World.block_lt_of_cell? w _ hw259_0)).trans hw259_0), ((HB.out.cell (World.block_lt_of_cell? w _ hw259_1)).trans hw259_1), ((HB.out.cell (World.block_lt_of_cell? w _ hw259_2)).trans hw259_2), ((HB.out.cell (World.block_lt_of_cell? w _ hw259_3)).trans hw259_3), ((HB.out.cell (World.block_lt_of_cell? w _ hw260_0)).trans hw260_0)⟩ (fun hHeld => ?_); refine with_tabW dioramaref10_meet.tab9 dioramaref10_meet.bits9 (fun HT_ HW_ => ?_)
          generalize wr.drew = w14 at HO_2 BK256 HB HR259_1 HR259_2 HR259_3 hx259_0 hx259_1 hx259_2 hx259_3 hx260_0 hHeld ⊢
          refine pure_ (i := 1) (N := some 34) (v := ?_) (a' := ?_) #[false, true, false, false, false, false, false, false, false, false, false, false, false] rfl rfl (any_of HT_.out (by kernel_rfl)) (fun _ _ _ h => h) (Or.inl ⟨by rfl, ?_⟩) ?_ ?_
          rotate_left
          ·intro w'
           go_simp
           with_reducible rfl
          rotate_left
          ·simp only [Act.put, List.setIfInBounds_toArray, List.set_cons_zero, List.set_cons_succ, i64_w, i32_w]
           rfl
          refine pure_ (i := 3) (N := some 36) (v := ?_) (a' := ?_) #[false, true, false, true, false, false, false, false, false, false, false, false, false] rfl rfl (any_of HT_.out (by kernel_rfl)) (fun _ _ _ h => h) (Or.inl ⟨by rfl, ?_⟩) ?_ ?_
          rotate_left
          ·intro w'
           go_simp
           with_reducible rfl
          rotate_left
          ·simp only [Act.put, List.setIfInBounds_toArray, List.set_cons_zero, List.set_cons_succ, i64_w, i32_w]
           rfl
          refine pure_ (i := 7) (N := some 40) (v := ?_) (a' := ?_) #[false, true, false, true, false, false, false, true, false, false, false, false, false] rfl rfl (any_of HT_.out (by kernel_rfl)) (fun _ _ _ h => h) (Or.inl ⟨by rfl, ?_⟩) ?_ ?_
          rotate_left
          ·intro w'
           go_simp
           with_reducible rfl
          rotate_left
          ·simp only [Act.put, List.setIfInBounds_toArray, List.set_cons_zero, List.set_cons_succ, i64_w, i32_w]
           rfl
          refine pure_ (i := 10) (N := some 43) (v := ?_) (a' := ?_) #[false, true, false, true, false, false, false, true, false, false, true, false, false] rfl rfl (any_of HT_.out (by kernel_rfl)) (fun _ _ _ h => h) (Or.inl ⟨by rfl, ?_⟩) ?_ ?_
          rotate_left
          ·intro w'
           go_simp
           with_reducible rfl
          rotate_left
          ·simp only [Act.put, List.setIfInBounds_toArray, List.set_cons_zero, List.set_cons_succ, i64_w, i32_w]
           rfl
          refine take_ (i := 0) (N := some 33) (v := ?_) (a' := ?_) #[true, true, false, true, false, false, false, true, false, false, true, false, false] rfl rfl (take_ofW HT_.out HW_.out (by kernel_rfl)) (fun _ _ _ h => h) (Or.inl ⟨by rfl, ?_⟩) hHeld ?_ ?_
          rotate_left
          ·rintro w' ⟨s0, s1, s2, s3, s4, s5, s6⟩
           go_simp
           with_reducible rfl
          rotate_left
          ·simp only [Act.put, List.setIfInBounds_toArray, List.set_cons_zero, List.set_cons_succ, i64_w, i32_w]
           rfl
          refine take_ (i := 2) (N := some 35) (v := ?_) (a' := ?_) #[true, true, true, true, false, false, false, true, false, false, true, false, false] rfl rfl (take_ofW HT_.out HW_.out (by kernel_rfl)) (fun _ _ _ h => h) (Or.inl ⟨by rfl, ?_⟩) hHeld ?_ ?_
          rotate_left
          ·rintro w' ⟨s0, s1, s2, s3, s4, s5, s6⟩
           go_simp
           with_reducible rfl
          rotate_left
          ·simp only [Act.put, List.setIfInBounds_toArray, List.set_cons_zero, List.set_cons_succ, i64_w, i32_w]
           rfl
          refine pure_ (i := 4) (N := some 37) (v := ?_) (a' := ?_) #[true, true, true, true, true, false, false, true, false, false, true, false, false] rfl rfl (any_of HT_.out (by kernel_rfl)) (fun _ _ _ h => h) (Or.inl ⟨by rfl, ?_⟩) ?_ ?_
          rotate_left
          ·intro w'
           go_simp
           with_reducible rfl
          rotate_left
          ·simp only [Act.put, List.setIfInBounds_toArray, List.set_cons_zero, List.set_cons_succ, i64_w, i32_w]
           rfl
          refine pure_ (i := 5) (N := some 38) (v := ?_) (a' := ?_) #[true, true, true, true, true, true, false, true, false, false, true, false, false] rfl rfl (any_of HT_.out (by kernel_rfl)) (fun _ _ _ h => h) (Or.inl ⟨by rfl, ?_⟩) ?_ ?_
          rotate_left
          ·intro w'
           go_simp
           with_reducible rfl
          rotate_left
          ·simp only [Act.put, List.setIfInBounds_toArray, List.set_cons_zero, List.set_cons_succ, i64_w, i32_w]
           rfl
          refine take_ (i := 6) (N := some 39) (v := ?_) (a' := ?_) #[true, true, true, true, true, true, true, true, false, false, true, false, false] rfl rfl (take_ofW HT_.out HW_.out (by kernel_rfl)) (fun _ _ _ h => h) (Or.inl ⟨by rfl, ?_⟩) hHeld ?_ ?_
          rotate_left
          ·rintro w' ⟨s0, s1, s2, s3, s4, s5, s6⟩
           go_simp
           with_reducible rfl
          rotate_left
          ·simp only [Act.put, List.setIfInBounds_toArray, List.set_cons_zero, List.set_cons_succ, i64_w, i32_w]
           rfl
          refine pure_ (i := 8) (N := some 41) (v := ?_) (a' := ?_) #[true, true, true, true, true, true, true, true, true, false, true, false, false] rfl rfl (any_of HT_.out (by kernel_rfl)) (fun _ _ _ h => h) (Or.inl ⟨by rfl, ?_⟩) ?_ ?_
          rotate_left
          ·intro w'
           go_simp
           with_reducible rfl
          rotate_left
          ·simp only [Act.put, List.setIfInBounds_toArray, List.set_cons_zero, List.set_cons_succ, i64_w, i32_w]
           rfl
          refine take_ (i := 9) (N := some 42) (v := ?_) (a' := ?_) #[true, true, true, true, true, true, true, true, true, true, true, false, false] rfl rfl (take_ofW HT_.out HW_.out (by kernel_rfl)) (fun _ _ _ h => h) (Or.inl ⟨by rfl, ?_⟩) hHeld ?_ ?_
          rotate_left
          ·rintro w' ⟨s0, s1, s2, s3, s4, s5, s6⟩
           go_simp
           with_reducible rfl
          rotate_left
          ·simp only [Act.put, List.setIfInBounds_toArray, List.set_cons_zero, List.set_cons_succ, i64_w, i32_w]
           rfl
          refine one_ (i := 11) (N := some 44) #[true, true, true, true, true, true, true, true, true, true, true, true, false] rfl rfl (one_of HT_.out (by kernel_rfl)) (by decide) (fun K hK => ?_)
          refine goes_ Try.func56 (by kernel_rfl) rfl #[.agg #[.slice (some ad258) l0_0.length c0_0, .int .i64 a0_1], .int .i64 (rd ((rd_T40 l0_0 a1).f3) x8_2), .slice Ao15 x2_2.length co15] (by rfl) rfl rfl (by (try simp only [List.map_toArray, List.map_cons, List.map_nil]); first | done | rfl | (simp only [List.length_drop, List.length_take]; rfl)) ?_
          with_reducible refine (ih k2 (by have := HK1.out; have := HK2.out; omega) _ _ l0_0 a0_1 (rd ((rd_T40 l0_0 a1).f3) x8_2) (fun k_ => ((P2_ k_ ∨ w.heap.size ≤ k_) ∧ k_ ≠ gb256)) _ _ x2_2 t261 _ ?side1 ?side2 ?side3 A12.out).mono ?_
          (case side1 => repeat (first | exact (Kd.C_below HR0_0.out HB.out) | (with_reducible refine Kd.C_alloc ?_ _) | (with_reducible refine Kd.C_drewN ?_ _) | (with_reducible refine Kd.C_drew ?_)))
          (case side2 => exact HC0_0.out)
          (case side3 => exact HO_2.out)
          rintro e w16 ⟨v262, rfl, ho0, hb⟩
          refine ⟨_, rfl, ?_⟩
          have n0_ := Aside0.mk (Kd.V_below (by (with_reducible repeat (first | apply Kd.V_alloc | apply Kd.V_drewN | apply Kd.V_drew)); exact HO_2.out) hb)
          have n1_ := Aside0.mk (Kd.V_lower (Kd.V_mono (ok' := fun k_ => (P2_ k_ ∨ w.heap.size ≤ k_) ∧ k_ ≠ gb256) ho0 (fun k_ hk_ => ⟨Or.elim hk_ (fun hs_ => hs_.1) (fun hn_ => (.inr (Nat.le_trans (below_size (BB HB)) hn_))), Or.elim hk_ (fun hs_ => hs_.2) (fun hn_ => (Kd.freshB (g := gb256) (o := .cells #[.slice (some ad258) l0_0.length c0_0, .int .i64 a0_1] 24 (0, 0)) (BL BK256) k_ hn_))⟩)) (below_size (BB HB)))
          have n2_ := BE BK256 hb
          have n3_ := Aside0.mk (below_step (BB HB) hb)
          clear HO_2
          clear BK256
          clear HB
          have HO_2 := n0_
          have HO263 := n1_
          have BK256 := n2_
          have HB := n3_
          clear n0_ n1_ n2_ n3_
          (try clear hb)
          (try clear hb2)
          (try clear hk)
          (try clear hi)
          (try clear ho0)
          refine hK.out _ _ ⟨(blk_cell BK256.out 0).trans rfl, (blk_cell BK256.out 1).trans rfl, ((HB.out.cell (World.block_lt_of_cell? w _ hw259_0)).trans hw259_0), ((HB.out.cell (World.block_lt_of_cell? w _ hw259_1)).trans hw259_1), ((HB.out.cell (World.block_lt_of_cell? w _ hw259_2)).trans hw259_2), ((HB.out.cell (World.block_lt_of_cell? w _ hw259_3)).trans hw259_3), ((HB.out.cell (World.block_lt_of_cell? w _ hw260_0)).trans hw260_0)⟩ (fun hHeld => ?_)
          clear hK K
          refine norm_ (a' := ?_) ?_ ?_
          rotate_left
          ·show Act.put _ (some 44) _ = _
           simp only [Act.put, List.setIfInBounds_toArray, List.set_cons_zero, List.set_cons_succ, i64_w, i32_w]
           rfl
          refine pure_ (i := 12) (N := some 2) (v := ?_) (a' := ?_) #[true, true, true, true, true, true, true, true, true, true, true, true, true] rfl rfl (any_of HT_.out (by kernel_rfl)) (fun _ _ _ h => h) (Or.inl ⟨by rfl, ?_⟩) ?_ ?_
          rotate_left
          ·intro w'
           go_simp
           with_reducible rfl
          rotate_left
          ·simp only [Act.put, List.setIfInBounds_toArray, List.set_cons_zero, List.set_cons_succ, i64_w, i32_w]
           rfl
          refine done_ (done_of HT_.out (by kernel_rfl)) ?_
          try go_wp2
          go_roundg k2
          case measure => have := HK1.out; have := HK2.out; omega
          case rel => exact ⟨(t261), (wrap64 (x8_2 + 1)), (by first | rfl | (simp; done) | (simp [*]; done)), H', ⟨by have := HK1.out; have := HK2.out; omega⟩, ⟨by (with_reducible repeat (first | apply Kd.V_alloc | apply Kd.V_drewN | apply Kd.V_drew)); exact HO263.out⟩, ⟨BL BK256⟩, ⟨BB HB⟩⟩
         ·rw [if_neg c11] at H
          exact absurd H (by simp)
        ·rw [if_neg c10] at H
         have c10b0 : decide (x8_2 < (((rd_T40 l0_0 a1).f3).length : Int)) = false := decide_eq_false c10
         clear c10
         obtain ⟨y264, hy264⟩ : ∃ y_ : List Int, y_ = (([] : List Int)) := ⟨_, rfl⟩
         replace H : (if y264.length + x2_2.length < 17592186044416 then ((some (y264 ++ x2_2 : List Int)).bind fun y267 => (if y267.length < 17592186044416 then (some (y267 ++ [a1])) else (none))) else (none)) = some r := by first | (rw [hy264]; with_reducible exact H) | (have H2_ := (Option.bind_some _ _).symm.trans H; rw [hy264]; with_reducible exact H2_) | (have H2_ := (Option.bind_some _ _).symm.trans H; with_reducible exact H2_) | with_reducible exact H | (rw [hy264]; exact H) | exact H
         have Ny264 := Aside0.mk hy264
         clear hy264
         by_cases c17 : y264.length + x2_2.length < 17592186044416
         ·rw [if_pos c17] at H
          have LMc17 := Aside0.mk c17
          clear c17
          obtain ⟨y267, hy267⟩ : ∃ y_ : List Int, y_ = (y264 ++ x2_2) := ⟨_, rfl⟩
          replace H : (if y267.length < 17592186044416 then (some (y267 ++ [a1])) else (none)) = some r := by first | (rw [hy267]; with_reducible exact H) | (have H2_ := (Option.bind_some _ _).symm.trans H; rw [hy267]; with_reducible exact H2_) | (have H2_ := (Option.bind_some _ _).symm.trans H; with_reducible exact H2_) | with_reducible exact H | (rw [hy267]; exact H) | exact H
          have Ny267 := Aside0.mk hy267
          clear hy267
          by_cases c18 : y267.length < 17592186044416
          ·rw [if_pos c18] at H
           have LMc18 := Aside0.mk c18
           clear c18
           obtain ⟨y270, hy270⟩ : ∃ y_ : List Int, y_ = (y267 ++ [a1]) := ⟨_, rfl⟩
           replace H : (some y270) = some r := by first | (rw [hy270]; with_reducible exact H) | (have H2_ := (Option.bind_some _ _).symm.trans H; rw [hy270]; with_reducible exact H2_) | (have H2_ := (Option.bind_some _ _).symm.trans H; with_reducible exact H2_) | with_reducible exact H | (rw [hy270]; exact H) | exact H
           have Ny270 := Aside0.mk hy270
           clear hy270
           obtain rfl := Option.some.inj H
           have hcz19_0 : wr.cell? ⟨gb256, 0, none⟩ = some (.slice A0_0 l0_0.length c0_0) := (blk_cell BK256.out 0).trans rfl
           have hcz19_1 : wr.cell? ⟨gb256, 1, none⟩ = some (.int .i64 a0_1) := (blk_cell BK256.out 1).trans rfl
           have hfz19_0 := blk_frozen BK256.out 0
           have hfz19_1 := blk_frozen BK256.out 1
           have p258 : 0 ≤ (a1 : Int) := of_decide_eq_true (by first | (with_reducible assumption) | assumption)
           have q258 : a1 < (l0_0.length : Int) := of_decide_eq_true (by first | (with_reducible assumption) | assumption)
           obtain ⟨ad258, A258_1, c258_1, A258_2, c258_2, A258_3, c258_3, e258, hx258_0, hx258_1, hx258_2, hx258_3, hl258_1, hi258_1, hl258_2, hi258_2, hl258_3, hi258_3⟩ := at_T40 HR0_0.out a1 p258 q258
           cases e258
           replace hx258_0 := (HB.out.cell (World.block_lt_of_cell? w _ hx258_0)).trans hx258_0
           replace hx258_1 := (HB.out.cell (World.block_lt_of_cell? w _ hx258_1)).trans hx258_1
           replace hx258_2 := (HB.out.cell (World.block_lt_of_cell? w _ hx258_2)).trans hx258_2
           replace hx258_3 := (HB.out.cell (World.block_lt_of_cell? w _ hx258_3)).trans hx258_3
           have HR258_1 := Aside0.mk hi258_1
           have HC258_1 := Aside0.mk hl258_1
           clear hi258_1 hl258_1
           have HR258_2 := Aside0.mk hi258_2
           have HC258_2 := Aside0.mk hl258_2
           clear hi258_2 hl258_2
           have HR258_3 := Aside0.mk hi258_3
           have HC258_3 := Aside0.mk hl258_3
           clear hi258_3 hl258_3
           replace p258 := eq_true p258
           replace q258 := eq_true q258
           go_wp2_with (first | ((with_reducible refine gate_dst (N := 45) rfl ?_); refine Kd.R_lit (Kd.int .i64) _ 3 ?hg (N := 45) ?hd (xs := ([] : List Int)) (inner := []) (ok := fun _ => True) (okp := fun _ => True) ?hr ?hp (fun _ hk => hk) trivial (Below.refl _ _) (Nat.le_refl _) (by simp) ?_; (case hd => rfl); (case hg => rfl); (case hr => first | (go_simp; done) | (go_simp; rfl)); (case hp => exact (Reps.none _ _)); intro v265 w20 ho21 hb hg_ hnew_; clear hg_ hnew_; (first | rw [← Ny264.out] at ho21 | (simp only [Int.reduceToNat] at ho21; rw [← Ny264.out] at ho21)); have n0_ := Aside0.mk (Kd.V_elder' (by (with_reducible repeat (first | apply Kd.V_alloc | apply Kd.V_drewN | apply Kd.V_drew)); exact HO_2.out) (Kd.R_base ho21) hb); have n1_ := Aside0.mk (Kd.R_lower (Kd.R_newM (M := fun k_ => (w.heap.size ≤ k_)) ho21 (below_size (BB HB)) (fun k_ h_ => h_)) (below_size (BB HB))); have n2_ := BE BK256 hb; have n3_ := Aside0.mk (below_step (BB HB) hb); clear HO_2; clear BK256; clear HB; have HO_2 := n0_; have HO266 := n1_; have BK256 := n2_; have HB := n3_; clear n0_ n1_ n2_ n3_; clear hb ho21; obtain ⟨Ao23, co23, eo23⟩ := Kd.V_slice HO_2.out; subst eo23) | ((with_reducible refine gate_builtin (b := .append) (xs := #[.tmp 45, .tmp 46]) rfl ?_); at_builtin; refine Kd.R_append_rows (Kd.int .i64) (w0 := w) w.heap.size rfl (.tmp 45) (.tmp 46) 31 3 (.int .i64 0) 8 rfl Try.underlying31 info3 rfl (by decide) (by omega) v265 y264 x2_2 _ _ _ (fun k_ => (w.heap.size ≤ k_)) (fun _ => False) rfl rfl ?aO ?aR (fun _ _ h => h) (fun _ h => h.elim) ?aF ?aB ?aS ?aL ?_; (case aR => repeat (first | exact (Kd.V_reads' HO_2.out).2.2 | (with_reducible refine Kd.C_alloc ?_ _) | (with_reducible refine Kd.C_drewN ?_ _) | (with_reducible refine Kd.C_drew ?_))); (case aB => exact (BB HB)); (case aF => exact (fun k_ hk => (Nat.le_trans (below_size (BB HB)) hk))); (case aO => exact (by (with_reducible repeat (first | apply Kd.R_alloc | apply Kd.R_drewN | apply Kd.R_drew)); exact Kd.R_mono HO266.out (fun _ hk => hk.1))); (case aS => exact (below_size (BB HB))); (case aL => have := LMc17.out; omega); intro v268 w22 ho hb hg hat; rw [← Ny267.out] at ho; have n0_ := Aside0.mk (Kd.V_afterv (ok := (fun k_ => (P2_ k_ ∨ w.heap.size ≤ k_) ∧ k_ ≠ gb256)) (by (with_reducible repeat (first | apply Kd.V_alloc | apply Kd.V_drewN | apply Kd.V_drew)); exact HO_2.out) hg hat); have n1_ := Aside0.mk (blk_grown (g := gb256) (o := .cells #[.slice (some ad258) l0_0.length c0_0, .int .i64 a0_1] 24 (0, 0)) (BL BK256) hg (Kd.R_ne HO266.out BK256.out (by decide))); have n2_ := Aside0.mk (hb); have n3_ := Aside0.mk (ho); clear HO_2; clear BK256; clear HB; clear HO266; have HO_2 := n0_; have BK256 := n1_; have HB := n2_; have HO269 := n3_; clear n0_ n1_ n2_ n3_; clear ho hb hg hat) | ((with_reducible refine gate_builtin (b := .append) (xs := #[.tmp 47, .tmp 49]) rfl ?_); at_builtin; refine Kd.R_append (Kd.int .i64) (w0 := w) w.heap.size rfl (.tmp 47) (.tmp 49) 31 3 (.int .i64 0) 8 rfl Try.underlying31 info3 rfl (by decide) (by omega) v268 y267 a1 [.int .i64 a1] (fun k_ => (w.heap.size ≤ k_)) (fun _ => False) rfl rfl ?aP (fun _ hk => hk.elim) ?aF ?aO ?aB ?aS ?aL ?_; (case aP => exact rfl); (case aB => exact (BB HB)); (case aF => exact (fun k_ hk => (Nat.le_trans (below_size (BB HB)) hk))); (case aO => exact (RL HO269)); (case aS => exact (below_size (BB HB))); (case aL => have := LMc18.out; omega); intro v271 w24 ho hb hg hat; rw [← Ny270.out] at ho; have n0_ := Aside0.mk (Kd.V_afterv (ok := (fun k_ => (P2_ k_ ∨ w.heap.size ≤ k_) ∧ k_ ≠ gb256)) (by (with_reducible repeat (first | apply Kd.V_alloc | apply Kd.V_drewN | apply Kd.V_drew)); exact HO_2.out) hg hat); have n1_ := Aside0.mk (blk_grown (g := gb256) (o := .cells #[.slice (some ad258) l0_0.length c0_0, .int .i64 a0_1] 24 (0, 0)) (BL BK256) hg (Kd.R_ne HO269.out BK256.out (by decide))); have n2_ := Aside0.mk (hb); have n3_ := Aside0.mk (ho); clear HO_2; clear BK256; clear HB; clear HO269; have HO_2 := n0_; have BK256 := n1_; have HB := n2_; have HO272 := n3_; clear n0_ n1_ n2_ n3_; clear ho hb hg hat))
           go_ret
           exact ⟨_, by first | rfl | (simp [errW_none, errW_some] <;> rfl) | (simp [*, errW_none, errW_some] <;> rfl), Kd.V_mono (Kd.R_V (RL HO272)) (fun k_ hk => by first | exact ⟨(.inr (hk.1)), hk.2⟩ | exact (.inr (hk))), BB HB⟩
          ·rw [if_neg c18] at H
           exact absurd H (by simp)
         ·rw [if_neg c17] at H
          exact absurd H (by simp)
       ·rw [if_neg c9] at H
        exact absurd H (by simp)
      ·rw [if_neg c8] at H
       exact absurd H (by simp)

/-! ### dioramaref10_Order: function 44 -/
def dioramaref10_Order.f (k : Nat) (l0_0 : List (S40)) (a0_1 : Int) : Option (List Int) := (dioramaref10_meet.f k l0_0 a0_1 a0_1 ([] : List Int)).bind fun t274 => (some t274)
set_option maxHeartbeats 8000000 in
set_option maxRecDepth 100000 in
theorem dioramaref10_Order.calls (k : Nat) (A0_0 : Option Addr) (c0_0 : Nat) (l0_0 : List (S40)) (a0_1 : Int) (r : List Int) (w : World) (hr0_0 : Kd.C k40 w A0_0 l0_0.length l0_0) (hc0_0 : l0_0.length ≤ c0_0) (h : dioramaref10_Order.f k l0_0 a0_1 = some r) :
  Calls Try.prog 44 #[.agg #[.slice A0_0 l0_0.length c0_0, .int .i64 a0_1]] w fun e w' => ∃ v0_ : Value, e = .returned (v0_) ∧ Kd.V (Kd.int .i64) 3 w' w.heap.size (fun k_ => (w.heap.size ≤ k_)) v0_ r ∧ Below w.heap.size w w' := by
 have hu24 := Try.underlying24
 have HR0_0 := Aside0.mk hr0_0
 have HC0_0 := Aside0.mk hc0_0
 clear hr0_0 hc0_0
 have HB := Aside0.mk (Below.refl w.heap.size w)
 have H : ((dioramaref10_meet.f k l0_0 a0_1 a0_1 ([] : List Int)).bind fun t274 => (some t274)) = some r := h
 clear h
 replace H := Option.bind_eq_some_iff.mp H
 obtain ⟨t274, A20, H⟩ := H
 replace H : (some t274) = some r := H
 have A2 := Aside0.mk A20
 clear A20
 obtain rfl := Option.some.inj H
 go_enter Try.func44, Try.ntmps44
 go_wp2_with (first | ((with_reducible refine gate_dst (N := 1) rfl ?_); refine box_event ?hg (N := 1) ?hd (cs := #[.slice A0_0 l0_0.length c0_0, .int .i64 a0_1]) (t := 24) ?hr ?_; (case hd => rfl); (case hg => rfl); (case hr => first | (go_simp; done) | (go_simp; rfl)); intro gb273 hg w3 hbox hb; have n0_ := Aside0.mk (below_step (BB HB) hb); have n1_ := Aside0.mk (hbox); have n2_ := Aside0.mk ((by rw [hg]; exact (below_size (BB HB)) : w.heap.size ≤ gb273)); have n3_ := Aside0.mk ((by rw [hg]; exact (below_size (BB HB)) : w.heap.size ≤ gb273)); clear HB; have HB := n0_; have BK273 := n1_; have GW273 := n2_; have GE273 := n3_; clear n0_ n1_ n2_ n3_; clear hb hbox hg; have hcz4_0 : w3.cell? ⟨gb273, 0, none⟩ = some (.slice A0_0 l0_0.length c0_0) := (blk_cell BK273.out 0).trans rfl; have hcz4_1 : w3.cell? ⟨gb273, 1, none⟩ = some (.int .i64 a0_1) := (blk_cell BK273.out 1).trans rfl; have hfz4_0 := blk_frozen BK273.out 0; have hfz4_1 := blk_frozen BK273.out 1) | ((with_reducible refine gate_callee (f := 56) rfl ?_); refine goesL_ (some 6) rfl rfl Try.func56 (by kernel_rfl) rfl #[.agg #[.slice A0_0 l0_0.length c0_0, .int .i64 a0_1], .int .i64 a0_1, .slice none 0 0] rfl (by (try simp only [List.map_toArray, List.map_cons, List.map_nil]); first | done | rfl | (simp only [List.length_drop, List.length_take]; rfl)) ?_; (refine (dioramaref10_meet.calls k _ _ l0_0 a0_1 a0_1 (fun k_ => False) _ _ ([] : List Int) t274 _ ?side1 ?side2 ?side3 A2.out).mono ?_); (case side1 => repeat (first | exact (Kd.C_below HR0_0.out HB.out) | (with_reducible refine Kd.C_alloc ?_ _) | (with_reducible refine Kd.C_drewN ?_ _) | (with_reducible refine Kd.C_drew ?_))); (case side2 => exact HC0_0.out); (case side3 => exact Kd.V_nil _ _ _ _ _); rintro e w5 ⟨v275, rfl, ho0, hb⟩; refine ⟨_, rfl, ?_⟩; have n0_ := Aside0.mk (Kd.V_lower (Kd.V_mono (ok' := fun k_ => (w.heap.size ≤ k_) ∧ k_ ≠ gb273) ho0 (fun k_ hk_ => ⟨Or.elim hk_ (fun hs_ => (hs_).elim) (fun hn_ => (Nat.le_trans (below_size (BB HB)) hn_)), Or.elim hk_ (fun hs_ => (hs_).elim) (fun hn_ => (Kd.freshB (g := gb273) (o := .cells #[.slice A0_0 l0_0.length c0_0, .int .i64 a0_1] 24 (0, 0)) (BL BK273) k_ hn_))⟩)) (below_size (BB HB))); have n1_ := BE BK273 hb; have n2_ := Aside0.mk (below_step (BB HB) hb); clear BK273; clear HB; have HO276 := n0_; have BK273 := n1_; have HB := n2_; clear n0_ n1_ n2_; (try clear hb); (try clear hb2); (try clear hk); (try clear hi); (try clear ho0)))
 go_ret
 exact ⟨_, by first | rfl | (simp [errW_none, errW_some] <;> rfl) | (simp [*, errW_none, errW_some] <;> rfl), by (with_reducible repeat (first | apply Kd.V_alloc | apply Kd.V_drewN | apply Kd.V_drew)); exact Kd.V_mono HO276.out (fun _ hk => hk.1), BB HB⟩

/-! ### dioramaref10_Find: function 45 -/
def dioramaref10_Find.l0 : Nat → List Int → Int → Int → Option (Int)
 | 0, _, _, _ => none
 | k + 1, x0, x1, x5 => if x5 < (x0.length : Int) then (if 0 ≤ x5 then (if (rd x0 x5) = x1 then (some x5) else (dioramaref10_Find.l0 k x0 x1 (wrap64 (x5 + 1)))) else (none)) else (some (-1))
def dioramaref10_Find.f (k : Nat) (l0 : List Int) (a1 : Int) : Option (Int) := dioramaref10_Find.l0 k l0 a1 0
set_option maxHeartbeats 8000000 in
set_option maxRecDepth 100000 in
theorem dioramaref10_Find.calls (k : Nat) (A0 : Option Addr) (c0 : Nat) (l0 : List Int) (a1 : Int) (r : Int) (w : World) (hr0 : Kd.C (Kd.int .i64) w A0 l0.length l0) (hc0 : l0.length ≤ c0) (h : dioramaref10_Find.f k l0 a1 = some r) :
  Calls Try.prog 45 #[.slice A0 l0.length c0, .int .i64 a1] w fun e w' => e = .returned (.int .i64 r) ∧ Drawn0 w w' := by
 have HR0 := Aside0.mk hr0
 have HC0 := Aside0.mk hc0
 clear hr0 hc0
 have H : (dioramaref10_Find.l0 k l0 a1 0) = some r := h
 clear h
 have H' := Aside0.mk H
 clear H
 go_enter Try.func45, Try.ntmps45
 go_wp2
 go_loopg [5] k (fun kq v5 w' => ∃ (x5_1 : Int), v5 = .int .i64 x5_1 ∧ Aside0 (dioramaref10_Find.l0 kq l0 a1 x5_1 = some r) ∧ Aside0 (kq ≤ k) ∧ Drawn0 w w')
 case atStart => exact ⟨(0), (by first | rfl | (simp; done) | (simp [*]; done)), H', ⟨Nat.le_refl _⟩, by repeat (first | exact Drawn0.refl _ | apply Drawn0.step)⟩
 case round =>
  clear H'
  try clear p2
  obtain ⟨x5_1, rfl, HA, HK1, ⟨m1, rfl⟩⟩ := hrel
  cases gk with
  | zero => exact absurd HA.out (by simp [dioramaref10_Find.l0])
  | succ k1 =>
   have H := HA.out
   clear HA
   simp only [dioramaref10_Find.l0] at H
   by_cases c3 : x5_1 < (l0.length : Int)
   ·rw [if_pos c3] at H
    have c3b0 : decide (x5_1 < (l0.length : Int)) = true := decide_eq_true c3
    clear c3
    by_cases c4 : 0 ≤ x5_1
    ·rw [if_pos c4] at H
     have c4b0 : decide (0 ≤ x5_1) = true := decide_eq_true c4
     clear c4
     by_cases c5 : (rd l0 x5_1) = a1
     ·rw [if_pos c5] at H
      have c5b0 : ((rd l0 x5_1) == a1) = true := beq_iff_eq.mpr c5
      have c5b1 : ((rd l0 x5_1) != a1) = false := bne_eq_false_iff_eq.mpr c5
      clear c5
      obtain rfl := Option.some.inj H
      have p277 : 0 ≤ (x5_1 : Int) := of_decide_eq_true (by first | (with_reducible assumption) | assumption)
      have q277 : x5_1 < (l0.length : Int) := of_decide_eq_true (by first | (with_reducible assumption) | assumption)
      obtain ⟨ad277, e277, hx277_0⟩ := Kd.at_int HR0.out x5_1 p277 q277
      cases e277
      replace p277 := eq_true p277
      replace q277 := eq_true q277
      go_wp2
      go_ret
      exact ⟨by first | rfl | (simp; done) | (simp [*]; done), by repeat (first | exact Drawn0.refl _ | apply Drawn0.step)⟩
     ·rw [if_neg c5] at H
      have c5b0 : ((rd l0 x5_1) == a1) = false := beq_eq_false_iff_ne.mpr c5
      have c5b1 : ((rd l0 x5_1) != a1) = true := bne_iff_ne.mpr c5
      have H' := Aside0.mk H
      clear H
      have p277 : 0 ≤ (x5_1 : Int) := of_decide_eq_true (by first | (with_reducible assumption) | assumption)
      have q277 : x5_1 < (l0.length : Int) := of_decide_eq_true (by first | (with_reducible assumption) | assumption)
      obtain ⟨ad277, e277, hx277_0⟩ := Kd.at_int HR0.out x5_1 p277 q277
      cases e277
      replace p277 := eq_true p277
      replace q277 := eq_true q277
      go_wp2
      go_roundg k1
      case measure => have := HK1.out; omega
      case rel => exact ⟨(wrap64 (x5_1 + 1)), (by first | rfl | (simp; done) | (simp [*]; done)), H', ⟨by have := HK1.out; omega⟩, by repeat (first | exact Drawn0.refl _ | apply Drawn0.step)⟩
    ·rw [if_neg c4] at H
     exact absurd H (by simp)
   ·rw [if_neg c3] at H
    have c3b0 : decide (x5_1 < (l0.length : Int)) = false := decide_eq_false c3
    clear c3
    obtain rfl := Option.some.inj H
    go_wp2
    go_ret
    exact ⟨by first | rfl | (simp; done) | (simp [*]; done), by repeat (first | exact Drawn0.refl _ | apply Drawn0.step)⟩

end Go.Proofs.Ytlfjjapndlkamaa.GA
