-- Printed by a program of the session (wip/gen/tprint.py, over a turned copy of the kit's print): Lean checks it.
import Derived.Test.YtlfjjapndlkamaaCtGHx0
import Derived.Test.YtlfjjapndlkamaaCtGHx9
namespace Go.Proofs.Ytlfjjapndlkamaa.GH
open Go.RowKit Go.Proofs.YtlfjjapndlkamaaW.PrintWords Go.Proofs.YtlfjjapndlkamaaW.PrintLast Go.Proofs.YtlfjjapndlkamaaW.PrintMore
attribute [local go_sem] max2_int min2_int max_two min_two max_three min_three max_four min_four   -- for this text's walks alone
set_option linter.unusedVariables false
set_option linter.unusedSimpArgs false

/-! ### dioramaref09_Refs: function 37 -/
mutual
def dioramaref09_Refs.l0 : Nat → Int → List (S40) → Int → Option (Int)
 | 0, _, _, _ => none
 | k + 1, x3, x214000, x214001 => if x3 < (x214000.length : Int) then (dioramaref09_Refs.l1 k x3 0 x214000 x214001) else (some (-1))
def dioramaref09_Refs.l1 : Nat → Int → Int → List (S40) → Int → Option (Int)
 | 0, _, _, _, _ => none
 | k + 1, x3, x4, x214000, x214001 => if 0 ≤ x3 then (if x3 < (x214000.length : Int) then (if x4 < (((rd_T40 x214000 x3).f3).length : Int) then (if 0 ≤ x4 then ((dioramaref09_Place.f x214000 x214001 (rd ((rd_T40 x214000 x3).f3) x4)).bind fun t217 => (if t217 = true then (dioramaref09_Refs.l1 k x3 (wrap64 (x4 + 1)) x214000 x214001) else (some x3))) else (none)) else (dioramaref09_Refs.l0 k (wrap64 (x3 + 1)) x214000 x214001)) else (none)) else (none)
end
def dioramaref09_Refs.f (k : Nat) (l0_0 : List (S40)) (a0_1 : Int) : Option (Int) := dioramaref09_Refs.l0 k 0 l0_0 a0_1
def dioramaref09_Refs.T7 : Bool × List (List Nat × List Nat) := (true, [([], []), ([], []), ([1], [1]), ([], []), ([2, 3], [2, 3]), ([4], [4]), ([5], [5]), ([], []), ([6, 7], [6, 7]), ([8], [8]), ([0, 9], [0, 9]), ([10], [10])])
def dioramaref09_Refs.B7 : List Nat := [0, 0, 2, 0, 14, 30, 62, 0, 254, 510, 1023, 2047]
theorem dioramaref09_Refs.tab7 : rtab .any (opsOf Try.f37 7) = dioramaref09_Refs.T7 := by kernel_rfl
theorem dioramaref09_Refs.bits7 : waitsOk dioramaref09_Refs.T7.2 dioramaref09_Refs.B7 = true := by kernel_rfl
set_option maxHeartbeats 8000000 in
set_option maxRecDepth 100000 in
theorem dioramaref09_Refs.calls (k : Nat) (A0_0 : Option Addr) (c0_0 : Nat) (l0_0 : List (S40)) (a0_1 : Int) (r : Int) (w : World) (hr0_0 : Kd.C k40 w A0_0 l0_0.length l0_0) (hc0_0 : l0_0.length ≤ c0_0) (h : dioramaref09_Refs.f k l0_0 a0_1 = some r) :
  Calls Try.prog 37 #[.agg #[.slice A0_0 l0_0.length c0_0, .int .i64 a0_1]] w fun e w' => e = .returned (.int .i64 r) ∧ Below w.heap.size w w' := by
 have hu24 := Try.underlying24; have HR0_0 := AM hr0_0; have HC0_0 := AM hc0_0; clear hr0_0 hc0_0; have HB := AM (Below.refl w.heap.size w); have H : (dioramaref09_Refs.l0 k 0 l0_0 a0_1) = some r := h; clear h; have H' := AM H; clear H; go_enter Try.func37, Try.ntmps37
 go_wp2_with (first | ((with_reducible refine gate_dst (N := 1) rfl ?_); refine box_event ?hg (N := 1) ?hd (cs := #[.slice A0_0 l0_0.length c0_0, .int .i64 a0_1]) (t := 24) ?hr ?_; (case hd => rfl); (case hg => rfl); (case hr => first | (go_simp; done) | (go_simp; rfl)); intro gb213 hg w2 hbox hb; have BK213 := AM (hbox); have GW213 := GW HB hg; have GE213 := GW HB hg; replace HB := BS HB hb; clear hb hbox hg))
 go_loopg [3] k (fun kq v3 w' => ∃ (x3_1 : Int), v3 = .int .i64 x3_1 ∧ Aside0 (dioramaref09_Refs.l0 kq x3_1 l0_0 a0_1 = some r) ∧ Aside0 (kq ≤ k) ∧ Aside0 (w'.heap[gb213]? = some (.cells #[(.slice A0_0 l0_0.length c0_0), .int .i64 a0_1] 24 (0, 0))) ∧ Aside0 (Below w.heap.size w w'))
 case atStart => exact ⟨(0), (by first | rfl | (simp; done) | (simp [*]; done)), H', ⟨Nat.le_refl _⟩, ⟨BL BK213⟩, ⟨BB HB⟩⟩
 case round =>
  clear H'; try clear p2
  obtain ⟨x3_1, rfl, HA, HK1, BK213, HB⟩ := hrel; cases gk with
  | zero => exact absurd HA.out (by simp [dioramaref09_Refs.l0])
  | succ k1 =>
   have H := HA.out; clear HA; simp only [dioramaref09_Refs.l0] at H
   by_cases c3 : x3_1 < (l0_0.length : Int)
   ·rw [if_pos c3] at H; have c3b0 : decide (x3_1 < (l0_0.length : Int)) = true := decide_eq_true c3; clear c3; have H' := AM H; clear H; have hcz4_0 := BC BK213 0 (.slice A0_0 l0_0.length c0_0) rfl; have hcz4_1 := BC BK213 1 (.int .i64 a0_1) rfl; have hfz4_0 := BF BK213 0; have hfz4_1 := BF BK213 1; go_wp2
    go_loopg [4] k1 (fun kq v4 w' => ∃ (x4_2 : Int), v4 = .int .i64 x4_2 ∧ Aside0 (dioramaref09_Refs.l1 kq x3_1 x4_2 l0_0 a0_1 = some r) ∧ Aside0 (kq ≤ k1) ∧ Aside0 (w'.heap[gb213]? = some (.cells #[(.slice A0_0 l0_0.length c0_0), .int .i64 a0_1] 24 (0, 0))) ∧ Aside0 (Below w.heap.size w w'))
    case atStart => exact ⟨(0), (by first | rfl | (simp; done) | (simp [*]; done)), H', ⟨Nat.le_refl _⟩, ⟨BL BK213⟩, ⟨BB HB⟩⟩
    case round =>
     clear H'; try clear p2
     try clear c3
     try clear c3b0
     try clear hcz4_0
     try clear hcz4_1
     try clear hfz4_0
     try clear hfz4_1
     try clear p2
     obtain ⟨x4_2, rfl, HA, HK2, BK213, HB⟩ := hrel; cases gk with
     | zero => exact absurd HA.out (by simp [dioramaref09_Refs.l1])
     | succ k2 =>
      have H := HA.out; clear HA; simp only [dioramaref09_Refs.l1] at H
      by_cases c5 : 0 ≤ x3_1
      ·rw [if_pos c5] at H; have c5b0 : decide (0 ≤ x3_1) = true := decide_eq_true c5; clear c5; by_cases c6 : x3_1 < (l0_0.length : Int)
       ·rw [if_pos c6] at H; have c6b0 : decide (x3_1 < (l0_0.length : Int)) = true := decide_eq_true c6; clear c6; by_cases c7 : x4_2 < (((rd_T40 l0_0 x3_1).f3).length : Int)
        ·rw [if_pos c7] at H; have c7b0 : decide (x4_2 < (((rd_T40 l0_0 x3_1).f3).length : Int)) = true := decide_eq_true c7; clear c7; by_cases c8 : 0 ≤ x4_2
         ·rw [if_pos c8] at H; have c8b0 : decide (0 ≤ x4_2) = true := decide_eq_true c8; clear c8; replace H := Option.bind_eq_some_iff.mp H; obtain ⟨t217, A90, H⟩ := H; replace H : (if t217 = true then (dioramaref09_Refs.l1 k2 x3_1 (wrap64 (x4_2 + 1)) l0_0 a0_1) else (some x3_1)) = some r := H; have A9 := AM A90; clear A90; by_cases c10 : t217 = true
          ·subst c10; have H1 : (dioramaref09_Refs.l1 k2 x3_1 (wrap64 (x4_2 + 1)) l0_0 a0_1) = some r := by rw [if_pos rfl] at H; exact H
           clear H; have H := H1; clear H1; have H' := AM H; clear H; have hcz11_0 := BC BK213 0 (.slice A0_0 l0_0.length c0_0) rfl; have hcz11_1 := BC BK213 1 (.int .i64 a0_1) rfl; have hfz11_0 := BF BK213 0; have hfz11_1 := BF BK213 1; have p214 : 0 ≤ (x3_1 : Int) := of_decide_eq_true (by first | (with_reducible assumption) | assumption)
           have q214 : x3_1 < (l0_0.length : Int) := of_decide_eq_true (by first | (with_reducible assumption) | assumption)
           obtain ⟨ad214, A214_1, c214_1, A214_2, c214_2, A214_3, c214_3, e214, hx214_0, hx214_1, hx214_2, hx214_3, hl214_1, hi214_1, hl214_2, hi214_2, hl214_3, hi214_3⟩ := at_T40 HR0_0.out x3_1 p214 q214; cases e214
           replace hx214_0 := (HB.out.cell (World.block_lt_of_cell? w _ hx214_0)).trans hx214_0; replace hx214_1 := (HB.out.cell (World.block_lt_of_cell? w _ hx214_1)).trans hx214_1; replace hx214_2 := (HB.out.cell (World.block_lt_of_cell? w _ hx214_2)).trans hx214_2; replace hx214_3 := (HB.out.cell (World.block_lt_of_cell? w _ hx214_3)).trans hx214_3; have HR214_1 := AM hi214_1; have HC214_1 := AM hl214_1; clear hi214_1 hl214_1; have HR214_2 := AM hi214_2; have HC214_2 := AM hl214_2; clear hi214_2 hl214_2; have HR214_3 := AM hi214_3; have HC214_3 := AM hl214_3; clear hi214_3 hl214_3; replace p214 := eq_true p214; replace q214 := eq_true q214; try go_wp2
           replace BK213 := AM (blk_drew BK213.out); replace HB := AM (below_drew1 HB.out); have p215 : 0 ≤ (x3_1 : Int) := of_decide_eq_true (by first | (with_reducible assumption) | assumption)
           have q215 : x3_1 < (l0_0.length : Int) := of_decide_eq_true (by first | (with_reducible assumption) | assumption)
           obtain ⟨ad215, A215_1, c215_1, A215_2, c215_2, A215_3, c215_3, e215, hx215_0, hx215_1, hx215_2, hx215_3, hl215_1, hi215_1, hl215_2, hi215_2, hl215_3, hi215_3⟩ := at_T40 HR0_0.out x3_1 p215 q215; have hw215_3 := hx215_3; have hw215_2 := hx215_2; have hw215_1 := hx215_1; have hw215_0 := hx215_0; obtain rfl : ad214 = ad215 := (by injection e215)
           replace hx215_0 := (HB.out.cell (World.block_lt_of_cell? w _ hx215_0)).trans hx215_0; replace hx215_1 := (HB.out.cell (World.block_lt_of_cell? w _ hx215_1)).trans hx215_1; replace hx215_2 := (HB.out.cell (World.block_lt_of_cell? w _ hx215_2)).trans hx215_2; replace hx215_3 := (HB.out.cell (World.block_lt_of_cell? w _ hx215_3)).trans hx215_3; have HR215_1 := AM hi215_1; have HC215_1 := AM hl215_1; clear hi215_1 hl215_1; have HR215_2 := AM hi215_2; have HC215_2 := AM hl215_2; clear hi215_2 hl215_2; have HR215_3 := AM hi215_3; have HC215_3 := AM hl215_3; clear hi215_3 hl215_3; replace p215 := eq_true p215; replace q215 := eq_true q215; have p216 : 0 ≤ (x4_2 : Int) := of_decide_eq_true (by first | (with_reducible assumption) | assumption)
           have q216 : x4_2 < (((rd_T40 l0_0 x3_1).f3).length : Int) := of_decide_eq_true (by first | (with_reducible assumption) | assumption)
           obtain ⟨ad216, e216, hx216_0⟩ := Kd.at_int HR215_3.out x4_2 p216 q216; have hw216_0 := hx216_0; cases e216
           replace hx216_0 := (HB.out.cell (World.block_lt_of_cell? w _ hx216_0)).trans hx216_0; replace p216 := eq_true p216; replace q216 := eq_true q216; refine start_ (n := 12) (S := fun w' => w'.cell? ⟨gb213, 0, none⟩ = some (.slice (some ad214) l0_0.length c0_0) ∧ w'.cell? ⟨gb213, 1, none⟩ = some (.int .i64 a0_1) ∧ w'.cell? (ad214.add ((x3_1).toNat * 4)) = some (.int .i64 ((rd_T40 l0_0 x3_1).f0)) ∧ w'.cell? ⟨(ad214.add ((x3_1).toNat * 4)).block, (ad214.add ((x3_1).toNat * 4)).off + 1, none⟩ = some (.slice A215_1 ((rd_T40 l0_0 x3_1).f1).length c215_1) ∧ w'.cell? ⟨(ad214.add ((x3_1).toNat * 4)).block, (ad214.add ((x3_1).toNat * 4)).off + 2, none⟩ = some (.slice A215_2 ((rd_T40 l0_0 x3_1).f2).length c215_2) ∧ w'.cell? ⟨(ad214.add ((x3_1).toNat * 4)).block, (ad214.add ((x3_1).toNat * 4)).off + 3, none⟩ = some (.slice (some ad216) ((rd_T40 l0_0 x3_1).f3).length c215_3) ∧ w'.cell? (ad216.add (x4_2).toNat) = some (.int .i64 (rd ((rd_T40 l0_0 x3_1).f3) x4_2))) (ds := []) #[false, false, false, false, false, false, false, false, false, false, false, false] (by kernel_rfl) rfl rfl ⟨(blk_cell BK213.out 0).trans rfl, (blk_cell BK213.out 1).trans rfl, ((HB.out.cell (World.block_lt_of_cell? w _ hw215_0)).trans hw215_0), ((HB.out.cell (World.block_lt_of_cell? w _ hw215_1)).trans hw215_1), ((HB.out.cell (World.block_lt_of_cell? w _ hw215_2)).trans hw215_2), ((HB.out.cell (World.block_lt_of_cell? w _ hw215_3)).trans hw215_3), ((HB.out.cell (World.block_lt_of_cell? w _ hw216_0)).trans hw216_0)⟩ (fun hHeld => ?_); refine with_tabW dioramaref09_Refs.tab7 dioramaref09_Refs.bits7 (fun HT_ HW_ => ?_)
           generalize wr.drew = w12 at BK213 HB HR215_1 HR215_2 HR215_3 hx215_0 hx215_1 hx215_2 hx215_3 hx216_0 hHeld ⊢
           refine pure_ (i := 1) (N := some 24) (v := ?_) (a' := ?_) #[false, true, false, false, false, false, false, false, false, false, false, false] rfl rfl (any_of HT_.out (by kernel_rfl)) (fun _ _ _ h => h) (Or.inl ⟨by rfl, ?_⟩) ?_ ?_
           rotate_left
           ·intro w'
            go_simp
            with_reducible rfl
           rotate_left
           ·simp only [Act.put, List.setIfInBounds_toArray, List.set_cons_zero, List.set_cons_succ, i64_w, i32_w]
            rfl
           refine pure_ (i := 3) (N := some 26) (v := ?_) (a' := ?_) #[false, true, false, true, false, false, false, false, false, false, false, false] rfl rfl (any_of HT_.out (by kernel_rfl)) (fun _ _ _ h => h) (Or.inl ⟨by rfl, ?_⟩) ?_ ?_
           rotate_left
           ·intro w'
            go_simp
            with_reducible rfl
           rotate_left
           ·simp only [Act.put, List.setIfInBounds_toArray, List.set_cons_zero, List.set_cons_succ, i64_w, i32_w]
            rfl
           refine pure_ (i := 7) (N := some 30) (v := ?_) (a' := ?_) #[false, true, false, true, false, false, false, true, false, false, false, false] rfl rfl (any_of HT_.out (by kernel_rfl)) (fun _ _ _ h => h) (Or.inl ⟨by rfl, ?_⟩) ?_ ?_
           rotate_left
           ·intro w'
            go_simp
            with_reducible rfl
           rotate_left
           ·simp only [Act.put, List.setIfInBounds_toArray, List.set_cons_zero, List.set_cons_succ, i64_w, i32_w]
            rfl
           refine take_ (i := 0) (N := some 23) (v := ?_) (a' := ?_) #[true, true, false, true, false, false, false, true, false, false, false, false] rfl rfl (take_ofW HT_.out HW_.out (by kernel_rfl)) (fun _ _ _ h => h) (Or.inl ⟨by rfl, ?_⟩) hHeld ?_ ?_
           rotate_left
           ·rintro w' ⟨s0, s1, s2, s3, s4, s5, s6⟩
            go_simp
            with_reducible rfl
           rotate_left
           ·simp only [Act.put, List.setIfInBounds_toArray, List.set_cons_zero, List.set_cons_succ, i64_w, i32_w]
            rfl
           refine take_ (i := 2) (N := some 25) (v := ?_) (a' := ?_) #[true, true, true, true, false, false, false, true, false, false, false, false] rfl rfl (take_ofW HT_.out HW_.out (by kernel_rfl)) (fun _ _ _ h => h) (Or.inl ⟨by rfl, ?_⟩) hHeld ?_ ?_
           rotate_left
           ·rintro w' ⟨s0, s1, s2, s3, s4, s5, s6⟩
            go_simp
            with_reducible rfl
           rotate_left
           ·simp only [Act.put, List.setIfInBounds_toArray, List.set_cons_zero, List.set_cons_succ, i64_w, i32_w]
            rfl
           refine pure_ (i := 4) (N := some 27) (v := ?_) (a' := ?_) #[true, true, true, true, true, false, false, true, false, false, false, false] rfl rfl (any_of HT_.out (by kernel_rfl)) (fun _ _ _ h => h) (Or.inl ⟨by rfl, ?_⟩) ?_ ?_
           rotate_left
           ·intro w'
            go_simp
            with_reducible rfl
           rotate_left
           ·simp only [Act.put, List.setIfInBounds_toArray, List.set_cons_zero, List.set_cons_succ, i64_w, i32_w]
            rfl
           refine pure_ (i := 5) (N := some 28) (v := ?_) (a' := ?_) #[true, true, true, true, true, true, false, true, false, false, false, false] rfl rfl (any_of HT_.out (by kernel_rfl)) (fun _ _ _ h => h) (Or.inl ⟨by rfl, ?_⟩) ?_ ?_
           rotate_left
           ·intro w'
            go_simp
            with_reducible rfl
           rotate_left
           ·simp only [Act.put, List.setIfInBounds_toArray, List.set_cons_zero, List.set_cons_succ, i64_w, i32_w]
            rfl
           refine take_ (i := 6) (N := some 29) (v := ?_) (a' := ?_) #[true, true, true, true, true, true, true, true, false, false, false, false] rfl rfl (take_ofW HT_.out HW_.out (by kernel_rfl)) (fun _ _ _ h => h) (Or.inl ⟨by rfl, ?_⟩) hHeld ?_ ?_
           rotate_left
           ·rintro w' ⟨s0, s1, s2, s3, s4, s5, s6⟩
            go_simp
            with_reducible rfl
           rotate_left
           ·simp only [Act.put, List.setIfInBounds_toArray, List.set_cons_zero, List.set_cons_succ, i64_w, i32_w]
            rfl
           refine pure_ (i := 8) (N := some 31) (v := ?_) (a' := ?_) #[true, true, true, true, true, true, true, true, true, false, false, false] rfl rfl (any_of HT_.out (by kernel_rfl)) (fun _ _ _ h => h) (Or.inl ⟨by rfl, ?_⟩) ?_ ?_
           rotate_left
           ·intro w'
            go_simp
            with_reducible rfl
           rotate_left
           ·simp only [Act.put, List.setIfInBounds_toArray, List.set_cons_zero, List.set_cons_succ, i64_w, i32_w]
            rfl
           refine take_ (i := 9) (N := some 32) (v := ?_) (a' := ?_) #[true, true, true, true, true, true, true, true, true, true, false, false] rfl rfl (take_ofW HT_.out HW_.out (by kernel_rfl)) (fun _ _ _ h => h) (Or.inl ⟨by rfl, ?_⟩) hHeld ?_ ?_
           rotate_left
           ·rintro w' ⟨s0, s1, s2, s3, s4, s5, s6⟩
            go_simp
            with_reducible rfl
           rotate_left
           ·simp only [Act.put, List.setIfInBounds_toArray, List.set_cons_zero, List.set_cons_succ, i64_w, i32_w]
            rfl
           refine one_ (i := 10) (N := some 33) #[true, true, true, true, true, true, true, true, true, true, true, false] rfl rfl (one_of HT_.out (by kernel_rfl)) (by decide) (fun K hK => ?_)
           refine goes_ Try.func27 (by kernel_rfl) rfl #[.agg #[.slice (some ad214) l0_0.length c0_0, .int .i64 a0_1], .int .i64 (rd ((rd_T40 l0_0 x3_1).f3) x4_2)] (by rfl) rfl rfl (by (try simp only [List.map_toArray, List.map_cons, List.map_nil]); first | done | rfl | (simp only [List.length_drop, List.length_take]; rfl)) ?_
           with_reducible refine (dioramaref09_Place.calls _ _ l0_0 a0_1 (rd ((rd_T40 l0_0 x3_1).f3) x4_2) true _ ?side1 ?side2 A9.out).mono ?_
           (case side1 => exact Kd.C_below HR0_0.out (BB HB))
           (case side2 => exact HC0_0.out)
           rintro e w13 ⟨rfl, hb⟩
           refine ⟨_, rfl, ?_⟩
           replace BK213 := BE BK213 hb; replace HB := BS HB hb; (try clear hb)
           (try clear hb2)
           (try clear hk)
           (try clear hi)
           refine hK.out _ _ ⟨(blk_cell BK213.out 0).trans rfl, (blk_cell BK213.out 1).trans rfl, ((HB.out.cell (World.block_lt_of_cell? w _ hw215_0)).trans hw215_0), ((HB.out.cell (World.block_lt_of_cell? w _ hw215_1)).trans hw215_1), ((HB.out.cell (World.block_lt_of_cell? w _ hw215_2)).trans hw215_2), ((HB.out.cell (World.block_lt_of_cell? w _ hw215_3)).trans hw215_3), ((HB.out.cell (World.block_lt_of_cell? w _ hw216_0)).trans hw216_0)⟩ (fun hHeld => ?_)
           clear hK K; refine norm_ (a' := ?_) ?_ ?_
           rotate_left
           ·show Act.put _ (some 33) _ = _
            simp only [Act.put, List.setIfInBounds_toArray, List.set_cons_zero, List.set_cons_succ, i64_w, i32_w]
            rfl
           refine pure_ (i := 11) (N := some 34) (v := ?_) (a' := ?_) #[true, true, true, true, true, true, true, true, true, true, true, true] rfl rfl (any_of HT_.out (by kernel_rfl)) (fun _ _ _ h => h) (Or.inl ⟨by rfl, ?_⟩) ?_ ?_
           rotate_left
           ·intro w'
            go_simp
            with_reducible rfl
           rotate_left
           ·simp only [Act.put, List.setIfInBounds_toArray, List.set_cons_zero, List.set_cons_succ, i64_w, i32_w]
            rfl
           refine done_ (done_of HT_.out (by kernel_rfl)) ?_
           try go_wp2
           go_roundg k2
           case measure => have := HK1.out; have := HK2.out; omega
           case rel => exact ⟨(wrap64 (x4_2 + 1)), (by first | rfl | (simp; done) | (simp [*]; done)), H', ⟨by have := HK1.out; have := HK2.out; omega⟩, ⟨BL BK213⟩, ⟨BB HB⟩⟩
          ·replace c10 := Bool.eq_false_iff.mpr c10; subst c10; have H1 : (some x3_1) = some r := by rw [if_neg (show ¬ (false = true) by decide)] at H; exact H
           clear H; have H := H1; clear H1; obtain rfl := Option.some.inj H; have hcz14_0 := BC BK213 0 (.slice A0_0 l0_0.length c0_0) rfl; have hcz14_1 := BC BK213 1 (.int .i64 a0_1) rfl; have hfz14_0 := BF BK213 0; have hfz14_1 := BF BK213 1; have p214 : 0 ≤ (x3_1 : Int) := of_decide_eq_true (by first | (with_reducible assumption) | assumption)
           have q214 : x3_1 < (l0_0.length : Int) := of_decide_eq_true (by first | (with_reducible assumption) | assumption)
           obtain ⟨ad214, A214_1, c214_1, A214_2, c214_2, A214_3, c214_3, e214, hx214_0, hx214_1, hx214_2, hx214_3, hl214_1, hi214_1, hl214_2, hi214_2, hl214_3, hi214_3⟩ := at_T40 HR0_0.out x3_1 p214 q214; cases e214
           replace hx214_0 := (HB.out.cell (World.block_lt_of_cell? w _ hx214_0)).trans hx214_0; replace hx214_1 := (HB.out.cell (World.block_lt_of_cell? w _ hx214_1)).trans hx214_1; replace hx214_2 := (HB.out.cell (World.block_lt_of_cell? w _ hx214_2)).trans hx214_2; replace hx214_3 := (HB.out.cell (World.block_lt_of_cell? w _ hx214_3)).trans hx214_3; have HR214_1 := AM hi214_1; have HC214_1 := AM hl214_1; clear hi214_1 hl214_1; have HR214_2 := AM hi214_2; have HC214_2 := AM hl214_2; clear hi214_2 hl214_2; have HR214_3 := AM hi214_3; have HC214_3 := AM hl214_3; clear hi214_3 hl214_3; replace p214 := eq_true p214; replace q214 := eq_true q214; try go_wp2
           replace BK213 := AM (blk_drew BK213.out); replace HB := AM (below_drew1 HB.out); have p215 : 0 ≤ (x3_1 : Int) := of_decide_eq_true (by first | (with_reducible assumption) | assumption)
           have q215 : x3_1 < (l0_0.length : Int) := of_decide_eq_true (by first | (with_reducible assumption) | assumption)
           obtain ⟨ad215, A215_1, c215_1, A215_2, c215_2, A215_3, c215_3, e215, hx215_0, hx215_1, hx215_2, hx215_3, hl215_1, hi215_1, hl215_2, hi215_2, hl215_3, hi215_3⟩ := at_T40 HR0_0.out x3_1 p215 q215; have hw215_3 := hx215_3; have hw215_2 := hx215_2; have hw215_1 := hx215_1; have hw215_0 := hx215_0; obtain rfl : ad214 = ad215 := (by injection e215)
           replace hx215_0 := (HB.out.cell (World.block_lt_of_cell? w _ hx215_0)).trans hx215_0; replace hx215_1 := (HB.out.cell (World.block_lt_of_cell? w _ hx215_1)).trans hx215_1; replace hx215_2 := (HB.out.cell (World.block_lt_of_cell? w _ hx215_2)).trans hx215_2; replace hx215_3 := (HB.out.cell (World.block_lt_of_cell? w _ hx215_3)).trans hx215_3; have HR215_1 := AM hi215_1; have HC215_1 := AM hl215_1; clear hi215_1 hl215_1; have HR215_2 := AM hi215_2; have HC215_2 := AM hl215_2; clear hi215_2 hl215_2; have HR215_3 := AM hi215_3; have HC215_3 := AM hl215_3; clear hi215_3 hl215_3; replace p215 := eq_true p215; replace q215 := eq_true q215; have p216 : 0 ≤ (x4_2 : Int) := of_decide_eq_true (by first | (with_reducible assumption) | assumption)
           have q216 : x4_2 < (((rd_T40 l0_0 x3_1).f3).length : Int) := of_decide_eq_true (by first | (with_reducible assumption) | assumption)
           obtain ⟨ad216, e216, hx216_0⟩ := Kd.at_int HR215_3.out x4_2 p216 q216; have hw216_0 := hx216_0; cases e216
           replace hx216_0 := (HB.out.cell (World.block_lt_of_cell? w _ hx216_0)).trans hx216_0; replace p216 := eq_true p216; replace q216 := eq_true q216; refine start_ (n := 12) (S := fun w' => w'.cell? ⟨gb213, 0, none⟩ = some (.slice (some ad214) l0_0.length c0_0) ∧ w'.cell? ⟨gb213, 1, none⟩ = some (.int .i64 a0_1) ∧ w'.cell? (ad214.add ((x3_1).toNat * 4)) = some (.int .i64 ((rd_T40 l0_0 x3_1).f0)) ∧ w'.cell? ⟨(ad214.add ((x3_1).toNat * 4)).block, (ad214.add ((x3_1).toNat * 4)).off + 1, none⟩ = some (.slice A215_1 ((rd_T40 l0_0 x3_1).f1).length c215_1) ∧ w'.cell? ⟨(ad214.add ((x3_1).toNat * 4)).block, (ad214.add ((x3_1).toNat * 4)).off + 2, none⟩ = some (.slice A215_2 ((rd_T40 l0_0 x3_1).f2).length c215_2) ∧ w'.cell? ⟨(ad214.add ((x3_1).toNat * 4)).block, (ad214.add ((x3_1).toNat * 4)).off + 3, none⟩ = some (.slice (some ad216) ((rd_T40 l0_0 x3_1).f3).length c215_3) ∧ w'.cell? (ad216.add (x4_2).toNat) = some (.int .i64 (rd ((rd_T40 l0_0 x3_1).f3) x4_2))) (ds := []) #[false, false, false, false, false, false, false, false, false, false, false, false] (by kernel_rfl) rfl rfl ⟨(blk_cell BK213.out 0).trans rfl, (blk_cell BK213.out 1).trans rfl, ((HB.out.cell (World.block_lt_of_cell? w _ hw215_0)).trans hw215_0), ((HB.out.cell (World.block_lt_of_cell? w _ hw215_1)).trans hw215_1), ((HB.out.cell (World.block_lt_of_cell? w _ hw215_2)).trans hw215_2), ((HB.out.cell (World.block_lt_of_cell? w _ hw215_3)).trans hw215_3), ((HB.out.cell (World.block_lt_of_cell? w _ hw216_0)).trans hw216_0)⟩ (fun hHeld => ?_); refine with_tabW dioramaref09_Refs.tab7 dioramaref09_Refs.bits7 (fun HT_ HW_ => ?_)
           generalize wr.drew = w15 at BK213 HB HR215_1 HR215_2 HR215_3 hx215_0 hx215_1 hx215_2 hx215_3 hx216_0 hHeld ⊢
           refine pure_ (i := 1) (N := some 24) (v := ?_) (a' := ?_) #[false, true, false, false, false, false, false, false, false, false, false, false] rfl rfl (any_of HT_.out (by kernel_rfl)) (fun _ _ _ h => h) (Or.inl ⟨by rfl, ?_⟩) ?_ ?_
           rotate_left
           ·intro w'
            go_simp
            with_reducible rfl
           rotate_left
           ·simp only [Act.put, List.setIfInBounds_toArray, List.set_cons_zero, List.set_cons_succ, i64_w, i32_w]
            rfl
           refine pure_ (i := 3) (N := some 26) (v := ?_) (a' := ?_) #[false, true, false, true, false, false, false, false, false, false, false, false] rfl rfl (any_of HT_.out (by kernel_rfl)) (fun _ _ _ h => h) (Or.inl ⟨by rfl, ?_⟩) ?_ ?_
           rotate_left
           ·intro w'
            go_simp
            with_reducible rfl
           rotate_left
           ·simp only [Act.put, List.setIfInBounds_toArray, List.set_cons_zero, List.set_cons_succ, i64_w, i32_w]
            rfl
           refine pure_ (i := 7) (N := some 30) (v := ?_) (a' := ?_) #[false, true, false, true, false, false, false, true, false, false, false, false] rfl rfl (any_of HT_.out (by kernel_rfl)) (fun _ _ _ h => h) (Or.inl ⟨by rfl, ?_⟩) ?_ ?_
           rotate_left
           ·intro w'
            go_simp
            with_reducible rfl
           rotate_left
           ·simp only [Act.put, List.setIfInBounds_toArray, List.set_cons_zero, List.set_cons_succ, i64_w, i32_w]
            rfl
           refine take_ (i := 0) (N := some 23) (v := ?_) (a' := ?_) #[true, true, false, true, false, false, false, true, false, false, false, false] rfl rfl (take_ofW HT_.out HW_.out (by kernel_rfl)) (fun _ _ _ h => h) (Or.inl ⟨by rfl, ?_⟩) hHeld ?_ ?_
           rotate_left
           ·rintro w' ⟨s0, s1, s2, s3, s4, s5, s6⟩
            go_simp
            with_reducible rfl
           rotate_left
           ·simp only [Act.put, List.setIfInBounds_toArray, List.set_cons_zero, List.set_cons_succ, i64_w, i32_w]
            rfl
           refine take_ (i := 2) (N := some 25) (v := ?_) (a' := ?_) #[true, true, true, true, false, false, false, true, false, false, false, false] rfl rfl (take_ofW HT_.out HW_.out (by kernel_rfl)) (fun _ _ _ h => h) (Or.inl ⟨by rfl, ?_⟩) hHeld ?_ ?_
           rotate_left
           ·rintro w' ⟨s0, s1, s2, s3, s4, s5, s6⟩
            go_simp
            with_reducible rfl
           rotate_left
           ·simp only [Act.put, List.setIfInBounds_toArray, List.set_cons_zero, List.set_cons_succ, i64_w, i32_w]
            rfl
           refine pure_ (i := 4) (N := some 27) (v := ?_) (a' := ?_) #[true, true, true, true, true, false, false, true, false, false, false, false] rfl rfl (any_of HT_.out (by kernel_rfl)) (fun _ _ _ h => h) (Or.inl ⟨by rfl, ?_⟩) ?_ ?_
           rotate_left
           ·intro w'
            go_simp
            with_reducible rfl
           rotate_left
           ·simp only [Act.put, List.setIfInBounds_toArray, List.set_cons_zero, List.set_cons_succ, i64_w, i32_w]
            rfl
           refine pure_ (i := 5) (N := some 28) (v := ?_) (a' := ?_) #[true, true, true, true, true, true, false, true, false, false, false, false] rfl rfl (any_of HT_.out (by kernel_rfl)) (fun _ _ _ h => h) (Or.inl ⟨by rfl, ?_⟩) ?_ ?_
           rotate_left
           ·intro w'
            go_simp
            with_reducible rfl
           rotate_left
           ·simp only [Act.put, List.setIfInBounds_toArray, List.set_cons_zero, List.set_cons_succ, i64_w, i32_w]
            rfl
           refine take_ (i := 6) (N := some 29) (v := ?_) (a' := ?_) #[true, true, true, true, true, true, true, true, false, false, false, false] rfl rfl (take_ofW HT_.out HW_.out (by kernel_rfl)) (fun _ _ _ h => h) (Or.inl ⟨by rfl, ?_⟩) hHeld ?_ ?_
           rotate_left
           ·rintro w' ⟨s0, s1, s2, s3, s4, s5, s6⟩
            go_simp
            with_reducible rfl
           rotate_left
           ·simp only [Act.put, List.setIfInBounds_toArray, List.set_cons_zero, List.set_cons_succ, i64_w, i32_w]
            rfl
           refine pure_ (i := 8) (N := some 31) (v := ?_) (a' := ?_) #[true, true, true, true, true, true, true, true, true, false, false, false] rfl rfl (any_of HT_.out (by kernel_rfl)) (fun _ _ _ h => h) (Or.inl ⟨by rfl, ?_⟩) ?_ ?_
           rotate_left
           ·intro w'
            go_simp
            with_reducible rfl
           rotate_left
           ·simp only [Act.put, List.setIfInBounds_toArray, List.set_cons_zero, List.set_cons_succ, i64_w, i32_w]
            rfl
           refine take_ (i := 9) (N := some 32) (v := ?_) (a' := ?_) #[true, true, true, true, true, true, true, true, true, true, false, false] rfl rfl (take_ofW HT_.out HW_.out (by kernel_rfl)) (fun _ _ _ h => h) (Or.inl ⟨by rfl, ?_⟩) hHeld ?_ ?_
           rotate_left
           ·rintro w' ⟨s0, s1, s2, s3, s4, s5, s6⟩
            go_simp
            with_reducible rfl
           rotate_left
           ·simp only [Act.put, List.setIfInBounds_toArray, List.set_cons_zero, List.set_cons_succ, i64_w, i32_w]
            rfl
           refine one_ (i := 10) (N := some 33) #[true, true, true, true, true, true, true, true, true, true, true, false] rfl rfl (one_of HT_.out (by kernel_rfl)) (by decide) (fun K hK => ?_)
           refine goes_ Try.func27 (by kernel_rfl) rfl #[.agg #[.slice (some ad214) l0_0.length c0_0, .int .i64 a0_1], .int .i64 (rd ((rd_T40 l0_0 x3_1).f3) x4_2)] (by rfl) rfl rfl (by (try simp only [List.map_toArray, List.map_cons, List.map_nil]); first | done | rfl | (simp only [List.length_drop, List.length_take]; rfl)) ?_
           with_reducible refine (dioramaref09_Place.calls _ _ l0_0 a0_1 (rd ((rd_T40 l0_0 x3_1).f3) x4_2) false _ ?side1 ?side2 A9.out).mono ?_
           (case side1 => exact Kd.C_below HR0_0.out (BB HB))
           (case side2 => exact HC0_0.out)
           rintro e w16 ⟨rfl, hb⟩
           refine ⟨_, rfl, ?_⟩
           replace BK213 := BE BK213 hb; replace HB := BS HB hb; (try clear hb)
           (try clear hb2)
           (try clear hk)
           (try clear hi)
           refine hK.out _ _ ⟨(blk_cell BK213.out 0).trans rfl, (blk_cell BK213.out 1).trans rfl, ((HB.out.cell (World.block_lt_of_cell? w _ hw215_0)).trans hw215_0), ((HB.out.cell (World.block_lt_of_cell? w _ hw215_1)).trans hw215_1), ((HB.out.cell (World.block_lt_of_cell? w _ hw215_2)).trans hw215_2), ((HB.out.cell (World.block_lt_of_cell? w _ hw215_3)).trans hw215_3), ((HB.out.cell (World.block_lt_of_cell? w _ hw216_0)).trans hw216_0)⟩ (fun hHeld => ?_)
           clear hK K; refine norm_ (a' := ?_) ?_ ?_
           rotate_left
           ·show Act.put _ (some 33) _ = _
            simp only [Act.put, List.setIfInBounds_toArray, List.set_cons_zero, List.set_cons_succ, i64_w, i32_w]
            rfl
           refine pure_ (i := 11) (N := some 34) (v := ?_) (a' := ?_) #[true, true, true, true, true, true, true, true, true, true, true, true] rfl rfl (any_of HT_.out (by kernel_rfl)) (fun _ _ _ h => h) (Or.inl ⟨by rfl, ?_⟩) ?_ ?_
           rotate_left
           ·intro w'
            go_simp
            with_reducible rfl
           rotate_left
           ·simp only [Act.put, List.setIfInBounds_toArray, List.set_cons_zero, List.set_cons_succ, i64_w, i32_w]
            rfl
           refine done_ (done_of HT_.out (by kernel_rfl)) ?_
           try go_wp2
           go_ret
           exact ⟨by first | rfl | (simp [errW_none, errW_some] <;> rfl) | (simp [*, errW_none, errW_some] <;> rfl), BB HB⟩
         ·rw [if_neg c8] at H; exact absurd H (by simp)
        ·rw [if_neg c7] at H; have c7b0 : decide (x4_2 < (((rd_T40 l0_0 x3_1).f3).length : Int)) = false := decide_eq_false c7; clear c7; have H' := AM H; clear H; have hcz17_0 := BC BK213 0 (.slice A0_0 l0_0.length c0_0) rfl; have hcz17_1 := BC BK213 1 (.int .i64 a0_1) rfl; have hfz17_0 := BF BK213 0; have hfz17_1 := BF BK213 1; have p214 : 0 ≤ (x3_1 : Int) := of_decide_eq_true (by first | (with_reducible assumption) | assumption)
         have q214 : x3_1 < (l0_0.length : Int) := of_decide_eq_true (by first | (with_reducible assumption) | assumption)
         obtain ⟨ad214, A214_1, c214_1, A214_2, c214_2, A214_3, c214_3, e214, hx214_0, hx214_1, hx214_2, hx214_3, hl214_1, hi214_1, hl214_2, hi214_2, hl214_3, hi214_3⟩ := at_T40 HR0_0.out x3_1 p214 q214; cases e214
         replace hx214_0 := (HB.out.cell (World.block_lt_of_cell? w _ hx214_0)).trans hx214_0; replace hx214_1 := (HB.out.cell (World.block_lt_of_cell? w _ hx214_1)).trans hx214_1; replace hx214_2 := (HB.out.cell (World.block_lt_of_cell? w _ hx214_2)).trans hx214_2; replace hx214_3 := (HB.out.cell (World.block_lt_of_cell? w _ hx214_3)).trans hx214_3; have HR214_1 := AM hi214_1; have HC214_1 := AM hl214_1; clear hi214_1 hl214_1; have HR214_2 := AM hi214_2; have HC214_2 := AM hl214_2; clear hi214_2 hl214_2; have HR214_3 := AM hi214_3; have HC214_3 := AM hl214_3; clear hi214_3 hl214_3; replace p214 := eq_true p214; replace q214 := eq_true q214; go_wp2
         go_roundg k2
         case measure => have := HK1.out; have := HK2.out; omega
         case rel => exact ⟨(wrap64 (x3_1 + 1)), (by first | rfl | (simp; done) | (simp [*]; done)), H', ⟨by have := HK1.out; have := HK2.out; omega⟩, ⟨BL BK213⟩, ⟨BB HB⟩⟩
       ·rw [if_neg c6] at H; exact absurd H (by simp)
      ·rw [if_neg c5] at H; exact absurd H (by simp)
   ·rw [if_neg c3] at H; have c3b0 : decide (x3_1 < (l0_0.length : Int)) = false := decide_eq_false c3; clear c3; obtain rfl := Option.some.inj H; have hcz18_0 := BC BK213 0 (.slice A0_0 l0_0.length c0_0) rfl; have hcz18_1 := BC BK213 1 (.int .i64 a0_1) rfl; have hfz18_0 := BF BK213 0; have hfz18_1 := BF BK213 1; go_wp2
    go_ret
    exact ⟨by first | rfl | (simp [errW_none, errW_some] <;> rfl) | (simp [*, errW_none, errW_some] <;> rfl), BB HB⟩

end Go.Proofs.Ytlfjjapndlkamaa.GH
