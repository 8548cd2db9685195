-- Printed by a program of the session (wip/gen/tprint.py, over a turned copy of the kit's print): Lean checks it.
import Derived.Test.YtlfjjapndlkamaaPaGAx0
namespace Go.Proofs.Ytlfjjapndlkamaa.GA
open Go.RowKit Go.Proofs.YtlfjjapndlkamaaW.PrintWords Go.Proofs.YtlfjjapndlkamaaW.PrintLast Go.Proofs.YtlfjjapndlkamaaW.PrintMore
attribute [local go_sem] max2_int min2_int max_two min_two max_three min_three max_four min_four   -- for this text's walks alone
set_option linter.unusedVariables false
set_option linter.unusedSimpArgs false

/-! ### dioramaref09_Led: function 38 -/
def dioramaref09_Led.l0 : Nat → List Bool → List Int → List (S40) → Int → Option (List Bool)
 | 0, _, _, _, _ => none
 | k + 1, x5, x6, x186000, x186001 => if (x6.length : Int) > 0 then (if 0 < (x6.length : Int) then (if 1 ≤ (x6.length : Int) then ((some (x6.drop (1 : Int).toNat : List Int)).bind fun y197 => (if 0 ≤ (rd x6 0) then (if (rd x6 0) < (x5.length : Int) then (if (rdOf false x5 (rd x6 0) = true) then (dioramaref09_Led.l0 k x5 y197 x186000 x186001) else ((some (([] : List Int) : List Int)).bind fun y202 => (if y202.length + y197.length < 17592186044416 then ((some (y202 ++ y197 : List Int)).bind fun y205 => (if (rd x6 0) < (x186000.length : Int) then (if y205.length + ((rd_T40 x186000 (rd x6 0)).f3).length < 17592186044416 then (dioramaref09_Led.l0 k (x5.set ((rd x6 0) : Int).toNat true) (y205 ++ ((rd_T40 x186000 (rd x6 0)).f3)) x186000 x186001) else (none)) else (none))) else (none)))) else (none)) else (none))) else (none)) else (none)) else (some x5)
def dioramaref09_Led.f (k : Nat) (l0_0 : List (S40)) (a0_1 : Int) (a1 : Int) : Option (List Bool) := if 0 ≤ (l0_0.length : Int) then (if ((l0_0.length : Int) : Int).toNat ≤ 281474976710656 then ((some (([] : List Int) : List Int)).bind fun y189 => (if 0 ≤ a1 then (if a1 < (l0_0.length : Int) then (if y189.length + ((rd_T40 l0_0 a1).f3).length < 17592186044416 then (dioramaref09_Led.l0 k (List.replicate ((l0_0.length : Int) : Int).toNat false) (y189 ++ ((rd_T40 l0_0 a1).f3)) l0_0 a0_1) else (none)) else (none)) else (none))) else (none)) else (none)
def dioramaref09_Led.T8 : Bool × List (List Nat × List Nat) := (true, [([], []), ([], []), ([0, 1], [0, 1]), ([], []), ([3], [3]), ([], []), ([4, 5], [4, 5]), ([6], [6]), ([7], [7]), ([2, 8, 2], [2, 8]), ([9, 9, 0, 1, 2, 3, 4, 5, 6, 7, 8, 9], [1, 9])])
def dioramaref09_Led.B8 : List Nat := [0, 0, 3, 0, 8, 0, 56, 120, 248, 511, 1023]
theorem dioramaref09_Led.tab8 : rtab .any (opsOf Try.f38 8) = dioramaref09_Led.T8 := by kernel_rfl
theorem dioramaref09_Led.bits8 : waitsOk dioramaref09_Led.T8.2 dioramaref09_Led.B8 = true := by kernel_rfl
set_option maxHeartbeats 8000000 in
set_option maxRecDepth 100000 in
theorem dioramaref09_Led.calls (k : Nat) (A0_0 : Option Addr) (c0_0 : Nat) (l0_0 : List (S40)) (a0_1 : Int) (a1 : Int) (r : List Bool) (w : World) (hr0_0 : Kd.C k40 w A0_0 l0_0.length l0_0) (hc0_0 : l0_0.length ≤ c0_0) (h : dioramaref09_Led.f k l0_0 a0_1 a1 = some r) :
  Calls Try.prog 38 #[.agg #[.slice A0_0 l0_0.length c0_0, .int .i64 a0_1], .int .i64 a1] w fun e w' => ∃ v0_ : Value, e = .returned (v0_) ∧ Kd.R Kd.bool 4 w' w.heap.size (fun _ => True) v0_ r ∧ Below w.heap.size w w' := by
 have hu24 := Try.underlying24
 have HR0_0 := Aside0.mk hr0_0
 have HC0_0 := Aside0.mk hc0_0
 clear hr0_0 hc0_0
 have HB := Aside0.mk (Below.refl w.heap.size w)
 have H : (if 0 ≤ (l0_0.length : Int) then (if ((l0_0.length : Int) : Int).toNat ≤ 281474976710656 then ((some (([] : List Int) : List Int)).bind fun y189 => (if 0 ≤ a1 then (if a1 < (l0_0.length : Int) then (if y189.length + ((rd_T40 l0_0 a1).f3).length < 17592186044416 then (dioramaref09_Led.l0 k (List.replicate ((l0_0.length : Int) : Int).toNat false) (y189 ++ ((rd_T40 l0_0 a1).f3)) l0_0 a0_1) else (none)) else (none)) else (none))) else (none)) else (none)) = some r := h
 clear h
 by_cases c3 : 0 ≤ (l0_0.length : Int)
 ·rw [if_pos c3] at H
  have c3b0 := eq_true c3
  have c3b1 : decide (0 ≤ (l0_0.length : Int)) = true := decide_eq_true c3
  clear c3
  by_cases c4 : ((l0_0.length : Int) : Int).toNat ≤ 281474976710656
  ·rw [if_pos c4] at H
   have c4b0 := eq_true c4
   have c4b1 : decide (((l0_0.length : Int) : Int).toNat ≤ 281474976710656) = true := decide_eq_true c4
   clear c4
   obtain ⟨y186, hy186⟩ : ∃ y_ : List Bool, y_ = (List.replicate ((l0_0.length : Int) : Int).toNat false) := ⟨_, rfl⟩
   replace H : ((some (([] : List Int) : List Int)).bind fun y189 => (if 0 ≤ a1 then (if a1 < (l0_0.length : Int) then (if y189.length + ((rd_T40 l0_0 a1).f3).length < 17592186044416 then (dioramaref09_Led.l0 k y186 (y189 ++ ((rd_T40 l0_0 a1).f3)) l0_0 a0_1) else (none)) else (none)) else (none))) = some r := by first | (rw [hy186]; with_reducible exact H) | (have H2_ := (Option.bind_some _ _).symm.trans H; rw [hy186]; with_reducible exact H2_) | (have H2_ := (Option.bind_some _ _).symm.trans H; with_reducible exact H2_) | with_reducible exact H | (rw [hy186]; exact H) | exact H
   have Ny186 := Aside0.mk hy186
   clear hy186
   obtain ⟨y189, hy189⟩ : ∃ y_ : List Int, y_ = (([] : List Int)) := ⟨_, rfl⟩
   replace H : (if 0 ≤ a1 then (if a1 < (l0_0.length : Int) then (if y189.length + ((rd_T40 l0_0 a1).f3).length < 17592186044416 then (dioramaref09_Led.l0 k y186 (y189 ++ ((rd_T40 l0_0 a1).f3)) l0_0 a0_1) else (none)) else (none)) else (none)) = some r := by first | (rw [hy189]; with_reducible exact H) | (have H2_ := (Option.bind_some _ _).symm.trans H; rw [hy189]; with_reducible exact H2_) | (have H2_ := (Option.bind_some _ _).symm.trans H; with_reducible exact H2_) | with_reducible exact H | (rw [hy189]; exact H) | exact H
   have Ny189 := Aside0.mk hy189
   clear hy189
   by_cases c5 : 0 ≤ a1
   ·rw [if_pos c5] at H
    have c5b0 : decide (0 ≤ a1) = true := decide_eq_true c5
    clear c5
    by_cases c6 : a1 < (l0_0.length : Int)
    ·rw [if_pos c6] at H
     have c6b0 : decide (a1 < (l0_0.length : Int)) = true := decide_eq_true c6
     clear c6
     by_cases c7 : y189.length + ((rd_T40 l0_0 a1).f3).length < 17592186044416
     ·rw [if_pos c7] at H
      have LMc7 := Aside0.mk c7
      clear c7
      obtain ⟨y193, hy193⟩ : ∃ y_ : List Int, y_ = (y189 ++ ((rd_T40 l0_0 a1).f3)) := ⟨_, rfl⟩
      replace H : (dioramaref09_Led.l0 k y186 y193 l0_0 a0_1) = some r := by first | (rw [hy193]; with_reducible exact H) | (have H2_ := (Option.bind_some _ _).symm.trans H; rw [hy193]; with_reducible exact H2_) | (have H2_ := (Option.bind_some _ _).symm.trans H; with_reducible exact H2_) | with_reducible exact H | (rw [hy193]; exact H) | exact H
      have Ny193 := Aside0.mk hy193
      clear hy193
      have H' := Aside0.mk H
      clear H
      go_enter Try.func38, Try.ntmps38
      go_wp2_with (first | ((with_reducible refine gate_dst (N := 2) rfl ?_); refine box_event ?hg (N := 2) ?hd (cs := #[.slice A0_0 l0_0.length c0_0, .int .i64 a0_1]) (t := 24) ?hr ?_; (case hd => rfl); (case hg => rfl); (case hr => first | (go_simp; done) | (go_simp; rfl)); intro gb185 hg w8 hbox hb; have n0_ := Aside0.mk (below_step (BB HB) hb); have n1_ := Aside0.mk (hbox); have n2_ := Aside0.mk ((by rw [hg]; exact (below_size (BB HB)) : w.heap.size ≤ gb185)); have n3_ := Aside0.mk ((by rw [hg]; exact (below_size (BB HB)) : w.heap.size ≤ gb185)); clear HB; have HB := n0_; have BK185 := n1_; have GW185 := n2_; have GE185 := n3_; clear n0_ n1_ n2_ n3_; clear hb hbox hg; have hcz9_0 : w8.cell? ⟨gb185, 0, none⟩ = some (.slice A0_0 l0_0.length c0_0) := (blk_cell BK185.out 0).trans rfl; have hcz9_1 : w8.cell? ⟨gb185, 1, none⟩ = some (.int .i64 a0_1) := (blk_cell BK185.out 1).trans rfl; have hfz9_0 := blk_frozen BK185.out 0; have hfz9_1 := blk_frozen BK185.out 1) | ((with_reducible refine gate_dst (N := 11) rfl ?_); refine Kd.R_make Kd.bool _ 4 rfl (N := 11) rfl 50 _ _ rfl (l0_0.length : Int) rfl rfl Try.underlying50 (.bool false) 1 info4 rfl (by decide) (by omega) false (ok := fun _ => True) (okp := fun _ => True) rfl (fun _ hk => hk) trivial (of_decide_eq_true (by first | (with_reducible assumption) | assumption)) (Nat.le_trans (Nat.mul_le_mul_right _ (of_decide_eq_true (by first | (with_reducible assumption) | assumption) : (l0_0.length : Int).toNat ≤ 281474976710656)) (by omega)) (Below.refl _ _) (Nat.le_refl _) ?_; intro v187 w10 ho11 hb hg_ hnew_; clear hg_ hnew_; (first | rw [← Ny186.out] at ho11 | (simp only [Int.reduceToNat] at ho11; rw [← Ny186.out] at ho11)); have n0_ := Aside0.mk (Kd.R_lower ho11 (below_size (BB HB))); have n1_ := BE BK185 hb; have n2_ := Aside0.mk (below_step (BB HB) hb); clear BK185; clear HB; have HO188 := n0_; have BK185 := n1_; have HB := n2_; clear n0_ n1_ n2_; clear hb ho11) | ((with_reducible refine gate_dst (N := 12) rfl ?_); refine Kd.R_lit (Kd.int .i64) _ 3 ?hg (N := 12) ?hd (xs := ([] : List Int)) (inner := []) (ok := fun _ => True) (okp := fun _ => True) ?hr ?hp (fun _ hk => hk) trivial (Below.refl _ _) (Nat.le_refl _) (by simp) ?_; (case hd => rfl); (case hg => rfl); (case hr => first | (go_simp; done) | (go_simp; rfl)); (case hp => exact (Reps.none _ _)); intro v190 w12 ho13 hb hg_ hnew_; clear hg_ hnew_; (first | rw [← Ny189.out] at ho13 | (simp only [Int.reduceToNat] at ho13; rw [← Ny189.out] at ho13)); have n0_ := Aside0.mk (Kd.R_below (RL HO188) hb); have n1_ := Aside0.mk (Kd.R_lower ho13 (below_size (BB HB))); have n2_ := BE BK185 hb; have n3_ := Aside0.mk (below_step (BB HB) hb); clear HO188; clear BK185; clear HB; have HO188 := n0_; have HO191 := n1_; have BK185 := n2_; have HB := n3_; clear n0_ n1_ n2_ n3_; clear hb ho13; have hcz14_0 : w12.cell? ⟨gb185, 0, none⟩ = some (.slice A0_0 l0_0.length c0_0) := (blk_cell BK185.out 0).trans rfl; have hcz14_1 : w12.cell? ⟨gb185, 1, none⟩ = some (.int .i64 a0_1) := (blk_cell BK185.out 1).trans rfl; have hfz14_0 := blk_frozen BK185.out 0; have hfz14_1 := blk_frozen BK185.out 1; have p192 : 0 ≤ (a1 : Int) := of_decide_eq_true (by first | (with_reducible assumption) | assumption); have q192 : a1 < (l0_0.length : Int) := of_decide_eq_true (by first | (with_reducible assumption) | assumption); obtain ⟨ad192, A192_1, c192_1, A192_2, c192_2, A192_3, c192_3, e192, hx192_0, hx192_1, hx192_2, hx192_3, hl192_1, hi192_1, hl192_2, hi192_2, hl192_3, hi192_3⟩ := at_T40 HR0_0.out a1 p192 q192; cases e192; replace hx192_0 := (HB.out.cell (World.block_lt_of_cell? w _ hx192_0)).trans hx192_0; replace hx192_1 := (HB.out.cell (World.block_lt_of_cell? w _ hx192_1)).trans hx192_1; replace hx192_2 := (HB.out.cell (World.block_lt_of_cell? w _ hx192_2)).trans hx192_2; replace hx192_3 := (HB.out.cell (World.block_lt_of_cell? w _ hx192_3)).trans hx192_3; have HR192_1 := Aside0.mk hi192_1; have HC192_1 := Aside0.mk hl192_1; clear hi192_1 hl192_1; have HR192_2 := Aside0.mk hi192_2; have HC192_2 := Aside0.mk hl192_2; clear hi192_2 hl192_2; have HR192_3 := Aside0.mk hi192_3; have HC192_3 := Aside0.mk hl192_3; clear hi192_3 hl192_3; replace p192 := eq_true p192; replace q192 := eq_true q192) | ((with_reducible refine gate_builtin (b := .append) (xs := #[.tmp 12, .tmp 18]) rfl ?_); at_builtin; refine Kd.R_append_rows (Kd.int .i64) (w0 := w) w.heap.size rfl (.tmp 12) (.tmp 18) 31 3 (.int .i64 0) 8 rfl Try.underlying31 info3 rfl (by decide) (by omega) v190 y189 ((rd_T40 l0_0 a1).f3) _ _ _ (fun _ => True) (fun _ => False) rfl rfl ?aO ?aR (fun _ _ h => h) (fun _ h => h.elim) ?aF ?aB ?aS ?aL ?_; (case aR => repeat (first | exact (Kd.C_below HR192_3.out HB.out) | (with_reducible refine Kd.C_alloc ?_ _) | (with_reducible refine Kd.C_drewN ?_ _) | (with_reducible refine Kd.C_drew ?_))); (case aB => exact (BB HB)); (case aF => exact (fun _ _ => trivial)); (case aO => exact (RL HO191)); (case aS => exact (below_size (BB HB))); (case aL => have := LMc7.out; omega); intro v194 w15 ho hb hg hat; rw [← Ny193.out] at ho; have n0_ := Aside0.mk (blk_grown (g := gb185) (o := .cells #[.slice (some ad192) l0_0.length c0_0, .int .i64 a0_1] 24 (0, 0)) (BL BK185) hg (Kd.R_ne HO191.out BK185.out (by decide))); have n1_ := Aside0.mk (Kd.R_over' (RL HO188) (Kd.R_typed (RL HO191)) (by decide) hg); have n2_ := Aside0.mk (hb); have n3_ := Aside0.mk (ho); clear BK185; clear HO188; clear HB; clear HO191; have BK185 := n0_; have HO188 := n1_; have HB := n2_; have HO195 := n3_; clear n0_ n1_ n2_ n3_; clear ho hb hg hat))
      go_loopg [6] k (fun kq v6 w' => ∃ (x5_1 : List Bool) (x6_1 : List Int), Aside0 (dioramaref09_Led.l0 kq x5_1 x6_1 l0_0 a0_1 = some r) ∧ Aside0 (kq ≤ k) ∧ Aside0 (Kd.R Kd.bool 4 w' w.heap.size (fun _ => True) v187 x5_1) ∧ Aside0 (Kd.Q (Kd.int .i64) 3 w' w.heap.size (fun _ => True) v6 x6_1) ∧ Aside0 (w'.heap[gb185]? = some (.cells #[(.slice (some ad192) l0_0.length c0_0), .int .i64 a0_1] 24 (0, 0))) ∧ Aside0 (Below w.heap.size w w'))
      case atStart => exact ⟨(y186), (y193), H', ⟨Nat.le_refl _⟩, ⟨by (with_reducible repeat (first | apply Kd.R_alloc | apply Kd.R_drewN | apply Kd.R_drew)); exact HO188.out⟩, ⟨Kd.Q_of_R (RL HO195)⟩, ⟨BL BK185⟩, ⟨BB HB⟩⟩
      case round =>
       clear H'
       try clear c1
       try clear p1
       try clear q1
       try clear hx1
       try clear p2
       try clear c3
       try clear c3b0
       try clear c3b1
       try clear c4
       try clear c4b0
       try clear c4b1
       try clear c5
       try clear c5b0
       try clear c6
       try clear c6b0
       try clear c7
       try clear hcz14_0
       try clear hcz14_1
       try clear hcz9_0
       try clear hcz9_1
       try clear hfz14_0
       try clear hfz14_1
       try clear hfz9_0
       try clear hfz9_1
       try clear hx192_0
       try clear hx192_1
       try clear hx192_2
       try clear hx192_3
       try clear p192
       try clear q192
       obtain ⟨x5_1, x6_1, HA, HK1, HO_5, HO_6, BK185, HB⟩ := hrel
       cases gk with
       | zero => exact absurd HA.out (by simp [dioramaref09_Led.l0])
       | succ k1 =>
        have H := HA.out
        clear HA
        simp only [dioramaref09_Led.l0] at H
        by_cases c16 : (x6_1.length : Int) > 0
        ·rw [if_pos c16] at H
         have c16b0 : decide (0 < (x6_1.length : Int)) = true := decide_eq_true c16
         have c16b1 : decide (0 < x6_1.length) = true := decide_eq_true (by omega)
         clear c16
         by_cases c17 : 0 < (x6_1.length : Int)
         ·rw [if_pos c17] at H
          have c17b0 : decide (0 < (x6_1.length : Int)) = true := decide_eq_true c17
          have c17b1 : decide (0 < x6_1.length) = true := decide_eq_true (by omega)
          clear c17
          by_cases c18 : 1 ≤ (x6_1.length : Int)
          ·rw [if_pos c18] at H
           have c18b0 := eq_true c18
           have c18b1 : decide (1 ≤ (x6_1.length : Int)) = true := decide_eq_true c18
           clear c18
           obtain ⟨y197, hy197⟩ : ∃ y_ : List Int, y_ = (x6_1.drop (1 : Int).toNat) := ⟨_, rfl⟩
           replace H : (if 0 ≤ (rd x6_1 0) then (if (rd x6_1 0) < (x5_1.length : Int) then (if (rdOf false x5_1 (rd x6_1 0) = true) then (dioramaref09_Led.l0 k1 x5_1 y197 l0_0 a0_1) else ((some (([] : List Int) : List Int)).bind fun y202 => (if y202.length + y197.length < 17592186044416 then ((some (y202 ++ y197 : List Int)).bind fun y205 => (if (rd x6_1 0) < (l0_0.length : Int) then (if y205.length + ((rd_T40 l0_0 (rd x6_1 0)).f3).length < 17592186044416 then (dioramaref09_Led.l0 k1 (x5_1.set ((rd x6_1 0) : Int).toNat true) (y205 ++ ((rd_T40 l0_0 (rd x6_1 0)).f3)) l0_0 a0_1) else (none)) else (none))) else (none)))) else (none)) else (none)) = some r := by first | (rw [hy197]; with_reducible exact H) | (have H2_ := (Option.bind_some _ _).symm.trans H; rw [hy197]; with_reducible exact H2_) | (have H2_ := (Option.bind_some _ _).symm.trans H; with_reducible exact H2_) | with_reducible exact H | (rw [hy197]; exact H) | exact H
           have Ny197 := Aside0.mk hy197
           clear hy197
           by_cases c19 : 0 ≤ (rd x6_1 0)
           ·rw [if_pos c19] at H
            have c19b0 : decide (0 ≤ (rd x6_1 0)) = true := decide_eq_true c19
            clear c19
            by_cases c20 : (rd x6_1 0) < (x5_1.length : Int)
            ·rw [if_pos c20] at H
             have c20b0 : decide ((rd x6_1 0) < (x5_1.length : Int)) = true := decide_eq_true c20
             clear c20
             obtain ⟨bq21, hbq21⟩ : ∃ b_ : Bool, b_ = (rdOf false x5_1 (rd x6_1 0)) := ⟨_, rfl⟩
             replace H : (if (bq21 = true) then (dioramaref09_Led.l0 k1 x5_1 y197 l0_0 a0_1) else ((some (([] : List Int) : List Int)).bind fun y202 => (if y202.length + y197.length < 17592186044416 then ((some (y202 ++ y197 : List Int)).bind fun y205 => (if (rd x6_1 0) < (l0_0.length : Int) then (if y205.length + ((rd_T40 l0_0 (rd x6_1 0)).f3).length < 17592186044416 then (dioramaref09_Led.l0 k1 (x5_1.set ((rd x6_1 0) : Int).toNat true) (y205 ++ ((rd_T40 l0_0 (rd x6_1 0)).f3)) l0_0 a0_1) else (none)) else (none))) else (none)))) = some r := by rw [← hbq21] at H; exact H
             have Nbq21 := Aside0.mk hbq21
             clear hbq21
             by_cases c22 : (bq21 = true)
             ·subst c22
              have H1 : (dioramaref09_Led.l0 k1 x5_1 y197 l0_0 a0_1) = some r := by rw [if_pos rfl] at H; exact H
              clear H
              have H := H1
              clear H1
              have H' := Aside0.mk H
              clear H
              obtain ⟨Ao23, co23, eo23, _⟩ := Kd.Q_slice HO_6.out
              subst eo23
              have p196 : 0 ≤ (0 : Int) := (by omega)
              have q196 : 0 < (x6_1.length : Int) := of_decide_eq_true (by first | (with_reducible assumption) | assumption)
              obtain ⟨ad196, e196, hx196_0⟩ := Kd.at_int (Kd.Q_reads' HO_6.out).2.2 0 p196 q196
              cases e196
              have qi196 : (0 < x6_1.length) = True := eq_true (by omega)
              (try rw [show ((0 : Int)).toNat = 0 from rfl] at hx196_0)
              (try rw [Addr.add_zero'] at hx196_0)
              replace p196 := eq_true p196
              replace q196 := eq_true q196
              have q24 : (1 : Int) ≤ ((x6_1.length : Int) : Int) := of_decide_eq_true (by first | (with_reducible assumption) | assumption)
              obtain ⟨i024, hi024, _, hsz24, _⟩ := info_parts info3
              have hcut24 := cut_from (P := Try.prog) 31 3 .i64 Try.underlying31 hi024 1 hsz24 (some ad196) x6_1.length co23 1 (by omega) q24
              have hr24 := Kd.Q_drop (k := (1 : Int).toNat) HO_6.out (by omega)
              obtain ⟨A24, hA24⟩ : ∃ A1, A1 = (if co23 = (1 : Int).toNat then (some ad196) else ((some ad196) : Option Addr).map (·.add ((1 : Int).toNat * 1))) := ⟨_, rfl⟩
              obtain ⟨c24, hc24⟩ : ∃ c1, c1 = co23 - (1 : Int).toNat := ⟨_, rfl⟩
              have hy24 : y197.length = x6_1.length - (1 : Int).toNat := (by rw [Ny197.out, List.length_drop])
              rw [← Ny197.out] at hr24
              rw [← hy24, ← hA24, ← hc24] at hcut24
              replace hr24 : Kd.Q (Kd.int .i64) 3 wr w.heap.size (fun _ => True) (.slice A24 y197.length c24) y197 := (by rw [hA24, hc24, hy24]; exact hr24)
              have HE24 : Aside0 ((Value.slice A24 y197.length c24).ownBlock = (.slice (some ad196) x6_1.length co23 : Value).ownBlock) := ⟨by rw [hA24]; split <;> (cases ((some ad196) : Option Addr) <;> rfl)⟩
              clear hy24 hi024 hsz24 HO_6 hA24 hc24
              have HO199 := Aside0.mk hr24
              clear hr24
              replace q24 := eq_true q24
              obtain ⟨Ao25, co25, eo25⟩ := Kd.R_slice HO_5.out
              subst eo25
              have p200 : 0 ≤ ((rd x6_1 0) : Int) := of_decide_eq_true (by first | (with_reducible assumption) | assumption)
              have q200 : (rd x6_1 0) < (x5_1.length : Int) := of_decide_eq_true (by first | (with_reducible assumption) | assumption)
              obtain ⟨ad200, e200, hx200_0⟩ := Kd.at_bool (Kd.R_reads' HO_5.out).2.2 (rd x6_1 0) p200 q200
              (try rw [← Nbq21.out] at hx200_0)
              cases e200
              replace p200 := eq_true p200
              replace q200 := eq_true q200
              go_wp2
              go_roundg k1
              case measure => have := HK1.out; omega
              case rel => exact ⟨(x5_1), (y197), H', ⟨by have := HK1.out; omega⟩, ⟨by (with_reducible repeat (first | apply Kd.R_alloc | apply Kd.R_drewN | apply Kd.R_drew)); exact HO_5.out⟩, ⟨by (with_reducible repeat (first | apply Kd.Q_alloc | apply Kd.Q_drewN | apply Kd.Q_drew)); exact HO199.out⟩, ⟨BL BK185⟩, ⟨BB HB⟩⟩
             ·replace c22 := Bool.eq_false_iff.mpr c22
              subst c22
              have H1 : ((some (([] : List Int) : List Int)).bind fun y202 => (if y202.length + y197.length < 17592186044416 then ((some (y202 ++ y197 : List Int)).bind fun y205 => (if (rd x6_1 0) < (l0_0.length : Int) then (if y205.length + ((rd_T40 l0_0 (rd x6_1 0)).f3).length < 17592186044416 then (dioramaref09_Led.l0 k1 (x5_1.set ((rd x6_1 0) : Int).toNat true) (y205 ++ ((rd_T40 l0_0 (rd x6_1 0)).f3)) l0_0 a0_1) else (none)) else (none))) else (none))) = some r := by rw [if_neg (show ¬ (false = true) by decide)] at H; exact H
              clear H
              have H := H1
              clear H1
              obtain ⟨y201, hy201⟩ : ∃ y_ : List Bool, y_ = (x5_1.set ((rd x6_1 0) : Int).toNat true) := ⟨_, rfl⟩
              replace H : ((some (([] : List Int) : List Int)).bind fun y202 => (if y202.length + y197.length < 17592186044416 then ((some (y202 ++ y197 : List Int)).bind fun y205 => (if (rd x6_1 0) < (l0_0.length : Int) then (if y205.length + ((rd_T40 l0_0 (rd x6_1 0)).f3).length < 17592186044416 then (dioramaref09_Led.l0 k1 y201 (y205 ++ ((rd_T40 l0_0 (rd x6_1 0)).f3)) l0_0 a0_1) else (none)) else (none))) else (none))) = some r := by first | (rw [hy201]; with_reducible exact H) | (have H2_ := (Option.bind_some _ _).symm.trans H; rw [hy201]; with_reducible exact H2_) | (have H2_ := (Option.bind_some _ _).symm.trans H; with_reducible exact H2_) | with_reducible exact H | (rw [hy201]; exact H) | exact H
              have Ny201 := Aside0.mk hy201
              clear hy201
              obtain ⟨y202, hy202⟩ : ∃ y_ : List Int, y_ = (([] : List Int)) := ⟨_, rfl⟩
              replace H : (if y202.length + y197.length < 17592186044416 then ((some (y202 ++ y197 : List Int)).bind fun y205 => (if (rd x6_1 0) < (l0_0.length : Int) then (if y205.length + ((rd_T40 l0_0 (rd x6_1 0)).f3).length < 17592186044416 then (dioramaref09_Led.l0 k1 y201 (y205 ++ ((rd_T40 l0_0 (rd x6_1 0)).f3)) l0_0 a0_1) else (none)) else (none))) else (none)) = some r := by first | (rw [hy202]; with_reducible exact H) | (have H2_ := (Option.bind_some _ _).symm.trans H; rw [hy202]; with_reducible exact H2_) | (have H2_ := (Option.bind_some _ _).symm.trans H; with_reducible exact H2_) | with_reducible exact H | (rw [hy202]; exact H) | exact H
              have Ny202 := Aside0.mk hy202
              clear hy202
              by_cases c27 : y202.length + y197.length < 17592186044416
              ·rw [if_pos c27] at H
               have LMc27 := Aside0.mk c27
               clear c27
               obtain ⟨y205, hy205⟩ : ∃ y_ : List Int, y_ = (y202 ++ y197) := ⟨_, rfl⟩
               replace H : (if (rd x6_1 0) < (l0_0.length : Int) then (if y205.length + ((rd_T40 l0_0 (rd x6_1 0)).f3).length < 17592186044416 then (dioramaref09_Led.l0 k1 y201 (y205 ++ ((rd_T40 l0_0 (rd x6_1 0)).f3)) l0_0 a0_1) else (none)) else (none)) = some r := by first | (rw [hy205]; with_reducible exact H) | (have H2_ := (Option.bind_some _ _).symm.trans H; rw [hy205]; with_reducible exact H2_) | (have H2_ := (Option.bind_some _ _).symm.trans H; with_reducible exact H2_) | with_reducible exact H | (rw [hy205]; exact H) | exact H
               have Ny205 := Aside0.mk hy205
               clear hy205
               by_cases c28 : (rd x6_1 0) < (l0_0.length : Int)
               ·rw [if_pos c28] at H
                have c28b0 : decide ((rd x6_1 0) < (l0_0.length : Int)) = true := decide_eq_true c28
                clear c28
                by_cases c29 : y205.length + ((rd_T40 l0_0 (rd x6_1 0)).f3).length < 17592186044416
                ·rw [if_pos c29] at H
                 have LMc29 := Aside0.mk c29
                 clear c29
                 obtain ⟨y209, hy209⟩ : ∃ y_ : List Int, y_ = (y205 ++ ((rd_T40 l0_0 (rd x6_1 0)).f3)) := ⟨_, rfl⟩
                 replace H : (dioramaref09_Led.l0 k1 y201 y209 l0_0 a0_1) = some r := by first | (rw [hy209]; with_reducible exact H) | (have H2_ := (Option.bind_some _ _).symm.trans H; rw [hy209]; with_reducible exact H2_) | (have H2_ := (Option.bind_some _ _).symm.trans H; with_reducible exact H2_) | with_reducible exact H | (rw [hy209]; exact H) | exact H
                 have Ny209 := Aside0.mk hy209
                 clear hy209
                 have H' := Aside0.mk H
                 clear H
                 obtain ⟨Ao30, co30, eo30, _⟩ := Kd.Q_slice HO_6.out
                 subst eo30
                 have p196 : 0 ≤ (0 : Int) := (by omega)
                 have q196 : 0 < (x6_1.length : Int) := of_decide_eq_true (by first | (with_reducible assumption) | assumption)
                 obtain ⟨ad196, e196, hx196_0⟩ := Kd.at_int (Kd.Q_reads' HO_6.out).2.2 0 p196 q196
                 cases e196
                 have qi196 : (0 < x6_1.length) = True := eq_true (by omega)
                 (try rw [show ((0 : Int)).toNat = 0 from rfl] at hx196_0)
                 (try rw [Addr.add_zero'] at hx196_0)
                 replace p196 := eq_true p196
                 replace q196 := eq_true q196
                 have q31 : (1 : Int) ≤ ((x6_1.length : Int) : Int) := of_decide_eq_true (by first | (with_reducible assumption) | assumption)
                 obtain ⟨i031, hi031, _, hsz31, _⟩ := info_parts info3
                 have hcut31 := cut_from (P := Try.prog) 31 3 .i64 Try.underlying31 hi031 1 hsz31 (some ad196) x6_1.length co30 1 (by omega) q31
                 have hr31 := Kd.Q_drop (k := (1 : Int).toNat) HO_6.out (by omega)
                 obtain ⟨A31, hA31⟩ : ∃ A1, A1 = (if co30 = (1 : Int).toNat then (some ad196) else ((some ad196) : Option Addr).map (·.add ((1 : Int).toNat * 1))) := ⟨_, rfl⟩
                 obtain ⟨c31, hc31⟩ : ∃ c1, c1 = co30 - (1 : Int).toNat := ⟨_, rfl⟩
                 have hy31 : y197.length = x6_1.length - (1 : Int).toNat := (by rw [Ny197.out, List.length_drop])
                 rw [← Ny197.out] at hr31
                 rw [← hy31, ← hA31, ← hc31] at hcut31
                 replace hr31 : Kd.Q (Kd.int .i64) 3 wr w.heap.size (fun _ => True) (.slice A31 y197.length c31) y197 := (by rw [hA31, hc31, hy31]; exact hr31)
                 have HE31 : Aside0 ((Value.slice A31 y197.length c31).ownBlock = (.slice (some ad196) x6_1.length co30 : Value).ownBlock) := ⟨by rw [hA31]; split <;> (cases ((some ad196) : Option Addr) <;> rfl)⟩
                 clear hy31 hi031 hsz31 HO_6 hA31 hc31
                 have HO199 := Aside0.mk hr31
                 clear hr31
                 replace q31 := eq_true q31
                 obtain ⟨Ao32, co32, eo32⟩ := Kd.R_slice HO_5.out
                 subst eo32
                 have p200 : 0 ≤ ((rd x6_1 0) : Int) := of_decide_eq_true (by first | (with_reducible assumption) | assumption)
                 have q200 : (rd x6_1 0) < (x5_1.length : Int) := of_decide_eq_true (by first | (with_reducible assumption) | assumption)
                 obtain ⟨ad200, e200, hx200_0⟩ := Kd.at_bool (Kd.R_reads' HO_5.out).2.2 (rd x6_1 0) p200 q200
                 (try rw [← Nbq21.out] at hx200_0)
                 cases e200
                 replace p200 := eq_true p200
                 replace q200 := eq_true q200
                 have p26 : 0 ≤ ((rd x6_1 0) : Int) := of_decide_eq_true (by first | (with_reducible assumption) | assumption)
                 have q26 : ((rd x6_1 0) : Int) < ((x5_1.length : Int) : Int) := of_decide_eq_true (by first | (with_reducible assumption) | assumption)
                 obtain ⟨go26, co26, eo26, gb26, gl26, cl26, HG26⟩ := Kd.R_form HO_5.out (by omega)
                 (first | cases eo26 | (injection eo26 with ea_ en_ ec_; (first | subst ea_ | (injection ea_ with ea_; subst ea_)); subst ec_; clear en_))
                 have GB26 := Aside0.mk gb26
                 have GG26 := Aside0.mk HG26
                 clear gb26 gl26 HG26
                 (first | simp only [add_plain] at hx200_0 | skip)
                 obtain ⟨hx26_0, hf26_0⟩ := Kd.R_celln false HO_5.out ((rd x6_1 0) : Int) p26 q26
                 replace p26 := eq_true p26
                 replace q26 := eq_true q26
                 have HP33 := Kd.R_putg HO_5.out ((rd x6_1 0) : Int) true
                 try go_wp2_with (first | ((with_reducible refine gate_store (t := 4) (p := 35) rfl ?_); refine store_event (t := 4) (p := 35) (v := ?vo_w34) (w1 := (wr.setCell ⟨go26, ((rd x6_1 0) : Int).toNat, none⟩ (.bool true))) ?hg ?ho ?hn ?hr ?_; (case ho => rfl); (case hg => rfl); (case hn => rfl); (case hr => first | (go_simp; done) | (go_simp; rfl)); intro w34 hw; have hg : wr.grownBy w34 (some go26) := (by rw [hw]; exact HP33.2); have hp_ : Kd.R Kd.bool 4 w34 w.heap.size (fun _ => True) (.slice (some ⟨go26, 0, none⟩) x5_1.length co32) y201 := (by rw [hw, Ny201.out]; exact HP33.1); clear HP33; have n0_ := Aside0.mk (hp_); have n1_ := Aside0.mk (Kd.Q_over' (v := (.slice (some ⟨go26, 0, none⟩) x5_1.length co32)) (by (with_reducible repeat (first | apply Kd.Q_alloc | apply Kd.Q_drewN | apply Kd.Q_drew)); exact HO199.out) (Kd.R_typed HO_5.out) (by decide) hg); have n2_ := Aside0.mk (blk_grown (g := gb185) (o := .cells #[.slice (some ad192) l0_0.length c0_0, .int .i64 a0_1] 24 (0, 0)) (BL BK185) hg (Kd.R_ne HO_5.out BK185.out (by decide))); have n3_ := Aside0.mk ((by rw [hw]; exact below_set (HB.out) GB26.out : Below w.heap.size w w34)); clear HO_5; clear HO199; clear BK185; clear HB; have HO_5 := n0_; have HO199 := n1_; have BK185 := n2_; have HB := n3_; clear n0_ n1_ n2_ n3_; clear hg hw hp_))
                 have n0_ := Aside0.mk (Kd.R_drew HO_5.out)
                 have n1_ := Aside0.mk (Kd.Q_drew HO199.out)
                 have n2_ := Aside0.mk (blk_drew BK185.out)
                 have n3_ := Aside0.mk (below_drew1 HB.out)
                 clear HO_5
                 clear HO199
                 clear BK185
                 clear HB
                 have HO_5 := n0_
                 have HO199 := n1_
                 have BK185 := n2_
                 have HB := n3_
                 clear n0_ n1_ n2_ n3_
                 have p208 : 0 ≤ ((rd x6_1 0) : Int) := of_decide_eq_true (by first | (with_reducible assumption) | assumption)
                 have q208 : (rd x6_1 0) < (l0_0.length : Int) := of_decide_eq_true (by first | (with_reducible assumption) | assumption)
                 obtain ⟨ad208, A208_1, c208_1, A208_2, c208_2, A208_3, c208_3, e208, hx208_0, hx208_1, hx208_2, hx208_3, hl208_1, hi208_1, hl208_2, hi208_2, hl208_3, hi208_3⟩ := at_T40 HR0_0.out (rd x6_1 0) p208 q208
                 have hw208_3 := hx208_3
                 have hw208_2 := hx208_2
                 have hw208_1 := hx208_1
                 have hw208_0 := hx208_0
                 obtain rfl : ad192 = ad208 := (by injection e208)
                 replace hx208_0 := (HB.out.cell (World.block_lt_of_cell? w _ hx208_0)).trans hx208_0
                 replace hx208_1 := (HB.out.cell (World.block_lt_of_cell? w _ hx208_1)).trans hx208_1
                 replace hx208_2 := (HB.out.cell (World.block_lt_of_cell? w _ hx208_2)).trans hx208_2
                 replace hx208_3 := (HB.out.cell (World.block_lt_of_cell? w _ hx208_3)).trans hx208_3
                 have HR208_1 := Aside0.mk hi208_1
                 have HC208_1 := Aside0.mk hl208_1
                 clear hi208_1 hl208_1
                 have HR208_2 := Aside0.mk hi208_2
                 have HC208_2 := Aside0.mk hl208_2
                 clear hi208_2 hl208_2
                 have HR208_3 := Aside0.mk hi208_3
                 have HC208_3 := Aside0.mk hl208_3
                 clear hi208_3 hl208_3
                 replace p208 := eq_true p208
                 replace q208 := eq_true q208
                 refine start_ (n := 11) (S := fun w' => w'.cell? ⟨gb185, 0, none⟩ = some (.slice (some ad192) l0_0.length c0_0) ∧ w'.cell? ⟨gb185, 1, none⟩ = some (.int .i64 a0_1) ∧ w'.cell? (ad192.add (((rd x6_1 0)).toNat * 4)) = some (.int .i64 ((rd_T40 l0_0 (rd x6_1 0)).f0)) ∧ w'.cell? ⟨(ad192.add (((rd x6_1 0)).toNat * 4)).block, (ad192.add (((rd x6_1 0)).toNat * 4)).off + 1, none⟩ = some (.slice A208_1 ((rd_T40 l0_0 (rd x6_1 0)).f1).length c208_1) ∧ w'.cell? ⟨(ad192.add (((rd x6_1 0)).toNat * 4)).block, (ad192.add (((rd x6_1 0)).toNat * 4)).off + 2, none⟩ = some (.slice A208_2 ((rd_T40 l0_0 (rd x6_1 0)).f2).length c208_2) ∧ w'.cell? ⟨(ad192.add (((rd x6_1 0)).toNat * 4)).block, (ad192.add (((rd x6_1 0)).toNat * 4)).off + 3, none⟩ = some (.slice A208_3 ((rd_T40 l0_0 (rd x6_1 0)).f3).length c208_3)) (ds := []) #[false, false, false, false, false, false, false, false, false, false, false] (by kernel_rfl) rfl rfl ⟨(blk_cell BK185.out 0).trans rfl, (blk_cell BK185.out 1).trans rfl, ((HB.out.cell (World.block_lt_of_cell? w _ hw208_0)).trans hw208_0), ((HB.out.cell (World.block_lt_of_cell? w _ hw208_1)).trans hw208_1), ((HB.out.cell (World.block_lt_of_cell? w _ hw208_2)).trans hw208_2), ((HB.out.cell (World.block_lt_of_cell? w _ hw208_3)).trans hw208_3)⟩ (fun hHeld => ?_); refine with_tabW dioramaref09_Led.tab8 dioramaref09_Led.bits8 (fun HT_ HW_ => ?_)
                 generalize w34.drew = w35 at HO_5 HO199 BK185 HB HR208_1 HR208_2 HR208_3 hx208_0 hx208_1 hx208_2 hx208_3 hHeld ⊢
                 refine pure_ (i := 1) (N := some 37) (v := ?_) (a' := ?_) #[false, true, false, false, false, false, false, false, false, false, false] rfl rfl (any_of HT_.out (by kernel_rfl)) (fun _ _ _ h => h) (Or.inl ⟨by rfl, ?_⟩) ?_ ?_
                 rotate_left
                 ·intro w'
                  go_simp
                  with_reducible rfl
                 rotate_left
                 ·simp only [Act.put, List.setIfInBounds_toArray, List.set_cons_zero, List.set_cons_succ, i64_w, i32_w]
                  rfl
                 refine pure_ (i := 3) (N := some 39) (v := ?_) (a' := ?_) #[false, true, false, true, false, false, false, false, false, false, false] rfl rfl (any_of HT_.out (by kernel_rfl)) (fun _ _ _ h => h) (Or.inl ⟨by rfl, ?_⟩) ?_ ?_
                 rotate_left
                 ·intro w'
                  go_simp
                  with_reducible rfl
                 rotate_left
                 ·simp only [Act.put, List.setIfInBounds_toArray, List.set_cons_zero, List.set_cons_succ, i64_w, i32_w]
                  rfl
                 refine pure_ (i := 5) (N := some 41) (v := ?_) (a' := ?_) #[false, true, false, true, false, true, false, false, false, false, false] rfl rfl (any_of HT_.out (by kernel_rfl)) (fun _ _ _ h => h) (Or.inl ⟨by rfl, ?_⟩) ?_ ?_
                 rotate_left
                 ·intro w'
                  go_simp
                  with_reducible rfl
                 rotate_left
                 ·simp only [Act.put, List.setIfInBounds_toArray, List.set_cons_zero, List.set_cons_succ, i64_w, i32_w]
                  rfl
                 refine take_ (i := 4) (N := some 40) (v := ?_) (a' := ?_) #[false, true, false, true, true, true, false, false, false, false, false] rfl rfl (take_ofW HT_.out HW_.out (by kernel_rfl)) (fun _ _ _ h => h) (Or.inl ⟨by rfl, ?_⟩) hHeld ?_ ?_
                 rotate_left
                 ·rintro w' ⟨s0, s1, s2, s3, s4, s5⟩
                  go_simp
                  with_reducible rfl
                 rotate_left
                 ·simp only [Act.put, List.setIfInBounds_toArray, List.set_cons_zero, List.set_cons_succ, i64_w, i32_w]
                  rfl
                 refine pure_ (i := 6) (N := some 42) (v := ?_) (a' := ?_) #[false, true, false, true, true, true, true, false, false, false, false] rfl rfl (any_of HT_.out (by kernel_rfl)) (fun _ _ _ h => h) (Or.inl ⟨by rfl, ?_⟩) ?_ ?_
                 rotate_left
                 ·intro w'
                  go_simp
                  with_reducible rfl
                 rotate_left
                 ·simp only [Act.put, List.setIfInBounds_toArray, List.set_cons_zero, List.set_cons_succ, i64_w, i32_w]
                  rfl
                 refine pure_ (i := 7) (N := some 43) (v := ?_) (a' := ?_) #[false, true, false, true, true, true, true, true, false, false, false] rfl rfl (any_of HT_.out (by kernel_rfl)) (fun _ _ _ h => h) (Or.inl ⟨by rfl, ?_⟩) ?_ ?_
                 rotate_left
                 ·intro w'
                  go_simp
                  with_reducible rfl
                 rotate_left
                 ·simp only [Act.put, List.setIfInBounds_toArray, List.set_cons_zero, List.set_cons_succ, i64_w, i32_w]
                  rfl
                 refine take_ (i := 8) (N := some 44) (v := ?_) (a' := ?_) #[false, true, false, true, true, true, true, true, true, false, false] rfl rfl (take_ofW HT_.out HW_.out (by kernel_rfl)) (fun _ _ _ h => h) (Or.inl ⟨by rfl, ?_⟩) hHeld ?_ ?_
                 rotate_left
                 ·rintro w' ⟨s0, s1, s2, s3, s4, s5⟩
                  go_simp
                  with_reducible rfl
                 rotate_left
                 ·simp only [Act.put, List.setIfInBounds_toArray, List.set_cons_zero, List.set_cons_succ, i64_w, i32_w]
                  rfl
                 refine one_ (i := 0) (N := some 36) #[true, true, false, true, true, true, true, true, true, false, false] rfl rfl (one_of HT_.out (by kernel_rfl)) (by decide) (fun K hK => ?_)
                 refine Kd.R_lit_step (Kd.int .i64) _ 3 ?hg (N := 36) ?hd (xs := ([] : List Int)) (inner := []) (ok := fun _ => True) (okp := fun _ => True) ?hr ?hp (fun _ hk => hk) trivial (Below.refl _ _) (Nat.le_refl _) (by simp) ?_; (case hd => rfl); (case hg => rfl); (case hr => first | (go_simp; done) | (go_simp; rfl)); (case hp => exact (Reps.none _ _))
                 intro v203 w36 ho37 hb hg_ hnew_
                 clear hg_ hnew_
                 (first | rw [← Ny202.out] at ho37 | (simp only [Int.reduceToNat] at ho37; rw [← Ny202.out] at ho37))
                 have n0_ := Aside0.mk (Kd.R_below (RL HO_5) hb)
                 have n1_ := Aside0.mk (Kd.Q_elder' (by (with_reducible repeat (first | apply Kd.Q_alloc | apply Kd.Q_drewN | apply Kd.Q_drew)); exact HO199.out) (Kd.R_base ho37) hb)
                 have n2_ := Aside0.mk (Kd.R_lower (Kd.R_new' ho37 (Kd.Q_lt (by (with_reducible repeat (first | apply Kd.Q_alloc | apply Kd.Q_drewN | apply Kd.Q_drew)); exact HO199.out))) (below_size (BB HB)))
                 have n3_ := BE BK185 hb
                 have n4_ := Aside0.mk (below_step (BB HB) hb)
                 clear HO_5
                 clear HO199
                 clear BK185
                 clear HB
                 have HO_5 := n0_
                 have HO199 := n1_
                 have HO204 := n2_
                 have BK185 := n3_
                 have HB := n4_
                 clear n0_ n1_ n2_ n3_ n4_
                 clear hb ho37
                 refine hK.out _ _ ⟨(blk_cell BK185.out 0).trans rfl, (blk_cell BK185.out 1).trans rfl, ((HB.out.cell (World.block_lt_of_cell? w _ hw208_0)).trans hw208_0), ((HB.out.cell (World.block_lt_of_cell? w _ hw208_1)).trans hw208_1), ((HB.out.cell (World.block_lt_of_cell? w _ hw208_2)).trans hw208_2), ((HB.out.cell (World.block_lt_of_cell? w _ hw208_3)).trans hw208_3)⟩ (fun hHeld => ?_)
                 clear hK K
                 refine norm_ (a' := ?_) ?_ ?_
                 rotate_left
                 ·show Act.put _ (some 36) _ = _
                  simp only [Act.put, List.setIfInBounds_toArray, List.set_cons_zero, List.set_cons_succ, i64_w, i32_w]
                  rfl
                 refine one_ (i := 2) (N := some 38) #[true, true, true, true, true, true, true, true, true, false, false] rfl rfl (one_of HT_.out (by kernel_rfl)) (by decide) (fun K hK => ?_)
                 refine Kd.R_append_rows_step (Kd.int .i64) (w0 := w) w.heap.size (by rfl) (.tmp 36) (.tmp 37) 31 3 (.int .i64 0) 8 rfl Try.underlying31 info3 rfl (by decide) (by omega) v203 y202 y197 _ _ _ (fun k_ => some k_ ≠ (.slice A31 y197.length c31 : Value).ownBlock) (fun _ => False) rfl rfl ?aO ?aR (fun _ _ h => h) (fun _ h => h.elim) ?aF ?aB ?aS ?aL ?_
                 (case aR => repeat (first | exact (Kd.Q_reads' HO199.out).2.2 | (with_reducible refine Kd.C_alloc ?_ _) | (with_reducible refine Kd.C_drewN ?_ _) | (with_reducible refine Kd.C_drew ?_)))
                 (case aB => exact (BB HB))
                 (case aF => exact (fun k_ hk => Kd.fresh' (Kd.Q_lt (by (with_reducible repeat (first | apply Kd.Q_alloc | apply Kd.Q_drewN | apply Kd.Q_drew)); exact HO199.out)) k_ hk))
                 (case aO => exact (by (with_reducible repeat (first | apply Kd.R_alloc | apply Kd.R_drewN | apply Kd.R_drew)); exact Kd.R_mono HO204.out (fun _ hk => hk.2)))
                 (case aS => exact (below_size (BB HB)))
                 (case aL => have := LMc27.out; omega)
                 intro v206 w38 ho hb hg hat
                 rw [← Ny205.out] at ho
                 have n0_ := Aside0.mk (Kd.R_over' (RL HO_5) (Kd.R_typed (RL HO204)) (by decide) hg)
                 have n1_ := Aside0.mk (Kd.Q_after (ok := (fun _ => True)) (by (with_reducible repeat (first | apply Kd.Q_alloc | apply Kd.Q_drewN | apply Kd.Q_drew)); exact HO199.out) hg hat)
                 have n2_ := Aside0.mk (blk_grown (g := gb185) (o := .cells #[.slice (some ad192) l0_0.length c0_0, .int .i64 a0_1] 24 (0, 0)) (BL BK185) hg (Kd.R_ne HO204.out BK185.out (by decide)))
                 have n3_ := Aside0.mk (hb)
                 have n4_ := Aside0.mk (ho)
                 clear HO_5
                 clear HO199
                 clear BK185
                 clear HB
                 clear HO204
                 have HO_5 := n0_
                 have HO199 := n1_
                 have BK185 := n2_
                 have HB := n3_
                 have HO207 := n4_
                 clear n0_ n1_ n2_ n3_ n4_
                 clear ho hb hg hat
                 refine hK.out _ _ ⟨(blk_cell BK185.out 0).trans rfl, (blk_cell BK185.out 1).trans rfl, ((HB.out.cell (World.block_lt_of_cell? w _ hw208_0)).trans hw208_0), ((HB.out.cell (World.block_lt_of_cell? w _ hw208_1)).trans hw208_1), ((HB.out.cell (World.block_lt_of_cell? w _ hw208_2)).trans hw208_2), ((HB.out.cell (World.block_lt_of_cell? w _ hw208_3)).trans hw208_3)⟩ (fun hHeld => ?_)
                 clear hK K
                 refine norm_ (a' := ?_) ?_ ?_
                 rotate_left
                 ·show Act.put _ (some 38) _ = _
                  simp only [Act.put, List.setIfInBounds_toArray, List.set_cons_zero, List.set_cons_succ, i64_w, i32_w]
                  rfl
                 refine one_ (i := 9) (N := some 45) #[true, true, true, true, true, true, true, true, true, true, false] rfl rfl (one_of HT_.out (by kernel_rfl)) (by decide) (fun K hK => ?_)
                 refine Kd.R_append_rows_step (Kd.int .i64) (w0 := w) w.heap.size (by rfl) (.tmp 38) (.tmp 44) 31 3 (.int .i64 0) 8 rfl Try.underlying31 info3 rfl (by decide) (by omega) v206 y205 ((rd_T40 l0_0 (rd x6_1 0)).f3) _ _ _ (fun k_ => some k_ ≠ (.slice A31 y197.length c31 : Value).ownBlock) (fun _ => False) rfl rfl ?aO ?aR (fun _ _ h => h) (fun _ h => h.elim) ?aF ?aB ?aS ?aL ?_
                 (case aR => repeat (first | exact (Kd.C_below HR208_3.out HB.out) | (with_reducible refine Kd.C_alloc ?_ _) | (with_reducible refine Kd.C_drewN ?_ _) | (with_reducible refine Kd.C_drew ?_)))
                 (case aB => exact (BB HB))
                 (case aF => exact (fun k_ hk => Kd.fresh' (Kd.Q_lt (by (with_reducible repeat (first | apply Kd.Q_alloc | apply Kd.Q_drewN | apply Kd.Q_drew)); exact HO199.out)) k_ hk))
                 (case aO => exact (RL HO207))
                 (case aS => exact (below_size (BB HB)))
                 (case aL => have := LMc29.out; omega)
                 intro v210 w39 ho hb hg hat
                 rw [← Ny209.out] at ho
                 have n0_ := Aside0.mk (Kd.R_over' (RL HO_5) (Kd.R_typed (RL HO207)) (by decide) hg)
                 have n1_ := Aside0.mk (Kd.Q_after (ok := (fun _ => True)) (by (with_reducible repeat (first | apply Kd.Q_alloc | apply Kd.Q_drewN | apply Kd.Q_drew)); exact HO199.out) hg hat)
                 have n2_ := Aside0.mk (blk_grown (g := gb185) (o := .cells #[.slice (some ad192) l0_0.length c0_0, .int .i64 a0_1] 24 (0, 0)) (BL BK185) hg (Kd.R_ne HO207.out BK185.out (by decide)))
                 have n3_ := Aside0.mk (hb)
                 have n4_ := Aside0.mk (ho)
                 clear HO_5
                 clear HO199
                 clear BK185
                 clear HB
                 clear HO207
                 have HO_5 := n0_
                 have HO199 := n1_
                 have BK185 := n2_
                 have HB := n3_
                 have HO211 := n4_
                 clear n0_ n1_ n2_ n3_ n4_
                 clear ho hb hg hat
                 refine hK.out _ _ ⟨(blk_cell BK185.out 0).trans rfl, (blk_cell BK185.out 1).trans rfl, ((HB.out.cell (World.block_lt_of_cell? w _ hw208_0)).trans hw208_0), ((HB.out.cell (World.block_lt_of_cell? w _ hw208_1)).trans hw208_1), ((HB.out.cell (World.block_lt_of_cell? w _ hw208_2)).trans hw208_2), ((HB.out.cell (World.block_lt_of_cell? w _ hw208_3)).trans hw208_3)⟩ (fun hHeld => ?_)
                 clear hK K
                 refine norm_ (a' := ?_) ?_ ?_
                 rotate_left
                 ·show Act.put _ (some 45) _ = _
                  simp only [Act.put, List.setIfInBounds_toArray, List.set_cons_zero, List.set_cons_succ, i64_w, i32_w]
                  rfl
                 refine pure_ (i := 10) (N := some 6) (v := ?_) (a' := ?_) #[true, true, true, true, true, true, true, true, true, true, true] rfl rfl (any_of HT_.out (by kernel_rfl)) (fun _ _ _ h => h) (Or.inl ⟨by rfl, ?_⟩) ?_ ?_
                 rotate_left
                 ·intro w'
                  go_simp
                  with_reducible rfl
                 rotate_left
                 ·simp only [Act.put, List.setIfInBounds_toArray, List.set_cons_zero, List.set_cons_succ, i64_w, i32_w]
                  rfl
                 refine done_ (done_of HT_.out (by kernel_rfl)) ?_
                 try go_wp2
                 go_roundg k1
                 case measure => have := HK1.out; omega
                 case rel => exact ⟨(y201), (y209), H', ⟨by have := HK1.out; omega⟩, ⟨by (with_reducible repeat (first | apply Kd.R_alloc | apply Kd.R_drewN | apply Kd.R_drew)); exact HO_5.out⟩, ⟨Kd.Q_of_R (by (with_reducible repeat (first | apply Kd.R_alloc | apply Kd.R_drewN | apply Kd.R_drew)); exact Kd.R_mono HO211.out (fun _ hk => trivial))⟩, ⟨BL BK185⟩, ⟨BB HB⟩⟩
                ·rw [if_neg c29] at H
                 exact absurd H (by simp)
               ·rw [if_neg c28] at H
                exact absurd H (by simp)
              ·rw [if_neg c27] at H
               exact absurd H (by simp)
            ·rw [if_neg c20] at H
             exact absurd H (by simp)
           ·rw [if_neg c19] at H
            exact absurd H (by simp)
          ·rw [if_neg c18] at H
           exact absurd H (by simp)
         ·rw [if_neg c17] at H
          exact absurd H (by simp)
        ·rw [if_neg c16] at H
         have c16b0 : decide (0 < (x6_1.length : Int)) = false := decide_eq_false c16
         have c16b1 : decide (0 < x6_1.length) = false := decide_eq_false (by omega)
         clear c16
         obtain rfl := Option.some.inj H
         obtain ⟨Ao40, co40, eo40, _⟩ := Kd.Q_slice HO_6.out
         subst eo40
         go_wp2
         go_ret
         exact ⟨_, by first | rfl | (simp [errW_none, errW_some] <;> rfl) | (simp [*, errW_none, errW_some] <;> rfl), by (with_reducible repeat (first | apply Kd.R_alloc | apply Kd.R_drewN | apply Kd.R_drew)); exact HO_5.out, BB HB⟩
     ·rw [if_neg c7] at H
      exact absurd H (by simp)
    ·rw [if_neg c6] at H
     exact absurd H (by simp)
   ·rw [if_neg c5] at H
    exact absurd H (by simp)
  ·rw [if_neg c4] at H
   exact absurd H (by simp)
 ·rw [if_neg c3] at H
  exact absurd H (by simp)

end Go.Proofs.Ytlfjjapndlkamaa.GA
