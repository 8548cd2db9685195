-- Printed by a program of the session (wip/gen/tprint.py, over a turned copy of the kit's print): Lean checks it.
import Derived.Test.YtlfjjapndlkamaaCtGHx0
namespace Go.Proofs.Ytlfjjapndlkamaa.GH
open Go.RowKit Go.Proofs.YtlfjjapndlkamaaW.PrintWords Go.Proofs.YtlfjjapndlkamaaW.PrintLast Go.Proofs.YtlfjjapndlkamaaW.PrintMore
attribute [local go_sem] max2_int min2_int max_two min_two max_three min_three max_four min_four   -- for this text's walks alone
set_option linter.unusedVariables false
set_option linter.unusedSimpArgs false

/-! ### dioramaref09_Led: function 38 -/
def dioramaref09_Led.l0 : Nat → List Bool → List Int → List (S40) → Int → Option (List Bool)
 | 0, _, _, _, _ => none
 | k + 1, x5, x6, x219000, x219001 => if (x6.length : Int) > 0 then (if 0 < (x6.length : Int) then (if 1 ≤ (x6.length : Int) then ((some (x6.drop (1 : Int).toNat : List Int)).bind fun y230 => (if 0 ≤ (rd x6 0) then (if (rd x6 0) < (x5.length : Int) then (if (rdOf false x5 (rd x6 0) = true) then (dioramaref09_Led.l0 k x5 y230 x219000 x219001) else ((some (([] : List Int) : List Int)).bind fun y235 => (if y235.length + y230.length < 17592186044416 then ((some (y235 ++ y230 : List Int)).bind fun y238 => (if (rd x6 0) < (x219000.length : Int) then (if y238.length + ((rd_T40 x219000 (rd x6 0)).f3).length < 17592186044416 then (dioramaref09_Led.l0 k (x5.set ((rd x6 0) : Int).toNat true) (y238 ++ ((rd_T40 x219000 (rd x6 0)).f3)) x219000 x219001) else (none)) else (none))) else (none)))) else (none)) else (none))) else (none)) else (none)) else (some x5)
def dioramaref09_Led.f (k : Nat) (l0_0 : List (S40)) (a0_1 : Int) (a1 : Int) : Option (List Bool) := if 0 ≤ (l0_0.length : Int) then (if ((l0_0.length : Int) : Int).toNat ≤ 281474976710656 then ((some (([] : List Int) : List Int)).bind fun y222 => (if 0 ≤ a1 then (if a1 < (l0_0.length : Int) then (if y222.length + ((rd_T40 l0_0 a1).f3).length < 17592186044416 then (dioramaref09_Led.l0 k (List.replicate ((l0_0.length : Int) : Int).toNat false) (y222 ++ ((rd_T40 l0_0 a1).f3)) l0_0 a0_1) else (none)) else (none)) else (none))) else (none)) else (none)
def dioramaref09_Led.T8 : Bool × List (List Nat × List Nat) := (true, [([], []), ([], []), ([0, 1], [0, 1]), ([], []), ([3], [3]), ([], []), ([4, 5], [4, 5]), ([6], [6]), ([7], [7]), ([2, 8, 2], [2, 8]), ([9, 9, 0, 1, 2, 3, 4, 5, 6, 7, 8, 9], [1, 9])])
def dioramaref09_Led.B8 : List Nat := [0, 0, 3, 0, 8, 0, 56, 120, 248, 511, 1023]
theorem dioramaref09_Led.tab8 : rtab .any (opsOf Try.f38 8) = dioramaref09_Led.T8 := by kernel_rfl
theorem dioramaref09_Led.bits8 : waitsOk dioramaref09_Led.T8.2 dioramaref09_Led.B8 = true := by kernel_rfl
set_option maxHeartbeats 8000000 in
set_option maxRecDepth 100000 in
theorem dioramaref09_Led.calls (k : Nat) (A0_0 : Option Addr) (c0_0 : Nat) (l0_0 : List (S40)) (a0_1 : Int) (a1 : Int) (r : List Bool) (w : World) (hr0_0 : Kd.C k40 w A0_0 l0_0.length l0_0) (hc0_0 : l0_0.length ≤ c0_0) (h : dioramaref09_Led.f k l0_0 a0_1 a1 = some r) :
  Calls Try.prog 38 #[.agg #[.slice A0_0 l0_0.length c0_0, .int .i64 a0_1], .int .i64 a1] w fun e w' => ∃ v0_ : Value, e = .returned (v0_) ∧ Kd.R Kd.bool 4 w' w.heap.size (fun _ => True) v0_ r ∧ Below w.heap.size w w' := by
 have hu24 := Try.underlying24; have HR0_0 := AM hr0_0; have HC0_0 := AM hc0_0; clear hr0_0 hc0_0; have HB := AM (Below.refl w.heap.size w); have H : (if 0 ≤ (l0_0.length : Int) then (if ((l0_0.length : Int) : Int).toNat ≤ 281474976710656 then ((some (([] : List Int) : List Int)).bind fun y222 => (if 0 ≤ a1 then (if a1 < (l0_0.length : Int) then (if y222.length + ((rd_T40 l0_0 a1).f3).length < 17592186044416 then (dioramaref09_Led.l0 k (List.replicate ((l0_0.length : Int) : Int).toNat false) (y222 ++ ((rd_T40 l0_0 a1).f3)) l0_0 a0_1) else (none)) else (none)) else (none))) else (none)) else (none)) = some r := h
 clear h; by_cases c3 : 0 ≤ (l0_0.length : Int)
 ·rw [if_pos c3] at H; have c3b0 := eq_true c3; have c3b1 : decide (0 ≤ (l0_0.length : Int)) = true := decide_eq_true c3; clear c3; by_cases c4 : ((l0_0.length : Int) : Int).toNat ≤ 281474976710656
  ·rw [if_pos c4] at H; have c4b0 := eq_true c4; have c4b1 : decide (((l0_0.length : Int) : Int).toNat ≤ 281474976710656) = true := decide_eq_true c4; clear c4; obtain ⟨y219, hy219⟩ : ∃ y_ : List Bool, y_ = (List.replicate ((l0_0.length : Int) : Int).toNat false) := ⟨_, rfl⟩; replace H : ((some (([] : List Int) : List Int)).bind fun y222 => (if 0 ≤ a1 then (if a1 < (l0_0.length : Int) then (if y222.length + ((rd_T40 l0_0 a1).f3).length < 17592186044416 then (dioramaref09_Led.l0 k y219 (y222 ++ ((rd_T40 l0_0 a1).f3)) l0_0 a0_1) else (none)) else (none)) else (none))) = some r := by first | (rw [hy219]; with_reducible exact H) | (have H2_ := (Option.bind_some _ _).symm.trans H; rw [hy219]; with_reducible exact H2_) | (have H2_ := (Option.bind_some _ _).symm.trans H; with_reducible exact H2_) | with_reducible exact H | (rw [hy219]; exact H) | exact H
   have Ny219 := AM hy219; clear hy219; obtain ⟨y222, hy222⟩ : ∃ y_ : List Int, y_ = (([] : List Int)) := ⟨_, rfl⟩; replace H : (if 0 ≤ a1 then (if a1 < (l0_0.length : Int) then (if y222.length + ((rd_T40 l0_0 a1).f3).length < 17592186044416 then (dioramaref09_Led.l0 k y219 (y222 ++ ((rd_T40 l0_0 a1).f3)) l0_0 a0_1) else (none)) else (none)) else (none)) = some r := by first | (rw [hy222]; with_reducible exact H) | (have H2_ := (Option.bind_some _ _).symm.trans H; rw [hy222]; with_reducible exact H2_) | (have H2_ := (Option.bind_some _ _).symm.trans H; with_reducible exact H2_) | with_reducible exact H | (rw [hy222]; exact H) | exact H
   have Ny222 := AM hy222; clear hy222; by_cases c5 : 0 ≤ a1
   ·rw [if_pos c5] at H; have c5b0 : decide (0 ≤ a1) = true := decide_eq_true c5; clear c5; by_cases c6 : a1 < (l0_0.length : Int)
    ·rw [if_pos c6] at H; have c6b0 : decide (a1 < (l0_0.length : Int)) = true := decide_eq_true c6; clear c6; by_cases c7 : y222.length + ((rd_T40 l0_0 a1).f3).length < 17592186044416
     ·rw [if_pos c7] at H; have LMc7 := AM c7; clear c7; obtain ⟨y226, hy226⟩ : ∃ y_ : List Int, y_ = (y222 ++ ((rd_T40 l0_0 a1).f3)) := ⟨_, rfl⟩; replace H : (dioramaref09_Led.l0 k y219 y226 l0_0 a0_1) = some r := by first | (rw [hy226]; with_reducible exact H) | (have H2_ := (Option.bind_some _ _).symm.trans H; rw [hy226]; with_reducible exact H2_) | (have H2_ := (Option.bind_some _ _).symm.trans H; with_reducible exact H2_) | with_reducible exact H | (rw [hy226]; exact H) | exact H
      have Ny226 := AM hy226; clear hy226; have H' := AM H; clear H; go_enter Try.func38, Try.ntmps38
      go_wp2_with (first | ((with_reducible refine gate_dst (N := 2) rfl ?_); refine box_event ?hg (N := 2) ?hd (cs := #[.slice A0_0 l0_0.length c0_0, .int .i64 a0_1]) (t := 24) ?hr ?_; (case hd => rfl); (case hg => rfl); (case hr => first | (go_simp; done) | (go_simp; rfl)); intro gb218 hg w8 hbox hb; have BK218 := AM (hbox); have GW218 := GW HB hg; have GE218 := GW HB hg; replace HB := BS HB hb; clear hb hbox hg; have hcz9_0 := BC BK218 0 (.slice A0_0 l0_0.length c0_0) rfl; have hcz9_1 := BC BK218 1 (.int .i64 a0_1) rfl; have hfz9_0 := BF BK218 0; have hfz9_1 := BF BK218 1) | ((with_reducible refine gate_dst (N := 11) rfl ?_); refine Kd.R_make Kd.bool _ 4 rfl (N := 11) rfl 50 _ _ rfl (l0_0.length : Int) rfl rfl Try.underlying50 (.bool false) 1 info4 rfl (by decide) (by omega) false (ok := fun _ => True) (okp := fun _ => True) rfl (fun _ hk => hk) trivial (of_decide_eq_true (by first | (with_reducible assumption) | assumption)) (Nat.le_trans (Nat.mul_le_mul_right _ (of_decide_eq_true (by first | (with_reducible assumption) | assumption) : (l0_0.length : Int).toNat ≤ 281474976710656)) (by omega)) (Below.refl _ _) (Nat.le_refl _) ?_; intro v220 w10 ho11 hb hg_ hnew_; clear hg_ hnew_; (first | rw [← Ny219.out] at ho11 | (simp only [Int.reduceToNat] at ho11; rw [← Ny219.out] at ho11)); have HO221 := AM (Kd.R_lower ho11 (below_size (BB HB))); replace BK218 := BE BK218 hb; replace HB := BS HB hb; clear hb ho11) | ((with_reducible refine gate_dst (N := 12) rfl ?_); refine Kd.R_lit (Kd.int .i64) _ 3 ?hg (N := 12) ?hd (xs := ([] : List Int)) (inner := []) (ok := fun _ => True) (okp := fun _ => True) ?hr ?hp (fun _ hk => hk) trivial (Below.refl _ _) (Nat.le_refl _) (by simp) ?_; (case hd => rfl); (case hg => rfl); (case hr => first | (go_simp; done) | (go_simp; rfl)); (case hp => exact (Reps.none _ _)); intro v223 w12 ho13 hb hg_ hnew_; clear hg_ hnew_; (first | rw [← Ny222.out] at ho13 | (simp only [Int.reduceToNat] at ho13; rw [← Ny222.out] at ho13)); replace HO221 := AM (Kd.R_below (RL HO221) hb); have HO224 := AM (Kd.R_lower ho13 (below_size (BB HB))); replace BK218 := BE BK218 hb; replace HB := BS HB hb; clear hb ho13; have hcz14_0 := BC BK218 0 (.slice A0_0 l0_0.length c0_0) rfl; have hcz14_1 := BC BK218 1 (.int .i64 a0_1) rfl; have hfz14_0 := BF BK218 0; have hfz14_1 := BF BK218 1; have p225 : 0 ≤ (a1 : Int) := of_decide_eq_true (by first | (with_reducible assumption) | assumption); have q225 : a1 < (l0_0.length : Int) := of_decide_eq_true (by first | (with_reducible assumption) | assumption); obtain ⟨ad225, A225_1, c225_1, A225_2, c225_2, A225_3, c225_3, e225, hx225_0, hx225_1, hx225_2, hx225_3, hl225_1, hi225_1, hl225_2, hi225_2, hl225_3, hi225_3⟩ := at_T40 HR0_0.out a1 p225 q225; cases e225; replace hx225_0 := (HB.out.cell (World.block_lt_of_cell? w _ hx225_0)).trans hx225_0; replace hx225_1 := (HB.out.cell (World.block_lt_of_cell? w _ hx225_1)).trans hx225_1; replace hx225_2 := (HB.out.cell (World.block_lt_of_cell? w _ hx225_2)).trans hx225_2; replace hx225_3 := (HB.out.cell (World.block_lt_of_cell? w _ hx225_3)).trans hx225_3; have HR225_1 := AM hi225_1; have HC225_1 := AM hl225_1; clear hi225_1 hl225_1; have HR225_2 := AM hi225_2; have HC225_2 := AM hl225_2; clear hi225_2 hl225_2; have HR225_3 := AM hi225_3; have HC225_3 := AM hl225_3; clear hi225_3 hl225_3; replace p225 := eq_true p225; replace q225 := eq_true q225) | ((with_reducible refine gate_builtin (b := .append) (xs := #[.tmp 12, .tmp 18]) rfl ?_); at_builtin; refine Kd.R_append_rows (Kd.int .i64) (w0 := w) w.heap.size rfl (.tmp 12) (.tmp 18) 31 3 (.int .i64 0) 8 rfl Try.underlying31 info3 rfl (by decide) (by omega) v223 y222 ((rd_T40 l0_0 a1).f3) _ _ _ (fun _ => True) (fun _ => False) rfl rfl ?aO ?aR (fun _ _ h => h) (fun _ h => h.elim) ?aF ?aB ?aS ?aL ?_; (case aR => repeat (first | exact (Kd.C_below HR225_3.out HB.out) | (with_reducible refine Kd.C_alloc ?_ _) | (with_reducible refine Kd.C_drewN ?_ _) | (with_reducible refine Kd.C_drew ?_))); (case aB => exact (BB HB)); (case aF => exact (fun _ _ => trivial)); (case aO => exact (RL HO224)); (case aS => exact (below_size (BB HB))); (case aL => have := LMc7.out; omega); intro v227 w15 ho hb hg hat; rw [← Ny226.out] at ho; replace BK218 := AM (blk_grown (g := gb218) (o := .cells #[.slice (some ad225) l0_0.length c0_0, .int .i64 a0_1] 24 (0, 0)) (BL BK218) hg (Kd.R_ne HO224.out BK218.out (by decide))); replace HO221 := AM (Kd.R_over' (RL HO221) (Kd.R_typed (RL HO224)) (by decide) hg); replace HB := AM (hb); have HO228 := AM (ho); clear HO224; clear ho hb hg hat))
      go_loopg [6] k (fun kq v6 w' => ∃ (x5_1 : List Bool) (x6_1 : List Int), Aside0 (dioramaref09_Led.l0 kq x5_1 x6_1 l0_0 a0_1 = some r) ∧ Aside0 (kq ≤ k) ∧ Aside0 (Kd.R Kd.bool 4 w' w.heap.size (fun _ => True) v220 x5_1) ∧ Aside0 (Kd.Q (Kd.int .i64) 3 w' w.heap.size (fun _ => True) v6 x6_1) ∧ Aside0 (w'.heap[gb218]? = some (.cells #[(.slice (some ad225) l0_0.length c0_0), .int .i64 a0_1] 24 (0, 0))) ∧ Aside0 (Below w.heap.size w w'))
      case atStart => exact ⟨(y219), (y226), H', ⟨Nat.le_refl _⟩, ⟨by (with_reducible repeat (first | apply Kd.R_alloc | apply Kd.R_drewN | apply Kd.R_drew)); exact HO221.out⟩, ⟨Kd.Q_of_R (RL HO228)⟩, ⟨BL BK218⟩, ⟨BB HB⟩⟩
      case round =>
       clear H'; try clear c2
       try clear p2
       try clear q2
       try clear hx2
       try clear c3
       try clear c3b0
       try clear c3b1
       try clear c4
       try clear c4b0
       try clear c4b1
       try clear c5
       try clear c5b0
       try clear c6
       try clear c6b0
       try clear c7
       try clear hcz14_0
       try clear hcz14_1
       try clear hcz9_0
       try clear hcz9_1
       try clear hfz14_0
       try clear hfz14_1
       try clear hfz9_0
       try clear hfz9_1
       try clear hx225_0
       try clear hx225_1
       try clear hx225_2
       try clear hx225_3
       try clear p225
       try clear q225
       obtain ⟨x5_1, x6_1, HA, HK1, HO_5, HO_6, BK218, HB⟩ := hrel; cases gk with
       | zero => exact absurd HA.out (by simp [dioramaref09_Led.l0])
       | succ k1 =>
        have H := HA.out; clear HA; simp only [dioramaref09_Led.l0] at H
        by_cases c16 : (x6_1.length : Int) > 0
        ·rw [if_pos c16] at H; have c16b0 : decide (0 < (x6_1.length : Int)) = true := decide_eq_true c16; have c16b1 : decide (0 < x6_1.length) = true := decide_eq_true (by omega)
         clear c16; by_cases c17 : 0 < (x6_1.length : Int)
         ·rw [if_pos c17] at H; have c17b0 : decide (0 < (x6_1.length : Int)) = true := decide_eq_true c17; have c17b1 : decide (0 < x6_1.length) = true := decide_eq_true (by omega)
          clear c17; by_cases c18 : 1 ≤ (x6_1.length : Int)
          ·rw [if_pos c18] at H; have c18b0 := eq_true c18; have c18b1 : decide (1 ≤ (x6_1.length : Int)) = true := decide_eq_true c18; clear c18; obtain ⟨y230, hy230⟩ : ∃ y_ : List Int, y_ = (x6_1.drop (1 : Int).toNat) := ⟨_, rfl⟩; replace H : (if 0 ≤ (rd x6_1 0) then (if (rd x6_1 0) < (x5_1.length : Int) then (if (rdOf false x5_1 (rd x6_1 0) = true) then (dioramaref09_Led.l0 k1 x5_1 y230 l0_0 a0_1) else ((some (([] : List Int) : List Int)).bind fun y235 => (if y235.length + y230.length < 17592186044416 then ((some (y235 ++ y230 : List Int)).bind fun y238 => (if (rd x6_1 0) < (l0_0.length : Int) then (if y238.length + ((rd_T40 l0_0 (rd x6_1 0)).f3).length < 17592186044416 then (dioramaref09_Led.l0 k1 (x5_1.set ((rd x6_1 0) : Int).toNat true) (y238 ++ ((rd_T40 l0_0 (rd x6_1 0)).f3)) l0_0 a0_1) else (none)) else (none))) else (none)))) else (none)) else (none)) = some r := by first | (rw [hy230]; with_reducible exact H) | (have H2_ := (Option.bind_some _ _).symm.trans H; rw [hy230]; with_reducible exact H2_) | (have H2_ := (Option.bind_some _ _).symm.trans H; with_reducible exact H2_) | with_reducible exact H | (rw [hy230]; exact H) | exact H
           have Ny230 := AM hy230; clear hy230; by_cases c19 : 0 ≤ (rd x6_1 0)
           ·rw [if_pos c19] at H; have c19b0 : decide (0 ≤ (rd x6_1 0)) = true := decide_eq_true c19; clear c19; by_cases c20 : (rd x6_1 0) < (x5_1.length : Int)
            ·rw [if_pos c20] at H; have c20b0 : decide ((rd x6_1 0) < (x5_1.length : Int)) = true := decide_eq_true c20; clear c20; obtain ⟨bq21, hbq21⟩ : ∃ b_ : Bool, b_ = (rdOf false x5_1 (rd x6_1 0)) := ⟨_, rfl⟩; replace H : (if (bq21 = true) then (dioramaref09_Led.l0 k1 x5_1 y230 l0_0 a0_1) else ((some (([] : List Int) : List Int)).bind fun y235 => (if y235.length + y230.length < 17592186044416 then ((some (y235 ++ y230 : List Int)).bind fun y238 => (if (rd x6_1 0) < (l0_0.length : Int) then (if y238.length + ((rd_T40 l0_0 (rd x6_1 0)).f3).length < 17592186044416 then (dioramaref09_Led.l0 k1 (x5_1.set ((rd x6_1 0) : Int).toNat true) (y238 ++ ((rd_T40 l0_0 (rd x6_1 0)).f3)) l0_0 a0_1) else (none)) else (none))) else (none)))) = some r := by rw [← hbq21] at H; exact H
             have Nbq21 := AM hbq21; clear hbq21; by_cases c22 : (bq21 = true)
             ·subst c22; have H1 : (dioramaref09_Led.l0 k1 x5_1 y230 l0_0 a0_1) = some r := by rw [if_pos rfl] at H; exact H
              clear H; have H := H1; clear H1; have H' := AM H; clear H; obtain ⟨Ao23, co23, eo23, _⟩ := Kd.Q_slice HO_6.out; subst eo23; have p229 : 0 ≤ (0 : Int) := (by omega)
              have q229 : 0 < (x6_1.length : Int) := of_decide_eq_true (by first | (with_reducible assumption) | assumption)
              obtain ⟨ad229, e229, hx229_0⟩ := Kd.at_int (Kd.Q_reads' HO_6.out).2.2 0 p229 q229; cases e229
              have qi229 : (0 < x6_1.length) = True := eq_true (by omega)
              (try rw [show ((0 : Int)).toNat = 0 from rfl] at hx229_0)
              (try rw [Addr.add_zero'] at hx229_0)
              replace p229 := eq_true p229; replace q229 := eq_true q229; have q24 : (1 : Int) ≤ ((x6_1.length : Int) : Int) := of_decide_eq_true (by first | (with_reducible assumption) | assumption)
              obtain ⟨i024, hi024, _, hsz24, _⟩ := info_parts info3; have hcut24 := cut_from (P := Try.prog) 31 3 .i64 Try.underlying31 hi024 1 hsz24 (some ad229) x6_1.length co23 1 (by omega) q24
              have hr24 := Kd.Q_drop (k := (1 : Int).toNat) HO_6.out (by omega)
              obtain ⟨A24, hA24⟩ : ∃ A1, A1 = (if co23 = (1 : Int).toNat then (some ad229) else ((some ad229) : Option Addr).map (·.add ((1 : Int).toNat * 1))) := ⟨_, rfl⟩
              obtain ⟨c24, hc24⟩ : ∃ c1, c1 = co23 - (1 : Int).toNat := ⟨_, rfl⟩; have hy24 : y230.length = x6_1.length - (1 : Int).toNat := (by rw [Ny230.out, List.length_drop])
              rw [← Ny230.out] at hr24; rw [← hy24, ← hA24, ← hc24] at hcut24; replace hr24 : Kd.Q (Kd.int .i64) 3 wr w.heap.size (fun _ => True) (.slice A24 y230.length c24) y230 := (by rw [hA24, hc24, hy24]; exact hr24)
              have HE24 : Aside0 ((Value.slice A24 y230.length c24).ownBlock = (.slice (some ad229) x6_1.length co23 : Value).ownBlock) := ⟨by rw [hA24]; split <;> (cases ((some ad229) : Option Addr) <;> rfl)⟩
              clear hy24 hi024 hsz24 HO_6 hA24 hc24; have HO232 := AM hr24; clear hr24; replace q24 := eq_true q24; obtain ⟨Ao25, co25, eo25⟩ := Kd.R_slice HO_5.out; subst eo25; have p233 : 0 ≤ ((rd x6_1 0) : Int) := of_decide_eq_true (by first | (with_reducible assumption) | assumption)
              have q233 : (rd x6_1 0) < (x5_1.length : Int) := of_decide_eq_true (by first | (with_reducible assumption) | assumption)
              obtain ⟨ad233, e233, hx233_0⟩ := Kd.at_bool (Kd.R_reads' HO_5.out).2.2 (rd x6_1 0) p233 q233; (try rw [← Nbq21.out] at hx233_0)
              cases e233
              replace p233 := eq_true p233; replace q233 := eq_true q233; go_wp2
              go_roundg k1
              case measure => have := HK1.out; omega
              case rel => exact ⟨(x5_1), (y230), H', ⟨by have := HK1.out; omega⟩, ⟨by (with_reducible repeat (first | apply Kd.R_alloc | apply Kd.R_drewN | apply Kd.R_drew)); exact HO_5.out⟩, ⟨by (with_reducible repeat (first | apply Kd.Q_alloc | apply Kd.Q_drewN | apply Kd.Q_drew)); exact HO232.out⟩, ⟨BL BK218⟩, ⟨BB HB⟩⟩
             ·replace c22 := Bool.eq_false_iff.mpr c22; subst c22; have H1 : ((some (([] : List Int) : List Int)).bind fun y235 => (if y235.length + y230.length < 17592186044416 then ((some (y235 ++ y230 : List Int)).bind fun y238 => (if (rd x6_1 0) < (l0_0.length : Int) then (if y238.length + ((rd_T40 l0_0 (rd x6_1 0)).f3).length < 17592186044416 then (dioramaref09_Led.l0 k1 (x5_1.set ((rd x6_1 0) : Int).toNat true) (y238 ++ ((rd_T40 l0_0 (rd x6_1 0)).f3)) l0_0 a0_1) else (none)) else (none))) else (none))) = some r := by rw [if_neg (show ¬ (false = true) by decide)] at H; exact H
              clear H; have H := H1; clear H1; obtain ⟨y234, hy234⟩ : ∃ y_ : List Bool, y_ = (x5_1.set ((rd x6_1 0) : Int).toNat true) := ⟨_, rfl⟩; replace H : ((some (([] : List Int) : List Int)).bind fun y235 => (if y235.length + y230.length < 17592186044416 then ((some (y235 ++ y230 : List Int)).bind fun y238 => (if (rd x6_1 0) < (l0_0.length : Int) then (if y238.length + ((rd_T40 l0_0 (rd x6_1 0)).f3).length < 17592186044416 then (dioramaref09_Led.l0 k1 y234 (y238 ++ ((rd_T40 l0_0 (rd x6_1 0)).f3)) l0_0 a0_1) else (none)) else (none))) else (none))) = some r := by first | (rw [hy234]; with_reducible exact H) | (have H2_ := (Option.bind_some _ _).symm.trans H; rw [hy234]; with_reducible exact H2_) | (have H2_ := (Option.bind_some _ _).symm.trans H; with_reducible exact H2_) | with_reducible exact H | (rw [hy234]; exact H) | exact H
              have Ny234 := AM hy234; clear hy234; obtain ⟨y235, hy235⟩ : ∃ y_ : List Int, y_ = (([] : List Int)) := ⟨_, rfl⟩; replace H : (if y235.length + y230.length < 17592186044416 then ((some (y235 ++ y230 : List Int)).bind fun y238 => (if (rd x6_1 0) < (l0_0.length : Int) then (if y238.length + ((rd_T40 l0_0 (rd x6_1 0)).f3).length < 17592186044416 then (dioramaref09_Led.l0 k1 y234 (y238 ++ ((rd_T40 l0_0 (rd x6_1 0)).f3)) l0_0 a0_1) else (none)) else (none))) else (none)) = some r := by first | (rw [hy235]; with_reducible exact H) | (have H2_ := (Option.bind_some _ _).symm.trans H; rw [hy235]; with_reducible exact H2_) | (have H2_ := (Option.bind_some _ _).symm.trans H; with_reducible exact H2_) | with_reducible exact H | (rw [hy235]; exact H) | exact H
              have Ny235 := AM hy235; clear hy235; by_cases c27 : y235.length + y230.length < 17592186044416
              ·rw [if_pos c27] at H; have LMc27 := AM c27; clear c27; obtain ⟨y238, hy238⟩ : ∃ y_ : List Int, y_ = (y235 ++ y230) := ⟨_, rfl⟩; replace H : (if (rd x6_1 0) < (l0_0.length : Int) then (if y238.length + ((rd_T40 l0_0 (rd x6_1 0)).f3).length < 17592186044416 then (dioramaref09_Led.l0 k1 y234 (y238 ++ ((rd_T40 l0_0 (rd x6_1 0)).f3)) l0_0 a0_1) else (none)) else (none)) = some r := by first | (rw [hy238]; with_reducible exact H) | (have H2_ := (Option.bind_some _ _).symm.trans H; rw [hy238]; with_reducible exact H2_) | (have H2_ := (Option.bind_some _ _).symm.trans H; with_reducible exact H2_) | with_reducible exact H | (rw [hy238]; exact H) | exact H
               have Ny238 := AM hy238; clear hy238; by_cases c28 : (rd x6_1 0) < (l0_0.length : Int)
               ·rw [if_pos c28] at H; have c28b0 : decide ((rd x6_1 0) < (l0_0.length : Int)) = true := decide_eq_true c28; clear c28; by_cases c29 : y238.length + ((rd_T40 l0_0 (rd x6_1 0)).f3).length < 17592186044416
                ·rw [if_pos c29] at H; have LMc29 := AM c29; clear c29; obtain ⟨y242, hy242⟩ : ∃ y_ : List Int, y_ = (y238 ++ ((rd_T40 l0_0 (rd x6_1 0)).f3)) := ⟨_, rfl⟩; replace H : (dioramaref09_Led.l0 k1 y234 y242 l0_0 a0_1) = some r := by first | (rw [hy242]; with_reducible exact H) | (have H2_ := (Option.bind_some _ _).symm.trans H; rw [hy242]; with_reducible exact H2_) | (have H2_ := (Option.bind_some _ _).symm.trans H; with_reducible exact H2_) | with_reducible exact H | (rw [hy242]; exact H) | exact H
                 have Ny242 := AM hy242; clear hy242; have H' := AM H; clear H; obtain ⟨Ao30, co30, eo30, _⟩ := Kd.Q_slice HO_6.out; subst eo30; have p229 : 0 ≤ (0 : Int) := (by omega)
                 have q229 : 0 < (x6_1.length : Int) := of_decide_eq_true (by first | (with_reducible assumption) | assumption)
                 obtain ⟨ad229, e229, hx229_0⟩ := Kd.at_int (Kd.Q_reads' HO_6.out).2.2 0 p229 q229; cases e229
                 have qi229 : (0 < x6_1.length) = True := eq_true (by omega)
                 (try rw [show ((0 : Int)).toNat = 0 from rfl] at hx229_0)
                 (try rw [Addr.add_zero'] at hx229_0)
                 replace p229 := eq_true p229; replace q229 := eq_true q229; have q31 : (1 : Int) ≤ ((x6_1.length : Int) : Int) := of_decide_eq_true (by first | (with_reducible assumption) | assumption)
                 obtain ⟨i031, hi031, _, hsz31, _⟩ := info_parts info3; have hcut31 := cut_from (P := Try.prog) 31 3 .i64 Try.underlying31 hi031 1 hsz31 (some ad229) x6_1.length co30 1 (by omega) q31
                 have hr31 := Kd.Q_drop (k := (1 : Int).toNat) HO_6.out (by omega)
                 obtain ⟨A31, hA31⟩ : ∃ A1, A1 = (if co30 = (1 : Int).toNat then (some ad229) else ((some ad229) : Option Addr).map (·.add ((1 : Int).toNat * 1))) := ⟨_, rfl⟩
                 obtain ⟨c31, hc31⟩ : ∃ c1, c1 = co30 - (1 : Int).toNat := ⟨_, rfl⟩; have hy31 : y230.length = x6_1.length - (1 : Int).toNat := (by rw [Ny230.out, List.length_drop])
                 rw [← Ny230.out] at hr31; rw [← hy31, ← hA31, ← hc31] at hcut31; replace hr31 : Kd.Q (Kd.int .i64) 3 wr w.heap.size (fun _ => True) (.slice A31 y230.length c31) y230 := (by rw [hA31, hc31, hy31]; exact hr31)
                 have HE31 : Aside0 ((Value.slice A31 y230.length c31).ownBlock = (.slice (some ad229) x6_1.length co30 : Value).ownBlock) := ⟨by rw [hA31]; split <;> (cases ((some ad229) : Option Addr) <;> rfl)⟩
                 clear hy31 hi031 hsz31 HO_6 hA31 hc31; have HO232 := AM hr31; clear hr31; replace q31 := eq_true q31; obtain ⟨Ao32, co32, eo32⟩ := Kd.R_slice HO_5.out; subst eo32; have p233 : 0 ≤ ((rd x6_1 0) : Int) := of_decide_eq_true (by first | (with_reducible assumption) | assumption)
                 have q233 : (rd x6_1 0) < (x5_1.length : Int) := of_decide_eq_true (by first | (with_reducible assumption) | assumption)
                 obtain ⟨ad233, e233, hx233_0⟩ := Kd.at_bool (Kd.R_reads' HO_5.out).2.2 (rd x6_1 0) p233 q233; (try rw [← Nbq21.out] at hx233_0)
                 cases e233
                 replace p233 := eq_true p233; replace q233 := eq_true q233; have p26 : 0 ≤ ((rd x6_1 0) : Int) := of_decide_eq_true (by first | (with_reducible assumption) | assumption)
                 have q26 : ((rd x6_1 0) : Int) < ((x5_1.length : Int) : Int) := of_decide_eq_true (by first | (with_reducible assumption) | assumption)
                 obtain ⟨go26, co26, eo26, gb26, gl26, cl26, HG26⟩ := Kd.R_form HO_5.out (by omega)
                 (first | cases eo26 | (injection eo26 with ea_ en_ ec_; (first | subst ea_ | (injection ea_ with ea_; subst ea_)); subst ec_; clear en_))
                 have GB26 := AM gb26; have GG26 := AM HG26; clear gb26 gl26 HG26; (first | simp only [add_plain] at hx233_0 | skip)
                 obtain ⟨hx26_0, hf26_0⟩ := Kd.R_celln false HO_5.out ((rd x6_1 0) : Int) p26 q26; replace p26 := eq_true p26; replace q26 := eq_true q26; have HP33 := Kd.R_putg HO_5.out ((rd x6_1 0) : Int) true; try go_wp2_with (first | ((with_reducible refine gate_store (t := 4) (p := 35) rfl ?_); refine store_event (t := 4) (p := 35) (v := ?vo_w34) (w1 := (wr.setCell ⟨go26, ((rd x6_1 0) : Int).toNat, none⟩ (.bool true))) ?hg ?ho ?hn ?hr ?_; (case ho => rfl); (case hg => rfl); (case hn => rfl); (case hr => first | (go_simp; done) | (go_simp; rfl)); intro w34 hw; have hg : wr.grownBy w34 (some go26) := (by rw [hw]; exact HP33.2); have hp_ : Kd.R Kd.bool 4 w34 w.heap.size (fun _ => True) (.slice (some ⟨go26, 0, none⟩) x5_1.length co32) y234 := (by rw [hw, Ny234.out]; exact HP33.1); clear HP33; replace HO232 := AM (Kd.Q_over' (v := (.slice (some ⟨go26, 0, none⟩) x5_1.length co32)) (by (with_reducible repeat (first | apply Kd.Q_alloc | apply Kd.Q_drewN | apply Kd.Q_drew)); exact HO232.out) (Kd.R_typed HO_5.out) (by decide) hg); replace BK218 := AM (blk_grown (g := gb218) (o := .cells #[.slice (some ad225) l0_0.length c0_0, .int .i64 a0_1] 24 (0, 0)) (BL BK218) hg (Kd.R_ne HO_5.out BK218.out (by decide))); replace HO_5 := AM (hp_); replace HB := AM ((by rw [hw]; exact below_set (HB.out) GB26.out : Below w.heap.size w w34)); clear hg hw hp_))
                 replace HO_5 := AM (Kd.R_drew HO_5.out); replace HO232 := AM (Kd.Q_drew HO232.out); replace BK218 := AM (blk_drew BK218.out); replace HB := AM (below_drew1 HB.out); have p241 : 0 ≤ ((rd x6_1 0) : Int) := of_decide_eq_true (by first | (with_reducible assumption) | assumption)
                 have q241 : (rd x6_1 0) < (l0_0.length : Int) := of_decide_eq_true (by first | (with_reducible assumption) | assumption)
                 obtain ⟨ad241, A241_1, c241_1, A241_2, c241_2, A241_3, c241_3, e241, hx241_0, hx241_1, hx241_2, hx241_3, hl241_1, hi241_1, hl241_2, hi241_2, hl241_3, hi241_3⟩ := at_T40 HR0_0.out (rd x6_1 0) p241 q241; have hw241_3 := hx241_3; have hw241_2 := hx241_2; have hw241_1 := hx241_1; have hw241_0 := hx241_0; obtain rfl : ad225 = ad241 := (by injection e241)
                 replace hx241_0 := (HB.out.cell (World.block_lt_of_cell? w _ hx241_0)).trans hx241_0; replace hx241_1 := (HB.out.cell (World.block_lt_of_cell? w _ hx241_1)).trans hx241_1; replace hx241_2 := (HB.out.cell (World.block_lt_of_cell? w _ hx241_2)).trans hx241_2; replace hx241_3 := (HB.out.cell (World.block_lt_of_cell? w _ hx241_3)).trans hx241_3; have HR241_1 := AM hi241_1; have HC241_1 := AM hl241_1; clear hi241_1 hl241_1; have HR241_2 := AM hi241_2; have HC241_2 := AM hl241_2; clear hi241_2 hl241_2; have HR241_3 := AM hi241_3; have HC241_3 := AM hl241_3; clear hi241_3 hl241_3; replace p241 := eq_true p241; replace q241 := eq_true q241; refine start_ (n := 11) (S := fun w' => w'.cell? ⟨gb218, 0, none⟩ = some (.slice (some ad225) l0_0.length c0_0) ∧ w'.cell? ⟨gb218, 1, none⟩ = some (.int .i64 a0_1) ∧ w'.cell? (ad225.add (((rd x6_1 0)).toNat * 4)) = some (.int .i64 ((rd_T40 l0_0 (rd x6_1 0)).f0)) ∧ w'.cell? ⟨(ad225.add (((rd x6_1 0)).toNat * 4)).block, (ad225.add (((rd x6_1 0)).toNat * 4)).off + 1, none⟩ = some (.slice A241_1 ((rd_T40 l0_0 (rd x6_1 0)).f1).length c241_1) ∧ w'.cell? ⟨(ad225.add (((rd x6_1 0)).toNat * 4)).block, (ad225.add (((rd x6_1 0)).toNat * 4)).off + 2, none⟩ = some (.slice A241_2 ((rd_T40 l0_0 (rd x6_1 0)).f2).length c241_2) ∧ w'.cell? ⟨(ad225.add (((rd x6_1 0)).toNat * 4)).block, (ad225.add (((rd x6_1 0)).toNat * 4)).off + 3, none⟩ = some (.slice A241_3 ((rd_T40 l0_0 (rd x6_1 0)).f3).length c241_3)) (ds := []) #[false, false, false, false, false, false, false, false, false, false, false] (by kernel_rfl) rfl rfl ⟨(blk_cell BK218.out 0).trans rfl, (blk_cell BK218.out 1).trans rfl, ((HB.out.cell (World.block_lt_of_cell? w _ hw241_0)).trans hw241_0), ((HB.out.cell (World.block_lt_of_cell? w _ hw241_1)).trans hw241_1), ((HB.out.cell (World.block_lt_of_cell? w _ hw241_2)).trans hw241_2), ((HB.out.cell (World.block_lt_of_cell? w _ hw241_3)).trans hw241_3)⟩ (fun hHeld => ?_); refine with_tabW dioramaref09_Led.tab8 dioramaref09_Led.bits8 (fun HT_ HW_ => ?_)
                 generalize w34.drew = w35 at HO_5 HO232 BK218 HB HR241_1 HR241_2 HR241_3 hx241_0 hx241_1 hx241_2 hx241_3 hHeld ⊢
                 refine pure_ (i := 1) (N := some 37) (v := ?_) (a' := ?_) #[false, true, false, false, false, false, false, false, false, false, false] rfl rfl (any_of HT_.out (by kernel_rfl)) (fun _ _ _ h => h) (Or.inl ⟨by rfl, ?_⟩) ?_ ?_
                 rotate_left
                 ·intro w'
                  go_simp
                  with_reducible rfl
                 rotate_left
                 ·simp only [Act.put, List.setIfInBounds_toArray, List.set_cons_zero, List.set_cons_succ, i64_w, i32_w]
                  rfl
                 refine pure_ (i := 3) (N := some 39) (v := ?_) (a' := ?_) #[false, true, false, true, false, false, false, false, false, false, false] rfl rfl (any_of HT_.out (by kernel_rfl)) (fun _ _ _ h => h) (Or.inl ⟨by rfl, ?_⟩) ?_ ?_
                 rotate_left
                 ·intro w'
                  go_simp
                  with_reducible rfl
                 rotate_left
                 ·simp only [Act.put, List.setIfInBounds_toArray, List.set_cons_zero, List.set_cons_succ, i64_w, i32_w]
                  rfl
                 refine pure_ (i := 5) (N := some 41) (v := ?_) (a' := ?_) #[false, true, false, true, false, true, false, false, false, false, false] rfl rfl (any_of HT_.out (by kernel_rfl)) (fun _ _ _ h => h) (Or.inl ⟨by rfl, ?_⟩) ?_ ?_
                 rotate_left
                 ·intro w'
                  go_simp
                  with_reducible rfl
                 rotate_left
                 ·simp only [Act.put, List.setIfInBounds_toArray, List.set_cons_zero, List.set_cons_succ, i64_w, i32_w]
                  rfl
                 refine take_ (i := 4) (N := some 40) (v := ?_) (a' := ?_) #[false, true, false, true, true, true, false, false, false, false, false] rfl rfl (take_ofW HT_.out HW_.out (by kernel_rfl)) (fun _ _ _ h => h) (Or.inl ⟨by rfl, ?_⟩) hHeld ?_ ?_
                 rotate_left
                 ·rintro w' ⟨s0, s1, s2, s3, s4, s5⟩
                  go_simp
                  with_reducible rfl
                 rotate_left
                 ·simp only [Act.put, List.setIfInBounds_toArray, List.set_cons_zero, List.set_cons_succ, i64_w, i32_w]
                  rfl
                 refine pure_ (i := 6) (N := some 42) (v := ?_) (a' := ?_) #[false, true, false, true, true, true, true, false, false, false, false] rfl rfl (any_of HT_.out (by kernel_rfl)) (fun _ _ _ h => h) (Or.inl ⟨by rfl, ?_⟩) ?_ ?_
                 rotate_left
                 ·intro w'
                  go_simp
                  with_reducible rfl
                 rotate_left
                 ·simp only [Act.put, List.setIfInBounds_toArray, List.set_cons_zero, List.set_cons_succ, i64_w, i32_w]
                  rfl
                 refine pure_ (i := 7) (N := some 43) (v := ?_) (a' := ?_) #[false, true, false, true, true, true, true, true, false, false, false] rfl rfl (any_of HT_.out (by kernel_rfl)) (fun _ _ _ h => h) (Or.inl ⟨by rfl, ?_⟩) ?_ ?_
                 rotate_left
                 ·intro w'
                  go_simp
                  with_reducible rfl
                 rotate_left
                 ·simp only [Act.put, List.setIfInBounds_toArray, List.set_cons_zero, List.set_cons_succ, i64_w, i32_w]
                  rfl
                 refine take_ (i := 8) (N := some 44) (v := ?_) (a' := ?_) #[false, true, false, true, true, true, true, true, true, false, false] rfl rfl (take_ofW HT_.out HW_.out (by kernel_rfl)) (fun _ _ _ h => h) (Or.inl ⟨by rfl, ?_⟩) hHeld ?_ ?_
                 rotate_left
                 ·rintro w' ⟨s0, s1, s2, s3, s4, s5⟩
                  go_simp
                  with_reducible rfl
                 rotate_left
                 ·simp only [Act.put, List.setIfInBounds_toArray, List.set_cons_zero, List.set_cons_succ, i64_w, i32_w]
                  rfl
                 refine one_ (i := 0) (N := some 36) #[true, true, false, true, true, true, true, true, true, false, false] rfl rfl (one_of HT_.out (by kernel_rfl)) (by decide) (fun K hK => ?_)
                 refine Kd.R_lit_step (Kd.int .i64) _ 3 ?hg (N := 36) ?hd (xs := ([] : List Int)) (inner := []) (ok := fun _ => True) (okp := fun _ => True) ?hr ?hp (fun _ hk => hk) trivial (Below.refl _ _) (Nat.le_refl _) (by simp) ?_; (case hd => rfl); (case hg => rfl); (case hr => first | (go_simp; done) | (go_simp; rfl)); (case hp => exact (Reps.none _ _))
                 intro v236 w36 ho37 hb hg_ hnew_
                 clear hg_ hnew_; (first | rw [← Ny235.out] at ho37 | (simp only [Int.reduceToNat] at ho37; rw [← Ny235.out] at ho37))
                 replace HO_5 := AM (Kd.R_below (RL HO_5) hb); have HO237 := AM (Kd.R_lower (Kd.R_new' ho37 (Kd.Q_lt (by (with_reducible repeat (first | apply Kd.Q_alloc | apply Kd.Q_drewN | apply Kd.Q_drew)); exact HO232.out))) (below_size (BB HB)))
                 replace HO232 := AM (Kd.Q_elder' (by (with_reducible repeat (first | apply Kd.Q_alloc | apply Kd.Q_drewN | apply Kd.Q_drew)); exact HO232.out) (Kd.R_base ho37) hb)
                 replace BK218 := BE BK218 hb; replace HB := BS HB hb; clear hb ho37; refine hK.out _ _ ⟨(blk_cell BK218.out 0).trans rfl, (blk_cell BK218.out 1).trans rfl, ((HB.out.cell (World.block_lt_of_cell? w _ hw241_0)).trans hw241_0), ((HB.out.cell (World.block_lt_of_cell? w _ hw241_1)).trans hw241_1), ((HB.out.cell (World.block_lt_of_cell? w _ hw241_2)).trans hw241_2), ((HB.out.cell (World.block_lt_of_cell? w _ hw241_3)).trans hw241_3)⟩ (fun hHeld => ?_)
                 clear hK K; refine norm_ (a' := ?_) ?_ ?_
                 rotate_left
                 ·show Act.put _ (some 36) _ = _
                  simp only [Act.put, List.setIfInBounds_toArray, List.set_cons_zero, List.set_cons_succ, i64_w, i32_w]
                  rfl
                 refine one_ (i := 2) (N := some 38) #[true, true, true, true, true, true, true, true, true, false, false] rfl rfl (one_of HT_.out (by kernel_rfl)) (by decide) (fun K hK => ?_)
                 refine Kd.R_append_rows_step (Kd.int .i64) (w0 := w) w.heap.size (by rfl) (.tmp 36) (.tmp 37) 31 3 (.int .i64 0) 8 rfl Try.underlying31 info3 rfl (by decide) (by omega) v236 y235 y230 _ _ _ (fun k_ => some k_ ≠ (.slice A31 y230.length c31 : Value).ownBlock) (fun _ => False) rfl rfl ?aO ?aR (fun _ _ h => h) (fun _ h => h.elim) ?aF ?aB ?aS ?aL ?_
                 (case aR => repeat (first | exact (Kd.Q_reads' HO232.out).2.2 | (with_reducible refine Kd.C_alloc ?_ _) | (with_reducible refine Kd.C_drewN ?_ _) | (with_reducible refine Kd.C_drew ?_)))
                 (case aB => exact (BB HB))
                 (case aF => exact (fun k_ hk => Kd.fresh' (Kd.Q_lt (by (with_reducible repeat (first | apply Kd.Q_alloc | apply Kd.Q_drewN | apply Kd.Q_drew)); exact HO232.out)) k_ hk))
                 (case aO => exact (by (with_reducible repeat (first | apply Kd.R_alloc | apply Kd.R_drewN | apply Kd.R_drew)); exact Kd.R_mono HO237.out (fun _ hk => hk.2)))
                 (case aS => exact (below_size (BB HB)))
                 (case aL => have := LMc27.out; omega)
                 intro v239 w38 ho hb hg hat
                 rw [← Ny238.out] at ho; replace HO_5 := AM (Kd.R_over' (RL HO_5) (Kd.R_typed (RL HO237)) (by decide) hg)
                 replace HO232 := AM (Kd.Q_after (ok := (fun _ => True)) (by (with_reducible repeat (first | apply Kd.Q_alloc | apply Kd.Q_drewN | apply Kd.Q_drew)); exact HO232.out) hg hat)
                 replace BK218 := AM (blk_grown (g := gb218) (o := .cells #[.slice (some ad225) l0_0.length c0_0, .int .i64 a0_1] 24 (0, 0)) (BL BK218) hg (Kd.R_ne HO237.out BK218.out (by decide)))
                 replace HB := AM (hb); have HO240 := AM (ho); clear HO237; clear ho hb hg hat; refine hK.out _ _ ⟨(blk_cell BK218.out 0).trans rfl, (blk_cell BK218.out 1).trans rfl, ((HB.out.cell (World.block_lt_of_cell? w _ hw241_0)).trans hw241_0), ((HB.out.cell (World.block_lt_of_cell? w _ hw241_1)).trans hw241_1), ((HB.out.cell (World.block_lt_of_cell? w _ hw241_2)).trans hw241_2), ((HB.out.cell (World.block_lt_of_cell? w _ hw241_3)).trans hw241_3)⟩ (fun hHeld => ?_)
                 clear hK K; refine norm_ (a' := ?_) ?_ ?_
                 rotate_left
                 ·show Act.put _ (some 38) _ = _
                  simp only [Act.put, List.setIfInBounds_toArray, List.set_cons_zero, List.set_cons_succ, i64_w, i32_w]
                  rfl
                 refine one_ (i := 9) (N := some 45) #[true, true, true, true, true, true, true, true, true, true, false] rfl rfl (one_of HT_.out (by kernel_rfl)) (by decide) (fun K hK => ?_)
                 refine Kd.R_append_rows_step (Kd.int .i64) (w0 := w) w.heap.size (by rfl) (.tmp 38) (.tmp 44) 31 3 (.int .i64 0) 8 rfl Try.underlying31 info3 rfl (by decide) (by omega) v239 y238 ((rd_T40 l0_0 (rd x6_1 0)).f3) _ _ _ (fun k_ => some k_ ≠ (.slice A31 y230.length c31 : Value).ownBlock) (fun _ => False) rfl rfl ?aO ?aR (fun _ _ h => h) (fun _ h => h.elim) ?aF ?aB ?aS ?aL ?_
                 (case aR => repeat (first | exact (Kd.C_below HR241_3.out HB.out) | (with_reducible refine Kd.C_alloc ?_ _) | (with_reducible refine Kd.C_drewN ?_ _) | (with_reducible refine Kd.C_drew ?_)))
                 (case aB => exact (BB HB))
                 (case aF => exact (fun k_ hk => Kd.fresh' (Kd.Q_lt (by (with_reducible repeat (first | apply Kd.Q_alloc | apply Kd.Q_drewN | apply Kd.Q_drew)); exact HO232.out)) k_ hk))
                 (case aO => exact (RL HO240))
                 (case aS => exact (below_size (BB HB)))
                 (case aL => have := LMc29.out; omega)
                 intro v243 w39 ho hb hg hat
                 rw [← Ny242.out] at ho; replace HO_5 := AM (Kd.R_over' (RL HO_5) (Kd.R_typed (RL HO240)) (by decide) hg)
                 replace HO232 := AM (Kd.Q_after (ok := (fun _ => True)) (by (with_reducible repeat (first | apply Kd.Q_alloc | apply Kd.Q_drewN | apply Kd.Q_drew)); exact HO232.out) hg hat)
                 replace BK218 := AM (blk_grown (g := gb218) (o := .cells #[.slice (some ad225) l0_0.length c0_0, .int .i64 a0_1] 24 (0, 0)) (BL BK218) hg (Kd.R_ne HO240.out BK218.out (by decide)))
                 replace HB := AM (hb); have HO244 := AM (ho); clear HO240; clear ho hb hg hat; refine hK.out _ _ ⟨(blk_cell BK218.out 0).trans rfl, (blk_cell BK218.out 1).trans rfl, ((HB.out.cell (World.block_lt_of_cell? w _ hw241_0)).trans hw241_0), ((HB.out.cell (World.block_lt_of_cell? w _ hw241_1)).trans hw241_1), ((HB.out.cell (World.block_lt_of_cell? w _ hw241_2)).trans hw241_2), ((HB.out.cell (World.block_lt_of_cell? w _ hw241_3)).trans hw241_3)⟩ (fun hHeld => ?_)
                 clear hK K; refine norm_ (a' := ?_) ?_ ?_
                 rotate_left
                 ·show Act.put _ (some 45) _ = _
                  simp only [Act.put, List.setIfInBounds_toArray, List.set_cons_zero, List.set_cons_succ, i64_w, i32_w]
                  rfl
                 refine pure_ (i := 10) (N := some 6) (v := ?_) (a' := ?_) #[true, true, true, true, true, true, true, true, true, true, true] rfl rfl (any_of HT_.out (by kernel_rfl)) (fun _ _ _ h => h) (Or.inl ⟨by rfl, ?_⟩) ?_ ?_
                 rotate_left
                 ·intro w'
                  go_simp
                  with_reducible rfl
                 rotate_left
                 ·simp only [Act.put, List.setIfInBounds_toArray, List.set_cons_zero, List.set_cons_succ, i64_w, i32_w]
                  rfl
                 refine done_ (done_of HT_.out (by kernel_rfl)) ?_
                 try go_wp2
                 go_roundg k1
                 case measure => have := HK1.out; omega
                 case rel => exact ⟨(y234), (y242), H', ⟨by have := HK1.out; omega⟩, ⟨by (with_reducible repeat (first | apply Kd.R_alloc | apply Kd.R_drewN | apply Kd.R_drew)); exact HO_5.out⟩, ⟨Kd.Q_of_R (by (with_reducible repeat (first | apply Kd.R_alloc | apply Kd.R_drewN | apply Kd.R_drew)); exact Kd.R_mono HO244.out (fun _ hk => trivial))⟩, ⟨BL BK218⟩, ⟨BB HB⟩⟩
                ·rw [if_neg c29] at H; exact absurd H (by simp)
               ·rw [if_neg c28] at H; exact absurd H (by simp)
              ·rw [if_neg c27] at H; exact absurd H (by simp)
            ·rw [if_neg c20] at H; exact absurd H (by simp)
           ·rw [if_neg c19] at H; exact absurd H (by simp)
          ·rw [if_neg c18] at H; exact absurd H (by simp)
         ·rw [if_neg c17] at H; exact absurd H (by simp)
        ·rw [if_neg c16] at H; have c16b0 : decide (0 < (x6_1.length : Int)) = false := decide_eq_false c16; have c16b1 : decide (0 < x6_1.length) = false := decide_eq_false (by omega)
         clear c16; obtain rfl := Option.some.inj H; obtain ⟨Ao40, co40, eo40, _⟩ := Kd.Q_slice HO_6.out; subst eo40; go_wp2
         go_ret
         exact ⟨_, by first | rfl | (simp [errW_none, errW_some] <;> rfl) | (simp [*, errW_none, errW_some] <;> rfl), by (with_reducible repeat (first | apply Kd.R_alloc | apply Kd.R_drewN | apply Kd.R_drew)); exact HO_5.out, BB HB⟩
     ·rw [if_neg c7] at H; exact absurd H (by simp)
    ·rw [if_neg c6] at H; exact absurd H (by simp)
   ·rw [if_neg c5] at H; exact absurd H (by simp)
  ·rw [if_neg c4] at H; exact absurd H (by simp)
 ·rw [if_neg c3] at H; exact absurd H (by simp)

end Go.Proofs.Ytlfjjapndlkamaa.GH
