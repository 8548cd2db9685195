-- Printed by a program of the session (wip/gen/tprint.py, over a turned copy of the kit's print): Lean checks it.
import Derived.Test.YtlfjjapndlkamaaCtGHx0
import Derived.Test.YtlfjjapndlkamaaCtGHx6
namespace Go.Proofs.Ytlfjjapndlkamaa.GH
open Go.RowKit Go.Proofs.YtlfjjapndlkamaaW.PrintWords Go.Proofs.YtlfjjapndlkamaaW.PrintLast Go.Proofs.YtlfjjapndlkamaaW.PrintMore
attribute [local go_sem] max2_int min2_int max_two min_two max_three min_three max_four min_four   -- for this text's walks alone
set_option linter.unusedVariables false
set_option linter.unusedSimpArgs false

/-! ### dioramaref09_Turn: function 28 -/
mutual
def dioramaref09_Turn.l0 : Nat → Int → Int → List (S40) → Int → List (S40) → Int → Option ((List (S40)) × Int)
 | 0, _, _, _, _, _, _ => none
 | k + 1, x3, x5, x260000, x260001, x262000, x262001 => if x5 ≥ 0 then (if 0 ≤ x5 then (if x5 < (x260000.length : Int) then ((dioramaref08_Copy.f ((rd_T40 x260000 x5).f0) ((rd_T40 x260000 x5).f1) ((rd_T40 x260000 x5).f2) ((rd_T40 x260000 x5).f3)).bind fun bt263 => (dioramaref09_Turn.l1 k x3 x5 0 x260000 x260001 x262000 x262001 bt263.1 bt263.2.1 bt263.2.2.1 bt263.2.2.2)) else (none)) else (none)) else (some (x262000, x262001))
def dioramaref09_Turn.l1 : Nat → Int → Int → Int → List (S40) → Int → List (S40) → Int → Int → List Int → List ByteArray → List Int → Option ((List (S40)) × Int)
 | 0, _, _, _, _, _, _, _, _, _, _, _ => none
 | k + 1, x3, x5, x7, x260000, x260001, x262000, x262001, x274000, x274001, x274002, x274003 => if x7 < (x274003.length : Int) then (if 0 ≤ x7 then (dioramaref09_Turn.l1 k x3 x5 (wrap64 (x7 + 1)) x260000 x260001 x262000 x262001 x274000 x274001 x274002 (x274003.set (x7 : Int).toNat (wrap64 ((wrap64 (x3 - 1)) - (rd x274003 x7))))) else (none)) else (if x262000.length < 1759218604441 then (dioramaref09_Turn.l0 k x3 (wrap64 (x5 - 1)) x260000 x260001 (x262000 ++ [(⟨x274000, x274001, x274002, x274003⟩ : S40)]) x262001) else (none))
end
def dioramaref09_Turn.f (k : Nat) (l0_0 : List (S40)) (a0_1 : Int) : Option ((List (S40)) × Int) := dioramaref09_Turn.l0 k (l0_0.length : Int) (wrap64 ((l0_0.length : Int) - 1)) l0_0 a0_1 ([] : List (S40)) (wrap64 ((wrap64 ((l0_0.length : Int) - 1)) - a0_1))
def dioramaref09_Turn.T10 : Bool × List (List Nat × List Nat) := (true, [([], []), ([0], [0]), ([], []), ([], []), ([3], [3]), ([], []), ([5], [5]), ([], []), ([6, 7], [6, 7]), ([8], [8]), ([4, 9], [4, 9]), ([1, 2, 0, 1, 2, 3, 4, 5, 6, 7, 8, 9, 10], [1, 2]), ([11, 10, 0, 1, 2, 3, 4, 5, 6, 7, 8, 9, 10], [10, 11])])
def dioramaref09_Turn.B10 : List Nat := [0, 1, 0, 0, 8, 0, 32, 0, 224, 480, 1016, 2047, 4095]
theorem dioramaref09_Turn.tab10 : rtab .any (opsOf Try.f28 10) = dioramaref09_Turn.T10 := by kernel_rfl
theorem dioramaref09_Turn.bits10 : waitsOk dioramaref09_Turn.T10.2 dioramaref09_Turn.B10 = true := by kernel_rfl
set_option maxHeartbeats 8000000 in
set_option maxRecDepth 100000 in
theorem dioramaref09_Turn.calls (k : Nat) (A0_0 : Option Addr) (c0_0 : Nat) (l0_0 : List (S40)) (a0_1 : Int) (r1 : List (S40)) (r2 : Int) (w : World) (hr0_0 : Kd.C k40 w A0_0 l0_0.length l0_0) (hc0_0 : l0_0.length ≤ c0_0) (h : dioramaref09_Turn.f k l0_0 a0_1 = some (r1, r2)) :
  Calls Try.prog 28 #[.agg #[.slice A0_0 l0_0.length c0_0, .int .i64 a0_1]] w fun e w' => ∃ v0_ : Value, e = .returned (.agg #[v0_, .int .i64 r2]) ∧ Kd.S k40 40 w' w.heap.size (fun _ => True) v0_ r1 ∧ Below w.heap.size w w' := by
 have hu24 := Try.underlying24; have hu40 := Try.underlying40; have HR0_0 := AM hr0_0; have HC0_0 := AM hc0_0; clear hr0_0 hc0_0; have HB := AM (Below.refl w.heap.size w); have H : (dioramaref09_Turn.l0 k (l0_0.length : Int) (wrap64 ((l0_0.length : Int) - 1)) l0_0 a0_1 ([] : List (S40)) (wrap64 ((wrap64 ((l0_0.length : Int) - 1)) - a0_1))) = some (r1, r2) := h; clear h; have H' := AM H; clear H; go_enter Try.func28, Try.ntmps28
 go_wp2_with (first | ((with_reducible refine gate_dst (N := 1) rfl ?_); refine box_event ?hg (N := 1) ?hd (cs := #[.slice A0_0 l0_0.length c0_0, .int .i64 a0_1]) (t := 24) ?hr ?_; (case hd => rfl); (case hg => rfl); (case hr => first | (go_simp; done) | (go_simp; rfl)); intro gb259 hg w2 hbox hb; have BK259 := AM (hbox); have GW259 := GW HB hg; have GE259 := GW HB hg; replace HB := BS HB hb; clear hb hbox hg) | ((with_reducible refine gate_dst (N := 2) rfl ?_); refine box_event ?hg (N := 2) ?hd (cs := #[.slice none 0 0, .int .i64 0]) (t := 24) ?hr ?_; (case hd => rfl); (case hg => rfl); (case hr => first | (go_simp; done) | (go_simp; rfl)); intro gb260 hg w3 hbox hb; have BK260 := AM (hbox); have GW260 := GW HB hg; have GE260 := GW HB hg; replace HB := BS HB hb; have NB259_260 := NL BK259 hg; have NB260_259 := NG BK259 hg; replace BK259 := BE BK259 hb; clear hb hbox hg; have hnb4 := NB259_260.out; have hnc4 := NB260_259.out; have hcz5_0 := BC BK259 0 (.slice A0_0 l0_0.length c0_0) rfl; have hcz5_1 := BC BK259 1 (.int .i64 a0_1) rfl; have hfz5_0 := BF BK259 0; have hfz5_1 := BF BK259 1) | ((with_reducible refine gate_dst (N := 4) rfl ?_); refine box_event ?hg (N := 4) ?hd (cs := #[.slice none 0 0, .int .i64 0]) (t := 24) ?hr ?_; (case hd => rfl); (case hg => rfl); (case hr => first | (go_simp; done) | (go_simp; rfl)); intro gb261 hg w6 hbox hb; have BK261 := AM (hbox); have GW261 := GW HB hg; have GE261 := GW HB hg; replace HB := BS HB hb; have NB259_261 := NL BK259 hg; have NB261_259 := NG BK259 hg; replace BK259 := BE BK259 hb; have NB260_261 := NL BK260 hg; have NB261_260 := NG BK260 hg; replace BK260 := BE BK260 hb; clear hb hbox hg; have hnb7 := NB261_259.out; have hnc7 := NB259_261.out; have hnb8 := NB261_260.out; have hnc8 := NB260_261.out; have hcz9_0 := BC BK261 0 (.slice none 0 0) rfl; have hcz9_1 := BC BK261 1 (.int .i64 0) rfl; have hfz9_0 := BF BK261 0; have hfz9_1 := BF BK261 1))
 go_loopg [5] k (fun kq v5 w' => ∃ (x5_1 : Int) (x262000_1 : List (S40)) (u262000 : Value), v5 = .int .i64 x5_1 ∧ Aside0 (dioramaref09_Turn.l0 kq (l0_0.length : Int) x5_1 l0_0 a0_1 x262000_1 (wrap64 ((wrap64 ((l0_0.length : Int) - 1)) - a0_1)) = some (r1, r2)) ∧ Aside0 (kq ≤ k) ∧ Aside0 (Kd.S k40 40 w' w.heap.size (fun _ => True) u262000 x262000_1) ∧ Aside0 (w'.heap[gb259]? = some (.cells #[(.slice A0_0 l0_0.length c0_0), .int .i64 a0_1] 24 (0, 0))) ∧ Aside0 (w'.heap[gb260]? = some (.cells #[(.slice none 0 0), .int .i64 0] 24 (0, 0))) ∧ Aside0 (w'.heap[gb261]? = some (.cells #[u262000, .int .i64 (wrap64 ((wrap64 ((l0_0.length : Int) - 1)) - a0_1))] 24 (0, 0))) ∧ Aside0 (Below w.heap.size w w'))
 case atStart => exact ⟨(wrap64 ((l0_0.length : Int) - 1)), (([] : List (S40))), (.slice none 0 0), (by first | rfl | (simp; done) | (simp [*]; done)), H', ⟨Nat.le_refl _⟩, ⟨by first | exact Kd.S_nil _ _ _ _ _ | exact Kd.N_nil _ _ _ _ _ | exact Kd.V_nil _ _ _ _ _ | exact Kd.Q_nil _ _ _ _ _ | exact Kd.R_nil _ _ _ _ _⟩, ⟨by (repeat refine blk_far ?_ NB259_261.out _); (with_reducible repeat (first | refine blk_drewN ?_ _ | refine blk_drew ?_ | refine blk_alloc ?_ _)); exact BK259.out⟩, ⟨by (repeat refine blk_far ?_ NB260_261.out _); (with_reducible repeat (first | refine blk_drewN ?_ _ | refine blk_drew ?_ | refine blk_alloc ?_ _)); exact BK260.out⟩, ⟨by refine blk_put (cs := #[.slice none 0 0, .int .i64 0]) ?_ 1 _ rfl; refine blk_put (cs := #[.slice none 0 0, .int .i64 0]) ?_ 0 _ rfl; (with_reducible repeat (first | refine blk_drewN ?_ _ | refine blk_drew ?_ | refine blk_alloc ?_ _)); exact BK261.out⟩, ⟨BB HB⟩⟩
 case round =>
  clear H'; try clear c2
  try clear p2
  try clear c4
  try clear p6
  try clear c7
  try clear c8
  try clear hcz5_0
  try clear hcz5_1
  try clear hcz9_0
  try clear hcz9_1
  try clear hfz5_0
  try clear hfz5_1
  try clear hfz9_0
  try clear hfz9_1
  obtain ⟨x5_1, x262000_1, u262000, rfl, HA, HK1, HO_262000, BK259, BK260, BK261, HB⟩ := hrel; cases gk with
  | zero => exact absurd HA.out (by simp [dioramaref09_Turn.l0])
  | succ k1 =>
   have H := HA.out; clear HA; simp only [dioramaref09_Turn.l0] at H
   by_cases c10 : x5_1 ≥ 0
   ·rw [if_pos c10] at H; have c10b0 : decide (0 ≤ x5_1) = true := decide_eq_true c10; clear c10; by_cases c11 : 0 ≤ x5_1
    ·rw [if_pos c11] at H; have c11b0 : decide (0 ≤ x5_1) = true := decide_eq_true c11; clear c11; by_cases c12 : x5_1 < (l0_0.length : Int)
     ·rw [if_pos c12] at H; have c12b0 : decide (x5_1 < (l0_0.length : Int)) = true := decide_eq_true c12; clear c12; replace H := Option.bind_eq_some_iff.mp H; obtain ⟨⟨t263, t264, t267, t270⟩, A130, H⟩ := H; replace H : (dioramaref09_Turn.l1 k1 (l0_0.length : Int) x5_1 0 l0_0 a0_1 x262000_1 (wrap64 ((wrap64 ((l0_0.length : Int) - 1)) - a0_1)) t263 t264 t267 t270) = some (r1, r2) := H; have A13 := AM A130; clear A130; have H' := AM H; clear H; have hnb14 := NB259_260.out; have hnc14 := NB260_259.out; have hnb15 := NB259_261.out; have hnc15 := NB261_259.out; have hcz16_0 := BC BK259 0 (.slice A0_0 l0_0.length c0_0) rfl; have hcz16_1 := BC BK259 1 (.int .i64 a0_1) rfl; have hfz16_0 := BF BK259 0; have hfz16_1 := BF BK259 1; have p262 : 0 ≤ (x5_1 : Int) := of_decide_eq_true (by first | (with_reducible assumption) | assumption)
      have q262 : x5_1 < (l0_0.length : Int) := of_decide_eq_true (by first | (with_reducible assumption) | assumption)
      obtain ⟨ad262, A262_1, c262_1, A262_2, c262_2, A262_3, c262_3, e262, hx262_0, hx262_1, hx262_2, hx262_3, hl262_1, hi262_1, hl262_2, hi262_2, hl262_3, hi262_3⟩ := at_T40 HR0_0.out x5_1 p262 q262; cases e262
      replace hx262_0 := (HB.out.cell (World.block_lt_of_cell? w _ hx262_0)).trans hx262_0; replace hx262_1 := (HB.out.cell (World.block_lt_of_cell? w _ hx262_1)).trans hx262_1; replace hx262_2 := (HB.out.cell (World.block_lt_of_cell? w _ hx262_2)).trans hx262_2; replace hx262_3 := (HB.out.cell (World.block_lt_of_cell? w _ hx262_3)).trans hx262_3; have HR262_1 := AM hi262_1; have HC262_1 := AM hl262_1; clear hi262_1 hl262_1; have HR262_2 := AM hi262_2; have HC262_2 := AM hl262_2; clear hi262_2 hl262_2; have HR262_3 := AM hi262_3; have HC262_3 := AM hl262_3; clear hi262_3 hl262_3; replace p262 := eq_true p262; replace q262 := eq_true q262; go_wp2_with (first | ((with_reducible refine gate_callee (f := 29) rfl ?_); refine goesM_ (some 28) rfl rfl Try.func29 #[.agg #[.int .i64 ((rd_T40 l0_0 x5_1).f0), .slice A262_1 ((rd_T40 l0_0 x5_1).f1).length c262_1, .slice A262_2 ((rd_T40 l0_0 x5_1).f2).length c262_2, .slice A262_3 ((rd_T40 l0_0 x5_1).f3).length c262_3]] rfl ?_; (with_reducible refine (dioramaref08_Copy.calls ((rd_T40 l0_0 x5_1).f0) _ _ ((rd_T40 l0_0 x5_1).f1) _ _ ((rd_T40 l0_0 x5_1).f2) _ _ ((rd_T40 l0_0 x5_1).f3) t263 t264 t267 t270 _ ?side1 ?side2 ?side3 ?side4 ?side5 ?side6 A13.out).mono ?_); (case side1 => exact Kd.C_below HR262_1.out (BB HB)); (case side2 => exact HC262_1.out); (case side3 => exact Kd.C_below HR262_2.out (BB HB)); (case side4 => exact HC262_2.out); (case side5 => exact Kd.C_below HR262_3.out (BB HB)); (case side6 => exact HC262_3.out); rintro e w17 ⟨v265, v268, v271, rfl, ho0, ho1, ho2, hb⟩; refine ⟨_, rfl, ?_⟩; replace HO_262000 := AM (Kd.S_mono (Kd.S_told (Kd.S_told (Kd.S_told (Kd.S_old (SL HO_262000) hb) (Kd.R_base ho0)) (Kd.R_base ho1)) (Kd.R_base ho2)) (fun _ h_ => h_.1)); have HO266 := AM (Kd.R_lower ho0 (below_size (BB HB))); have HO269 := AM (Kd.R_lower ho1 (below_size (BB HB))); have HO272 := AM (Kd.R_lower ho2 (below_size (BB HB))); replace BK259 := BE BK259 hb; replace BK260 := BE BK260 hb; replace BK261 := BE BK261 hb; replace HB := BS HB hb; (try clear hb); (try clear hb2); (try clear hk); (try clear hi); (try clear ho0); (try clear ho1); (try clear ho2)) | ((with_reducible refine gate_dst (N := 6) rfl ?_); refine box_event ?hg (N := 6) ?hd (cs := #[.int .i64 0, .slice none 0 0, .slice none 0 0, .slice none 0 0]) (t := 40) ?hr ?_; (case hd => rfl); (case hg => rfl); (case hr => first | (go_simp; done) | (go_simp; rfl)); intro gb273 hg w18 hbox hb; replace HO_262000 := AM (Kd.S_below (Kd.S_elderB (SL HO_262000) gb273 (Nat.le_of_eq hg.symm)) hb); replace HO266 := AM (Kd.R_below (RL HO266) hb); replace HO269 := AM (Kd.R_below (RL HO269) hb); replace HO272 := AM (Kd.R_below (RL HO272) hb); have BK273 := AM (hbox); have GW273 := GW HB hg; have GE273 := GW HB hg; replace HB := BS HB hb; have NB259_273 := NL BK259 hg; have NB273_259 := NG BK259 hg; replace BK259 := BE BK259 hb; have NB260_273 := NL BK260 hg; have NB273_260 := NG BK260 hg; replace BK260 := BE BK260 hb; have NB261_273 := NL BK261 hg; have NB273_261 := NG BK261 hg; replace BK261 := BE BK261 hb; clear hb hbox hg; have hnb19 := NB273_259.out; have hnc19 := NB259_273.out; have hnb20 := NB273_260.out; have hnc20 := NB260_273.out; have hnb21 := NB273_261.out; have hnc21 := NB261_273.out; have hcz22_0 := BC BK273 0 (.int .i64 0) rfl; have hcz22_1 := BC BK273 1 (.slice none 0 0) rfl; have hcz22_2 := BC BK273 2 (.slice none 0 0) rfl; have hcz22_3 := BC BK273 3 (.slice none 0 0) rfl; have hfz22_0 := BF BK273 0; have hfz22_1 := BF BK273 1; have hfz22_2 := BF BK273 2; have hfz22_3 := BF BK273 3; obtain ⟨Ao23, co23, eo23⟩ := Kd.R_slice HO266.out; subst eo23; obtain ⟨Ao24, co24, eo24⟩ := Kd.R_slice HO269.out; subst eo24; obtain ⟨Ao25, co25, eo25⟩ := Kd.R_slice HO272.out; subst eo25))
      go_loopg [7] k1 (fun kq v7 w' => ∃ (x7_2 : Int) (x274003_2 : List Int) (u274003 : Value), v7 = .int .i64 x7_2 ∧ Aside0 (dioramaref09_Turn.l1 kq (l0_0.length : Int) x5_1 x7_2 l0_0 a0_1 x262000_1 (wrap64 ((wrap64 ((l0_0.length : Int) - 1)) - a0_1)) t263 t264 t267 x274003_2 = some (r1, r2)) ∧ Aside0 (kq ≤ k1) ∧ Aside0 (Kd.S k40 40 w' w.heap.size (fun k_ => some k_ ≠ ((.slice Ao23 t264.length co23) : Value).ownBlock ∧ some k_ ≠ ((.slice Ao24 t267.length co24) : Value).ownBlock ∧ some k_ ≠ (u274003 : Value).ownBlock ∧ k_ ≠ gb273) u262000 x262000_1) ∧ Aside0 (Kd.R (Kd.int .i64) 2 w' w.heap.size (fun _ => True) (.slice Ao23 t264.length co23) t264) ∧ Aside0 (Kd.R Kd.string 9 w' w.heap.size (fun _ => True) (.slice Ao24 t267.length co24) t267) ∧ Aside0 (Kd.R (Kd.int .i64) 3 w' w.heap.size (fun _ => True) u274003 x274003_2) ∧ Aside0 (w'.heap[gb259]? = some (.cells #[(.slice (some ad262) l0_0.length c0_0), .int .i64 a0_1] 24 (0, 0))) ∧ Aside0 (w'.heap[gb260]? = some (.cells #[(.slice none 0 0), .int .i64 0] 24 (0, 0))) ∧ Aside0 (w'.heap[gb261]? = some (.cells #[u262000, .int .i64 (wrap64 ((wrap64 ((l0_0.length : Int) - 1)) - a0_1))] 24 (0, 0))) ∧ Aside0 (w'.heap[gb273]? = some (.cells #[.int .i64 t263, (.slice Ao23 t264.length co23), (.slice Ao24 t267.length co24), u274003] 40 (0, 0))) ∧ Aside0 (Below w.heap.size w w'))
      case atStart => exact ⟨(0), (t270), (.slice Ao25 t270.length co25), (by first | rfl | (simp; done) | (simp [*]; done)), H', ⟨Nat.le_refl _⟩, ⟨by (with_reducible repeat (first | apply Kd.S_alloc | apply Kd.S_drewN | apply Kd.S_drew)); exact Kd.S_mono (Kd.S_far (p := ⟨gb273, 3, none⟩) (Kd.S_far (p := ⟨gb273, 2, none⟩) (Kd.S_far (p := ⟨gb273, 1, none⟩) (Kd.S_far (p := ⟨gb273, 0, none⟩) (Kd.S_mono HO_262000.out (fun k_ hk => (⟨hk, hk.2⟩ : _ ∧ k_ ≠ gb273))) (fun _ hk => hk.2) (.int .i64 t263)) (fun _ hk => hk.2) (.slice Ao23 t264.length co23)) (fun _ hk => hk.2) (.slice Ao24 t267.length co24)) (fun _ hk => hk.2) (.slice Ao25 t270.length co25)) (fun _ hk => ⟨hk.1.1.1.1.2, ⟨hk.1.1.1.2, ⟨hk.1.1.2, hk.1.2⟩⟩⟩)⟩, ⟨by exact Kd.R_mono (Kd.R_far (p := ⟨gb273, 3, none⟩) (Kd.R_far (p := ⟨gb273, 2, none⟩) (Kd.R_far (p := ⟨gb273, 1, none⟩) (Kd.R_far (p := ⟨gb273, 0, none⟩) (Kd.R_types HO266.out BK273.out (by decide)) (fun _ hk => hk.2) (.int .i64 t263)) (fun _ hk => hk.2) (.slice Ao23 t264.length co23)) (fun _ hk => hk.2) (.slice Ao24 t267.length co24)) (fun _ hk => hk.2) (.slice Ao25 t270.length co25)) (fun _ hk => trivial)⟩, ⟨by exact Kd.R_mono (Kd.R_far (p := ⟨gb273, 3, none⟩) (Kd.R_far (p := ⟨gb273, 2, none⟩) (Kd.R_far (p := ⟨gb273, 1, none⟩) (Kd.R_far (p := ⟨gb273, 0, none⟩) (Kd.R_types HO269.out BK273.out (by decide)) (fun _ hk => hk.2) (.int .i64 t263)) (fun _ hk => hk.2) (.slice Ao23 t264.length co23)) (fun _ hk => hk.2) (.slice Ao24 t267.length co24)) (fun _ hk => hk.2) (.slice Ao25 t270.length co25)) (fun _ hk => trivial)⟩, ⟨by exact Kd.R_mono (Kd.R_far (p := ⟨gb273, 3, none⟩) (Kd.R_far (p := ⟨gb273, 2, none⟩) (Kd.R_far (p := ⟨gb273, 1, none⟩) (Kd.R_far (p := ⟨gb273, 0, none⟩) (Kd.R_types HO272.out BK273.out (by decide)) (fun _ hk => hk.2) (.int .i64 t263)) (fun _ hk => hk.2) (.slice Ao23 t264.length co23)) (fun _ hk => hk.2) (.slice Ao24 t267.length co24)) (fun _ hk => hk.2) (.slice Ao25 t270.length co25)) (fun _ hk => trivial)⟩, ⟨by (repeat refine blk_far ?_ NB259_273.out _); (with_reducible repeat (first | refine blk_drewN ?_ _ | refine blk_drew ?_ | refine blk_alloc ?_ _)); exact BK259.out⟩, ⟨by (repeat refine blk_far ?_ NB260_273.out _); (with_reducible repeat (first | refine blk_drewN ?_ _ | refine blk_drew ?_ | refine blk_alloc ?_ _)); exact BK260.out⟩, ⟨by (repeat refine blk_far ?_ NB261_273.out _); (with_reducible repeat (first | refine blk_drewN ?_ _ | refine blk_drew ?_ | refine blk_alloc ?_ _)); exact BK261.out⟩, ⟨by refine blk_put (cs := #[.int .i64 t263, .slice Ao23 t264.length co23, .slice Ao24 t267.length co24, .slice none 0 0]) ?_ 3 _ rfl; refine blk_put (cs := #[.int .i64 t263, .slice Ao23 t264.length co23, .slice none 0 0, .slice none 0 0]) ?_ 2 _ rfl; refine blk_put (cs := #[.int .i64 t263, .slice none 0 0, .slice none 0 0, .slice none 0 0]) ?_ 1 _ rfl; refine blk_put (cs := #[.int .i64 0, .slice none 0 0, .slice none 0 0, .slice none 0 0]) ?_ 0 _ rfl; (with_reducible repeat (first | refine blk_drewN ?_ _ | refine blk_drew ?_ | refine blk_alloc ?_ _)); exact BK273.out⟩, ⟨BB HB⟩⟩
      case round =>
       clear H'; try clear c1
       try clear c2
       try clear p2
       try clear q2
       try clear hx2
       try clear c4
       try clear p6
       try clear c7
       try clear c8
       try clear c10
       try clear c10b0
       try clear c11
       try clear c11b0
       try clear c12
       try clear c12b0
       try clear c14
       try clear c15
       try clear c19
       try clear c20
       try clear c21
       try clear hcz16_0
       try clear hcz16_1
       try clear hcz22_0
       try clear hcz22_1
       try clear hcz22_2
       try clear hcz22_3
       try clear hcz5_0
       try clear hcz5_1
       try clear hcz9_0
       try clear hcz9_1
       try clear hfz16_0
       try clear hfz16_1
       try clear hfz22_0
       try clear hfz22_1
       try clear hfz22_2
       try clear hfz22_3
       try clear hfz5_0
       try clear hfz5_1
       try clear hfz9_0
       try clear hfz9_1
       try clear hx262_0
       try clear hx262_1
       try clear hx262_2
       try clear hx262_3
       try clear p2
       try clear p262
       try clear p6
       try clear q262
       obtain ⟨x7_2, x274003_2, u274003, rfl, HA, HK2, HO_262000, HO_274001, HO_274002, HO_274003, BK259, BK260, BK261, BK273, HB⟩ := hrel; cases gk with
       | zero => exact absurd HA.out (by simp [dioramaref09_Turn.l1])
       | succ k2 =>
        have H := HA.out; clear HA; simp only [dioramaref09_Turn.l1] at H
        by_cases c26 : x7_2 < (x274003_2.length : Int)
        ·rw [if_pos c26] at H; have c26b0 : decide (x7_2 < (x274003_2.length : Int)) = true := decide_eq_true c26; clear c26; by_cases c27 : 0 ≤ x7_2
         ·rw [if_pos c27] at H; have c27b0 : decide (0 ≤ x7_2) = true := decide_eq_true c27; clear c27; obtain ⟨y275, hy275⟩ : ∃ y_ : List Int, y_ = (x274003_2.set (x7_2 : Int).toNat (wrap64 ((wrap64 ((l0_0.length : Int) - 1)) - (rd x274003_2 x7_2)))) := ⟨_, rfl⟩; replace H : (dioramaref09_Turn.l1 k2 (l0_0.length : Int) x5_1 (wrap64 (x7_2 + 1)) l0_0 a0_1 x262000_1 (wrap64 ((wrap64 ((l0_0.length : Int) - 1)) - a0_1)) t263 t264 t267 y275) = some (r1, r2) := by first | (rw [hy275]; with_reducible exact H) | (have H2_ := (Option.bind_some _ _).symm.trans H; rw [hy275]; with_reducible exact H2_) | (have H2_ := (Option.bind_some _ _).symm.trans H; with_reducible exact H2_) | with_reducible exact H | (rw [hy275]; exact H) | exact H
          have Ny275 := AM hy275; clear hy275; have H' := AM H; clear H; have hnb29 := NB273_259.out; have hnc29 := NB259_273.out; have hnb30 := NB273_260.out; have hnc30 := NB260_273.out; have hnb31 := NB273_261.out; have hnc31 := NB261_273.out; have hcz32_0 := BC BK273 0 (.int .i64 t263) rfl; have hcz32_1 := BC BK273 1 (.slice Ao23 t264.length co23) rfl; have hcz32_2 := BC BK273 2 (.slice Ao24 t267.length co24) rfl; have hcz32_3 := BC BK273 3 (u274003) rfl; have hfz32_0 := BF BK273 0; have hfz32_1 := BF BK273 1; have hfz32_2 := BF BK273 2; have hfz32_3 := BF BK273 3; obtain ⟨Ao33, co33, eo33⟩ := Kd.R_slice HO_274003.out; subst eo33; try go_wp2
          replace HO_262000 := AM (Kd.S_drew HO_262000.out); replace HO_274001 := AM (Kd.R_drew HO_274001.out); replace HO_274002 := AM (Kd.R_drew HO_274002.out); replace HO_274003 := AM (Kd.R_drew HO_274003.out); replace BK259 := AM (blk_drew BK259.out); replace BK260 := AM (blk_drew BK260.out); replace BK261 := AM (blk_drew BK261.out); replace BK273 := AM (blk_drew BK273.out); replace HB := AM (below_drew1 HB.out); have p274 : 0 ≤ (x7_2 : Int) := of_decide_eq_true (by first | (with_reducible assumption) | assumption)
          have q274 : x7_2 < (x274003_2.length : Int) := of_decide_eq_true (by first | (with_reducible assumption) | assumption)
          obtain ⟨ad274, e274, hx274_0⟩ := Kd.at_int (Kd.R_reads' HO_274003.out).2.2 x7_2 p274 q274; cases e274
          replace p274 := eq_true p274; replace q274 := eq_true q274; have p28 : 0 ≤ (x7_2 : Int) := of_decide_eq_true (by first | (with_reducible assumption) | assumption)
          have q28 : (x7_2 : Int) < ((x274003_2.length : Int) : Int) := of_decide_eq_true (by first | (with_reducible assumption) | assumption)
          obtain ⟨go28, co28, eo28, gb28, gl28, cl28, HG28⟩ := Kd.R_form HO_274003.out (by omega)
          (first | cases eo28 | (injection eo28 with ea_ en_ ec_; (first | subst ea_ | (injection ea_ with ea_; subst ea_)); subst ec_; clear en_))
          have GB28 := AM gb28; have GG28 := AM HG28; clear gb28 gl28 HG28; (first | simp only [add_plain] at hx274_0 | skip)
          obtain ⟨hx28_0, hf28_0⟩ := Kd.R_celln 0 HO_274003.out (x7_2 : Int) p28 q28; replace p28 := eq_true p28; replace q28 := eq_true q28; have HP35 := Kd.R_putn HO_274003.out (x7_2 : Int) (wrap64 ((wrap64 ((l0_0.length : Int) - 1)) - (rd x274003_2 x7_2))); rw [← Ny275.out] at HP35; have HQ35 := AM HP35; clear HP35; refine start_ (n := 13) (S := fun w' => w'.cell? ⟨gb273, 0, none⟩ = some (.int .i64 t263) ∧ w'.cell? ⟨gb273, 1, none⟩ = some (.slice Ao23 t264.length co23) ∧ w'.cell? ⟨gb273, 2, none⟩ = some (.slice Ao24 t267.length co24) ∧ w'.cell? ⟨gb273, 3, none⟩ = some (.slice (some ⟨go28, 0, none⟩) x274003_2.length co33) ∧ w'.cell? ⟨go28, (x7_2).toNat, none⟩ = some (.int .i64 (rd x274003_2 x7_2))) (ds := [12]) #[false, false, false, false, false, false, false, false, false, false, false, false, false] (by kernel_rfl) rfl rfl ⟨(blk_cell BK273.out 0).trans rfl, (blk_cell BK273.out 1).trans rfl, (blk_cell BK273.out 2).trans rfl, (blk_cell BK273.out 3).trans rfl, hx274_0⟩ (fun hHeld => ?_); refine with_tabW dioramaref09_Turn.tab10 dioramaref09_Turn.bits10 (fun HT_ HW_ => ?_)
          generalize wr.drew = w34 at HO_262000 HO_274001 HO_274002 HO_274003 BK259 BK260 BK261 BK273 HB GG28 HQ35 hf28_0 hx274_0 hx28_0 hHeld ⊢
          refine pure_ (i := 0) (N := some 36) (v := ?_) (a' := ?_) #[true, false, false, false, false, false, false, false, false, false, false, false, false] rfl rfl (any_of HT_.out (by kernel_rfl)) (fun _ _ _ h => h) (Or.inl ⟨by rfl, ?_⟩) ?_ ?_
          rotate_left
          ·intro w'
           go_simp
           with_reducible rfl
          rotate_left
          ·simp only [Act.put, List.setIfInBounds_toArray, List.set_cons_zero, List.set_cons_succ, i64_w, i32_w]
           rfl
          refine pure_ (i := 2) (N := some 38) (v := ?_) (a' := ?_) #[true, false, true, false, false, false, false, false, false, false, false, false, false] rfl rfl (any_of HT_.out (by kernel_rfl)) (fun _ _ _ h => h) (Or.inl ⟨by rfl, ?_⟩) ?_ ?_
          rotate_left
          ·intro w'
           go_simp
           with_reducible rfl
          rotate_left
          ·simp only [Act.put, List.setIfInBounds_toArray, List.set_cons_zero, List.set_cons_succ, i64_w, i32_w]
           rfl
          refine pure_ (i := 3) (N := some 39) (v := ?_) (a' := ?_) #[true, false, true, true, false, false, false, false, false, false, false, false, false] rfl rfl (any_of HT_.out (by kernel_rfl)) (fun _ _ _ h => h) (Or.inl ⟨by rfl, ?_⟩) ?_ ?_
          rotate_left
          ·intro w'
           go_simp
           with_reducible rfl
          rotate_left
          ·simp only [Act.put, List.setIfInBounds_toArray, List.set_cons_zero, List.set_cons_succ, i64_w, i32_w]
           rfl
          refine pure_ (i := 4) (N := some 40) (v := ?_) (a' := ?_) #[true, false, true, true, true, false, false, false, false, false, false, false, false] rfl rfl (any_of HT_.out (by kernel_rfl)) (fun _ _ _ h => h) (Or.inl ⟨by rfl, ?_⟩) ?_ ?_
          rotate_left
          ·intro w'
           go_simp
           with_reducible rfl
          rotate_left
          ·simp only [Act.put, List.setIfInBounds_toArray, List.set_cons_zero, List.set_cons_succ, i64_w, i32_w]
           rfl
          refine pure_ (i := 5) (N := some 41) (v := ?_) (a' := ?_) #[true, false, true, true, true, true, false, false, false, false, false, false, false] rfl rfl (any_of HT_.out (by kernel_rfl)) (fun _ _ _ h => h) (Or.inl ⟨by rfl, ?_⟩) ?_ ?_
          rotate_left
          ·intro w'
           go_simp
           with_reducible rfl
          rotate_left
          ·simp only [Act.put, List.setIfInBounds_toArray, List.set_cons_zero, List.set_cons_succ, i64_w, i32_w]
           rfl
          refine pure_ (i := 7) (N := some 43) (v := ?_) (a' := ?_) #[true, false, true, true, true, true, false, true, false, false, false, false, false] rfl rfl (any_of HT_.out (by kernel_rfl)) (fun _ _ _ h => h) (Or.inl ⟨by rfl, ?_⟩) ?_ ?_
          rotate_left
          ·intro w'
           go_simp
           with_reducible rfl
          rotate_left
          ·simp only [Act.put, List.setIfInBounds_toArray, List.set_cons_zero, List.set_cons_succ, i64_w, i32_w]
           rfl
          refine take_ (i := 1) (N := some 37) (v := ?_) (a' := ?_) #[true, true, true, true, true, true, false, true, false, false, false, false, false] rfl rfl (take_ofW HT_.out HW_.out (by kernel_rfl)) (fun _ _ _ h => h) (Or.inl ⟨by rfl, ?_⟩) hHeld ?_ ?_
          rotate_left
          ·rintro w' ⟨s0, s1, s2, s3, s4⟩
           go_simp
           with_reducible rfl
          rotate_left
          ·simp only [Act.put, List.setIfInBounds_toArray, List.set_cons_zero, List.set_cons_succ, i64_w, i32_w]
           rfl
          refine take_ (i := 6) (N := some 42) (v := ?_) (a' := ?_) #[true, true, true, true, true, true, true, true, false, false, false, false, false] rfl rfl (take_ofW HT_.out HW_.out (by kernel_rfl)) (fun _ _ _ h => h) (Or.inl ⟨by rfl, ?_⟩) hHeld ?_ ?_
          rotate_left
          ·rintro w' ⟨s0, s1, s2, s3, s4⟩
           go_simp
           with_reducible rfl
          rotate_left
          ·simp only [Act.put, List.setIfInBounds_toArray, List.set_cons_zero, List.set_cons_succ, i64_w, i32_w]
           rfl
          refine pure_ (i := 8) (N := some 44) (v := ?_) (a' := ?_) #[true, true, true, true, true, true, true, true, true, false, false, false, false] rfl rfl (any_of HT_.out (by kernel_rfl)) (fun _ _ _ h => h) (Or.inl ⟨by rfl, ?_⟩) ?_ ?_
          rotate_left
          ·intro w'
           go_simp
           with_reducible rfl
          rotate_left
          ·simp only [Act.put, List.setIfInBounds_toArray, List.set_cons_zero, List.set_cons_succ, i64_w, i32_w]
           rfl
          refine take_ (i := 9) (N := some 45) (v := ?_) (a' := ?_) #[true, true, true, true, true, true, true, true, true, true, false, false, false] rfl rfl (take_ofW HT_.out HW_.out (by kernel_rfl)) (fun _ _ _ h => h) (Or.inl ⟨by rfl, ?_⟩) hHeld ?_ ?_
          rotate_left
          ·rintro w' ⟨s0, s1, s2, s3, s4⟩
           go_simp
           with_reducible rfl
          rotate_left
          ·simp only [Act.put, List.setIfInBounds_toArray, List.set_cons_zero, List.set_cons_succ, i64_w, i32_w]
           rfl
          refine pure_ (i := 10) (N := some 46) (v := ?_) (a' := ?_) #[true, true, true, true, true, true, true, true, true, true, true, false, false] rfl rfl (any_of HT_.out (by kernel_rfl)) (fun _ _ _ h => h) (Or.inl ⟨by rfl, ?_⟩) ?_ ?_
          rotate_left
          ·intro w'
           go_simp
           with_reducible rfl
          rotate_left
          ·simp only [Act.put, List.setIfInBounds_toArray, List.set_cons_zero, List.set_cons_succ, i64_w, i32_w]
           rfl
          refine pure_ (i := 11) (N := some 47) (v := ?_) (a' := ?_) #[true, true, true, true, true, true, true, true, true, true, true, true, false] rfl rfl (any_of HT_.out (by kernel_rfl)) (fun _ _ _ h => h) (Or.inl ⟨by rfl, ?_⟩) ?_ ?_
          rotate_left
          ·intro w'
           go_simp
           with_reducible rfl
          rotate_left
          ·simp only [Act.put, List.setIfInBounds_toArray, List.set_cons_zero, List.set_cons_succ, i64_w, i32_w]
           rfl
          refine last_ (i := 12) (N := none) #[true, true, true, true, true, true, true, true, true, true, true, true, true] rfl rfl (one_of HT_.out (by kernel_rfl)) (by decide) (fun K hK => ?_)
          refine skip_ (w1 := ?_) (by rfl) rfl ?_ ?_
          rotate_left
          ·go_simp
           rfl
          refine hK.out _ _ ?_
          clear hK K; refine done_ (done_of HT_.out (by kernel_rfl)) ?_
          try go_wp2
          go_roundg k2
          case measure => have := HK1.out; have := HK2.out; omega
          case rel => exact ⟨(wrap64 (x7_2 + 1)), (y275), (.slice (some ⟨go28, 0, none⟩) x274003_2.length co33), (by first | rfl | (simp; done) | (simp [*]; done)), H', ⟨by have := HK1.out; have := HK2.out; omega⟩, ⟨by (with_reducible repeat (first | apply Kd.S_alloc | apply Kd.S_drewN | apply Kd.S_drew)); exact Kd.S_mono (Kd.S_far (p := ⟨go28, (x7_2 : Int).toNat, none⟩) (Kd.S_mono HO_262000.out (fun k_ hk => (⟨hk, fun e_ => hk.2.2.1 (by rw [e_]; rfl)⟩ : _ ∧ k_ ≠ go28))) (fun _ hk => hk.2) (.int .i64 (wrap64 ((wrap64 ((l0_0.length : Int) - 1)) - (rd x274003_2 x7_2))))) (fun _ hk => ⟨hk.1.1, ⟨hk.1.2.1, ⟨hk.1.2.2.1, hk.1.2.2.2⟩⟩⟩)⟩, ⟨by exact Kd.R_mono (Kd.R_far (p := ⟨go28, (x7_2 : Int).toNat, none⟩) (Kd.R_types HO_274001.out GG28.out (by decide)) (fun _ hk => hk.2) (.int .i64 (wrap64 ((wrap64 ((l0_0.length : Int) - 1)) - (rd x274003_2 x7_2))))) (fun _ hk => trivial)⟩, ⟨by exact Kd.R_mono (Kd.R_far (p := ⟨go28, (x7_2 : Int).toNat, none⟩) (Kd.R_types HO_274002.out GG28.out (by decide)) (fun _ hk => hk.2) (.int .i64 (wrap64 ((wrap64 ((l0_0.length : Int) - 1)) - (rd x274003_2 x7_2))))) (fun _ hk => trivial)⟩, ⟨by (with_reducible repeat (first | apply Kd.R_alloc | apply Kd.R_drewN | apply Kd.R_drew)); exact HQ35.out⟩, ⟨by refine blk_far ?_ (by have h_ := Kd.R_ne HO_274003.out BK259.out (by decide); intro e_; exact h_ (by rw [e_]; rfl)) _; (with_reducible repeat (first | refine blk_drewN ?_ _ | refine blk_drew ?_ | refine blk_alloc ?_ _)); exact BK259.out⟩, ⟨by refine blk_far ?_ (by have h_ := Kd.R_ne HO_274003.out BK260.out (by decide); intro e_; exact h_ (by rw [e_]; rfl)) _; (with_reducible repeat (first | refine blk_drewN ?_ _ | refine blk_drew ?_ | refine blk_alloc ?_ _)); exact BK260.out⟩, ⟨by refine blk_far ?_ (by have h_ := Kd.R_ne HO_274003.out BK261.out (by decide); intro e_; exact h_ (by rw [e_]; rfl)) _; (with_reducible repeat (first | refine blk_drewN ?_ _ | refine blk_drew ?_ | refine blk_alloc ?_ _)); exact BK261.out⟩, ⟨by refine blk_far ?_ (by have h_ := Kd.R_ne HO_274003.out BK273.out (by decide); intro e_; exact h_ (by rw [e_]; rfl)) _; (with_reducible repeat (first | refine blk_drewN ?_ _ | refine blk_drew ?_ | refine blk_alloc ?_ _)); exact BK273.out⟩, ⟨BB HB⟩⟩
         ·rw [if_neg c27] at H; exact absurd H (by simp)
        ·rw [if_neg c26] at H; have c26b0 : decide (x7_2 < (x274003_2.length : Int)) = false := decide_eq_false c26; clear c26; by_cases c36 : x262000_1.length < 1759218604441
         ·rw [if_pos c36] at H; have LMc36 := AM c36; clear c36; obtain ⟨y276, hy276⟩ : ∃ y_ : List (S40), y_ = (x262000_1 ++ [(⟨t263, t264, t267, x274003_2⟩ : S40)]) := ⟨_, rfl⟩; replace H : (dioramaref09_Turn.l0 k2 (l0_0.length : Int) (wrap64 (x5_1 - 1)) l0_0 a0_1 y276 (wrap64 ((wrap64 ((l0_0.length : Int) - 1)) - a0_1))) = some (r1, r2) := by first | (rw [hy276]; with_reducible exact H) | (have H2_ := (Option.bind_some _ _).symm.trans H; rw [hy276]; with_reducible exact H2_) | (have H2_ := (Option.bind_some _ _).symm.trans H; with_reducible exact H2_) | with_reducible exact H | (rw [hy276]; exact H) | exact H
          have Ny276 := AM hy276; clear hy276; have H' := AM H; clear H; have hnb37 := NB273_259.out; have hnc37 := NB259_273.out; have hnb38 := NB273_260.out; have hnc38 := NB260_273.out; have hnb39 := NB273_261.out; have hnc39 := NB261_273.out; have hcz40_0 := BC BK273 0 (.int .i64 t263) rfl; have hcz40_1 := BC BK273 1 (.slice Ao23 t264.length co23) rfl; have hcz40_2 := BC BK273 2 (.slice Ao24 t267.length co24) rfl; have hcz40_3 := BC BK273 3 (u274003) rfl; have hfz40_0 := BF BK273 0; have hfz40_1 := BF BK273 1; have hfz40_2 := BF BK273 2; have hfz40_3 := BF BK273 3; obtain ⟨Ao41, co41, eo41⟩ := Kd.R_slice HO_274003.out; subst eo41; have hnb42 := NB261_259.out; have hnc42 := NB259_261.out; have hnb43 := NB261_260.out; have hnc43 := NB260_261.out; have hcz44_0 := BC BK261 0 (u262000) rfl; have hcz44_1 := BC BK261 1 (.int .i64 (wrap64 ((wrap64 ((l0_0.length : Int) - 1)) - a0_1))) rfl; have hfz44_0 := BF BK261 0; have hfz44_1 := BF BK261 1; go_wp2_with (first | ((with_reducible refine gate_builtin (b := .append) (xs := #[.tmp 49, .tmp 51]) rfl ?_); at_builtin; refine Kd.S_append k40 (w0 := w) w.heap.size rfl (.tmp 49) (.tmp 51) 22 40 (.agg #[(.int .i64 0), (.slice none 0 0), (.slice none 0 0), (.slice none 0 0)]) 80 rfl Try.underlying22 info40 rfl (by decide) (by omega) u262000 x262000_1 (⟨t263, t264, t267, x274003_2⟩ : S40) [.int .i64 t263, .slice Ao23 t264.length co23, .slice Ao24 t267.length co24, .slice Ao41 x274003_2.length co41] (fun k_ => k_ ≠ gb273) (fun k_ => some k_ = (.slice Ao23 t264.length co23 : Value).ownBlock ∨ some k_ = (.slice Ao24 t267.length co24 : Value).ownBlock ∨ some k_ = (.slice Ao41 x274003_2.length co41 : Value).ownBlock) rfl rfl ?aP (fun k_ hk_ => hk_.elim (fun h_ => ((Kd.R_mono (ok' := fun k_ => ((fun k_ => k_ ≠ gb273)) k_ ∧ some k_ ≠ (u262000 : Value).ownBlock) (Kd.R_types (Kd.R_apart' (HO_274001.out) (Kd.S_typed HO_262000.out) (by decide)) BK273.out (by decide)) (fun k_ hk => ⟨hk.2, hk.1.2⟩))).1 k_ h_.symm) (fun h_ => h_.elim (fun h_ => ((Kd.R_mono (ok' := fun k_ => ((fun k_ => k_ ≠ gb273)) k_ ∧ some k_ ≠ (u262000 : Value).ownBlock) (Kd.R_types (Kd.R_apart' (HO_274002.out) (Kd.S_typed HO_262000.out) (by decide)) BK273.out (by decide)) (fun k_ hk => ⟨hk.2, hk.1.2⟩))).1 k_ h_.symm) (fun h_ => ((Kd.R_mono (ok' := fun k_ => ((fun k_ => k_ ≠ gb273)) k_ ∧ some k_ ≠ (u262000 : Value).ownBlock) (Kd.R_types (Kd.R_apart' (HO_274003.out) (Kd.S_typed HO_262000.out) (by decide)) BK273.out (by decide)) (fun k_ hk => ⟨hk.2, hk.1.2⟩))).1 k_ h_.symm))) ?aF ?aO ?aB ?aS ?aL ?_; (case aP => exact k40_mkM _ _ _ (⟨t263, t264, t267, x274003_2⟩ : S40) (Kd.R_mono (Kd.R_tight rfl (Kd.R_mono (ok' := fun k_ => ((fun k_ => k_ ≠ gb273)) k_ ∧ some k_ ≠ (u262000 : Value).ownBlock) (Kd.R_types (Kd.R_apart' (HO_274001.out) (Kd.S_typed HO_262000.out) (by decide)) BK273.out (by decide)) (fun k_ hk => ⟨hk.2, hk.1.2⟩))) (fun _ h_ => Or.inl h_)) (Kd.R_mono (Kd.R_tight rfl (Kd.R_mono (ok' := fun k_ => ((fun k_ => k_ ≠ gb273)) k_ ∧ some k_ ≠ (u262000 : Value).ownBlock) (Kd.R_types (Kd.R_apart' (HO_274002.out) (Kd.S_typed HO_262000.out) (by decide)) BK273.out (by decide)) (fun k_ hk => ⟨hk.2, hk.1.2⟩))) (fun _ h_ => Or.inr (Or.inl h_))) (Kd.R_mono (Kd.R_tight rfl (Kd.R_mono (ok' := fun k_ => ((fun k_ => k_ ≠ gb273)) k_ ∧ some k_ ≠ (u262000 : Value).ownBlock) (Kd.R_types (Kd.R_apart' (HO_274003.out) (Kd.S_typed HO_262000.out) (by decide)) BK273.out (by decide)) (fun k_ hk => ⟨hk.2, hk.1.2⟩))) (fun _ h_ => Or.inr (Or.inr (h_))))); (case aB => exact (BB HB)); (case aF => exact (fun k_ hk => Kd.freshB (g := gb273) (o := .cells #[.int .i64 t263, .slice Ao23 t264.length co23, .slice Ao24 t267.length co24, .slice Ao41 x274003_2.length co41] 40 (0, 0)) (BL BK273) k_ hk)); (case aO => exact (by (with_reducible repeat (first | apply Kd.S_alloc | apply Kd.S_drewN | apply Kd.S_drew)); exact Kd.S_mono HO_262000.out (fun k_ hk => ⟨hk.2.2.2, fun e_ => e_.elim (fun h_ => hk.1 h_) (fun h_ => h_.elim (fun h_ => hk.2.1 h_) (fun h_ => hk.2.2.1 h_))⟩))); (case aS => exact (below_size (BB HB))); (case aL => have := LMc36.out; omega); intro v277 w45 ho hb hg hat; rw [← Ny276.out] at ho; replace BK259 := AM (blk_grown (g := gb259) (o := .cells #[.slice (some ad262) l0_0.length c0_0, .int .i64 a0_1] 24 (0, 0)) (BL BK259) hg (Kd.S_ne HO_262000.out BK259.out (by decide))); replace BK260 := AM (blk_grown (g := gb260) (o := .cells #[.slice none 0 0, .int .i64 0] 24 (0, 0)) (BL BK260) hg (Kd.S_ne HO_262000.out BK260.out (by decide))); replace BK261 := AM (blk_grown (g := gb261) (o := .cells #[u262000, .int .i64 (wrap64 ((wrap64 ((l0_0.length : Int) - 1)) - a0_1))] 24 (0, 0)) (BL BK261) hg (Kd.S_ne HO_262000.out BK261.out (by decide))); replace BK273 := AM (blk_grown (g := gb273) (o := .cells #[.int .i64 t263, .slice Ao23 t264.length co23, .slice Ao24 t267.length co24, .slice Ao41 x274003_2.length co41] 40 (0, 0)) (BL BK273) hg (Kd.S_away HO_262000.out (fun _ hk => hk.2.2.2))); replace HB := AM (hb); have HO278 := AM (ho); clear HO_262000; clear HO_274001; clear HO_274002; clear HO_274003; clear ho hb hg hat; obtain ⟨Ao46, co46, eo46⟩ := Kd.S_slice HO278.out; subst eo46; have hcz47_0 := BC BK261 0 (u262000) rfl; have hcz47_1 := BC BK261 1 (.int .i64 (wrap64 ((wrap64 ((l0_0.length : Int) - 1)) - a0_1))) rfl; have hfz47_0 := BF BK261 0; have hfz47_1 := BF BK261 1))
          go_roundg k2
          case measure => have := HK1.out; have := HK2.out; omega
          case rel => exact ⟨(wrap64 (x5_1 - 1)), (y276), (.slice Ao46 y276.length co46), (by first | rfl | (simp; done) | (simp [*]; done)), H', ⟨by have := HK1.out; have := HK2.out; omega⟩, ⟨by (with_reducible repeat (first | apply Kd.S_alloc | apply Kd.S_drewN | apply Kd.S_drew)); exact Kd.S_mono (Kd.S_far (p := ⟨gb261, 0, none⟩) (Kd.S_types HO278.out BK261.out (by decide)) (fun _ hk => hk.2) (.slice Ao46 y276.length co46)) (fun _ hk => trivial)⟩, ⟨by refine blk_far ?_ NB259_261.out _; (with_reducible repeat (first | refine blk_drewN ?_ _ | refine blk_drew ?_ | refine blk_alloc ?_ _)); exact BK259.out⟩, ⟨by refine blk_far ?_ NB260_261.out _; (with_reducible repeat (first | refine blk_drewN ?_ _ | refine blk_drew ?_ | refine blk_alloc ?_ _)); exact BK260.out⟩, ⟨by refine blk_put (cs := #[u262000, .int .i64 (wrap64 ((wrap64 ((l0_0.length : Int) - 1)) - a0_1))]) ?_ 0 _ rfl; (with_reducible repeat (first | refine blk_drewN ?_ _ | refine blk_drew ?_ | refine blk_alloc ?_ _)); exact BK261.out⟩, ⟨BB HB⟩⟩
         ·rw [if_neg c36] at H; exact absurd H (by simp)
     ·rw [if_neg c12] at H; exact absurd H (by simp)
    ·rw [if_neg c11] at H; exact absurd H (by simp)
   ·rw [if_neg c10] at H; have c10b0 : decide (0 ≤ x5_1) = false := decide_eq_false c10; clear c10; simp only [Option.some.injEq, Prod.mk.injEq] at H
    obtain ⟨rfl, rfl⟩ := H; have hnb48 := NB261_259.out; have hnc48 := NB259_261.out; have hnb49 := NB261_260.out; have hnc49 := NB260_261.out; have hcz50_0 := BC BK261 0 (u262000) rfl; have hcz50_1 := BC BK261 1 (.int .i64 (wrap64 ((wrap64 ((l0_0.length : Int) - 1)) - a0_1))) rfl; have hfz50_0 := BF BK261 0; have hfz50_1 := BF BK261 1; obtain ⟨Ao51, co51, eo51⟩ := Kd.S_slice HO_262000.out; subst eo51; have hnb52 := NB260_259.out; have hnc52 := NB259_260.out; have hcz53_0 := BC BK260 0 (.slice none 0 0) rfl; have hcz53_1 := BC BK260 1 (.int .i64 0) rfl; have hfz53_0 := BF BK260 0; have hfz53_1 := BF BK260 1; go_wp2
    refine bodyPost_ret (results_cell_row rfl _ _ gb260 24 #[.slice Ao51 x262000_1.length co51, .int .i64 (wrap64 ((wrap64 ((l0_0.length : Int) - 1)) - a0_1))] (0, 0) _ rfl (by refine blk_put (cs := #[.slice Ao51 x262000_1.length co51, .int .i64 0]) ?_ 1 _ rfl; refine blk_put (cs := #[.slice none 0 0, .int .i64 0]) ?_ 0 _ rfl; (with_reducible repeat (first | refine blk_drewN ?_ _ | refine blk_drew ?_ | refine blk_alloc ?_ _)); exact BK260.out) Try.underlying24 rfl (by kernel_rfl)) rfl ?_
    exact ⟨_, by first | rfl | (simp [errW_none, errW_some] <;> rfl) | (simp [*, errW_none, errW_some] <;> rfl), by (with_reducible repeat (first | apply Kd.S_alloc | apply Kd.S_drewN | apply Kd.S_drew)); exact Kd.S_mono (Kd.S_far (p := ⟨gb260, 1, none⟩) (Kd.S_far (p := ⟨gb260, 0, none⟩) (Kd.S_types HO_262000.out BK260.out (by decide)) (fun _ hk => hk.2) (.slice Ao51 x262000_1.length co51)) (fun _ hk => hk.2) (.int .i64 (wrap64 ((wrap64 ((l0_0.length : Int) - 1)) - a0_1)))) (fun _ hk => trivial), BB HB⟩


end Go.Proofs.Ytlfjjapndlkamaa.GH
