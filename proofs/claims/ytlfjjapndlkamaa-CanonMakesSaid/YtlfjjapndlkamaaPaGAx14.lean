-- Printed by a program of the session (wip/gen/tprint.py, over a turned copy of the kit's print): Lean checks it.
import Derived.Test.YtlfjjapndlkamaaPaGAx0
import Derived.Test.YtlfjjapndlkamaaPaGAx6
import Derived.Test.YtlfjjapndlkamaaPaGAx13
namespace Go.Proofs.Ytlfjjapndlkamaa.GA
open Go.RowKit Go.Proofs.YtlfjjapndlkamaaW.PrintWords Go.Proofs.YtlfjjapndlkamaaW.PrintLast Go.Proofs.YtlfjjapndlkamaaW.PrintMore
attribute [local go_sem] max2_int min2_int max_two min_two max_three min_three max_four min_four   -- for this text's walks alone
set_option linter.unusedVariables false
set_option linter.unusedSimpArgs false

/-! ### dioramaref10_Canon: function 21 -/
mutual
def dioramaref10_Canon.l0 : Nat → List Int → Int → List (S40) → Int → List (S40) → Int → Option ((List (S40)) × Int)
 | 0, _, _, _, _, _, _ => none
 | k + 1, x3, x5, x279000, x279001, x284000, x284001 => if x5 < (x3.length : Int) then (if 0 ≤ x5 then (if 0 ≤ (rd x3 x5) then (if (rd x3 x5) < (x279000.length : Int) then ((dioramaref08_Copy.f ((rd_T40 x279000 (rd x3 x5)).f0) ((rd_T40 x279000 (rd x3 x5)).f1) ((rd_T40 x279000 (rd x3 x5)).f2) ((rd_T40 x279000 (rd x3 x5)).f3)).bind fun bt286 => (dioramaref10_Canon.l1 k x3 x5 0 x279000 x279001 x284000 x284001 bt286.1 bt286.2.1 bt286.2.2.1 bt286.2.2.2)) else (none)) else (none)) else (none)) else (some (x284000, x284001))
def dioramaref10_Canon.l1 : Nat → List Int → Int → Int → List (S40) → Int → List (S40) → Int → Int → List Int → List ByteArray → List Int → Option ((List (S40)) × Int)
 | 0, _, _, _, _, _, _, _, _, _, _, _ => none
 | k + 1, x3, x5, x7, x279000, x279001, x284000, x284001, x297000, x297001, x297002, x297003 => if x7 < (x297003.length : Int) then (if 0 ≤ x7 then ((dioramaref10_Find.f k x3 (rd x297003 x7)).bind fun t298 => (dioramaref10_Canon.l1 k x3 x5 (wrap64 (x7 + 1)) x279000 x279001 x284000 x284001 x297000 x297001 x297002 (x297003.set (x7 : Int).toNat t298))) else (none)) else (if x284000.length < 1759218604441 then (dioramaref10_Canon.l0 k x3 (wrap64 (x5 + 1)) x279000 x279001 (x284000 ++ [(⟨x297000, x297001, x297002, x297003⟩ : S40)]) x284001) else (none))
end
def dioramaref10_Canon.f (k : Nat) (l0_0 : List (S40)) (a0_1 : Int) : Option ((List (S40)) × Int) := (dioramaref10_Order.f k l0_0 a0_1).bind fun t280 => (dioramaref10_Canon.l0 k t280 0 l0_0 a0_1 ([] : List (S40)) (wrap64 ((t280.length : Int) - 1)))
def dioramaref10_Canon.T6 : Bool × List (List Nat × List Nat) := (true, [([], []), ([0], [0]), ([], []), ([], []), ([2, 3], [2, 3]), ([4], [4]), ([1, 5], [1, 5]), ([6], [6]), ([7], [7]), ([], []), ([9, 8, 8, 0, 1, 2, 3, 4, 5, 6, 7, 8, 9], [8, 9])])
def dioramaref10_Canon.B6 : List Nat := [0, 1, 0, 0, 12, 28, 63, 127, 255, 0, 1023]
theorem dioramaref10_Canon.tab6 : rtab .any (opsOf Try.f21 6) = dioramaref10_Canon.T6 := by kernel_rfl
theorem dioramaref10_Canon.bits6 : waitsOk dioramaref10_Canon.T6.2 dioramaref10_Canon.B6 = true := by kernel_rfl
def dioramaref10_Canon.T10 : Bool × List (List Nat × List Nat) := (true, [([], []), ([0], [0]), ([], []), ([], []), ([], []), ([4], [4]), ([], []), ([5, 6], [5, 6]), ([7], [7]), ([3, 8], [3, 8]), ([1, 2, 0, 1, 2, 3, 4, 5, 6, 7, 8, 9], [1, 2]), ([10, 9, 9, 0, 1, 2, 3, 4, 5, 6, 7, 8, 9], [9, 10])])
def dioramaref10_Canon.B10 : List Nat := [0, 1, 0, 0, 0, 16, 0, 112, 240, 504, 1023, 2047]
theorem dioramaref10_Canon.tab10 : rtab .any (opsOf Try.f21 10) = dioramaref10_Canon.T10 := by kernel_rfl
theorem dioramaref10_Canon.bits10 : waitsOk dioramaref10_Canon.T10.2 dioramaref10_Canon.B10 = true := by kernel_rfl
set_option maxHeartbeats 8000000 in
set_option maxRecDepth 100000 in
theorem dioramaref10_Canon.calls (k : Nat) (A0_0 : Option Addr) (c0_0 : Nat) (l0_0 : List (S40)) (a0_1 : Int) (r1 : List (S40)) (r2 : Int) (w : World) (hr0_0 : Kd.C k40 w A0_0 l0_0.length l0_0) (hc0_0 : l0_0.length ≤ c0_0) (h : dioramaref10_Canon.f k l0_0 a0_1 = some (r1, r2)) :
  Calls Try.prog 21 #[.agg #[.slice A0_0 l0_0.length c0_0, .int .i64 a0_1]] w fun e w' => ∃ v0_ : Value, e = .returned (.agg #[v0_, .int .i64 r2]) ∧ Kd.S k40 40 w' w.heap.size (fun _ => True) v0_ r1 ∧ Below w.heap.size w w' := by
 have hu24 := Try.underlying24
 have hu40 := Try.underlying40
 have HR0_0 := Aside0.mk hr0_0
 have HC0_0 := Aside0.mk hc0_0
 clear hr0_0 hc0_0
 have HB := Aside0.mk (Below.refl w.heap.size w)
 have H : ((dioramaref10_Order.f k l0_0 a0_1).bind fun t280 => (dioramaref10_Canon.l0 k t280 0 l0_0 a0_1 ([] : List (S40)) (wrap64 ((t280.length : Int) - 1)))) = some (r1, r2) := h
 clear h
 replace H := Option.bind_eq_some_iff.mp H
 obtain ⟨t280, A20, H⟩ := H
 replace H : (dioramaref10_Canon.l0 k t280 0 l0_0 a0_1 ([] : List (S40)) (wrap64 ((t280.length : Int) - 1))) = some (r1, r2) := H
 obtain ⟨rt_, hrt_⟩ : ∃ z_ : Int, wrap64 ((t280.length : Int) - 1) = z_ := ⟨_, rfl⟩
 rw [hrt_] at H
 have A2 := Aside0.mk A20
 clear A20
 have H' := Aside0.mk H
 clear H
 go_enter Try.func21, Try.ntmps21
 go_wp2_with (first | ((with_reducible refine gate_dst (N := 1) rfl ?_); refine box_event ?hg (N := 1) ?hd (cs := #[.slice A0_0 l0_0.length c0_0, .int .i64 a0_1]) (t := 24) ?hr ?_; (case hd => rfl); (case hg => rfl); (case hr => first | (go_simp; done) | (go_simp; rfl)); intro gb278 hg w3 hbox hb; have n0_ := Aside0.mk (below_step (BB HB) hb); have n1_ := Aside0.mk (hbox); have n2_ := Aside0.mk ((by rw [hg]; exact (below_size (BB HB)) : w.heap.size ≤ gb278)); have n3_ := Aside0.mk ((by rw [hg]; exact (below_size (BB HB)) : w.heap.size ≤ gb278)); clear HB; have HB := n0_; have BK278 := n1_; have GW278 := n2_; have GE278 := n3_; clear n0_ n1_ n2_ n3_; clear hb hbox hg) | ((with_reducible refine gate_dst (N := 2) rfl ?_); refine box_event ?hg (N := 2) ?hd (cs := #[.slice none 0 0, .int .i64 0]) (t := 24) ?hr ?_; (case hd => rfl); (case hg => rfl); (case hr => first | (go_simp; done) | (go_simp; rfl)); intro gb279 hg w4 hbox hb; have n0_ := BE BK278 hb; have n1_ := Aside0.mk (below_step (BB HB) hb); have n2_ := Aside0.mk (hbox); have n3_ := Aside0.mk ((by rw [hg]; exact (below_size (BB HB)) : w.heap.size ≤ gb279)); have n4_ := Aside0.mk ((by rw [hg]; exact (below_size (BB HB)) : w.heap.size ≤ gb279)); have n5_ := Aside0.mk ((by rw [hg]; exact Nat.ne_of_lt (blk_lt (g := gb278) (o := .cells #[.slice A0_0 l0_0.length c0_0, .int .i64 a0_1] 24 (0, 0)) (BL BK278)) : gb278 ≠ gb279)); have n6_ := Aside0.mk ((by rw [hg]; exact Nat.ne_of_gt (blk_lt (g := gb278) (o := .cells #[.slice A0_0 l0_0.length c0_0, .int .i64 a0_1] 24 (0, 0)) (BL BK278)) : gb279 ≠ gb278)); clear BK278; clear HB; have BK278 := n0_; have HB := n1_; have BK279 := n2_; have GW279 := n3_; have GE279 := n4_; have NB278_279 := n5_; have NB279_278 := n6_; clear n0_ n1_ n2_ n3_ n4_ n5_ n6_; clear hb hbox hg; have hnb5 := NB278_279.out; have hnc5 := NB279_278.out; have hcz6_0 : w4.cell? ⟨gb278, 0, none⟩ = some (.slice A0_0 l0_0.length c0_0) := (blk_cell BK278.out 0).trans rfl; have hcz6_1 : w4.cell? ⟨gb278, 1, none⟩ = some (.int .i64 a0_1) := (blk_cell BK278.out 1).trans rfl; have hfz6_0 := blk_frozen BK278.out 0; have hfz6_1 := blk_frozen BK278.out 1) | ((with_reducible refine gate_callee (f := 44) rfl ?_); refine goesL_ (some 9) rfl rfl Try.func44 (by kernel_rfl) rfl #[.agg #[.slice A0_0 l0_0.length c0_0, .int .i64 a0_1]] rfl (by (try simp only [List.map_toArray, List.map_cons, List.map_nil]); first | done | rfl | (simp only [List.length_drop, List.length_take]; rfl)) ?_; (with_reducible refine (dioramaref10_Order.calls k _ _ l0_0 a0_1 t280 _ ?side1 ?side2 A2.out).mono ?_); (case side1 => repeat (first | exact (Kd.C_below HR0_0.out HB.out) | (with_reducible refine Kd.C_alloc ?_ _) | (with_reducible refine Kd.C_drewN ?_ _) | (with_reducible refine Kd.C_drew ?_))); (case side2 => exact HC0_0.out); rintro e w7 ⟨v281, rfl, ho0, hb⟩; refine ⟨_, rfl, ?_⟩; have n0_ := Aside0.mk (Kd.V_lower (Kd.V_mono (ok' := fun k_ => k_ ≠ gb278 ∧ k_ ≠ gb279) ho0 (fun k_ hk_ => ⟨(Kd.freshB (g := gb278) (o := .cells #[.slice A0_0 l0_0.length c0_0, .int .i64 a0_1] 24 (0, 0)) (BL BK278) k_ hk_), (Kd.freshB (g := gb279) (o := .cells #[.slice none 0 0, .int .i64 0] 24 (0, 0)) (BL BK279) k_ hk_)⟩)) (below_size (BB HB))); have n1_ := BE BK278 hb; have n2_ := BE BK279 hb; have n3_ := Aside0.mk (below_step (BB HB) hb); clear BK278; clear BK279; clear HB; have HO282 := n0_; have BK278 := n1_; have BK279 := n2_; have HB := n3_; clear n0_ n1_ n2_ n3_; (try clear hb); (try clear hb2); (try clear hk); (try clear hi); (try clear ho0); obtain ⟨Ao8, co8, eo8⟩ := Kd.V_slice HO282.out; subst eo8) | ((with_reducible refine gate_dst (N := 4) rfl ?_); refine box_event ?hg (N := 4) ?hd (cs := #[.slice none 0 0, .int .i64 0]) (t := 24) ?hr ?_; (case hd => rfl); (case hg => rfl); (case hr => first | (go_simp; done) | (go_simp; rfl)); intro gb283 hg w9 hbox hb; have n0_ := Aside0.mk (Kd.V_below (Kd.V_elderB (by (with_reducible repeat (first | apply Kd.V_alloc | apply Kd.V_drewN | apply Kd.V_drew)); exact HO282.out) gb283 (Nat.le_of_eq hg.symm)) hb); have n1_ := BE BK278 hb; have n2_ := BE BK279 hb; have n3_ := Aside0.mk (below_step (BB HB) hb); have n4_ := Aside0.mk (hbox); have n5_ := Aside0.mk ((by rw [hg]; exact (below_size (BB HB)) : w.heap.size ≤ gb283)); have n6_ := Aside0.mk ((by rw [hg]; exact (below_size (BB HB)) : w.heap.size ≤ gb283)); have n7_ := Aside0.mk ((by rw [hg]; exact Nat.ne_of_lt (blk_lt (g := gb278) (o := .cells #[.slice A0_0 l0_0.length c0_0, .int .i64 a0_1] 24 (0, 0)) (BL BK278)) : gb278 ≠ gb283)); have n8_ := Aside0.mk ((by rw [hg]; exact Nat.ne_of_gt (blk_lt (g := gb278) (o := .cells #[.slice A0_0 l0_0.length c0_0, .int .i64 a0_1] 24 (0, 0)) (BL BK278)) : gb283 ≠ gb278)); have n9_ := Aside0.mk ((by rw [hg]; exact Nat.ne_of_lt (blk_lt (g := gb279) (o := .cells #[.slice none 0 0, .int .i64 0] 24 (0, 0)) (BL BK279)) : gb279 ≠ gb283)); have n10_ := Aside0.mk ((by rw [hg]; exact Nat.ne_of_gt (blk_lt (g := gb279) (o := .cells #[.slice none 0 0, .int .i64 0] 24 (0, 0)) (BL BK279)) : gb283 ≠ gb279)); clear HO282; clear BK278; clear BK279; clear HB; have HO282 := n0_; have BK278 := n1_; have BK279 := n2_; have HB := n3_; have BK283 := n4_; have GW283 := n5_; have GE283 := n6_; have NB278_283 := n7_; have NB283_278 := n8_; have NB279_283 := n9_; have NB283_279 := n10_; clear n0_ n1_ n2_ n3_ n4_ n5_ n6_ n7_ n8_ n9_ n10_; clear hb hbox hg; have hnb10 := NB283_278.out; have hnc10 := NB278_283.out; have hnb11 := NB283_279.out; have hnc11 := NB279_283.out; have hcz12_0 : w9.cell? ⟨gb283, 0, none⟩ = some (.slice none 0 0) := (blk_cell BK283.out 0).trans rfl; have hcz12_1 : w9.cell? ⟨gb283, 1, none⟩ = some (.int .i64 0) := (blk_cell BK283.out 1).trans rfl; have hfz12_0 := blk_frozen BK283.out 0; have hfz12_1 := blk_frozen BK283.out 1))
 clear hrt_
 go_loopg [5] k (fun kq v5 w' => ∃ (x3_1 : List Int) (x5_1 : Int) (x284000_1 : List (S40)) (u284000 : Value), v5 = .int .i64 x5_1 ∧ Aside0 (dioramaref10_Canon.l0 kq x3_1 x5_1 l0_0 a0_1 x284000_1 rt_ = some (r1, r2)) ∧ Aside0 (kq ≤ k) ∧ Aside0 (Kd.V (Kd.int .i64) 3 w' w.heap.size (fun k_ => some k_ ≠ (u284000 : Value).ownBlock ∧ k_ ≠ gb278 ∧ k_ ≠ gb279 ∧ k_ ≠ gb283) (.slice Ao8 t280.length co8) x3_1) ∧ Aside0 (Kd.S k40 40 w' w.heap.size (fun _ => True) u284000 x284000_1) ∧ Aside0 (w'.heap[gb278]? = some (.cells #[(.slice A0_0 l0_0.length c0_0), .int .i64 a0_1] 24 (0, 0))) ∧ Aside0 (w'.heap[gb279]? = some (.cells #[(.slice none 0 0), .int .i64 0] 24 (0, 0))) ∧ Aside0 (w'.heap[gb283]? = some (.cells #[u284000, .int .i64 rt_] 24 (0, 0))) ∧ Aside0 (Below w.heap.size w w'))
 case atStart => exact ⟨(t280), (0), (([] : List (S40))), (.slice none 0 0), (by first | rfl | (simp; done) | (simp [*]; done)), H', ⟨Nat.le_refl _⟩, ⟨by (with_reducible repeat (first | apply Kd.V_alloc | apply Kd.V_drewN | apply Kd.V_drew)); exact Kd.V_mono (Kd.V_far (p := ⟨gb283, 1, none⟩) (Kd.V_far (p := ⟨gb283, 0, none⟩) (Kd.V_mono HO282.out (fun k_ hk => (⟨hk, hk.2⟩ : _ ∧ k_ ≠ gb283))) (fun _ hk => hk.2) (.slice none 0 0)) (fun _ hk => hk.2) (.int .i64 rt_)) (fun _ hk => ⟨(by simp [Value.ownBlock]), ⟨hk.1.1.1, ⟨hk.1.1.2, hk.1.2⟩⟩⟩)⟩, ⟨by first | exact Kd.S_nil _ _ _ _ _ | exact Kd.N_nil _ _ _ _ _ | exact Kd.V_nil _ _ _ _ _ | exact Kd.Q_nil _ _ _ _ _ | exact Kd.R_nil _ _ _ _ _⟩, ⟨by refine blk_far ?_ NB278_283.out _; refine blk_far ?_ NB278_283.out _; (with_reducible repeat (first | refine blk_drewN ?_ _ | refine blk_drew ?_ | refine blk_alloc ?_ _)); exact BK278.out⟩, ⟨by refine blk_far ?_ NB279_283.out _; refine blk_far ?_ NB279_283.out _; (with_reducible repeat (first | refine blk_drewN ?_ _ | refine blk_drew ?_ | refine blk_alloc ?_ _)); exact BK279.out⟩, ⟨by refine blk_put (cs := #[.slice none 0 0, .int .i64 0]) ?_ 1 _ rfl; refine blk_put (cs := #[.slice none 0 0, .int .i64 0]) ?_ 0 _ rfl; (with_reducible repeat (first | refine blk_drewN ?_ _ | refine blk_drew ?_ | refine blk_alloc ?_ _)); exact BK283.out⟩, ⟨BB HB⟩⟩
 case round =>
  clear H'
  try clear c1
  try clear c2
  try clear p2
  try clear c4
  try clear c5
  try clear p6
  try clear c10
  try clear c11
  try clear hcz12_0
  try clear hcz12_1
  try clear hcz6_0
  try clear hcz6_1
  try clear hfz12_0
  try clear hfz12_1
  try clear hfz6_0
  try clear hfz6_1
  obtain ⟨x3_1, x5_1, x284000_1, u284000, rfl, HA, HK1, HO_3, HO_284000, BK278, BK279, BK283, HB⟩ := hrel
  have hl3_1 := (Kd.V_reads' HO_3.out).1
  rw [hl3_1] at HO_3
  (try simp only [hl3_1])
  (try simp only [hl3_1] at BK278)
  (try simp only [hl3_1] at BK279)
  (try simp only [hl3_1] at BK283)
  (try simp only [hl3_1] at HO_284000)
  cases gk with
  | zero => exact absurd HA.out (by simp [dioramaref10_Canon.l0])
  | succ k1 =>
   have H := HA.out
   clear HA
   simp only [dioramaref10_Canon.l0] at H
   by_cases c13 : x5_1 < (x3_1.length : Int)
   ·rw [if_pos c13] at H
    have c13b0 : decide (x5_1 < (x3_1.length : Int)) = true := decide_eq_true c13
    clear c13
    by_cases c14 : 0 ≤ x5_1
    ·rw [if_pos c14] at H
     have c14b0 : decide (0 ≤ x5_1) = true := decide_eq_true c14
     clear c14
     by_cases c15 : 0 ≤ (rd x3_1 x5_1)
     ·rw [if_pos c15] at H
      have c15b0 : decide (0 ≤ (rd x3_1 x5_1)) = true := decide_eq_true c15
      clear c15
      by_cases c16 : (rd x3_1 x5_1) < (l0_0.length : Int)
      ·rw [if_pos c16] at H
       have c16b0 : decide ((rd x3_1 x5_1) < (l0_0.length : Int)) = true := decide_eq_true c16
       clear c16
       replace H := Option.bind_eq_some_iff.mp H
       obtain ⟨⟨t286, t287, t290, t293⟩, A170, H⟩ := H
       replace H : (dioramaref10_Canon.l1 k1 x3_1 x5_1 0 l0_0 a0_1 x284000_1 rt_ t286 t287 t290 t293) = some (r1, r2) := H
       have A17 := Aside0.mk A170
       clear A170
       have H' := Aside0.mk H
       clear H
       try go_wp2
       have n0_ := Aside0.mk (Kd.V_drew HO_3.out)
       have n1_ := Aside0.mk (Kd.S_drew HO_284000.out)
       have n2_ := Aside0.mk (blk_drew BK278.out)
       have n3_ := Aside0.mk (blk_drew BK279.out)
       have n4_ := Aside0.mk (blk_drew BK283.out)
       have n5_ := Aside0.mk (below_drew1 HB.out)
       clear HO_3
       clear HO_284000
       clear BK278
       clear BK279
       clear BK283
       clear HB
       have HO_3 := n0_
       have HO_284000 := n1_
       have BK278 := n2_
       have BK279 := n3_
       have BK283 := n4_
       have HB := n5_
       clear n0_ n1_ n2_ n3_ n4_ n5_
       have p284 : 0 ≤ (x5_1 : Int) := of_decide_eq_true (by first | (with_reducible assumption) | assumption)
       have q284 : x5_1 < (x3_1.length : Int) := of_decide_eq_true (by first | (with_reducible assumption) | assumption)
       obtain ⟨ad284, e284, hx284_0⟩ := Kd.at_int (Kd.V_reads' HO_3.out).2.2 x5_1 p284 q284
       cases e284
       replace p284 := eq_true p284
       replace q284 := eq_true q284
       have p285 : 0 ≤ ((rd x3_1 x5_1) : Int) := of_decide_eq_true (by first | (with_reducible assumption) | assumption)
       have q285 : (rd x3_1 x5_1) < (l0_0.length : Int) := of_decide_eq_true (by first | (with_reducible assumption) | assumption)
       obtain ⟨ad285, A285_1, c285_1, A285_2, c285_2, A285_3, c285_3, e285, hx285_0, hx285_1, hx285_2, hx285_3, hl285_1, hi285_1, hl285_2, hi285_2, hl285_3, hi285_3⟩ := at_T40 HR0_0.out (rd x3_1 x5_1) p285 q285
       have hw285_3 := hx285_3
       have hw285_2 := hx285_2
       have hw285_1 := hx285_1
       have hw285_0 := hx285_0
       cases e285
       replace hx285_0 := (HB.out.cell (World.block_lt_of_cell? w _ hx285_0)).trans hx285_0
       replace hx285_1 := (HB.out.cell (World.block_lt_of_cell? w _ hx285_1)).trans hx285_1
       replace hx285_2 := (HB.out.cell (World.block_lt_of_cell? w _ hx285_2)).trans hx285_2
       replace hx285_3 := (HB.out.cell (World.block_lt_of_cell? w _ hx285_3)).trans hx285_3
       have HR285_1 := Aside0.mk hi285_1
       have HC285_1 := Aside0.mk hl285_1
       clear hi285_1 hl285_1
       have HR285_2 := Aside0.mk hi285_2
       have HC285_2 := Aside0.mk hl285_2
       clear hi285_2 hl285_2
       have HR285_3 := Aside0.mk hi285_3
       have HC285_3 := Aside0.mk hl285_3
       clear hi285_3 hl285_3
       replace p285 := eq_true p285
       replace q285 := eq_true q285
       refine start_ (n := 11) (S := fun w' => w'.cell? ⟨gb278, 0, none⟩ = some (.slice (some ad285) l0_0.length c0_0) ∧ w'.cell? ⟨gb278, 1, none⟩ = some (.int .i64 a0_1) ∧ w'.cell? (ad284.add (x5_1).toNat) = some (.int .i64 (rd x3_1 x5_1)) ∧ w'.cell? (ad285.add (((rd x3_1 x5_1)).toNat * 4)) = some (.int .i64 ((rd_T40 l0_0 (rd x3_1 x5_1)).f0)) ∧ w'.cell? ⟨(ad285.add (((rd x3_1 x5_1)).toNat * 4)).block, (ad285.add (((rd x3_1 x5_1)).toNat * 4)).off + 1, none⟩ = some (.slice A285_1 ((rd_T40 l0_0 (rd x3_1 x5_1)).f1).length c285_1) ∧ w'.cell? ⟨(ad285.add (((rd x3_1 x5_1)).toNat * 4)).block, (ad285.add (((rd x3_1 x5_1)).toNat * 4)).off + 2, none⟩ = some (.slice A285_2 ((rd_T40 l0_0 (rd x3_1 x5_1)).f2).length c285_2) ∧ w'.cell? ⟨(ad285.add (((rd x3_1 x5_1)).toNat * 4)).block, (ad285.add (((rd x3_1 x5_1)).toNat * 4)).off + 3, none⟩ = some (.slice A285_3 ((rd_T40 l0_0 (rd x3_1 x5_1)).f3).length c285_3)) (ds := []) #[false, false, false, false, false, false, false, false, false, false, false] (by kernel_rfl) rfl rfl ⟨(blk_cell BK278.out 0).trans rfl, (blk_cell BK278.out 1).trans rfl, hx284_0, ((HB.out.cell (World.block_lt_of_cell? w _ hw285_0)).trans hw285_0), ((HB.out.cell (World.block_lt_of_cell? w _ hw285_1)).trans hw285_1), ((HB.out.cell (World.block_lt_of_cell? w _ hw285_2)).trans hw285_2), ((HB.out.cell (World.block_lt_of_cell? w _ hw285_3)).trans hw285_3)⟩ (fun hHeld => ?_); refine with_tabW dioramaref10_Canon.tab6 dioramaref10_Canon.bits6 (fun HT_ HW_ => ?_)
       generalize wr.drew = w18 at HO_3 HO_284000 BK278 BK279 BK283 HB HR285_1 HR285_2 HR285_3 hx284_0 hx285_0 hx285_1 hx285_2 hx285_3 hHeld ⊢
       refine pure_ (i := 0) (N := some 20) (v := ?_) (a' := ?_) #[true, false, false, false, false, false, false, false, false, false, false] rfl rfl (any_of HT_.out (by kernel_rfl)) (fun _ _ _ h => h) (Or.inl ⟨by rfl, ?_⟩) ?_ ?_
       rotate_left
       ·intro w'
        go_simp
        with_reducible rfl
       rotate_left
       ·simp only [Act.put, List.setIfInBounds_toArray, List.set_cons_zero, List.set_cons_succ, i64_w, i32_w]
        rfl
       refine pure_ (i := 2) (N := some 22) (v := ?_) (a' := ?_) #[true, false, true, false, false, false, false, false, false, false, false] rfl rfl (any_of HT_.out (by kernel_rfl)) (fun _ _ _ h => h) (Or.inl ⟨by rfl, ?_⟩) ?_ ?_
       rotate_left
       ·intro w'
        go_simp
        with_reducible rfl
       rotate_left
       ·simp only [Act.put, List.setIfInBounds_toArray, List.set_cons_zero, List.set_cons_succ, i64_w, i32_w]
        rfl
       refine pure_ (i := 3) (N := some 23) (v := ?_) (a' := ?_) #[true, false, true, true, false, false, false, false, false, false, false] rfl rfl (any_of HT_.out (by kernel_rfl)) (fun _ _ _ h => h) (Or.inl ⟨by rfl, ?_⟩) ?_ ?_
       rotate_left
       ·intro w'
        go_simp
        with_reducible rfl
       rotate_left
       ·simp only [Act.put, List.setIfInBounds_toArray, List.set_cons_zero, List.set_cons_succ, i64_w, i32_w]
        rfl
       refine pure_ (i := 4) (N := some 24) (v := ?_) (a' := ?_) #[true, false, true, true, true, false, false, false, false, false, false] rfl rfl (any_of HT_.out (by kernel_rfl)) (fun _ _ _ h => h) (Or.inl ⟨by rfl, ?_⟩) ?_ ?_
       rotate_left
       ·intro w'
        go_simp
        with_reducible rfl
       rotate_left
       ·simp only [Act.put, List.setIfInBounds_toArray, List.set_cons_zero, List.set_cons_succ, i64_w, i32_w]
        rfl
       refine take_ (i := 1) (N := some 21) (v := ?_) (a' := ?_) #[true, true, true, true, true, false, false, false, false, false, false] rfl rfl (take_ofW HT_.out HW_.out (by kernel_rfl)) (fun _ _ _ h => h) (Or.inl ⟨by rfl, ?_⟩) hHeld ?_ ?_
       rotate_left
       ·rintro w' ⟨s0, s1, s2, s3, s4, s5, s6⟩
        go_simp
        with_reducible rfl
       rotate_left
       ·simp only [Act.put, List.setIfInBounds_toArray, List.set_cons_zero, List.set_cons_succ, i64_w, i32_w]
        rfl
       refine take_ (i := 5) (N := some 25) (v := ?_) (a' := ?_) #[true, true, true, true, true, true, false, false, false, false, false] rfl rfl (take_ofW HT_.out HW_.out (by kernel_rfl)) (fun _ _ _ h => h) (Or.inl ⟨by rfl, ?_⟩) hHeld ?_ ?_
       rotate_left
       ·rintro w' ⟨s0, s1, s2, s3, s4, s5, s6⟩
        go_simp
        with_reducible rfl
       rotate_left
       ·simp only [Act.put, List.setIfInBounds_toArray, List.set_cons_zero, List.set_cons_succ, i64_w, i32_w]
        rfl
       refine pure_ (i := 6) (N := some 26) (v := ?_) (a' := ?_) #[true, true, true, true, true, true, true, false, false, false, false] rfl rfl (any_of HT_.out (by kernel_rfl)) (fun _ _ _ h => h) (Or.inl ⟨by rfl, ?_⟩) ?_ ?_
       rotate_left
       ·intro w'
        go_simp
        with_reducible rfl
       rotate_left
       ·simp only [Act.put, List.setIfInBounds_toArray, List.set_cons_zero, List.set_cons_succ, i64_w, i32_w]
        rfl
       refine take_ (i := 7) (N := some 27) (v := ?_) (a' := ?_) #[true, true, true, true, true, true, true, true, false, false, false] rfl rfl (take_ofW HT_.out HW_.out (by kernel_rfl)) (fun _ _ _ h => h) (Or.inl ⟨by rfl, ?_⟩) hHeld ?_ ?_
       rotate_left
       ·rintro w' ⟨s0, s1, s2, s3, s4, s5, s6⟩
        go_simp
        with_reducible rfl
       rotate_left
       ·simp only [Act.put, List.setIfInBounds_toArray, List.set_cons_zero, List.set_cons_succ, i64_w, i32_w]
        rfl
       refine join_ (σ := Value × Value × Value × Nat) 1 #[true, true, true, true, true, true, true, true, true, true, false] (fun s_ => [(28, .agg #[.int .i64 t286, s_.1, s_.2.1, s_.2.2.1]), (6, .pointer (some ⟨s_.2.2.2, 0, none⟩))]) (fun s_ w' => (w'.cell? ⟨gb278, 0, none⟩ = some (.slice (some ad285) l0_0.length c0_0) ∧ w'.cell? ⟨gb278, 1, none⟩ = some (.int .i64 a0_1) ∧ w'.cell? (ad284.add (x5_1).toNat) = some (.int .i64 (rd x3_1 x5_1)) ∧ w'.cell? (ad285.add (((rd x3_1 x5_1)).toNat * 4)) = some (.int .i64 ((rd_T40 l0_0 (rd x3_1 x5_1)).f0)) ∧ w'.cell? ⟨(ad285.add (((rd x3_1 x5_1)).toNat * 4)).block, (ad285.add (((rd x3_1 x5_1)).toNat * 4)).off + 1, none⟩ = some (.slice A285_1 ((rd_T40 l0_0 (rd x3_1 x5_1)).f1).length c285_1) ∧ w'.cell? ⟨(ad285.add (((rd x3_1 x5_1)).toNat * 4)).block, (ad285.add (((rd x3_1 x5_1)).toNat * 4)).off + 2, none⟩ = some (.slice A285_2 ((rd_T40 l0_0 (rd x3_1 x5_1)).f2).length c285_2) ∧ w'.cell? ⟨(ad285.add (((rd x3_1 x5_1)).toNat * 4)).block, (ad285.add (((rd x3_1 x5_1)).toNat * 4)).off + 3, none⟩ = some (.slice A285_3 ((rd_T40 l0_0 (rd x3_1 x5_1)).f3).length c285_3)) ∧ (Kd.R (Kd.int .i64) 2 w' w.heap.size (fun _ => True) s_.1 t287) ∧ (Kd.R Kd.string 9 w' w.heap.size (fun _ => True) s_.2.1 t290) ∧ (Kd.R (Kd.int .i64) 3 w' w.heap.size (fun _ => True) s_.2.2.1 t293) ∧ (Kd.S k40 40 w' w.heap.size (fun k_ => some k_ ≠ (s_.1 : Value).ownBlock ∧ some k_ ≠ (s_.2.1 : Value).ownBlock ∧ some k_ ≠ (s_.2.2.1 : Value).ownBlock ∧ k_ ≠ s_.2.2.2) u284000 x284000_1) ∧ (Kd.V (Kd.int .i64) 3 w' w.heap.size (fun k_ => some k_ ≠ (s_.1 : Value).ownBlock ∧ some k_ ≠ (s_.2.1 : Value).ownBlock ∧ some k_ ≠ (s_.2.2.1 : Value).ownBlock ∧ some k_ ≠ (u284000 : Value).ownBlock ∧ k_ ≠ gb278 ∧ k_ ≠ gb279 ∧ k_ ≠ gb283 ∧ k_ ≠ s_.2.2.2) (.slice (some ad284) x3_1.length co8) x3_1) ∧ (w'.heap[gb278]? = some (.cells #[.slice (some ad285) l0_0.length c0_0, .int .i64 a0_1] 24 (0, 0))) ∧ (w'.heap[gb279]? = some (.cells #[.slice none 0 0, .int .i64 0] 24 (0, 0))) ∧ (w'.heap[gb283]? = some (.cells #[u284000, .int .i64 rt_] 24 (0, 0))) ∧ (w'.heap[s_.2.2.2]? = some (.cells #[.int .i64 0, .slice none 0 0, .slice none 0 0, .slice none 0 0] 40 (0, 0))) ∧ (w.heap.size ≤ s_.2.2.2) ∧ (w.heap.size ≤ s_.2.2.2) ∧ (gb278 ≠ s_.2.2.2) ∧ (s_.2.2.2 ≠ gb278) ∧ (gb279 ≠ s_.2.2.2) ∧ (s_.2.2.2 ≠ gb279) ∧ (gb283 ≠ s_.2.2.2) ∧ (s_.2.2.2 ≠ gb283) ∧ (Below w.heap.size w w')) ?_ ?_
       rotate_left
       ·intro hCont
        refine two_ (i := 8) (j := 9) (Ni := some 28) (Nj := some 6) #[true, true, true, true, true, true, true, true, true, false, false] #[true, true, true, true, true, true, true, true, false, true, false] rfl rfl rfl rfl (two_of HT_.out (by kernel_rfl)) (by decide) (by decide) (fun K hK => ?_) (fun K hK => ?_)
        ·skip
         refine goes_ Try.func29 (by kernel_rfl) rfl #[.agg #[.int .i64 ((rd_T40 l0_0 (rd x3_1 x5_1)).f0), .slice A285_1 ((rd_T40 l0_0 (rd x3_1 x5_1)).f1).length c285_1, .slice A285_2 ((rd_T40 l0_0 (rd x3_1 x5_1)).f2).length c285_2, .slice A285_3 ((rd_T40 l0_0 (rd x3_1 x5_1)).f3).length c285_3]] (by rfl) rfl rfl (by (try simp only [List.map_toArray, List.map_cons, List.map_nil]); first | done | rfl | (simp only [List.length_drop, List.length_take]; rfl)) ?_
         with_reducible refine (dioramaref08_Copy.calls ((rd_T40 l0_0 (rd x3_1 x5_1)).f0) _ _ ((rd_T40 l0_0 (rd x3_1 x5_1)).f1) _ _ ((rd_T40 l0_0 (rd x3_1 x5_1)).f2) _ _ ((rd_T40 l0_0 (rd x3_1 x5_1)).f3) t286 t287 t290 t293 _ ?side1 ?side2 ?side3 ?side4 ?side5 ?side6 A17.out).mono ?_
         (case side1 => repeat (first | exact (Kd.C_below HR285_1.out HB.out) | (with_reducible refine Kd.C_alloc ?_ _) | (with_reducible refine Kd.C_drewN ?_ _) | (with_reducible refine Kd.C_drew ?_)))
         (case side2 => exact HC285_1.out)
         (case side3 => repeat (first | exact (Kd.C_below HR285_2.out HB.out) | (with_reducible refine Kd.C_alloc ?_ _) | (with_reducible refine Kd.C_drewN ?_ _) | (with_reducible refine Kd.C_drew ?_)))
         (case side4 => exact HC285_2.out)
         (case side5 => repeat (first | exact (Kd.C_below HR285_3.out HB.out) | (with_reducible refine Kd.C_alloc ?_ _) | (with_reducible refine Kd.C_drewN ?_ _) | (with_reducible refine Kd.C_drew ?_)))
         (case side6 => exact HC285_3.out)
         rintro e w19 ⟨v288, v291, v294, rfl, ho0, ho1, ho2, hb⟩
         have HS2_ := (hb.cell (World.block_lt_of_cell? _ _ (hHeld.2.2.1))).trans (hHeld.2.2.1)
         refine ⟨_, rfl, ?_⟩
         have n0_ := Aside0.mk (Kd.V_mono (Kd.V_told (Kd.V_told (Kd.V_told (Kd.V_old (by (with_reducible repeat (first | apply Kd.V_alloc | apply Kd.V_drewN | apply Kd.V_drew)); exact HO_3.out) hb) (Kd.R_base ho0)) (Kd.R_base ho1)) (Kd.R_base ho2)) (fun _ h_ => h_.1))
         have n1_ := Aside0.mk (Kd.S_mono (Kd.S_told (Kd.S_told (Kd.S_told (Kd.S_old (by (with_reducible repeat (first | apply Kd.S_alloc | apply Kd.S_drewN | apply Kd.S_drew)); exact HO_284000.out) hb) (Kd.R_base ho0)) (Kd.R_base ho1)) (Kd.R_base ho2)) (fun _ h_ => h_.1))
         have n2_ := Aside0.mk (Kd.R_lower ho0 (below_size (BB HB)))
         have n3_ := Aside0.mk (Kd.R_lower ho1 (below_size (BB HB)))
         have n4_ := Aside0.mk (Kd.R_lower ho2 (below_size (BB HB)))
         have n5_ := BE BK278 hb
         have n6_ := BE BK279 hb
         have n7_ := BE BK283 hb
         have n8_ := Aside0.mk (below_step (BB HB) hb)
         clear HO_3
         clear HO_284000
         clear BK278
         clear BK279
         clear BK283
         clear HB
         have HO_3 := n0_
         have HO_284000 := n1_
         have HO289 := n2_
         have HO292 := n3_
         have HO295 := n4_
         have BK278 := n5_
         have BK279 := n6_
         have BK283 := n7_
         have HB := n8_
         clear n0_ n1_ n2_ n3_ n4_ n5_ n6_ n7_ n8_
         (try clear hb)
         (try clear hb2)
         (try clear hk)
         (try clear hi)
         (try clear ho0)
         (try clear ho1)
         (try clear ho2)
         refine hK.out _ _ ⟨(blk_cell BK278.out 0).trans rfl, (blk_cell BK278.out 1).trans rfl, HS2_, ((HB.out.cell (World.block_lt_of_cell? w _ hw285_0)).trans hw285_0), ((HB.out.cell (World.block_lt_of_cell? w _ hw285_1)).trans hw285_1), ((HB.out.cell (World.block_lt_of_cell? w _ hw285_2)).trans hw285_2), ((HB.out.cell (World.block_lt_of_cell? w _ hw285_3)).trans hw285_3)⟩ (fun hHeld => ?_)
         clear hK K
         refine norm_ (a' := ?_) ?_ ?_
         rotate_left
         ·show Act.put _ (some 28) _ = _
          simp only [Act.put, List.setIfInBounds_toArray, List.set_cons_zero, List.set_cons_succ, i64_w, i32_w]
          rfl
         refine one_ (i := 9) (N := some 6) #[true, true, true, true, true, true, true, true, true, true, false] rfl rfl (one_of HT_.out (by kernel_rfl)) (by decide) (fun K hK => ?_)
         refine box_step ?hg (N := 6) ?hd (cs := #[.int .i64 0, .slice none 0 0, .slice none 0 0, .slice none 0 0]) (t := 40) ?hr ?_; (case hd => rfl); (case hg => rfl); (case hr => first | (go_simp; done) | (go_simp; rfl))
         intro gb296 hg w20 hbox hb
         have HS2_ := (hb.cell (World.block_lt_of_cell? _ _ (hHeld.2.2.1))).trans (hHeld.2.2.1)
         have n0_ := Aside0.mk (Kd.V_below (Kd.V_elderB (by (with_reducible repeat (first | apply Kd.V_alloc | apply Kd.V_drewN | apply Kd.V_drew)); exact HO_3.out) gb296 (Nat.le_of_eq hg.symm)) hb)
         have n1_ := Aside0.mk (Kd.S_below (Kd.S_elderB (by (with_reducible repeat (first | apply Kd.S_alloc | apply Kd.S_drewN | apply Kd.S_drew)); exact HO_284000.out) gb296 (Nat.le_of_eq hg.symm)) hb)
         have n2_ := Aside0.mk (Kd.R_below (RL HO289) hb)
         have n3_ := Aside0.mk (Kd.R_below (RL HO292) hb)
         have n4_ := Aside0.mk (Kd.R_below (RL HO295) hb)
         have n5_ := BE BK278 hb
         have n6_ := BE BK279 hb
         have n7_ := BE BK283 hb
         have n8_ := Aside0.mk (below_step (BB HB) hb)
         have n9_ := Aside0.mk (hbox)
         have n10_ := Aside0.mk ((by rw [hg]; exact (below_size (BB HB)) : w.heap.size ≤ gb296))
         have n11_ := Aside0.mk ((by rw [hg]; exact (below_size (BB HB)) : w.heap.size ≤ gb296))
         have n12_ := Aside0.mk ((by rw [hg]; exact Nat.ne_of_lt (blk_lt (g := gb278) (o := .cells #[.slice (some ad285) l0_0.length c0_0, .int .i64 a0_1] 24 (0, 0)) (BL BK278)) : gb278 ≠ gb296))
         have n13_ := Aside0.mk ((by rw [hg]; exact Nat.ne_of_gt (blk_lt (g := gb278) (o := .cells #[.slice (some ad285) l0_0.length c0_0, .int .i64 a0_1] 24 (0, 0)) (BL BK278)) : gb296 ≠ gb278))
         have n14_ := Aside0.mk ((by rw [hg]; exact Nat.ne_of_lt (blk_lt (g := gb279) (o := .cells #[.slice none 0 0, .int .i64 0] 24 (0, 0)) (BL BK279)) : gb279 ≠ gb296))
         have n15_ := Aside0.mk ((by rw [hg]; exact Nat.ne_of_gt (blk_lt (g := gb279) (o := .cells #[.slice none 0 0, .int .i64 0] 24 (0, 0)) (BL BK279)) : gb296 ≠ gb279))
         have n16_ := Aside0.mk ((by rw [hg]; exact Nat.ne_of_lt (blk_lt (g := gb283) (o := .cells #[u284000, .int .i64 rt_] 24 (0, 0)) (BL BK283)) : gb283 ≠ gb296))
         have n17_ := Aside0.mk ((by rw [hg]; exact Nat.ne_of_gt (blk_lt (g := gb283) (o := .cells #[u284000, .int .i64 rt_] 24 (0, 0)) (BL BK283)) : gb296 ≠ gb283))
         clear HO_3
         clear HO_284000
         clear HO289
         clear HO292
         clear HO295
         clear BK278
         clear BK279
         clear BK283
         clear HB
         have HO_3 := n0_
         have HO_284000 := n1_
         have HO289 := n2_
         have HO292 := n3_
         have HO295 := n4_
         have BK278 := n5_
         have BK279 := n6_
         have BK283 := n7_
         have HB := n8_
         have BK296 := n9_
         have GW296 := n10_
         have GE296 := n11_
         have NB278_296 := n12_
         have NB296_278 := n13_
         have NB279_296 := n14_
         have NB296_279 := n15_
         have NB283_296 := n16_
         have NB296_283 := n17_
         clear n0_ n1_ n2_ n3_ n4_ n5_ n6_ n7_ n8_ n9_ n10_ n11_ n12_ n13_ n14_ n15_ n16_ n17_
         clear hb hbox hg
         refine hK.out _ _ ⟨(blk_cell BK278.out 0).trans rfl, (blk_cell BK278.out 1).trans rfl, HS2_, ((HB.out.cell (World.block_lt_of_cell? w _ hw285_0)).trans hw285_0), ((HB.out.cell (World.block_lt_of_cell? w _ hw285_1)).trans hw285_1), ((HB.out.cell (World.block_lt_of_cell? w _ hw285_2)).trans hw285_2), ((HB.out.cell (World.block_lt_of_cell? w _ hw285_3)).trans hw285_3)⟩ (fun hHeld => ?_)
         clear hK K
         refine norm_ (a' := ?_) ?_ ?_
         rotate_left
         ·show Act.put _ (some 6) _ = _
          simp only [Act.put, List.setIfInBounds_toArray, List.set_cons_zero, List.set_cons_succ, i64_w, i32_w]
          rfl
         exact norm_ (by simp only [putAll, Act.put, List.setIfInBounds_toArray, List.set_cons_zero, List.set_cons_succ]) (hCont (v288, v291, v294, gb296) _ ⟨hHeld, (RL HO289), (RL HO292), (RL HO295), (by (with_reducible repeat (first | apply Kd.S_alloc | apply Kd.S_drewN | apply Kd.S_drew)); exact Kd.S_mono HO_284000.out (fun _ hk => ⟨hk.1.1.1.2, ⟨hk.1.1.2, ⟨hk.1.2, hk.2⟩⟩⟩)), (by (with_reducible repeat (first | apply Kd.V_alloc | apply Kd.V_drewN | apply Kd.V_drew)); exact Kd.V_mono HO_3.out (fun _ hk => ⟨hk.1.1.1.2, ⟨hk.1.1.2, ⟨hk.1.2, ⟨hk.1.1.1.1.1, ⟨hk.1.1.1.1.2.1, ⟨hk.1.1.1.1.2.2.1, ⟨hk.1.1.1.1.2.2.2, hk.2⟩⟩⟩⟩⟩⟩⟩)), (BL BK278), (BL BK279), (BL BK283), (BL BK296), GW296.out, GE296.out, NB278_296.out, NB296_278.out, NB279_296.out, NB296_279.out, NB283_296.out, NB296_283.out, (BB HB)⟩)
        ·skip
         refine box_step ?hg (N := 6) ?hd (cs := #[.int .i64 0, .slice none 0 0, .slice none 0 0, .slice none 0 0]) (t := 40) ?hr ?_; (case hd => rfl); (case hg => rfl); (case hr => first | (go_simp; done) | (go_simp; rfl))
         intro gb296 hg w19 hbox hb
         have HS2_ := (hb.cell (World.block_lt_of_cell? _ _ (hHeld.2.2.1))).trans (hHeld.2.2.1)
         have n0_ := Aside0.mk (Kd.V_below (Kd.V_elderB (by (with_reducible repeat (first | apply Kd.V_alloc | apply Kd.V_drewN | apply Kd.V_drew)); exact HO_3.out) gb296 (Nat.le_of_eq hg.symm)) hb)
         have n1_ := Aside0.mk (Kd.S_below (Kd.S_elderB (by (with_reducible repeat (first | apply Kd.S_alloc | apply Kd.S_drewN | apply Kd.S_drew)); exact HO_284000.out) gb296 (Nat.le_of_eq hg.symm)) hb)
         have n2_ := BE BK278 hb
         have n3_ := BE BK279 hb
         have n4_ := BE BK283 hb
         have n5_ := Aside0.mk (below_step (BB HB) hb)
         have n6_ := Aside0.mk (hbox)
         have n7_ := Aside0.mk ((by rw [hg]; exact (below_size (BB HB)) : w.heap.size ≤ gb296))
         have n8_ := Aside0.mk ((by rw [hg]; exact (below_size (BB HB)) : w.heap.size ≤ gb296))
         have n9_ := Aside0.mk ((by rw [hg]; exact Nat.ne_of_lt (blk_lt (g := gb278) (o := .cells #[.slice (some ad285) l0_0.length c0_0, .int .i64 a0_1] 24 (0, 0)) (BL BK278)) : gb278 ≠ gb296))
         have n10_ := Aside0.mk ((by rw [hg]; exact Nat.ne_of_gt (blk_lt (g := gb278) (o := .cells #[.slice (some ad285) l0_0.length c0_0, .int .i64 a0_1] 24 (0, 0)) (BL BK278)) : gb296 ≠ gb278))
         have n11_ := Aside0.mk ((by rw [hg]; exact Nat.ne_of_lt (blk_lt (g := gb279) (o := .cells #[.slice none 0 0, .int .i64 0] 24 (0, 0)) (BL BK279)) : gb279 ≠ gb296))
         have n12_ := Aside0.mk ((by rw [hg]; exact Nat.ne_of_gt (blk_lt (g := gb279) (o := .cells #[.slice none 0 0, .int .i64 0] 24 (0, 0)) (BL BK279)) : gb296 ≠ gb279))
         have n13_ := Aside0.mk ((by rw [hg]; exact Nat.ne_of_lt (blk_lt (g := gb283) (o := .cells #[u284000, .int .i64 rt_] 24 (0, 0)) (BL BK283)) : gb283 ≠ gb296))
         have n14_ := Aside0.mk ((by rw [hg]; exact Nat.ne_of_gt (blk_lt (g := gb283) (o := .cells #[u284000, .int .i64 rt_] 24 (0, 0)) (BL BK283)) : gb296 ≠ gb283))
         clear HO_3
         clear HO_284000
         clear BK278
         clear BK279
         clear BK283
         clear HB
         have HO_3 := n0_
         have HO_284000 := n1_
         have BK278 := n2_
         have BK279 := n3_
         have BK283 := n4_
         have HB := n5_
         have BK296 := n6_
         have GW296 := n7_
         have GE296 := n8_
         have NB278_296 := n9_
         have NB296_278 := n10_
         have NB279_296 := n11_
         have NB296_279 := n12_
         have NB283_296 := n13_
         have NB296_283 := n14_
         clear n0_ n1_ n2_ n3_ n4_ n5_ n6_ n7_ n8_ n9_ n10_ n11_ n12_ n13_ n14_
         clear hb hbox hg
         refine hK.out _ _ ⟨(blk_cell BK278.out 0).trans rfl, (blk_cell BK278.out 1).trans rfl, HS2_, ((HB.out.cell (World.block_lt_of_cell? w _ hw285_0)).trans hw285_0), ((HB.out.cell (World.block_lt_of_cell? w _ hw285_1)).trans hw285_1), ((HB.out.cell (World.block_lt_of_cell? w _ hw285_2)).trans hw285_2), ((HB.out.cell (World.block_lt_of_cell? w _ hw285_3)).trans hw285_3)⟩ (fun hHeld => ?_)
         clear hK K
         refine norm_ (a' := ?_) ?_ ?_
         rotate_left
         ·show Act.put _ (some 6) _ = _
          simp only [Act.put, List.setIfInBounds_toArray, List.set_cons_zero, List.set_cons_succ, i64_w, i32_w]
          rfl
         refine one_ (i := 8) (N := some 28) #[true, true, true, true, true, true, true, true, true, true, false] rfl rfl (one_of HT_.out (by kernel_rfl)) (by decide) (fun K hK => ?_)
         refine goes_ Try.func29 (by kernel_rfl) rfl #[.agg #[.int .i64 ((rd_T40 l0_0 (rd x3_1 x5_1)).f0), .slice A285_1 ((rd_T40 l0_0 (rd x3_1 x5_1)).f1).length c285_1, .slice A285_2 ((rd_T40 l0_0 (rd x3_1 x5_1)).f2).length c285_2, .slice A285_3 ((rd_T40 l0_0 (rd x3_1 x5_1)).f3).length c285_3]] (by rfl) rfl rfl (by (try simp only [List.map_toArray, List.map_cons, List.map_nil]); first | done | rfl | (simp only [List.length_drop, List.length_take]; rfl)) ?_
         with_reducible refine (dioramaref08_Copy.calls ((rd_T40 l0_0 (rd x3_1 x5_1)).f0) _ _ ((rd_T40 l0_0 (rd x3_1 x5_1)).f1) _ _ ((rd_T40 l0_0 (rd x3_1 x5_1)).f2) _ _ ((rd_T40 l0_0 (rd x3_1 x5_1)).f3) t286 t287 t290 t293 _ ?side1 ?side2 ?side3 ?side4 ?side5 ?side6 A17.out).mono ?_
         (case side1 => repeat (first | exact (Kd.C_below HR285_1.out HB.out) | (with_reducible refine Kd.C_alloc ?_ _) | (with_reducible refine Kd.C_drewN ?_ _) | (with_reducible refine Kd.C_drew ?_)))
         (case side2 => exact HC285_1.out)
         (case side3 => repeat (first | exact (Kd.C_below HR285_2.out HB.out) | (with_reducible refine Kd.C_alloc ?_ _) | (with_reducible refine Kd.C_drewN ?_ _) | (with_reducible refine Kd.C_drew ?_)))
         (case side4 => exact HC285_2.out)
         (case side5 => repeat (first | exact (Kd.C_below HR285_3.out HB.out) | (with_reducible refine Kd.C_alloc ?_ _) | (with_reducible refine Kd.C_drewN ?_ _) | (with_reducible refine Kd.C_drew ?_)))
         (case side6 => exact HC285_3.out)
         rintro e w20 ⟨v288, v291, v294, rfl, ho0, ho1, ho2, hb⟩
         have HS2_ := (hb.cell (World.block_lt_of_cell? _ _ (hHeld.2.2.1))).trans (hHeld.2.2.1)
         refine ⟨_, rfl, ?_⟩
         have n0_ := Aside0.mk (Kd.V_mono (Kd.V_told (Kd.V_told (Kd.V_told (Kd.V_old (by (with_reducible repeat (first | apply Kd.V_alloc | apply Kd.V_drewN | apply Kd.V_drew)); exact HO_3.out) hb) (Kd.R_base ho0)) (Kd.R_base ho1)) (Kd.R_base ho2)) (fun _ h_ => h_.1))
         have n1_ := Aside0.mk (Kd.S_mono (Kd.S_told (Kd.S_told (Kd.S_told (Kd.S_old (by (with_reducible repeat (first | apply Kd.S_alloc | apply Kd.S_drewN | apply Kd.S_drew)); exact HO_284000.out) hb) (Kd.R_base ho0)) (Kd.R_base ho1)) (Kd.R_base ho2)) (fun _ h_ => h_.1))
         have n2_ := Aside0.mk (Kd.R_lower ho0 (below_size (BB HB)))
         have n3_ := Aside0.mk (Kd.R_lower ho1 (below_size (BB HB)))
         have n4_ := Aside0.mk (Kd.R_lower ho2 (below_size (BB HB)))
         have n5_ := BE BK278 hb
         have n6_ := BE BK279 hb
         have n7_ := BE BK283 hb
         have n8_ := BE BK296 hb
         have n9_ := Aside0.mk (below_step (BB HB) hb)
         clear HO_3
         clear HO_284000
         clear BK278
         clear BK279
         clear BK283
         clear BK296
         clear HB
         have HO_3 := n0_
         have HO_284000 := n1_
         have HO289 := n2_
         have HO292 := n3_
         have HO295 := n4_
         have BK278 := n5_
         have BK279 := n6_
         have BK283 := n7_
         have BK296 := n8_
         have HB := n9_
         clear n0_ n1_ n2_ n3_ n4_ n5_ n6_ n7_ n8_ n9_
         (try clear hb)
         (try clear hb2)
         (try clear hk)
         (try clear hi)
         (try clear ho0)
         (try clear ho1)
         (try clear ho2)
         refine hK.out _ _ ⟨(blk_cell BK278.out 0).trans rfl, (blk_cell BK278.out 1).trans rfl, HS2_, ((HB.out.cell (World.block_lt_of_cell? w _ hw285_0)).trans hw285_0), ((HB.out.cell (World.block_lt_of_cell? w _ hw285_1)).trans hw285_1), ((HB.out.cell (World.block_lt_of_cell? w _ hw285_2)).trans hw285_2), ((HB.out.cell (World.block_lt_of_cell? w _ hw285_3)).trans hw285_3)⟩ (fun hHeld => ?_)
         clear hK K
         refine norm_ (a' := ?_) ?_ ?_
         rotate_left
         ·show Act.put _ (some 28) _ = _
          simp only [Act.put, List.setIfInBounds_toArray, List.set_cons_zero, List.set_cons_succ, i64_w, i32_w]
          rfl
         exact norm_ (by simp only [putAll, Act.put, List.setIfInBounds_toArray, List.set_cons_zero, List.set_cons_succ]) (hCont (v288, v291, v294, gb296) _ ⟨hHeld, (RL HO289), (RL HO292), (RL HO295), (by (with_reducible repeat (first | apply Kd.S_alloc | apply Kd.S_drewN | apply Kd.S_drew)); exact Kd.S_mono HO_284000.out (fun _ hk => ⟨hk.1.1.2, ⟨hk.1.2, ⟨hk.2, hk.1.1.1.2⟩⟩⟩)), (by (with_reducible repeat (first | apply Kd.V_alloc | apply Kd.V_drewN | apply Kd.V_drew)); exact Kd.V_mono HO_3.out (fun _ hk => ⟨hk.1.1.2, ⟨hk.1.2, ⟨hk.2, ⟨hk.1.1.1.1.1, ⟨hk.1.1.1.1.2.1, ⟨hk.1.1.1.1.2.2.1, ⟨hk.1.1.1.1.2.2.2, hk.1.1.1.2⟩⟩⟩⟩⟩⟩⟩)), (BL BK278), (BL BK279), (BL BK283), (BL BK296), GW296.out, GE296.out, NB278_296.out, NB296_278.out, NB279_296.out, NB296_279.out, NB283_296.out, NB296_283.out, (BB HB)⟩)
       rintro ⟨v288, v291, v294, gb296⟩ w21 ⟨hS_, h0_, h1_, h2_, h3_, h4_, h5_, h6_, h7_, h8_, h9_, h10_, h11_, h12_, h13_, h14_, h15_, h16_, h17_⟩
       have n0_ : Aside0 (Kd.R (Kd.int .i64) 2 w21 w.heap.size (fun _ => True) v288 t287) := ⟨h0_⟩
       have n1_ : Aside0 (Kd.R Kd.string 9 w21 w.heap.size (fun _ => True) v291 t290) := ⟨h1_⟩
       have n2_ : Aside0 (Kd.R (Kd.int .i64) 3 w21 w.heap.size (fun _ => True) v294 t293) := ⟨h2_⟩
       have n3_ : Aside0 (Kd.S k40 40 w21 w.heap.size (fun k_ => some k_ ≠ (v288 : Value).ownBlock ∧ some k_ ≠ (v291 : Value).ownBlock ∧ some k_ ≠ (v294 : Value).ownBlock ∧ k_ ≠ gb296) u284000 x284000_1) := ⟨h3_⟩
       have n4_ : Aside0 (Kd.V (Kd.int .i64) 3 w21 w.heap.size (fun k_ => some k_ ≠ (v288 : Value).ownBlock ∧ some k_ ≠ (v291 : Value).ownBlock ∧ some k_ ≠ (v294 : Value).ownBlock ∧ some k_ ≠ (u284000 : Value).ownBlock ∧ k_ ≠ gb278 ∧ k_ ≠ gb279 ∧ k_ ≠ gb283 ∧ k_ ≠ gb296) (.slice (some ad284) x3_1.length co8) x3_1) := ⟨h4_⟩
       have n5_ : Aside0 (w21.heap[gb278]? = some (.cells #[.slice (some ad285) l0_0.length c0_0, .int .i64 a0_1] 24 (0, 0))) := ⟨h5_⟩
       have n6_ : Aside0 (w21.heap[gb279]? = some (.cells #[.slice none 0 0, .int .i64 0] 24 (0, 0))) := ⟨h6_⟩
       have n7_ : Aside0 (w21.heap[gb283]? = some (.cells #[u284000, .int .i64 rt_] 24 (0, 0))) := ⟨h7_⟩
       have n8_ : Aside0 (w21.heap[gb296]? = some (.cells #[.int .i64 0, .slice none 0 0, .slice none 0 0, .slice none 0 0] 40 (0, 0))) := ⟨h8_⟩
       have n9_ : Aside0 (w.heap.size ≤ gb296) := ⟨h9_⟩
       have n10_ : Aside0 (w.heap.size ≤ gb296) := ⟨h10_⟩
       have n11_ : Aside0 (gb278 ≠ gb296) := ⟨h11_⟩
       have n12_ : Aside0 (gb296 ≠ gb278) := ⟨h12_⟩
       have n13_ : Aside0 (gb279 ≠ gb296) := ⟨h13_⟩
       have n14_ : Aside0 (gb296 ≠ gb279) := ⟨h14_⟩
       have n15_ : Aside0 (gb283 ≠ gb296) := ⟨h15_⟩
       have n16_ : Aside0 (gb296 ≠ gb283) := ⟨h16_⟩
       have n17_ : Aside0 (Below w.heap.size w w21) := ⟨h17_⟩
       clear HO_3
       clear HO_284000
       clear BK278
       clear BK279
       clear BK283
       clear HB
       clear h0_ h1_ h2_ h3_ h4_ h5_ h6_ h7_ h8_ h9_ h10_ h11_ h12_ h13_ h14_ h15_ h16_ h17_
       have HO289 := n0_
       have HO292 := n1_
       have HO295 := n2_
       have HO_284000 := n3_
       have HO_3 := n4_
       have BK278 := n5_
       have BK279 := n6_
       have BK283 := n7_
       have BK296 := n8_
       have GW296 := n9_
       have GE296 := n10_
       have NB278_296 := n11_
       have NB296_278 := n12_
       have NB279_296 := n13_
       have NB296_279 := n14_
       have NB283_296 := n15_
       have NB296_283 := n16_
       have HB := n17_
       clear n0_ n1_ n2_ n3_ n4_ n5_ n6_ n7_ n8_ n9_ n10_ n11_ n12_ n13_ n14_ n15_ n16_ n17_
       have hHeld : w21.cell? ⟨gb278, 0, none⟩ = some (.slice (some ad285) l0_0.length c0_0) ∧ w21.cell? ⟨gb278, 1, none⟩ = some (.int .i64 a0_1) ∧ w21.cell? (ad284.add (x5_1).toNat) = some (.int .i64 (rd x3_1 x5_1)) ∧ w21.cell? (ad285.add (((rd x3_1 x5_1)).toNat * 4)) = some (.int .i64 ((rd_T40 l0_0 (rd x3_1 x5_1)).f0)) ∧ w21.cell? ⟨(ad285.add (((rd x3_1 x5_1)).toNat * 4)).block, (ad285.add (((rd x3_1 x5_1)).toNat * 4)).off + 1, none⟩ = some (.slice A285_1 ((rd_T40 l0_0 (rd x3_1 x5_1)).f1).length c285_1) ∧ w21.cell? ⟨(ad285.add (((rd x3_1 x5_1)).toNat * 4)).block, (ad285.add (((rd x3_1 x5_1)).toNat * 4)).off + 2, none⟩ = some (.slice A285_2 ((rd_T40 l0_0 (rd x3_1 x5_1)).f2).length c285_2) ∧ w21.cell? ⟨(ad285.add (((rd x3_1 x5_1)).toNat * 4)).block, (ad285.add (((rd x3_1 x5_1)).toNat * 4)).off + 3, none⟩ = some (.slice A285_3 ((rd_T40 l0_0 (rd x3_1 x5_1)).f3).length c285_3) := hS_
       obtain ⟨Ao23, co23, eo23⟩ := Kd.R_slice HO289.out
       (first | subst eo23 | (injection eo23 with f1_ f2_ f3_; have f4_ := f1_.symm; have f5_ := f3_.symm; clear f1_ f2_ f3_; subst f4_; subst f5_))
       obtain ⟨Ao25, co25, eo25⟩ := Kd.R_slice HO292.out
       (first | subst eo25 | (injection eo25 with f1_ f2_ f3_; have f4_ := f1_.symm; have f5_ := f3_.symm; clear f1_ f2_ f3_; subst f4_; subst f5_))
       obtain ⟨Ao27, co27, eo27⟩ := Kd.R_slice HO295.out
       (first | subst eo27 | (injection eo27 with f1_ f2_ f3_; have f4_ := f1_.symm; have f5_ := f3_.symm; clear f1_ f2_ f3_; subst f4_; subst f5_))
       refine norm_ (a' := ?_) ?_ ?_
       rotate_left
       ·simp only [putAll, Act.put, List.setIfInBounds_toArray, List.set_cons_zero, List.set_cons_succ]
        rfl
       refine one_ (i := 10) (N := none) #[true, true, true, true, true, true, true, true, true, true, true] rfl rfl (one_of HT_.out (by kernel_rfl)) (by decide) (fun K hK => ?_)
       have hs22 : w21.cell? ⟨gb296, 0, none⟩ = some (.int .i64 0) := (blk_cell BK296.out 0).trans rfl
       have hfs22 := blk_frozen BK296.out 0
       have hns22_0 := NB278_296.out
       have hns22_1 := NB279_296.out
       have hns22_2 := NB283_296.out
       have hms22_0 := NB296_278.out
       have hms22_1 := NB296_279.out
       have hms22_2 := NB296_283.out
       have hs24 : w21.cell? ⟨gb296, 1, none⟩ = some (.slice none 0 0) := (blk_cell BK296.out 1).trans rfl
       have hfs24 := blk_frozen BK296.out 1
       have hns24_0 := NB278_296.out
       have hns24_1 := NB279_296.out
       have hns24_2 := NB283_296.out
       have hms24_0 := NB296_278.out
       have hms24_1 := NB296_279.out
       have hms24_2 := NB296_283.out
       have hs26 : w21.cell? ⟨gb296, 2, none⟩ = some (.slice none 0 0) := (blk_cell BK296.out 2).trans rfl
       have hfs26 := blk_frozen BK296.out 2
       have hns26_0 := NB278_296.out
       have hns26_1 := NB279_296.out
       have hns26_2 := NB283_296.out
       have hms26_0 := NB296_278.out
       have hms26_1 := NB296_279.out
       have hms26_2 := NB296_283.out
       have hs28 : w21.cell? ⟨gb296, 3, none⟩ = some (.slice none 0 0) := (blk_cell BK296.out 3).trans rfl
       have hfs28 := blk_frozen BK296.out 3
       have hns28_0 := NB278_296.out
       have hns28_1 := NB279_296.out
       have hns28_2 := NB283_296.out
       have hms28_0 := NB296_278.out
       have hms28_1 := NB296_279.out
       have hms28_2 := NB296_283.out
       refine skip_ (w1 := ?_) (by rfl) rfl ?_ ?_
       rotate_left
       ·go_simp
        rfl
       refine hK.out _ _ ⟨((cell_far (p := ⟨gb296, _, none⟩) NB278_296.out _).trans (((cell_far (p := ⟨gb296, _, none⟩) NB278_296.out _).trans (((cell_far (p := ⟨gb296, _, none⟩) NB278_296.out _).trans (((cell_far (p := ⟨gb296, _, none⟩) NB278_296.out _).trans (hHeld.1)))))))), ((cell_far (p := ⟨gb296, _, none⟩) NB278_296.out _).trans (((cell_far (p := ⟨gb296, _, none⟩) NB278_296.out _).trans (((cell_far (p := ⟨gb296, _, none⟩) NB278_296.out _).trans (((cell_far (p := ⟨gb296, _, none⟩) NB278_296.out _).trans (hHeld.2.1)))))))), ((cell_far (p := ⟨gb296, _, none⟩) (by first | exact Kd.own_blk (Kd.V_away HO_3.out (fun _ hk => hk.2.2.2.2.2.2.2)) | (rw [add_block]; exact Kd.own_blk (Kd.V_away HO_3.out (fun _ hk => hk.2.2.2.2.2.2.2))) | (show (Addr.add _ _).block ≠ _; rw [add_block]; exact Kd.own_blk (Kd.V_away HO_3.out (fun _ hk => hk.2.2.2.2.2.2.2))) | (dsimp only; exact Kd.own_blk (Kd.V_away HO_3.out (fun _ hk => hk.2.2.2.2.2.2.2)))) _).trans (((cell_far (p := ⟨gb296, _, none⟩) (by first | exact Kd.own_blk (Kd.V_away HO_3.out (fun _ hk => hk.2.2.2.2.2.2.2)) | (rw [add_block]; exact Kd.own_blk (Kd.V_away HO_3.out (fun _ hk => hk.2.2.2.2.2.2.2))) | (show (Addr.add _ _).block ≠ _; rw [add_block]; exact Kd.own_blk (Kd.V_away HO_3.out (fun _ hk => hk.2.2.2.2.2.2.2))) | (dsimp only; exact Kd.own_blk (Kd.V_away HO_3.out (fun _ hk => hk.2.2.2.2.2.2.2)))) _).trans (((cell_far (p := ⟨gb296, _, none⟩) (by first | exact Kd.own_blk (Kd.V_away HO_3.out (fun _ hk => hk.2.2.2.2.2.2.2)) | (rw [add_block]; exact Kd.own_blk (Kd.V_away HO_3.out (fun _ hk => hk.2.2.2.2.2.2.2))) | (show (Addr.add _ _).block ≠ _; rw [add_block]; exact Kd.own_blk (Kd.V_away HO_3.out (fun _ hk => hk.2.2.2.2.2.2.2))) | (dsimp only; exact Kd.own_blk (Kd.V_away HO_3.out (fun _ hk => hk.2.2.2.2.2.2.2)))) _).trans (((cell_far (p := ⟨gb296, _, none⟩) (by first | exact Kd.own_blk (Kd.V_away HO_3.out (fun _ hk => hk.2.2.2.2.2.2.2)) | (rw [add_block]; exact Kd.own_blk (Kd.V_away HO_3.out (fun _ hk => hk.2.2.2.2.2.2.2))) | (show (Addr.add _ _).block ≠ _; rw [add_block]; exact Kd.own_blk (Kd.V_away HO_3.out (fun _ hk => hk.2.2.2.2.2.2.2))) | (dsimp only; exact Kd.own_blk (Kd.V_away HO_3.out (fun _ hk => hk.2.2.2.2.2.2.2)))) _).trans (hHeld.2.2.1)))))))), ((cell_far (p := ⟨gb296, _, none⟩) (by first | exact Nat.ne_of_lt (Nat.lt_of_lt_of_le (by have := World.block_lt_of_cell? _ _ hw285_0; first | rwa [add_block] at this | exact this) GW296.out) | (rw [add_block]; exact Nat.ne_of_lt (Nat.lt_of_lt_of_le (by have := World.block_lt_of_cell? _ _ hw285_0; first | rwa [add_block] at this | exact this) GW296.out)) | (show (Addr.add _ _).block ≠ _; rw [add_block]; exact Nat.ne_of_lt (Nat.lt_of_lt_of_le (by have := World.block_lt_of_cell? _ _ hw285_0; first | rwa [add_block] at this | exact this) GW296.out)) | (dsimp only; exact Nat.ne_of_lt (Nat.lt_of_lt_of_le (by have := World.block_lt_of_cell? _ _ hw285_0; first | rwa [add_block] at this | exact this) GW296.out))) _).trans (((cell_far (p := ⟨gb296, _, none⟩) (by first | exact Nat.ne_of_lt (Nat.lt_of_lt_of_le (by have := World.block_lt_of_cell? _ _ hw285_0; first | rwa [add_block] at this | exact this) GW296.out) | (rw [add_block]; exact Nat.ne_of_lt (Nat.lt_of_lt_of_le (by have := World.block_lt_of_cell? _ _ hw285_0; first | rwa [add_block] at this | exact this) GW296.out)) | (show (Addr.add _ _).block ≠ _; rw [add_block]; exact Nat.ne_of_lt (Nat.lt_of_lt_of_le (by have := World.block_lt_of_cell? _ _ hw285_0; first | rwa [add_block] at this | exact this) GW296.out)) | (dsimp only; exact Nat.ne_of_lt (Nat.lt_of_lt_of_le (by have := World.block_lt_of_cell? _ _ hw285_0; first | rwa [add_block] at this | exact this) GW296.out))) _).trans (((cell_far (p := ⟨gb296, _, none⟩) (by first | exact Nat.ne_of_lt (Nat.lt_of_lt_of_le (by have := World.block_lt_of_cell? _ _ hw285_0; first | rwa [add_block] at this | exact this) GW296.out) | (rw [add_block]; exact Nat.ne_of_lt (Nat.lt_of_lt_of_le (by have := World.block_lt_of_cell? _ _ hw285_0; first | rwa [add_block] at this | exact this) GW296.out)) | (show (Addr.add _ _).block ≠ _; rw [add_block]; exact Nat.ne_of_lt (Nat.lt_of_lt_of_le (by have := World.block_lt_of_cell? _ _ hw285_0; first | rwa [add_block] at this | exact this) GW296.out)) | (dsimp only; exact Nat.ne_of_lt (Nat.lt_of_lt_of_le (by have := World.block_lt_of_cell? _ _ hw285_0; first | rwa [add_block] at this | exact this) GW296.out))) _).trans (((cell_far (p := ⟨gb296, _, none⟩) (by first | exact Nat.ne_of_lt (Nat.lt_of_lt_of_le (by have := World.block_lt_of_cell? _ _ hw285_0; first | rwa [add_block] at this | exact this) GW296.out) | (rw [add_block]; exact Nat.ne_of_lt (Nat.lt_of_lt_of_le (by have := World.block_lt_of_cell? _ _ hw285_0; first | rwa [add_block] at this | exact this) GW296.out)) | (show (Addr.add _ _).block ≠ _; rw [add_block]; exact Nat.ne_of_lt (Nat.lt_of_lt_of_le (by have := World.block_lt_of_cell? _ _ hw285_0; first | rwa [add_block] at this | exact this) GW296.out)) | (dsimp only; exact Nat.ne_of_lt (Nat.lt_of_lt_of_le (by have := World.block_lt_of_cell? _ _ hw285_0; first | rwa [add_block] at this | exact this) GW296.out))) _).trans (hHeld.2.2.2.1)))))))), ((cell_far (p := ⟨gb296, _, none⟩) (by first | exact Nat.ne_of_lt (Nat.lt_of_lt_of_le (by have := World.block_lt_of_cell? _ _ hw285_1; first | rwa [add_block] at this | exact this) GW296.out) | (rw [add_block]; exact Nat.ne_of_lt (Nat.lt_of_lt_of_le (by have := World.block_lt_of_cell? _ _ hw285_1; first | rwa [add_block] at this | exact this) GW296.out)) | (show (Addr.add _ _).block ≠ _; rw [add_block]; exact Nat.ne_of_lt (Nat.lt_of_lt_of_le (by have := World.block_lt_of_cell? _ _ hw285_1; first | rwa [add_block] at this | exact this) GW296.out)) | (dsimp only; exact Nat.ne_of_lt (Nat.lt_of_lt_of_le (by have := World.block_lt_of_cell? _ _ hw285_1; first | rwa [add_block] at this | exact this) GW296.out))) _).trans (((cell_far (p := ⟨gb296, _, none⟩) (by first | exact Nat.ne_of_lt (Nat.lt_of_lt_of_le (by have := World.block_lt_of_cell? _ _ hw285_1; first | rwa [add_block] at this | exact this) GW296.out) | (rw [add_block]; exact Nat.ne_of_lt (Nat.lt_of_lt_of_le (by have := World.block_lt_of_cell? _ _ hw285_1; first | rwa [add_block] at this | exact this) GW296.out)) | (show (Addr.add _ _).block ≠ _; rw [add_block]; exact Nat.ne_of_lt (Nat.lt_of_lt_of_le (by have := World.block_lt_of_cell? _ _ hw285_1; first | rwa [add_block] at this | exact this) GW296.out)) | (dsimp only; exact Nat.ne_of_lt (Nat.lt_of_lt_of_le (by have := World.block_lt_of_cell? _ _ hw285_1; first | rwa [add_block] at this | exact this) GW296.out))) _).trans (((cell_far (p := ⟨gb296, _, none⟩) (by first | exact Nat.ne_of_lt (Nat.lt_of_lt_of_le (by have := World.block_lt_of_cell? _ _ hw285_1; first | rwa [add_block] at this | exact this) GW296.out) | (rw [add_block]; exact Nat.ne_of_lt (Nat.lt_of_lt_of_le (by have := World.block_lt_of_cell? _ _ hw285_1; first | rwa [add_block] at this | exact this) GW296.out)) | (show (Addr.add _ _).block ≠ _; rw [add_block]; exact Nat.ne_of_lt (Nat.lt_of_lt_of_le (by have := World.block_lt_of_cell? _ _ hw285_1; first | rwa [add_block] at this | exact this) GW296.out)) | (dsimp only; exact Nat.ne_of_lt (Nat.lt_of_lt_of_le (by have := World.block_lt_of_cell? _ _ hw285_1; first | rwa [add_block] at this | exact this) GW296.out))) _).trans (((cell_far (p := ⟨gb296, _, none⟩) (by first | exact Nat.ne_of_lt (Nat.lt_of_lt_of_le (by have := World.block_lt_of_cell? _ _ hw285_1; first | rwa [add_block] at this | exact this) GW296.out) | (rw [add_block]; exact Nat.ne_of_lt (Nat.lt_of_lt_of_le (by have := World.block_lt_of_cell? _ _ hw285_1; first | rwa [add_block] at this | exact this) GW296.out)) | (show (Addr.add _ _).block ≠ _; rw [add_block]; exact Nat.ne_of_lt (Nat.lt_of_lt_of_le (by have := World.block_lt_of_cell? _ _ hw285_1; first | rwa [add_block] at this | exact this) GW296.out)) | (dsimp only; exact Nat.ne_of_lt (Nat.lt_of_lt_of_le (by have := World.block_lt_of_cell? _ _ hw285_1; first | rwa [add_block] at this | exact this) GW296.out))) _).trans (hHeld.2.2.2.2.1)))))))), ((cell_far (p := ⟨gb296, _, none⟩) (by first | exact Nat.ne_of_lt (Nat.lt_of_lt_of_le (by have := World.block_lt_of_cell? _ _ hw285_2; first | rwa [add_block] at this | exact this) GW296.out) | (rw [add_block]; exact Nat.ne_of_lt (Nat.lt_of_lt_of_le (by have := World.block_lt_of_cell? _ _ hw285_2; first | rwa [add_block] at this | exact this) GW296.out)) | (show (Addr.add _ _).block ≠ _; rw [add_block]; exact Nat.ne_of_lt (Nat.lt_of_lt_of_le (by have := World.block_lt_of_cell? _ _ hw285_2; first | rwa [add_block] at this | exact this) GW296.out)) | (dsimp only; exact Nat.ne_of_lt (Nat.lt_of_lt_of_le (by have := World.block_lt_of_cell? _ _ hw285_2; first | rwa [add_block] at this | exact this) GW296.out))) _).trans (((cell_far (p := ⟨gb296, _, none⟩) (by first | exact Nat.ne_of_lt (Nat.lt_of_lt_of_le (by have := World.block_lt_of_cell? _ _ hw285_2; first | rwa [add_block] at this | exact this) GW296.out) | (rw [add_block]; exact Nat.ne_of_lt (Nat.lt_of_lt_of_le (by have := World.block_lt_of_cell? _ _ hw285_2; first | rwa [add_block] at this | exact this) GW296.out)) | (show (Addr.add _ _).block ≠ _; rw [add_block]; exact Nat.ne_of_lt (Nat.lt_of_lt_of_le (by have := World.block_lt_of_cell? _ _ hw285_2; first | rwa [add_block] at this | exact this) GW296.out)) | (dsimp only; exact Nat.ne_of_lt (Nat.lt_of_lt_of_le (by have := World.block_lt_of_cell? _ _ hw285_2; first | rwa [add_block] at this | exact this) GW296.out))) _).trans (((cell_far (p := ⟨gb296, _, none⟩) (by first | exact Nat.ne_of_lt (Nat.lt_of_lt_of_le (by have := World.block_lt_of_cell? _ _ hw285_2; first | rwa [add_block] at this | exact this) GW296.out) | (rw [add_block]; exact Nat.ne_of_lt (Nat.lt_of_lt_of_le (by have := World.block_lt_of_cell? _ _ hw285_2; first | rwa [add_block] at this | exact this) GW296.out)) | (show (Addr.add _ _).block ≠ _; rw [add_block]; exact Nat.ne_of_lt (Nat.lt_of_lt_of_le (by have := World.block_lt_of_cell? _ _ hw285_2; first | rwa [add_block] at this | exact this) GW296.out)) | (dsimp only; exact Nat.ne_of_lt (Nat.lt_of_lt_of_le (by have := World.block_lt_of_cell? _ _ hw285_2; first | rwa [add_block] at this | exact this) GW296.out))) _).trans (((cell_far (p := ⟨gb296, _, none⟩) (by first | exact Nat.ne_of_lt (Nat.lt_of_lt_of_le (by have := World.block_lt_of_cell? _ _ hw285_2; first | rwa [add_block] at this | exact this) GW296.out) | (rw [add_block]; exact Nat.ne_of_lt (Nat.lt_of_lt_of_le (by have := World.block_lt_of_cell? _ _ hw285_2; first | rwa [add_block] at this | exact this) GW296.out)) | (show (Addr.add _ _).block ≠ _; rw [add_block]; exact Nat.ne_of_lt (Nat.lt_of_lt_of_le (by have := World.block_lt_of_cell? _ _ hw285_2; first | rwa [add_block] at this | exact this) GW296.out)) | (dsimp only; exact Nat.ne_of_lt (Nat.lt_of_lt_of_le (by have := World.block_lt_of_cell? _ _ hw285_2; first | rwa [add_block] at this | exact this) GW296.out))) _).trans (hHeld.2.2.2.2.2.1)))))))), ((cell_far (p := ⟨gb296, _, none⟩) (by first | exact Nat.ne_of_lt (Nat.lt_of_lt_of_le (by have := World.block_lt_of_cell? _ _ hw285_3; first | rwa [add_block] at this | exact this) GW296.out) | (rw [add_block]; exact Nat.ne_of_lt (Nat.lt_of_lt_of_le (by have := World.block_lt_of_cell? _ _ hw285_3; first | rwa [add_block] at this | exact this) GW296.out)) | (show (Addr.add _ _).block ≠ _; rw [add_block]; exact Nat.ne_of_lt (Nat.lt_of_lt_of_le (by have := World.block_lt_of_cell? _ _ hw285_3; first | rwa [add_block] at this | exact this) GW296.out)) | (dsimp only; exact Nat.ne_of_lt (Nat.lt_of_lt_of_le (by have := World.block_lt_of_cell? _ _ hw285_3; first | rwa [add_block] at this | exact this) GW296.out))) _).trans (((cell_far (p := ⟨gb296, _, none⟩) (by first | exact Nat.ne_of_lt (Nat.lt_of_lt_of_le (by have := World.block_lt_of_cell? _ _ hw285_3; first | rwa [add_block] at this | exact this) GW296.out) | (rw [add_block]; exact Nat.ne_of_lt (Nat.lt_of_lt_of_le (by have := World.block_lt_of_cell? _ _ hw285_3; first | rwa [add_block] at this | exact this) GW296.out)) | (show (Addr.add _ _).block ≠ _; rw [add_block]; exact Nat.ne_of_lt (Nat.lt_of_lt_of_le (by have := World.block_lt_of_cell? _ _ hw285_3; first | rwa [add_block] at this | exact this) GW296.out)) | (dsimp only; exact Nat.ne_of_lt (Nat.lt_of_lt_of_le (by have := World.block_lt_of_cell? _ _ hw285_3; first | rwa [add_block] at this | exact this) GW296.out))) _).trans (((cell_far (p := ⟨gb296, _, none⟩) (by first | exact Nat.ne_of_lt (Nat.lt_of_lt_of_le (by have := World.block_lt_of_cell? _ _ hw285_3; first | rwa [add_block] at this | exact this) GW296.out) | (rw [add_block]; exact Nat.ne_of_lt (Nat.lt_of_lt_of_le (by have := World.block_lt_of_cell? _ _ hw285_3; first | rwa [add_block] at this | exact this) GW296.out)) | (show (Addr.add _ _).block ≠ _; rw [add_block]; exact Nat.ne_of_lt (Nat.lt_of_lt_of_le (by have := World.block_lt_of_cell? _ _ hw285_3; first | rwa [add_block] at this | exact this) GW296.out)) | (dsimp only; exact Nat.ne_of_lt (Nat.lt_of_lt_of_le (by have := World.block_lt_of_cell? _ _ hw285_3; first | rwa [add_block] at this | exact this) GW296.out))) _).trans (((cell_far (p := ⟨gb296, _, none⟩) (by first | exact Nat.ne_of_lt (Nat.lt_of_lt_of_le (by have := World.block_lt_of_cell? _ _ hw285_3; first | rwa [add_block] at this | exact this) GW296.out) | (rw [add_block]; exact Nat.ne_of_lt (Nat.lt_of_lt_of_le (by have := World.block_lt_of_cell? _ _ hw285_3; first | rwa [add_block] at this | exact this) GW296.out)) | (show (Addr.add _ _).block ≠ _; rw [add_block]; exact Nat.ne_of_lt (Nat.lt_of_lt_of_le (by have := World.block_lt_of_cell? _ _ hw285_3; first | rwa [add_block] at this | exact this) GW296.out)) | (dsimp only; exact Nat.ne_of_lt (Nat.lt_of_lt_of_le (by have := World.block_lt_of_cell? _ _ hw285_3; first | rwa [add_block] at this | exact this) GW296.out))) _).trans (hHeld.2.2.2.2.2.2))))))))⟩ (fun hHeld => ?_)
       clear hK K
       refine done_ (done_of HT_.out (by kernel_rfl)) ?_
       try go_wp2
       go_loopg [7] k1 (fun kq v7 w' => ∃ (x3_2 : List Int) (x7_2 : Int) (x297003_2 : List Int) (u297003 : Value), v7 = .int .i64 x7_2 ∧ Aside0 (dioramaref10_Canon.l1 kq x3_2 x5_1 x7_2 l0_0 a0_1 x284000_1 rt_ t286 t287 t290 x297003_2 = some (r1, r2)) ∧ Aside0 (kq ≤ k1) ∧ Aside0 (Kd.V (Kd.int .i64) 3 w' w.heap.size (fun k_ => some k_ ≠ (u284000 : Value).ownBlock ∧ some k_ ≠ ((.slice Ao23 t287.length co23) : Value).ownBlock ∧ some k_ ≠ ((.slice Ao25 t290.length co25) : Value).ownBlock ∧ some k_ ≠ (u297003 : Value).ownBlock ∧ k_ ≠ gb278 ∧ k_ ≠ gb279 ∧ k_ ≠ gb283 ∧ k_ ≠ gb296) (.slice (some ad284) x3_1.length co8) x3_2) ∧ Aside0 (Kd.S k40 40 w' w.heap.size (fun k_ => some k_ ≠ ((.slice Ao23 t287.length co23) : Value).ownBlock ∧ some k_ ≠ ((.slice Ao25 t290.length co25) : Value).ownBlock ∧ some k_ ≠ (u297003 : Value).ownBlock ∧ k_ ≠ gb296) u284000 x284000_1) ∧ Aside0 (Kd.R (Kd.int .i64) 2 w' w.heap.size (fun _ => True) (.slice Ao23 t287.length co23) t287) ∧ Aside0 (Kd.R Kd.string 9 w' w.heap.size (fun _ => True) (.slice Ao25 t290.length co25) t290) ∧ Aside0 (Kd.R (Kd.int .i64) 3 w' w.heap.size (fun _ => True) u297003 x297003_2) ∧ Aside0 (w'.heap[gb278]? = some (.cells #[(.slice (some ad285) l0_0.length c0_0), .int .i64 a0_1] 24 (0, 0))) ∧ Aside0 (w'.heap[gb279]? = some (.cells #[(.slice none 0 0), .int .i64 0] 24 (0, 0))) ∧ Aside0 (w'.heap[gb283]? = some (.cells #[u284000, .int .i64 rt_] 24 (0, 0))) ∧ Aside0 (w'.heap[gb296]? = some (.cells #[.int .i64 t286, (.slice Ao23 t287.length co23), (.slice Ao25 t290.length co25), u297003] 40 (0, 0))) ∧ Aside0 (Below w.heap.size w w'))
       case atStart => exact ⟨(x3_1), (0), (t293), (.slice Ao27 t293.length co27), (by first | rfl | (simp; done) | (simp [*]; done)), H', ⟨Nat.le_refl _⟩, ⟨by (try simp only [hl3_1]); (with_reducible repeat (first | apply Kd.V_alloc | apply Kd.V_drewN | apply Kd.V_drew)); exact Kd.V_mono (Kd.V_far (p := ⟨gb296, 3, none⟩) (Kd.V_far (p := ⟨gb296, 2, none⟩) (Kd.V_far (p := ⟨gb296, 1, none⟩) (Kd.V_far (p := ⟨gb296, 0, none⟩) (Kd.V_mono HO_3.out (fun k_ hk => (⟨hk, hk.2.2.2.2.2.2.2⟩ : _ ∧ k_ ≠ gb296))) (fun _ hk => hk.2) (.int .i64 t286)) (fun _ hk => hk.2) (.slice Ao23 t287.length co23)) (fun _ hk => hk.2) (.slice Ao25 t290.length co25)) (fun _ hk => hk.2) (.slice Ao27 t293.length co27)) (fun _ hk => ⟨hk.1.2.2.2.1, ⟨hk.1.1, ⟨hk.1.2.1, ⟨hk.1.2.2.1, ⟨hk.1.2.2.2.2.1, ⟨hk.1.2.2.2.2.2.1, ⟨hk.1.2.2.2.2.2.2.1, hk.1.2.2.2.2.2.2.2⟩⟩⟩⟩⟩⟩⟩)⟩, ⟨by (try simp only [hl3_1]); (with_reducible repeat (first | apply Kd.S_alloc | apply Kd.S_drewN | apply Kd.S_drew)); exact Kd.S_mono (Kd.S_far (p := ⟨gb296, 3, none⟩) (Kd.S_far (p := ⟨gb296, 2, none⟩) (Kd.S_far (p := ⟨gb296, 1, none⟩) (Kd.S_far (p := ⟨gb296, 0, none⟩) (Kd.S_mono HO_284000.out (fun k_ hk => (⟨hk, hk.2.2.2⟩ : _ ∧ k_ ≠ gb296))) (fun _ hk => hk.2) (.int .i64 t286)) (fun _ hk => hk.2) (.slice Ao23 t287.length co23)) (fun _ hk => hk.2) (.slice Ao25 t290.length co25)) (fun _ hk => hk.2) (.slice Ao27 t293.length co27)) (fun _ hk => ⟨hk.1.1, ⟨hk.1.2.1, ⟨hk.1.2.2.1, hk.1.2.2.2⟩⟩⟩)⟩, ⟨by (try simp only [hl3_1]); exact Kd.R_mono (Kd.R_far (p := ⟨gb296, 3, none⟩) (Kd.R_far (p := ⟨gb296, 2, none⟩) (Kd.R_far (p := ⟨gb296, 1, none⟩) (Kd.R_far (p := ⟨gb296, 0, none⟩) (Kd.R_types HO289.out BK296.out (by decide)) (fun _ hk => hk.2) (.int .i64 t286)) (fun _ hk => hk.2) (.slice Ao23 t287.length co23)) (fun _ hk => hk.2) (.slice Ao25 t290.length co25)) (fun _ hk => hk.2) (.slice Ao27 t293.length co27)) (fun _ hk => trivial)⟩, ⟨by (try simp only [hl3_1]); exact Kd.R_mono (Kd.R_far (p := ⟨gb296, 3, none⟩) (Kd.R_far (p := ⟨gb296, 2, none⟩) (Kd.R_far (p := ⟨gb296, 1, none⟩) (Kd.R_far (p := ⟨gb296, 0, none⟩) (Kd.R_types HO292.out BK296.out (by decide)) (fun _ hk => hk.2) (.int .i64 t286)) (fun _ hk => hk.2) (.slice Ao23 t287.length co23)) (fun _ hk => hk.2) (.slice Ao25 t290.length co25)) (fun _ hk => hk.2) (.slice Ao27 t293.length co27)) (fun _ hk => trivial)⟩, ⟨by (try simp only [hl3_1]); exact Kd.R_mono (Kd.R_far (p := ⟨gb296, 3, none⟩) (Kd.R_far (p := ⟨gb296, 2, none⟩) (Kd.R_far (p := ⟨gb296, 1, none⟩) (Kd.R_far (p := ⟨gb296, 0, none⟩) (Kd.R_types HO295.out BK296.out (by decide)) (fun _ hk => hk.2) (.int .i64 t286)) (fun _ hk => hk.2) (.slice Ao23 t287.length co23)) (fun _ hk => hk.2) (.slice Ao25 t290.length co25)) (fun _ hk => hk.2) (.slice Ao27 t293.length co27)) (fun _ hk => trivial)⟩, ⟨by (try simp only [hl3_1]); refine blk_far ?_ NB278_296.out _; refine blk_far ?_ NB278_296.out _; refine blk_far ?_ NB278_296.out _; refine blk_far ?_ NB278_296.out _; (with_reducible repeat (first | refine blk_drewN ?_ _ | refine blk_drew ?_ | refine blk_alloc ?_ _)); exact BK278.out⟩, ⟨by (try simp only [hl3_1]); refine blk_far ?_ NB279_296.out _; refine blk_far ?_ NB279_296.out _; refine blk_far ?_ NB279_296.out _; refine blk_far ?_ NB279_296.out _; (with_reducible repeat (first | refine blk_drewN ?_ _ | refine blk_drew ?_ | refine blk_alloc ?_ _)); exact BK279.out⟩, ⟨by (try simp only [hl3_1]); refine blk_far ?_ NB283_296.out _; refine blk_far ?_ NB283_296.out _; refine blk_far ?_ NB283_296.out _; refine blk_far ?_ NB283_296.out _; (with_reducible repeat (first | refine blk_drewN ?_ _ | refine blk_drew ?_ | refine blk_alloc ?_ _)); exact BK283.out⟩, ⟨by (try simp only [hl3_1]); refine blk_put (cs := #[.int .i64 t286, .slice Ao23 t287.length co23, .slice Ao25 t290.length co25, .slice none 0 0]) ?_ 3 _ rfl; refine blk_put (cs := #[.int .i64 t286, .slice Ao23 t287.length co23, .slice none 0 0, .slice none 0 0]) ?_ 2 _ rfl; refine blk_put (cs := #[.int .i64 t286, .slice none 0 0, .slice none 0 0, .slice none 0 0]) ?_ 1 _ rfl; refine blk_put (cs := #[.int .i64 0, .slice none 0 0, .slice none 0 0, .slice none 0 0]) ?_ 0 _ rfl; (with_reducible repeat (first | refine blk_drewN ?_ _ | refine blk_drew ?_ | refine blk_alloc ?_ _)); exact BK296.out⟩, ⟨BB HB⟩⟩
       case round =>
        clear H'
        try clear c1
        try clear c2
        try clear p2
        try clear q2
        try clear hx2
        try clear c4
        try clear c5
        try clear p6
        try clear c10
        try clear c11
        try clear c13
        try clear c13b0
        try clear c14
        try clear c14b0
        try clear c15
        try clear c15b0
        try clear c16
        try clear c16b0
        try clear c21
        try clear c28
        try clear p28
        try clear q28
        try clear hx28
        try clear hcz12_0
        try clear hcz12_1
        try clear hcz6_0
        try clear hcz6_1
        try clear hfz12_0
        try clear hfz12_1
        try clear hfz6_0
        try clear hfz6_1
        try clear hx284_0
        try clear hx285_0
        try clear hx285_1
        try clear hx285_2
        try clear hx285_3
        try clear p2
        try clear p284
        try clear p285
        try clear p6
        try clear q284
        try clear q285
        obtain ⟨x3_2, x7_2, x297003_2, u297003, rfl, HA, HK2, HO_3, HO_284000, HO_297001, HO_297002, HO_297003, BK278, BK279, BK283, BK296, HB⟩ := hrel
        have hl3_2 := (Kd.V_reads' HO_3.out).1
        rw [hl3_2] at HO_3
        (try simp only [hl3_2])
        (try simp only [hl3_2] at BK278)
        (try simp only [hl3_2] at BK279)
        (try simp only [hl3_2] at BK283)
        (try simp only [hl3_2] at BK296)
        (try simp only [hl3_2] at HO_284000)
        (try simp only [hl3_2] at HO_297001)
        (try simp only [hl3_2] at HO_297002)
        (try simp only [hl3_2] at HO_297003)
        cases gk with
        | zero => exact absurd HA.out (by simp [dioramaref10_Canon.l1])
        | succ k2 =>
         have H := HA.out
         clear HA
         simp only [dioramaref10_Canon.l1] at H
         by_cases c29 : x7_2 < (x297003_2.length : Int)
         ·rw [if_pos c29] at H
          have c29b0 : decide (x7_2 < (x297003_2.length : Int)) = true := decide_eq_true c29
          clear c29
          by_cases c30 : 0 ≤ x7_2
          ·rw [if_pos c30] at H
           have c30b0 : decide (0 ≤ x7_2) = true := decide_eq_true c30
           clear c30
           replace H := Option.bind_eq_some_iff.mp H
           obtain ⟨t298, A310, H⟩ := H
           replace H : (dioramaref10_Canon.l1 k2 x3_2 x5_1 (wrap64 (x7_2 + 1)) l0_0 a0_1 x284000_1 rt_ t286 t287 t290 (x297003_2.set (x7_2 : Int).toNat t298)) = some (r1, r2) := H
           have A31 := Aside0.mk A310
           clear A310
           obtain ⟨y299, hy299⟩ : ∃ y_ : List Int, y_ = (x297003_2.set (x7_2 : Int).toNat t298) := ⟨_, rfl⟩
           replace H : (dioramaref10_Canon.l1 k2 x3_2 x5_1 (wrap64 (x7_2 + 1)) l0_0 a0_1 x284000_1 rt_ t286 t287 t290 y299) = some (r1, r2) := by first | (rw [hy299]; with_reducible exact H) | (have H2_ := (Option.bind_some _ _).symm.trans H; rw [hy299]; with_reducible exact H2_) | (have H2_ := (Option.bind_some _ _).symm.trans H; with_reducible exact H2_) | with_reducible exact H | (rw [hy299]; exact H) | exact H
           have Ny299 := Aside0.mk hy299
           clear hy299
           have H' := Aside0.mk H
           clear H
           have hnb33 := NB296_278.out
           have hnc33 := NB278_296.out
           have hnb34 := NB296_279.out
           have hnc34 := NB279_296.out
           have hnb35 := NB296_283.out
           have hnc35 := NB283_296.out
           have hcz36_0 : wr.cell? ⟨gb296, 0, none⟩ = some (.int .i64 t286) := (blk_cell BK296.out 0).trans rfl
           have hcz36_1 : wr.cell? ⟨gb296, 1, none⟩ = some (.slice Ao23 t287.length co23) := (blk_cell BK296.out 1).trans rfl
           have hcz36_2 : wr.cell? ⟨gb296, 2, none⟩ = some (.slice Ao25 t290.length co25) := (blk_cell BK296.out 2).trans rfl
           have hcz36_3 : wr.cell? ⟨gb296, 3, none⟩ = some (u297003) := (blk_cell BK296.out 3).trans rfl
           have hfz36_0 := blk_frozen BK296.out 0
           have hfz36_1 := blk_frozen BK296.out 1
           have hfz36_2 := blk_frozen BK296.out 2
           have hfz36_3 := blk_frozen BK296.out 3
           obtain ⟨Ao37, co37, eo37⟩ := Kd.R_slice HO_297003.out
           subst eo37
           try go_wp2
           have n0_ := Aside0.mk (Kd.V_drew HO_3.out)
           have n1_ := Aside0.mk (Kd.S_drew HO_284000.out)
           have n2_ := Aside0.mk (Kd.R_drew HO_297001.out)
           have n3_ := Aside0.mk (Kd.R_drew HO_297002.out)
           have n4_ := Aside0.mk (Kd.R_drew HO_297003.out)
           have n5_ := Aside0.mk (blk_drew BK278.out)
           have n6_ := Aside0.mk (blk_drew BK279.out)
           have n7_ := Aside0.mk (blk_drew BK283.out)
           have n8_ := Aside0.mk (blk_drew BK296.out)
           have n9_ := Aside0.mk (below_drew1 HB.out)
           clear HO_3
           clear HO_284000
           clear HO_297001
           clear HO_297002
           clear HO_297003
           clear BK278
           clear BK279
           clear BK283
           clear BK296
           clear HB
           have HO_3 := n0_
           have HO_284000 := n1_
           have HO_297001 := n2_
           have HO_297002 := n3_
           have HO_297003 := n4_
           have BK278 := n5_
           have BK279 := n6_
           have BK283 := n7_
           have BK296 := n8_
           have HB := n9_
           clear n0_ n1_ n2_ n3_ n4_ n5_ n6_ n7_ n8_ n9_
           have p297 : 0 ≤ (x7_2 : Int) := of_decide_eq_true (by first | (with_reducible assumption) | assumption)
           have q297 : x7_2 < (x297003_2.length : Int) := of_decide_eq_true (by first | (with_reducible assumption) | assumption)
           obtain ⟨ad297, e297, hx297_0⟩ := Kd.at_int (Kd.R_reads' HO_297003.out).2.2 x7_2 p297 q297
           cases e297
           replace p297 := eq_true p297
           replace q297 := eq_true q297
           refine start_ (n := 12) (S := fun w' => w'.cell? ⟨gb296, 0, none⟩ = some (.int .i64 t286) ∧ w'.cell? ⟨gb296, 1, none⟩ = some (.slice Ao23 t287.length co23) ∧ w'.cell? ⟨gb296, 2, none⟩ = some (.slice Ao25 t290.length co25) ∧ w'.cell? ⟨gb296, 3, none⟩ = some (.slice (some ad297) x297003_2.length co37) ∧ w'.cell? (ad297.add (x7_2).toNat) = some (.int .i64 (rd x297003_2 x7_2))) (ds := [11]) #[false, false, false, false, false, false, false, false, false, false, false, false] (by kernel_rfl) rfl rfl ⟨(blk_cell BK296.out 0).trans rfl, (blk_cell BK296.out 1).trans rfl, (blk_cell BK296.out 2).trans rfl, (blk_cell BK296.out 3).trans rfl, hx297_0⟩ (fun hHeld => ?_); refine with_tabW dioramaref10_Canon.tab10 dioramaref10_Canon.bits10 (fun HT_ HW_ => ?_)
           generalize wr.drew = w38 at HO_3 HO_284000 HO_297001 HO_297002 HO_297003 BK278 BK279 BK283 BK296 HB hx297_0 hHeld ⊢
           refine pure_ (i := 0) (N := some 36) (v := ?_) (a' := ?_) #[true, false, false, false, false, false, false, false, false, false, false, false] rfl rfl (any_of HT_.out (by kernel_rfl)) (fun _ _ _ h => h) (Or.inl ⟨by rfl, ?_⟩) ?_ ?_
           rotate_left
           ·intro w'
            go_simp
            with_reducible rfl
           rotate_left
           ·simp only [Act.put, List.setIfInBounds_toArray, List.set_cons_zero, List.set_cons_succ, i64_w, i32_w]
            rfl
           refine pure_ (i := 2) (N := some 38) (v := ?_) (a' := ?_) #[true, false, true, false, false, false, false, false, false, false, false, false] rfl rfl (any_of HT_.out (by kernel_rfl)) (fun _ _ _ h => h) (Or.inl ⟨by rfl, ?_⟩) ?_ ?_
           rotate_left
           ·intro w'
            go_simp
            with_reducible rfl
           rotate_left
           ·simp only [Act.put, List.setIfInBounds_toArray, List.set_cons_zero, List.set_cons_succ, i64_w, i32_w]
            rfl
           refine pure_ (i := 3) (N := some 39) (v := ?_) (a' := ?_) #[true, false, true, true, false, false, false, false, false, false, false, false] rfl rfl (any_of HT_.out (by kernel_rfl)) (fun _ _ _ h => h) (Or.inl ⟨by rfl, ?_⟩) ?_ ?_
           rotate_left
           ·intro w'
            go_simp
            with_reducible rfl
           rotate_left
           ·simp only [Act.put, List.setIfInBounds_toArray, List.set_cons_zero, List.set_cons_succ, i64_w, i32_w]
            rfl
           refine pure_ (i := 4) (N := some 40) (v := ?_) (a' := ?_) #[true, false, true, true, true, false, false, false, false, false, false, false] rfl rfl (any_of HT_.out (by kernel_rfl)) (fun _ _ _ h => h) (Or.inl ⟨by rfl, ?_⟩) ?_ ?_
           rotate_left
           ·intro w'
            go_simp
            with_reducible rfl
           rotate_left
           ·simp only [Act.put, List.setIfInBounds_toArray, List.set_cons_zero, List.set_cons_succ, i64_w, i32_w]
            rfl
           refine pure_ (i := 6) (N := some 42) (v := ?_) (a' := ?_) #[true, false, true, true, true, false, true, false, false, false, false, false] rfl rfl (any_of HT_.out (by kernel_rfl)) (fun _ _ _ h => h) (Or.inl ⟨by rfl, ?_⟩) ?_ ?_
           rotate_left
           ·intro w'
            go_simp
            with_reducible rfl
           rotate_left
           ·simp only [Act.put, List.setIfInBounds_toArray, List.set_cons_zero, List.set_cons_succ, i64_w, i32_w]
            rfl
           refine take_ (i := 1) (N := some 37) (v := ?_) (a' := ?_) #[true, true, true, true, true, false, true, false, false, false, false, false] rfl rfl (take_ofW HT_.out HW_.out (by kernel_rfl)) (fun _ _ _ h => h) (Or.inl ⟨by rfl, ?_⟩) hHeld ?_ ?_
           rotate_left
           ·rintro w' ⟨s0, s1, s2, s3, s4⟩
            go_simp
            with_reducible rfl
           rotate_left
           ·simp only [Act.put, List.setIfInBounds_toArray, List.set_cons_zero, List.set_cons_succ, i64_w, i32_w]
            rfl
           refine take_ (i := 5) (N := some 41) (v := ?_) (a' := ?_) #[true, true, true, true, true, true, true, false, false, false, false, false] rfl rfl (take_ofW HT_.out HW_.out (by kernel_rfl)) (fun _ _ _ h => h) (Or.inl ⟨by rfl, ?_⟩) hHeld ?_ ?_
           rotate_left
           ·rintro w' ⟨s0, s1, s2, s3, s4⟩
            go_simp
            with_reducible rfl
           rotate_left
           ·simp only [Act.put, List.setIfInBounds_toArray, List.set_cons_zero, List.set_cons_succ, i64_w, i32_w]
            rfl
           refine pure_ (i := 7) (N := some 43) (v := ?_) (a' := ?_) #[true, true, true, true, true, true, true, true, false, false, false, false] rfl rfl (any_of HT_.out (by kernel_rfl)) (fun _ _ _ h => h) (Or.inl ⟨by rfl, ?_⟩) ?_ ?_
           rotate_left
           ·intro w'
            go_simp
            with_reducible rfl
           rotate_left
           ·simp only [Act.put, List.setIfInBounds_toArray, List.set_cons_zero, List.set_cons_succ, i64_w, i32_w]
            rfl
           refine take_ (i := 8) (N := some 44) (v := ?_) (a' := ?_) #[true, true, true, true, true, true, true, true, true, false, false, false] rfl rfl (take_ofW HT_.out HW_.out (by kernel_rfl)) (fun _ _ _ h => h) (Or.inl ⟨by rfl, ?_⟩) hHeld ?_ ?_
           rotate_left
           ·rintro w' ⟨s0, s1, s2, s3, s4⟩
            go_simp
            with_reducible rfl
           rotate_left
           ·simp only [Act.put, List.setIfInBounds_toArray, List.set_cons_zero, List.set_cons_succ, i64_w, i32_w]
            rfl
           refine one_ (i := 9) (N := some 45) #[true, true, true, true, true, true, true, true, true, true, false, false] rfl rfl (one_of HT_.out (by kernel_rfl)) (by decide) (fun K hK => ?_)
           refine goes_ Try.func45 (by kernel_rfl) rfl #[.slice (some ad284) x3_2.length co8, .int .i64 (rd x297003_2 x7_2)] (by rfl) rfl rfl (by (try simp only [List.map_toArray, List.map_cons, List.map_nil]); first | done | rfl | (simp only [List.length_drop, List.length_take]; rfl)) ?_
           with_reducible refine (dioramaref10_Find.calls k2 _ _ x3_2 (rd x297003_2 x7_2) t298 _ ?side1 ?side2 A31.out).mono ?_
           (case side1 => repeat (first | exact (Kd.V_reads' HO_3.out).2.2 | (with_reducible refine Kd.C_alloc ?_ _) | (with_reducible refine Kd.C_drewN ?_ _) | (with_reducible refine Kd.C_drew ?_)))
           (case side2 => exact (Kd.V_reads' HO_3.out).2.1)
           rintro e w' ⟨rfl, ⟨nd, rfl⟩⟩
           refine ⟨_, rfl, ?_⟩
           have p32 : 0 ≤ (x7_2 : Int) := of_decide_eq_true (by first | (with_reducible assumption) | assumption)
           have q32 : (x7_2 : Int) < ((x297003_2.length : Int) : Int) := of_decide_eq_true (by first | (with_reducible assumption) | assumption)
           obtain ⟨go32, co32, eo32, gb32, gl32, cl32, HG32⟩ := Kd.R_form HO_297003.out (by omega)
           (first | cases eo32 | (injection eo32 with ea_ en_ ec_; (first | subst ea_ | (injection ea_ with ea_; subst ea_)); subst ec_; clear en_))
           have GB32 := Aside0.mk gb32
           have GG32 := Aside0.mk HG32
           clear gb32 gl32 HG32
           (first | simp only [add_plain] at hx297_0 | skip)
           obtain ⟨hx32_0, hf32_0⟩ := Kd.R_celln 0 HO_297003.out (x7_2 : Int) p32 q32
           replace p32 := eq_true p32
           replace q32 := eq_true q32
           have HP39 := Kd.R_putn HO_297003.out (x7_2 : Int) t298
           rw [← Ny299.out] at HP39
           have HQ39 := Aside0.mk HP39
           clear HP39
           refine hK.out _ _ ⟨(blk_cell BK296.out 0).trans rfl, (blk_cell BK296.out 1).trans rfl, (blk_cell BK296.out 2).trans rfl, (blk_cell BK296.out 3).trans rfl, hHeld.2.2.2.2⟩ (fun hHeld => ?_)
           clear hK K
           refine norm_ (a' := ?_) ?_ ?_
           rotate_left
           ·show Act.put _ (some 45) _ = _
            simp only [Act.put, List.setIfInBounds_toArray, List.set_cons_zero, List.set_cons_succ, i64_w, i32_w]
            rfl
           refine pure_ (i := 10) (N := some 46) (v := ?_) (a' := ?_) #[true, true, true, true, true, true, true, true, true, true, true, false] rfl rfl (any_of HT_.out (by kernel_rfl)) (fun _ _ _ h => h) (Or.inl ⟨by rfl, ?_⟩) ?_ ?_
           rotate_left
           ·intro w'
            go_simp
            with_reducible rfl
           rotate_left
           ·simp only [Act.put, List.setIfInBounds_toArray, List.set_cons_zero, List.set_cons_succ, i64_w, i32_w]
            rfl
           refine last_ (i := 11) (N := none) #[true, true, true, true, true, true, true, true, true, true, true, true] rfl rfl (one_of HT_.out (by kernel_rfl)) (by decide) (fun K hK => ?_)
           refine skip_ (w1 := ?_) (by rfl) rfl ?_ ?_
           rotate_left
           ·go_simp
            rfl
           refine hK.out _ _ ?_
           clear hK K
           refine done_ (done_of HT_.out (by kernel_rfl)) ?_
           try go_wp2
           (try simp only [← hl3_2])
           go_roundg k2
           case measure => have := HK1.out; have := HK2.out; omega
           case rel => exact ⟨(x3_2), (wrap64 (x7_2 + 1)), (y299), (.slice (some ⟨go32, 0, none⟩) x297003_2.length co37), (by first | rfl | (simp; done) | (simp [*]; done)), H', ⟨by have := HK1.out; have := HK2.out; omega⟩, ⟨by (try simp only [hl3_1]); (try simp only [hl3_2]); (with_reducible repeat (first | apply Kd.V_alloc | apply Kd.V_drewN | apply Kd.V_drew)); exact Kd.V_mono (Kd.V_far (p := ⟨go32, (x7_2 : Int).toNat, none⟩) (Kd.V_mono HO_3.out (fun k_ hk => (⟨hk, fun e_ => hk.2.2.2.1 (by rw [e_]; rfl)⟩ : _ ∧ k_ ≠ go32))) (fun _ hk => hk.2) (.int .i64 t298)) (fun _ hk => ⟨hk.1.1, ⟨hk.1.2.1, ⟨hk.1.2.2.1, ⟨hk.1.2.2.2.1, ⟨hk.1.2.2.2.2.1, ⟨hk.1.2.2.2.2.2.1, ⟨hk.1.2.2.2.2.2.2.1, hk.1.2.2.2.2.2.2.2⟩⟩⟩⟩⟩⟩⟩)⟩, ⟨by (try simp only [hl3_1]); (try simp only [hl3_2]); (with_reducible repeat (first | apply Kd.S_alloc | apply Kd.S_drewN | apply Kd.S_drew)); exact Kd.S_mono (Kd.S_far (p := ⟨go32, (x7_2 : Int).toNat, none⟩) (Kd.S_mono HO_284000.out (fun k_ hk => (⟨hk, fun e_ => hk.2.2.1 (by rw [e_]; rfl)⟩ : _ ∧ k_ ≠ go32))) (fun _ hk => hk.2) (.int .i64 t298)) (fun _ hk => ⟨hk.1.1, ⟨hk.1.2.1, ⟨hk.1.2.2.1, hk.1.2.2.2⟩⟩⟩)⟩, ⟨by (try simp only [hl3_1]); (try simp only [hl3_2]); exact Kd.R_mono (Kd.R_far (p := ⟨go32, (x7_2 : Int).toNat, none⟩) (Kd.R_types HO_297001.out GG32.out (by decide)) (fun _ hk => hk.2) (.int .i64 t298)) (fun _ hk => trivial)⟩, ⟨by (try simp only [hl3_1]); (try simp only [hl3_2]); exact Kd.R_mono (Kd.R_far (p := ⟨go32, (x7_2 : Int).toNat, none⟩) (Kd.R_types HO_297002.out GG32.out (by decide)) (fun _ hk => hk.2) (.int .i64 t298)) (fun _ hk => trivial)⟩, ⟨by (try simp only [hl3_1]); (try simp only [hl3_2]); (with_reducible repeat (first | apply Kd.R_alloc | apply Kd.R_drewN | apply Kd.R_drew)); exact HQ39.out⟩, ⟨by (try simp only [hl3_1]); (try simp only [hl3_2]); refine blk_far ?_ (by have h_ := Kd.R_ne HO_297003.out BK278.out (by decide); intro e_; exact h_ (by rw [e_]; rfl)) _; (with_reducible repeat (first | refine blk_drewN ?_ _ | refine blk_drew ?_ | refine blk_alloc ?_ _)); exact BK278.out⟩, ⟨by (try simp only [hl3_1]); (try simp only [hl3_2]); refine blk_far ?_ (by have h_ := Kd.R_ne HO_297003.out BK279.out (by decide); intro e_; exact h_ (by rw [e_]; rfl)) _; (with_reducible repeat (first | refine blk_drewN ?_ _ | refine blk_drew ?_ | refine blk_alloc ?_ _)); exact BK279.out⟩, ⟨by (try simp only [hl3_1]); (try simp only [hl3_2]); refine blk_far ?_ (by have h_ := Kd.R_ne HO_297003.out BK283.out (by decide); intro e_; exact h_ (by rw [e_]; rfl)) _; (with_reducible repeat (first | refine blk_drewN ?_ _ | refine blk_drew ?_ | refine blk_alloc ?_ _)); exact BK283.out⟩, ⟨by (try simp only [hl3_1]); (try simp only [hl3_2]); refine blk_far ?_ (by have h_ := Kd.R_ne HO_297003.out BK296.out (by decide); intro e_; exact h_ (by rw [e_]; rfl)) _; (with_reducible repeat (first | refine blk_drewN ?_ _ | refine blk_drew ?_ | refine blk_alloc ?_ _)); exact BK296.out⟩, ⟨BB HB⟩⟩
          ·rw [if_neg c30] at H
           exact absurd H (by simp)
         ·rw [if_neg c29] at H
          have c29b0 : decide (x7_2 < (x297003_2.length : Int)) = false := decide_eq_false c29
          clear c29
          by_cases c40 : x284000_1.length < 1759218604441
          ·rw [if_pos c40] at H
           have LMc40 := Aside0.mk c40
           clear c40
           obtain ⟨y300, hy300⟩ : ∃ y_ : List (S40), y_ = (x284000_1 ++ [(⟨t286, t287, t290, x297003_2⟩ : S40)]) := ⟨_, rfl⟩
           replace H : (dioramaref10_Canon.l0 k2 x3_2 (wrap64 (x5_1 + 1)) l0_0 a0_1 y300 rt_) = some (r1, r2) := by first | (rw [hy300]; with_reducible exact H) | (have H2_ := (Option.bind_some _ _).symm.trans H; rw [hy300]; with_reducible exact H2_) | (have H2_ := (Option.bind_some _ _).symm.trans H; with_reducible exact H2_) | with_reducible exact H | (rw [hy300]; exact H) | exact H
           have Ny300 := Aside0.mk hy300
           clear hy300
           have H' := Aside0.mk H
           clear H
           have hnb41 := NB296_278.out
           have hnc41 := NB278_296.out
           have hnb42 := NB296_279.out
           have hnc42 := NB279_296.out
           have hnb43 := NB296_283.out
           have hnc43 := NB283_296.out
           have hcz44_0 : wr.cell? ⟨gb296, 0, none⟩ = some (.int .i64 t286) := (blk_cell BK296.out 0).trans rfl
           have hcz44_1 : wr.cell? ⟨gb296, 1, none⟩ = some (.slice Ao23 t287.length co23) := (blk_cell BK296.out 1).trans rfl
           have hcz44_2 : wr.cell? ⟨gb296, 2, none⟩ = some (.slice Ao25 t290.length co25) := (blk_cell BK296.out 2).trans rfl
           have hcz44_3 : wr.cell? ⟨gb296, 3, none⟩ = some (u297003) := (blk_cell BK296.out 3).trans rfl
           have hfz44_0 := blk_frozen BK296.out 0
           have hfz44_1 := blk_frozen BK296.out 1
           have hfz44_2 := blk_frozen BK296.out 2
           have hfz44_3 := blk_frozen BK296.out 3
           obtain ⟨Ao45, co45, eo45⟩ := Kd.R_slice HO_297003.out
           subst eo45
           have hnb46 := NB283_278.out
           have hnc46 := NB278_283.out
           have hnb47 := NB283_279.out
           have hnc47 := NB279_283.out
           have hcz48_0 : wr.cell? ⟨gb283, 0, none⟩ = some (u284000) := (blk_cell BK283.out 0).trans rfl
           have hcz48_1 : wr.cell? ⟨gb283, 1, none⟩ = some (.int .i64 rt_) := (blk_cell BK283.out 1).trans rfl
           have hfz48_0 := blk_frozen BK283.out 0
           have hfz48_1 := blk_frozen BK283.out 1
           go_wp2_with (first | ((with_reducible refine gate_builtin (b := .append) (xs := #[.tmp 48, .tmp 50]) rfl ?_); at_builtin; refine Kd.S_append k40 (w0 := w) w.heap.size rfl (.tmp 48) (.tmp 50) 22 40 (.agg #[(.int .i64 0), (.slice none 0 0), (.slice none 0 0), (.slice none 0 0)]) 80 rfl Try.underlying22 info40 rfl (by decide) (by omega) u284000 x284000_1 (⟨t286, t287, t290, x297003_2⟩ : S40) [.int .i64 t286, .slice Ao23 t287.length co23, .slice Ao25 t290.length co25, .slice Ao45 x297003_2.length co45] (fun k_ => k_ ≠ gb296) (fun k_ => some k_ = (.slice Ao23 t287.length co23 : Value).ownBlock ∨ some k_ = (.slice Ao25 t290.length co25 : Value).ownBlock ∨ some k_ = (.slice Ao45 x297003_2.length co45 : Value).ownBlock) rfl rfl ?aP (fun k_ hk_ => hk_.elim (fun h_ => ((Kd.R_mono (ok' := fun k_ => ((fun k_ => k_ ≠ gb296)) k_ ∧ some k_ ≠ (u284000 : Value).ownBlock) (Kd.R_types (Kd.R_apart' (HO_297001.out) (Kd.S_typed HO_284000.out) (by decide)) BK296.out (by decide)) (fun k_ hk => ⟨hk.2, hk.1.2⟩))).1 k_ h_.symm) (fun h_ => h_.elim (fun h_ => ((Kd.R_mono (ok' := fun k_ => ((fun k_ => k_ ≠ gb296)) k_ ∧ some k_ ≠ (u284000 : Value).ownBlock) (Kd.R_types (Kd.R_apart' (HO_297002.out) (Kd.S_typed HO_284000.out) (by decide)) BK296.out (by decide)) (fun k_ hk => ⟨hk.2, hk.1.2⟩))).1 k_ h_.symm) (fun h_ => ((Kd.R_mono (ok' := fun k_ => ((fun k_ => k_ ≠ gb296)) k_ ∧ some k_ ≠ (u284000 : Value).ownBlock) (Kd.R_types (Kd.R_apart' (HO_297003.out) (Kd.S_typed HO_284000.out) (by decide)) BK296.out (by decide)) (fun k_ hk => ⟨hk.2, hk.1.2⟩))).1 k_ h_.symm))) ?aF ?aO ?aB ?aS ?aL ?_; (case aP => exact k40_mkM _ _ _ (⟨t286, t287, t290, x297003_2⟩ : S40) (Kd.R_mono (Kd.R_tight rfl (Kd.R_mono (ok' := fun k_ => ((fun k_ => k_ ≠ gb296)) k_ ∧ some k_ ≠ (u284000 : Value).ownBlock) (Kd.R_types (Kd.R_apart' (HO_297001.out) (Kd.S_typed HO_284000.out) (by decide)) BK296.out (by decide)) (fun k_ hk => ⟨hk.2, hk.1.2⟩))) (fun _ h_ => Or.inl h_)) (Kd.R_mono (Kd.R_tight rfl (Kd.R_mono (ok' := fun k_ => ((fun k_ => k_ ≠ gb296)) k_ ∧ some k_ ≠ (u284000 : Value).ownBlock) (Kd.R_types (Kd.R_apart' (HO_297002.out) (Kd.S_typed HO_284000.out) (by decide)) BK296.out (by decide)) (fun k_ hk => ⟨hk.2, hk.1.2⟩))) (fun _ h_ => Or.inr (Or.inl h_))) (Kd.R_mono (Kd.R_tight rfl (Kd.R_mono (ok' := fun k_ => ((fun k_ => k_ ≠ gb296)) k_ ∧ some k_ ≠ (u284000 : Value).ownBlock) (Kd.R_types (Kd.R_apart' (HO_297003.out) (Kd.S_typed HO_284000.out) (by decide)) BK296.out (by decide)) (fun k_ hk => ⟨hk.2, hk.1.2⟩))) (fun _ h_ => Or.inr (Or.inr (h_))))); (case aB => exact (BB HB)); (case aF => exact (fun k_ hk => Kd.freshB (g := gb296) (o := .cells #[.int .i64 t286, .slice Ao23 t287.length co23, .slice Ao25 t290.length co25, .slice Ao45 x297003_2.length co45] 40 (0, 0)) (BL BK296) k_ hk)); (case aO => exact (by (with_reducible repeat (first | apply Kd.S_alloc | apply Kd.S_drewN | apply Kd.S_drew)); exact Kd.S_mono HO_284000.out (fun k_ hk => ⟨hk.2.2.2, fun e_ => e_.elim (fun h_ => hk.1 h_) (fun h_ => h_.elim (fun h_ => hk.2.1 h_) (fun h_ => hk.2.2.1 h_))⟩))); (case aS => exact (below_size (BB HB))); (case aL => have := LMc40.out; omega); intro v301 w49 ho hb hg hat; rw [← Ny300.out] at ho; have n0_ := Aside0.mk (Kd.V_afterv (ok := (fun k_ => some k_ ≠ (.slice Ao23 t287.length co23 : Value).ownBlock ∧ some k_ ≠ (.slice Ao25 t290.length co25 : Value).ownBlock ∧ some k_ ≠ (.slice Ao45 x297003_2.length co45 : Value).ownBlock ∧ k_ ≠ gb278 ∧ k_ ≠ gb279 ∧ k_ ≠ gb283 ∧ k_ ≠ gb296)) (by (with_reducible repeat (first | apply Kd.V_alloc | apply Kd.V_drewN | apply Kd.V_drew)); exact Kd.V_mono HO_3.out (fun _ hk => ⟨⟨hk.2.1, ⟨hk.2.2.1, ⟨hk.2.2.2.1, ⟨hk.2.2.2.2.1, ⟨hk.2.2.2.2.2.1, ⟨hk.2.2.2.2.2.2.1, hk.2.2.2.2.2.2.2⟩⟩⟩⟩⟩⟩, hk.1⟩)) hg hat); have n1_ := Aside0.mk (blk_grown (g := gb278) (o := .cells #[.slice (some ad285) l0_0.length c0_0, .int .i64 a0_1] 24 (0, 0)) (BL BK278) hg (Kd.S_ne HO_284000.out BK278.out (by decide))); have n2_ := Aside0.mk (blk_grown (g := gb279) (o := .cells #[.slice none 0 0, .int .i64 0] 24 (0, 0)) (BL BK279) hg (Kd.S_ne HO_284000.out BK279.out (by decide))); have n3_ := Aside0.mk (blk_grown (g := gb283) (o := .cells #[u284000, .int .i64 rt_] 24 (0, 0)) (BL BK283) hg (Kd.S_ne HO_284000.out BK283.out (by decide))); have n4_ := Aside0.mk (blk_grown (g := gb296) (o := .cells #[.int .i64 t286, .slice Ao23 t287.length co23, .slice Ao25 t290.length co25, .slice Ao45 x297003_2.length co45] 40 (0, 0)) (BL BK296) hg (Kd.S_away HO_284000.out (fun _ hk => hk.2.2.2))); have n5_ := Aside0.mk (hb); have n6_ := Aside0.mk (ho); clear HO_3; clear BK278; clear BK279; clear BK283; clear BK296; clear HB; clear HO_284000; clear HO_297001; clear HO_297002; clear HO_297003; have HO_3 := n0_; have BK278 := n1_; have BK279 := n2_; have BK283 := n3_; have BK296 := n4_; have HB := n5_; have HO302 := n6_; clear n0_ n1_ n2_ n3_ n4_ n5_ n6_; clear ho hb hg hat; obtain ⟨Ao50, co50, eo50⟩ := Kd.S_slice HO302.out; subst eo50; have hcz51_0 : w49.cell? ⟨gb283, 0, none⟩ = some (u284000) := (blk_cell BK283.out 0).trans rfl; have hcz51_1 : w49.cell? ⟨gb283, 1, none⟩ = some (.int .i64 rt_) := (blk_cell BK283.out 1).trans rfl; have hfz51_0 := blk_frozen BK283.out 0; have hfz51_1 := blk_frozen BK283.out 1))
           (try simp only [← hl3_1, ← hl3_2])
           go_roundg k2
           case measure => have := HK1.out; have := HK2.out; omega
           case rel => exact ⟨(x3_2), (wrap64 (x5_1 + 1)), (y300), (.slice Ao50 y300.length co50), (by first | rfl | (simp; done) | (simp [*]; done)), H', ⟨by have := HK1.out; have := HK2.out; omega⟩, ⟨by (try simp only [hl3_1]); (try simp only [hl3_2]); (with_reducible repeat (first | apply Kd.V_alloc | apply Kd.V_drewN | apply Kd.V_drew)); exact Kd.V_mono (Kd.V_far (p := ⟨gb283, 0, none⟩) (Kd.V_mono HO_3.out (fun k_ hk => (⟨hk, hk.1.2.2.2.2.2.1⟩ : _ ∧ k_ ≠ gb283))) (fun _ hk => hk.2) (.slice Ao50 y300.length co50)) (fun _ hk => ⟨hk.1.2, ⟨hk.1.1.2.2.2.1, ⟨hk.1.1.2.2.2.2.1, hk.1.1.2.2.2.2.2.1⟩⟩⟩)⟩, ⟨by (try simp only [hl3_1]); (try simp only [hl3_2]); (with_reducible repeat (first | apply Kd.S_alloc | apply Kd.S_drewN | apply Kd.S_drew)); exact Kd.S_mono (Kd.S_far (p := ⟨gb283, 0, none⟩) (Kd.S_types HO302.out BK283.out (by decide)) (fun _ hk => hk.2) (.slice Ao50 y300.length co50)) (fun _ hk => trivial)⟩, ⟨by (try simp only [hl3_1]); (try simp only [hl3_2]); refine blk_far ?_ NB278_283.out _; (with_reducible repeat (first | refine blk_drewN ?_ _ | refine blk_drew ?_ | refine blk_alloc ?_ _)); exact BK278.out⟩, ⟨by (try simp only [hl3_1]); (try simp only [hl3_2]); refine blk_far ?_ NB279_283.out _; (with_reducible repeat (first | refine blk_drewN ?_ _ | refine blk_drew ?_ | refine blk_alloc ?_ _)); exact BK279.out⟩, ⟨by (try simp only [hl3_1]); (try simp only [hl3_2]); refine blk_put (cs := #[u284000, .int .i64 rt_]) ?_ 0 _ rfl; (with_reducible repeat (first | refine blk_drewN ?_ _ | refine blk_drew ?_ | refine blk_alloc ?_ _)); exact BK283.out⟩, ⟨BB HB⟩⟩
          ·rw [if_neg c40] at H
           exact absurd H (by simp)
      ·rw [if_neg c16] at H
       exact absurd H (by simp)
     ·rw [if_neg c15] at H
      exact absurd H (by simp)
    ·rw [if_neg c14] at H
     exact absurd H (by simp)
   ·rw [if_neg c13] at H
    have c13b0 : decide (x5_1 < (x3_1.length : Int)) = false := decide_eq_false c13
    clear c13
    simp only [Option.some.injEq, Prod.mk.injEq] at H
    obtain ⟨rfl, rfl⟩ := H
    have hnb52 := NB283_278.out
    have hnc52 := NB278_283.out
    have hnb53 := NB283_279.out
    have hnc53 := NB279_283.out
    have hcz54_0 : wr.cell? ⟨gb283, 0, none⟩ = some (u284000) := (blk_cell BK283.out 0).trans rfl
    have hcz54_1 : wr.cell? ⟨gb283, 1, none⟩ = some (.int .i64 rt_) := (blk_cell BK283.out 1).trans rfl
    have hfz54_0 := blk_frozen BK283.out 0
    have hfz54_1 := blk_frozen BK283.out 1
    obtain ⟨Ao55, co55, eo55⟩ := Kd.S_slice HO_284000.out
    subst eo55
    have hnb56 := NB279_278.out
    have hnc56 := NB278_279.out
    have hcz57_0 : wr.cell? ⟨gb279, 0, none⟩ = some (.slice none 0 0) := (blk_cell BK279.out 0).trans rfl
    have hcz57_1 : wr.cell? ⟨gb279, 1, none⟩ = some (.int .i64 0) := (blk_cell BK279.out 1).trans rfl
    have hfz57_0 := blk_frozen BK279.out 0
    have hfz57_1 := blk_frozen BK279.out 1
    go_wp2
    refine bodyPost_ret (results_cell_row rfl _ _ gb279 24 #[.slice Ao55 x284000_1.length co55, .int .i64 rt_] (0, 0) _ rfl (by refine blk_put (cs := #[.slice Ao55 x284000_1.length co55, .int .i64 0]) ?_ 1 _ rfl; refine blk_put (cs := #[.slice none 0 0, .int .i64 0]) ?_ 0 _ rfl; (with_reducible repeat (first | refine blk_drewN ?_ _ | refine blk_drew ?_ | refine blk_alloc ?_ _)); exact BK279.out) Try.underlying24 rfl (by kernel_rfl)) rfl ?_
    exact ⟨_, by first | rfl | (simp [errW_none, errW_some] <;> rfl) | (simp [*, errW_none, errW_some] <;> rfl), by (with_reducible repeat (first | apply Kd.S_alloc | apply Kd.S_drewN | apply Kd.S_drew)); exact Kd.S_mono (Kd.S_far (p := ⟨gb279, 1, none⟩) (Kd.S_far (p := ⟨gb279, 0, none⟩) (Kd.S_types HO_284000.out BK279.out (by decide)) (fun _ hk => hk.2) (.slice Ao55 x284000_1.length co55)) (fun _ hk => hk.2) (.int .i64 rt_)) (fun _ hk => trivial), BB HB⟩

end Go.Proofs.Ytlfjjapndlkamaa.GA
