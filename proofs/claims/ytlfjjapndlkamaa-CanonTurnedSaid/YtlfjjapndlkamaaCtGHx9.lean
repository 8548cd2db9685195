-- Printed by a program of the session (wip/gen/tprint.py, over a turned copy of the kit's print): Lean checks it.
import Derived.Test.YtlfjjapndlkamaaCtGHx0
import Derived.Test.YtlfjjapndlkamaaCtGHx8
namespace Go.Proofs.Ytlfjjapndlkamaa.GH
open Go.RowKit Go.Proofs.YtlfjjapndlkamaaW.PrintWords Go.Proofs.YtlfjjapndlkamaaW.PrintLast Go.Proofs.YtlfjjapndlkamaaW.PrintMore
attribute [local go_sem] max2_int min2_int max_two min_two max_three min_three max_four min_four   -- for this text's walks alone
set_option linter.unusedVariables false
set_option linter.unusedSimpArgs false

/-! ### dioramaref09_Same: function 20 -/
mutual
def dioramaref09_Same.j0 : Nat → Bool → List (S40) → Int → List (S40) → Int → Option (Bool)
 | 0, _, _, _, _, _ => none
 | k + 1, x19, x208000, x208001, x209000, x209001 => if x19 = true then (some false) else (dioramaref09_Same.l0 k 0 x208000 x208001 x209000 x209001)
def dioramaref09_Same.l0 : Nat → Int → List (S40) → Int → List (S40) → Int → Option (Bool)
 | 0, _, _, _, _, _ => none
 | k + 1, x5, x208000, x208001, x209000, x209001 => if x5 < (x208000.length : Int) then (if 0 ≤ x5 then (if x5 < (x209000.length : Int) then ((dioramaref08_Same.f k ((rd_T40 x208000 x5).f0) ((rd_T40 x208000 x5).f1) ((rd_T40 x208000 x5).f2) ((rd_T40 x208000 x5).f3) ((rd_T40 x209000 x5).f0) ((rd_T40 x209000 x5).f1) ((rd_T40 x209000 x5).f2) ((rd_T40 x209000 x5).f3)).bind fun t211 => (if t211 = true then (dioramaref09_Same.l0 k (wrap64 (x5 + 1)) x208000 x208001 x209000 x209001) else (some false))) else (none)) else (none)) else (some true)
end
def dioramaref09_Same.f (k : Nat) (l0_0 : List (S40)) (a0_1 : Int) (l1_0 : List (S40)) (a1_1 : Int) : Option (Bool) := if a0_1 = a1_1 then (dioramaref09_Same.j0 k ((l0_0.length : Int) != (l1_0.length : Int)) l0_0 a0_1 l1_0 a1_1) else (dioramaref09_Same.j0 k true l0_0 a0_1 l1_0 a1_1)
def dioramaref09_Same.T6 : Bool × List (List Nat × List Nat) := (true, [([], []), ([0], [0]), ([], []), ([1, 2], [1, 2]), ([3], [3]), ([], []), ([5], [5]), ([], []), ([6, 7], [6, 7]), ([8], [8]), ([4, 9], [4, 9]), ([10], [10])])
def dioramaref09_Same.B6 : List Nat := [0, 1, 0, 7, 15, 0, 32, 0, 224, 480, 1023, 2047]
theorem dioramaref09_Same.tab6 : rtab .any (opsOf Try.f20 6) = dioramaref09_Same.T6 := by kernel_rfl
theorem dioramaref09_Same.bits6 : waitsOk dioramaref09_Same.T6.2 dioramaref09_Same.B6 = true := by kernel_rfl
set_option maxHeartbeats 8000000 in
set_option maxRecDepth 100000 in
theorem dioramaref09_Same.calls (k : Nat) (A0_0 : Option Addr) (c0_0 : Nat) (l0_0 : List (S40)) (a0_1 : Int) (A1_0 : Option Addr) (c1_0 : Nat) (l1_0 : List (S40)) (a1_1 : Int) (r : Bool) (w : World) (hr0_0 : Kd.C k40 w A0_0 l0_0.length l0_0) (hc0_0 : l0_0.length ≤ c0_0) (hr1_0 : Kd.C k40 w A1_0 l1_0.length l1_0) (hc1_0 : l1_0.length ≤ c1_0) (h : dioramaref09_Same.f k l0_0 a0_1 l1_0 a1_1 = some r) :
  Calls Try.prog 20 #[.agg #[.slice A0_0 l0_0.length c0_0, .int .i64 a0_1], .agg #[.slice A1_0 l1_0.length c1_0, .int .i64 a1_1]] w fun e w' => e = .returned (.bool r) ∧ Below w.heap.size w w' := by
 have hu24 := Try.underlying24; have hu40 := Try.underlying40; have HR0_0 := AM hr0_0; have HC0_0 := AM hc0_0; clear hr0_0 hc0_0; have HR1_0 := AM hr1_0; have HC1_0 := AM hc1_0; clear hr1_0 hc1_0; have HB := AM (Below.refl w.heap.size w); have H : (if a0_1 = a1_1 then (dioramaref09_Same.j0 k ((l0_0.length : Int) != (l1_0.length : Int)) l0_0 a0_1 l1_0 a1_1) else (dioramaref09_Same.j0 k true l0_0 a0_1 l1_0 a1_1)) = some r := h; clear h; have HC3 := AM H; clear H; go_enter Try.func20, Try.ntmps20
 go_upto_region 1 with (first | ((with_reducible refine gate_dst (N := 2) rfl ?_); refine box_event ?hg (N := 2) ?hd (cs := #[.slice A0_0 l0_0.length c0_0, .int .i64 a0_1]) (t := 24) ?hr ?_; (case hd => rfl); (case hg => rfl); (case hr => first | (go_simp; done) | (go_simp; rfl)); intro gb207 hg w4 hbox hb; have BK207 := AM (hbox); have GW207 := GW HB hg; have GE207 := GW HB hg; replace HB := BS HB hb; clear hb hbox hg) | ((with_reducible refine gate_dst (N := 3) rfl ?_); refine box_event ?hg (N := 3) ?hd (cs := #[.slice A1_0 l1_0.length c1_0, .int .i64 a1_1]) (t := 24) ?hr ?_; (case hd => rfl); (case hg => rfl); (case hr => first | (go_simp; done) | (go_simp; rfl)); intro gb208 hg w5 hbox hb; have BK208 := AM (hbox); have GW208 := GW HB hg; have GE208 := GW HB hg; replace HB := BS HB hb; have NB207_208 := NL BK207 hg; have NB208_207 := NG BK207 hg; replace BK207 := BE BK207 hb; clear hb hbox hg))
 (try simp only [Act.put, List.setIfInBounds_toArray, List.set_cons_zero, List.set_cons_succ])
 go_cut [19] (fun v19 wc => ∃ (kq : Nat) (x19_2 : Bool), v19 = .bool x19_2 ∧ Aside0 (dioramaref09_Same.j0 kq x19_2 l0_0 a0_1 l1_0 a1_1 = some r) ∧ Aside0 (kq ≤ k) ∧ Aside0 (wc.heap[gb207]? = some (.cells #[(.slice A0_0 l0_0.length c0_0), .int .i64 a0_1] 24 (0, 0))) ∧ Aside0 (wc.heap[gb208]? = some (.cells #[(.slice A1_0 l1_0.length c1_0), .int .i64 a1_1] 24 (0, 0))) ∧ Aside0 (Below w.heap.size w wc))
 case first =>
  have H := HC3.out; clear HC3; by_cases c6 : a0_1 = a1_1
  ·rw [if_pos c6] at H; have c6b0 : (a0_1 == a1_1) = true := beq_iff_eq.mpr c6; have c6b1 : (a0_1 != a1_1) = false := bne_eq_false_iff_eq.mpr c6; clear c6; (first | rw [c6b0] | (simp only [i64_w, i32_w]; rw [c6b0]) | skip)
   have H' := AM H; clear H; have hnb7 := NB207_208.out; have hnc7 := NB208_207.out; have hcz8_0 := BC BK207 0 (.slice A0_0 l0_0.length c0_0) rfl; have hcz8_1 := BC BK207 1 (.int .i64 a0_1) rfl; have hfz8_0 := BF BK207 0; have hfz8_1 := BF BK207 1; have hcz9_0 := BC BK208 0 (.slice A1_0 l1_0.length c1_0) rfl; have hcz9_1 := BC BK208 1 (.int .i64 a1_1) rfl; have hfz9_0 := BF BK208 0; have hfz9_1 := BF BK208 1; go_wp2
   go_meet
   case rel => exact ⟨_, (((l0_0.length : Int) != (l1_0.length : Int))), (by first | rfl | (simp; done) | (simp [*]; done)), H', ⟨by first | omega | exact Nat.le_refl _⟩, ⟨BL BK207⟩, ⟨BL BK208⟩, ⟨BB HB⟩⟩
  ·rw [if_neg c6] at H; have c6b0 : (a0_1 == a1_1) = false := beq_eq_false_iff_ne.mpr c6; have c6b1 : (a0_1 != a1_1) = true := bne_iff_ne.mpr c6; (first | rw [c6b0] | (simp only [i64_w, i32_w]; rw [c6b0]) | skip)
   have H' := AM H; clear H; have hnb10 := NB207_208.out; have hnc10 := NB208_207.out; have hcz11_0 := BC BK207 0 (.slice A0_0 l0_0.length c0_0) rfl; have hcz11_1 := BC BK207 1 (.int .i64 a0_1) rfl; have hfz11_0 := BF BK207 0; have hfz11_1 := BF BK207 1; have hcz12_0 := BC BK208 0 (.slice A1_0 l1_0.length c1_0) rfl; have hcz12_1 := BC BK208 1 (.int .i64 a1_1) rfl; have hfz12_0 := BF BK208 0; have hfz12_1 := BF BK208 1; go_wp2
   go_meet
   case rel => exact ⟨_, (true), (by first | rfl | (simp; done) | (simp [*]; done)), H', ⟨by first | omega | exact Nat.le_refl _⟩, ⟨BL BK207⟩, ⟨BL BK208⟩, ⟨BB HB⟩⟩
 case rest =>
  clear HC3; try clear c1
  try clear c2
  try clear p2
  try clear c6
  try clear c6b0
  try clear c6b1
  try clear c7
  try clear c10
  try clear hcz11_0
  try clear hcz11_1
  try clear hcz12_0
  try clear hcz12_1
  try clear hcz8_0
  try clear hcz8_1
  try clear hcz9_0
  try clear hcz9_1
  try clear hfz11_0
  try clear hfz11_1
  try clear hfz12_0
  try clear hfz12_1
  try clear hfz8_0
  try clear hfz8_1
  try clear hfz9_0
  try clear hfz9_1
  obtain ⟨kq, x19_2, rfl, HA, HJ2, BK207, BK208, HB⟩ := hcut; cases kq with
  | zero => exact absurd HA.out (by simp [dioramaref09_Same.j0])
  | succ kj2 =>
   have H := HA.out; clear HA; simp only [dioramaref09_Same.j0] at H
   by_cases c13 : x19_2 = true
   ·subst c13; have H1 : (some false) = some r := by rw [if_pos rfl] at H; exact H
    clear H; have H := H1; clear H1; obtain rfl := Option.some.inj H; go_wp2
    go_ret
    exact ⟨by first | rfl | (simp [errW_none, errW_some] <;> rfl) | (simp [*, errW_none, errW_some] <;> rfl), BB HB⟩
   ·replace c13 := Bool.eq_false_iff.mpr c13; subst c13; have H1 : (dioramaref09_Same.l0 kj2 0 l0_0 a0_1 l1_0 a1_1) = some r := by rw [if_neg (show ¬ (false = true) by decide)] at H; exact H
    clear H; have H := H1; clear H1; have H' := AM H; clear H; go_wp2
    go_loopg [5] kj2 (fun kq v5 w' => ∃ (x5_2 : Int), v5 = .int .i64 x5_2 ∧ Aside0 (dioramaref09_Same.l0 kq x5_2 l0_0 a0_1 l1_0 a1_1 = some r) ∧ Aside0 (kq ≤ kj2) ∧ Aside0 (w'.heap[gb207]? = some (.cells #[(.slice A0_0 l0_0.length c0_0), .int .i64 a0_1] 24 (0, 0))) ∧ Aside0 (w'.heap[gb208]? = some (.cells #[(.slice A1_0 l1_0.length c1_0), .int .i64 a1_1] 24 (0, 0))) ∧ Aside0 (Below w.heap.size w w'))
    case atStart => exact ⟨(0), (by first | rfl | (simp; done) | (simp [*]; done)), H', ⟨Nat.le_refl _⟩, ⟨BL BK207⟩, ⟨BL BK208⟩, ⟨BB HB⟩⟩
    case round =>
     clear H'; try clear c1
     try clear c2
     try clear p2
     try clear c6
     try clear c6b0
     try clear c6b1
     try clear c7
     try clear c10
     try clear c13
     try clear hcz11_0
     try clear hcz11_1
     try clear hcz12_0
     try clear hcz12_1
     try clear hcz8_0
     try clear hcz8_1
     try clear hcz9_0
     try clear hcz9_1
     try clear hfz11_0
     try clear hfz11_1
     try clear hfz12_0
     try clear hfz12_1
     try clear hfz8_0
     try clear hfz8_1
     try clear hfz9_0
     try clear hfz9_1
     try clear p2
     obtain ⟨x5_2, rfl, HA, HK2, BK207, BK208, HB⟩ := hrel; cases gk with
     | zero => exact absurd HA.out (by simp [dioramaref09_Same.l0])
     | succ k2 =>
      have H := HA.out; clear HA; simp only [dioramaref09_Same.l0] at H
      by_cases c14 : x5_2 < (l0_0.length : Int)
      ·rw [if_pos c14] at H; have c14b0 : decide (x5_2 < (l0_0.length : Int)) = true := decide_eq_true c14; clear c14; by_cases c15 : 0 ≤ x5_2
       ·rw [if_pos c15] at H; have c15b0 : decide (0 ≤ x5_2) = true := decide_eq_true c15; clear c15; by_cases c16 : x5_2 < (l1_0.length : Int)
        ·rw [if_pos c16] at H; have c16b0 : decide (x5_2 < (l1_0.length : Int)) = true := decide_eq_true c16; clear c16; replace H := Option.bind_eq_some_iff.mp H; obtain ⟨t211, A170, H⟩ := H; replace H : (if t211 = true then (dioramaref09_Same.l0 k2 (wrap64 (x5_2 + 1)) l0_0 a0_1 l1_0 a1_1) else (some false)) = some r := H; have A17 := AM A170; clear A170; by_cases c18 : t211 = true
         ·subst c18; have H1 : (dioramaref09_Same.l0 k2 (wrap64 (x5_2 + 1)) l0_0 a0_1 l1_0 a1_1) = some r := by rw [if_pos rfl] at H; exact H
          clear H; have H := H1; clear H1; have H' := AM H; clear H; have hnb19 := NB207_208.out; have hnc19 := NB208_207.out; have hcz20_0 := BC BK207 0 (.slice A0_0 l0_0.length c0_0) rfl; have hcz20_1 := BC BK207 1 (.int .i64 a0_1) rfl; have hfz20_0 := BF BK207 0; have hfz20_1 := BF BK207 1; try go_wp2
          replace BK207 := AM (blk_drew BK207.out); replace BK208 := AM (blk_drew BK208.out); replace HB := AM (below_drew1 HB.out); have p209 : 0 ≤ (x5_2 : Int) := of_decide_eq_true (by first | (with_reducible assumption) | assumption)
          have q209 : x5_2 < (l0_0.length : Int) := of_decide_eq_true (by first | (with_reducible assumption) | assumption)
          obtain ⟨ad209, A209_1, c209_1, A209_2, c209_2, A209_3, c209_3, e209, hx209_0, hx209_1, hx209_2, hx209_3, hl209_1, hi209_1, hl209_2, hi209_2, hl209_3, hi209_3⟩ := at_T40 HR0_0.out x5_2 p209 q209; have hw209_3 := hx209_3; have hw209_2 := hx209_2; have hw209_1 := hx209_1; have hw209_0 := hx209_0; cases e209
          replace hx209_0 := (HB.out.cell (World.block_lt_of_cell? w _ hx209_0)).trans hx209_0; replace hx209_1 := (HB.out.cell (World.block_lt_of_cell? w _ hx209_1)).trans hx209_1; replace hx209_2 := (HB.out.cell (World.block_lt_of_cell? w _ hx209_2)).trans hx209_2; replace hx209_3 := (HB.out.cell (World.block_lt_of_cell? w _ hx209_3)).trans hx209_3; have HR209_1 := AM hi209_1; have HC209_1 := AM hl209_1; clear hi209_1 hl209_1; have HR209_2 := AM hi209_2; have HC209_2 := AM hl209_2; clear hi209_2 hl209_2; have HR209_3 := AM hi209_3; have HC209_3 := AM hl209_3; clear hi209_3 hl209_3; replace p209 := eq_true p209; replace q209 := eq_true q209; have p210 : 0 ≤ (x5_2 : Int) := of_decide_eq_true (by first | (with_reducible assumption) | assumption)
          have q210 : x5_2 < (l1_0.length : Int) := of_decide_eq_true (by first | (with_reducible assumption) | assumption)
          obtain ⟨ad210, A210_1, c210_1, A210_2, c210_2, A210_3, c210_3, e210, hx210_0, hx210_1, hx210_2, hx210_3, hl210_1, hi210_1, hl210_2, hi210_2, hl210_3, hi210_3⟩ := at_T40 HR1_0.out x5_2 p210 q210; have hw210_3 := hx210_3; have hw210_2 := hx210_2; have hw210_1 := hx210_1; have hw210_0 := hx210_0; cases e210
          replace hx210_0 := (HB.out.cell (World.block_lt_of_cell? w _ hx210_0)).trans hx210_0; replace hx210_1 := (HB.out.cell (World.block_lt_of_cell? w _ hx210_1)).trans hx210_1; replace hx210_2 := (HB.out.cell (World.block_lt_of_cell? w _ hx210_2)).trans hx210_2; replace hx210_3 := (HB.out.cell (World.block_lt_of_cell? w _ hx210_3)).trans hx210_3; have HR210_1 := AM hi210_1; have HC210_1 := AM hl210_1; clear hi210_1 hl210_1; have HR210_2 := AM hi210_2; have HC210_2 := AM hl210_2; clear hi210_2 hl210_2; have HR210_3 := AM hi210_3; have HC210_3 := AM hl210_3; clear hi210_3 hl210_3; replace p210 := eq_true p210; replace q210 := eq_true q210; refine start_ (n := 12) (S := fun w' => w'.cell? ⟨gb207, 0, none⟩ = some (.slice (some ad209) l0_0.length c0_0) ∧ w'.cell? ⟨gb207, 1, none⟩ = some (.int .i64 a0_1) ∧ w'.cell? ⟨gb208, 0, none⟩ = some (.slice (some ad210) l1_0.length c1_0) ∧ w'.cell? ⟨gb208, 1, none⟩ = some (.int .i64 a1_1) ∧ w'.cell? (ad209.add ((x5_2).toNat * 4)) = some (.int .i64 ((rd_T40 l0_0 x5_2).f0)) ∧ w'.cell? ⟨(ad209.add ((x5_2).toNat * 4)).block, (ad209.add ((x5_2).toNat * 4)).off + 1, none⟩ = some (.slice A209_1 ((rd_T40 l0_0 x5_2).f1).length c209_1) ∧ w'.cell? ⟨(ad209.add ((x5_2).toNat * 4)).block, (ad209.add ((x5_2).toNat * 4)).off + 2, none⟩ = some (.slice A209_2 ((rd_T40 l0_0 x5_2).f2).length c209_2) ∧ w'.cell? ⟨(ad209.add ((x5_2).toNat * 4)).block, (ad209.add ((x5_2).toNat * 4)).off + 3, none⟩ = some (.slice A209_3 ((rd_T40 l0_0 x5_2).f3).length c209_3) ∧ w'.cell? (ad210.add ((x5_2).toNat * 4)) = some (.int .i64 ((rd_T40 l1_0 x5_2).f0)) ∧ w'.cell? ⟨(ad210.add ((x5_2).toNat * 4)).block, (ad210.add ((x5_2).toNat * 4)).off + 1, none⟩ = some (.slice A210_1 ((rd_T40 l1_0 x5_2).f1).length c210_1) ∧ w'.cell? ⟨(ad210.add ((x5_2).toNat * 4)).block, (ad210.add ((x5_2).toNat * 4)).off + 2, none⟩ = some (.slice A210_2 ((rd_T40 l1_0 x5_2).f2).length c210_2) ∧ w'.cell? ⟨(ad210.add ((x5_2).toNat * 4)).block, (ad210.add ((x5_2).toNat * 4)).off + 3, none⟩ = some (.slice A210_3 ((rd_T40 l1_0 x5_2).f3).length c210_3)) (ds := []) #[false, false, false, false, false, false, false, false, false, false, false, false] (by kernel_rfl) rfl rfl ⟨(blk_cell BK207.out 0).trans rfl, (blk_cell BK207.out 1).trans rfl, (blk_cell BK208.out 0).trans rfl, (blk_cell BK208.out 1).trans rfl, ((HB.out.cell (World.block_lt_of_cell? w _ hw209_0)).trans hw209_0), ((HB.out.cell (World.block_lt_of_cell? w _ hw209_1)).trans hw209_1), ((HB.out.cell (World.block_lt_of_cell? w _ hw209_2)).trans hw209_2), ((HB.out.cell (World.block_lt_of_cell? w _ hw209_3)).trans hw209_3), ((HB.out.cell (World.block_lt_of_cell? w _ hw210_0)).trans hw210_0), ((HB.out.cell (World.block_lt_of_cell? w _ hw210_1)).trans hw210_1), ((HB.out.cell (World.block_lt_of_cell? w _ hw210_2)).trans hw210_2), ((HB.out.cell (World.block_lt_of_cell? w _ hw210_3)).trans hw210_3)⟩ (fun hHeld => ?_); refine with_tabW dioramaref09_Same.tab6 dioramaref09_Same.bits6 (fun HT_ HW_ => ?_)
          generalize wr.drew = w21 at BK207 BK208 HB HR209_1 HR209_2 HR209_3 HR210_1 HR210_2 HR210_3 hx209_0 hx209_1 hx209_2 hx209_3 hx210_0 hx210_1 hx210_2 hx210_3 hHeld ⊢
          refine pure_ (i := 0) (N := some 27) (v := ?_) (a' := ?_) #[true, false, false, false, false, false, false, false, false, false, false, false] rfl rfl (any_of HT_.out (by kernel_rfl)) (fun _ _ _ h => h) (Or.inl ⟨by rfl, ?_⟩) ?_ ?_
          rotate_left
          ·intro w'
           go_simp
           with_reducible rfl
          rotate_left
          ·simp only [Act.put, List.setIfInBounds_toArray, List.set_cons_zero, List.set_cons_succ, i64_w, i32_w]
           rfl
          refine pure_ (i := 2) (N := some 29) (v := ?_) (a' := ?_) #[true, false, true, false, false, false, false, false, false, false, false, false] rfl rfl (any_of HT_.out (by kernel_rfl)) (fun _ _ _ h => h) (Or.inl ⟨by rfl, ?_⟩) ?_ ?_
          rotate_left
          ·intro w'
           go_simp
           with_reducible rfl
          rotate_left
          ·simp only [Act.put, List.setIfInBounds_toArray, List.set_cons_zero, List.set_cons_succ, i64_w, i32_w]
           rfl
          refine pure_ (i := 5) (N := some 32) (v := ?_) (a' := ?_) #[true, false, true, false, false, true, false, false, false, false, false, false] rfl rfl (any_of HT_.out (by kernel_rfl)) (fun _ _ _ h => h) (Or.inl ⟨by rfl, ?_⟩) ?_ ?_
          rotate_left
          ·intro w'
           go_simp
           with_reducible rfl
          rotate_left
          ·simp only [Act.put, List.setIfInBounds_toArray, List.set_cons_zero, List.set_cons_succ, i64_w, i32_w]
           rfl
          refine pure_ (i := 7) (N := some 34) (v := ?_) (a' := ?_) #[true, false, true, false, false, true, false, true, false, false, false, false] rfl rfl (any_of HT_.out (by kernel_rfl)) (fun _ _ _ h => h) (Or.inl ⟨by rfl, ?_⟩) ?_ ?_
          rotate_left
          ·intro w'
           go_simp
           with_reducible rfl
          rotate_left
          ·simp only [Act.put, List.setIfInBounds_toArray, List.set_cons_zero, List.set_cons_succ, i64_w, i32_w]
           rfl
          refine take_ (i := 1) (N := some 28) (v := ?_) (a' := ?_) #[true, true, true, false, false, true, false, true, false, false, false, false] rfl rfl (take_ofW HT_.out HW_.out (by kernel_rfl)) (fun _ _ _ h => h) (Or.inl ⟨by rfl, ?_⟩) hHeld ?_ ?_
          rotate_left
          ·rintro w' ⟨s0, s1, s2, s3, s4, s5, s6, s7, s8, s9, s10, s11⟩
           go_simp
           with_reducible rfl
          rotate_left
          ·simp only [Act.put, List.setIfInBounds_toArray, List.set_cons_zero, List.set_cons_succ, i64_w, i32_w]
           rfl
          refine pure_ (i := 3) (N := some 30) (v := ?_) (a' := ?_) #[true, true, true, true, false, true, false, true, false, false, false, false] rfl rfl (any_of HT_.out (by kernel_rfl)) (fun _ _ _ h => h) (Or.inl ⟨by rfl, ?_⟩) ?_ ?_
          rotate_left
          ·intro w'
           go_simp
           with_reducible rfl
          rotate_left
          ·simp only [Act.put, List.setIfInBounds_toArray, List.set_cons_zero, List.set_cons_succ, i64_w, i32_w]
           rfl
          refine take_ (i := 4) (N := some 31) (v := ?_) (a' := ?_) #[true, true, true, true, true, true, false, true, false, false, false, false] rfl rfl (take_ofW HT_.out HW_.out (by kernel_rfl)) (fun _ _ _ h => h) (Or.inl ⟨by rfl, ?_⟩) hHeld ?_ ?_
          rotate_left
          ·rintro w' ⟨s0, s1, s2, s3, s4, s5, s6, s7, s8, s9, s10, s11⟩
           go_simp
           with_reducible rfl
          rotate_left
          ·simp only [Act.put, List.setIfInBounds_toArray, List.set_cons_zero, List.set_cons_succ, i64_w, i32_w]
           rfl
          refine take_ (i := 6) (N := some 33) (v := ?_) (a' := ?_) #[true, true, true, true, true, true, true, true, false, false, false, false] rfl rfl (take_ofW HT_.out HW_.out (by kernel_rfl)) (fun _ _ _ h => h) (Or.inl ⟨by rfl, ?_⟩) hHeld ?_ ?_
          rotate_left
          ·rintro w' ⟨s0, s1, s2, s3, s4, s5, s6, s7, s8, s9, s10, s11⟩
           go_simp
           with_reducible rfl
          rotate_left
          ·simp only [Act.put, List.setIfInBounds_toArray, List.set_cons_zero, List.set_cons_succ, i64_w, i32_w]
           rfl
          refine pure_ (i := 8) (N := some 35) (v := ?_) (a' := ?_) #[true, true, true, true, true, true, true, true, true, false, false, false] rfl rfl (any_of HT_.out (by kernel_rfl)) (fun _ _ _ h => h) (Or.inl ⟨by rfl, ?_⟩) ?_ ?_
          rotate_left
          ·intro w'
           go_simp
           with_reducible rfl
          rotate_left
          ·simp only [Act.put, List.setIfInBounds_toArray, List.set_cons_zero, List.set_cons_succ, i64_w, i32_w]
           rfl
          refine take_ (i := 9) (N := some 36) (v := ?_) (a' := ?_) #[true, true, true, true, true, true, true, true, true, true, false, false] rfl rfl (take_ofW HT_.out HW_.out (by kernel_rfl)) (fun _ _ _ h => h) (Or.inl ⟨by rfl, ?_⟩) hHeld ?_ ?_
          rotate_left
          ·rintro w' ⟨s0, s1, s2, s3, s4, s5, s6, s7, s8, s9, s10, s11⟩
           go_simp
           with_reducible rfl
          rotate_left
          ·simp only [Act.put, List.setIfInBounds_toArray, List.set_cons_zero, List.set_cons_succ, i64_w, i32_w]
           rfl
          refine one_ (i := 10) (N := some 37) #[true, true, true, true, true, true, true, true, true, true, true, false] rfl rfl (one_of HT_.out (by kernel_rfl)) (by decide) (fun K hK => ?_)
          refine goes_ Try.func43 (by kernel_rfl) rfl #[.agg #[.int .i64 ((rd_T40 l0_0 x5_2).f0), .slice A209_1 ((rd_T40 l0_0 x5_2).f1).length c209_1, .slice A209_2 ((rd_T40 l0_0 x5_2).f2).length c209_2, .slice A209_3 ((rd_T40 l0_0 x5_2).f3).length c209_3], .agg #[.int .i64 ((rd_T40 l1_0 x5_2).f0), .slice A210_1 ((rd_T40 l1_0 x5_2).f1).length c210_1, .slice A210_2 ((rd_T40 l1_0 x5_2).f2).length c210_2, .slice A210_3 ((rd_T40 l1_0 x5_2).f3).length c210_3]] (by rfl) rfl rfl (by (try simp only [List.map_toArray, List.map_cons, List.map_nil]); first | done | rfl | (simp only [List.length_drop, List.length_take]; rfl)) ?_
          with_reducible refine (dioramaref08_Same.calls k2 ((rd_T40 l0_0 x5_2).f0) _ _ ((rd_T40 l0_0 x5_2).f1) _ _ ((rd_T40 l0_0 x5_2).f2) _ _ ((rd_T40 l0_0 x5_2).f3) ((rd_T40 l1_0 x5_2).f0) _ _ ((rd_T40 l1_0 x5_2).f1) _ _ ((rd_T40 l1_0 x5_2).f2) _ _ ((rd_T40 l1_0 x5_2).f3) true _ ?side1 ?side2 ?side3 ?side4 ?side5 ?side6 ?side7 ?side8 ?side9 ?side10 ?side11 ?side12 A17.out).mono ?_
          (case side1 => exact Kd.C_below HR209_1.out (BB HB))
          (case side2 => exact HC209_1.out)
          (case side3 => exact Kd.C_below HR209_2.out (BB HB))
          (case side4 => exact HC209_2.out)
          (case side5 => exact Kd.C_below HR209_3.out (BB HB))
          (case side6 => exact HC209_3.out)
          (case side7 => exact Kd.C_below HR210_1.out (BB HB))
          (case side8 => exact HC210_1.out)
          (case side9 => exact Kd.C_below HR210_2.out (BB HB))
          (case side10 => exact HC210_2.out)
          (case side11 => exact Kd.C_below HR210_3.out (BB HB))
          (case side12 => exact HC210_3.out)
          rintro e w22 ⟨rfl, hb⟩
          refine ⟨_, rfl, ?_⟩
          replace BK207 := BE BK207 hb; replace BK208 := BE BK208 hb; replace HB := BS HB hb; (try clear hb)
          (try clear hb2)
          (try clear hk)
          (try clear hi)
          refine hK.out _ _ ⟨(blk_cell BK207.out 0).trans rfl, (blk_cell BK207.out 1).trans rfl, (blk_cell BK208.out 0).trans rfl, (blk_cell BK208.out 1).trans rfl, ((HB.out.cell (World.block_lt_of_cell? w _ hw209_0)).trans hw209_0), ((HB.out.cell (World.block_lt_of_cell? w _ hw209_1)).trans hw209_1), ((HB.out.cell (World.block_lt_of_cell? w _ hw209_2)).trans hw209_2), ((HB.out.cell (World.block_lt_of_cell? w _ hw209_3)).trans hw209_3), ((HB.out.cell (World.block_lt_of_cell? w _ hw210_0)).trans hw210_0), ((HB.out.cell (World.block_lt_of_cell? w _ hw210_1)).trans hw210_1), ((HB.out.cell (World.block_lt_of_cell? w _ hw210_2)).trans hw210_2), ((HB.out.cell (World.block_lt_of_cell? w _ hw210_3)).trans hw210_3)⟩ (fun hHeld => ?_)
          clear hK K; refine norm_ (a' := ?_) ?_ ?_
          rotate_left
          ·show Act.put _ (some 37) _ = _
           simp only [Act.put, List.setIfInBounds_toArray, List.set_cons_zero, List.set_cons_succ, i64_w, i32_w]
           rfl
          refine pure_ (i := 11) (N := some 38) (v := ?_) (a' := ?_) #[true, true, true, true, true, true, true, true, true, true, true, true] rfl rfl (any_of HT_.out (by kernel_rfl)) (fun _ _ _ h => h) (Or.inl ⟨by rfl, ?_⟩) ?_ ?_
          rotate_left
          ·intro w'
           go_simp
           with_reducible rfl
          rotate_left
          ·simp only [Act.put, List.setIfInBounds_toArray, List.set_cons_zero, List.set_cons_succ, i64_w, i32_w]
           rfl
          refine done_ (done_of HT_.out (by kernel_rfl)) ?_
          try go_wp2
          go_roundg k2
          case measure => have := HJ2.out; have := HK2.out; omega
          case rel => exact ⟨(wrap64 (x5_2 + 1)), (by first | rfl | (simp; done) | (simp [*]; done)), H', ⟨by have := HJ2.out; have := HK2.out; omega⟩, ⟨BL BK207⟩, ⟨BL BK208⟩, ⟨BB HB⟩⟩
         ·replace c18 := Bool.eq_false_iff.mpr c18; subst c18; have H1 : (some false) = some r := by rw [if_neg (show ¬ (false = true) by decide)] at H; exact H
          clear H; have H := H1; clear H1; obtain rfl := Option.some.inj H; have hnb23 := NB207_208.out; have hnc23 := NB208_207.out; have hcz24_0 := BC BK207 0 (.slice A0_0 l0_0.length c0_0) rfl; have hcz24_1 := BC BK207 1 (.int .i64 a0_1) rfl; have hfz24_0 := BF BK207 0; have hfz24_1 := BF BK207 1; try go_wp2
          replace BK207 := AM (blk_drew BK207.out); replace BK208 := AM (blk_drew BK208.out); replace HB := AM (below_drew1 HB.out); have p209 : 0 ≤ (x5_2 : Int) := of_decide_eq_true (by first | (with_reducible assumption) | assumption)
          have q209 : x5_2 < (l0_0.length : Int) := of_decide_eq_true (by first | (with_reducible assumption) | assumption)
          obtain ⟨ad209, A209_1, c209_1, A209_2, c209_2, A209_3, c209_3, e209, hx209_0, hx209_1, hx209_2, hx209_3, hl209_1, hi209_1, hl209_2, hi209_2, hl209_3, hi209_3⟩ := at_T40 HR0_0.out x5_2 p209 q209; have hw209_3 := hx209_3; have hw209_2 := hx209_2; have hw209_1 := hx209_1; have hw209_0 := hx209_0; cases e209
          replace hx209_0 := (HB.out.cell (World.block_lt_of_cell? w _ hx209_0)).trans hx209_0; replace hx209_1 := (HB.out.cell (World.block_lt_of_cell? w _ hx209_1)).trans hx209_1; replace hx209_2 := (HB.out.cell (World.block_lt_of_cell? w _ hx209_2)).trans hx209_2; replace hx209_3 := (HB.out.cell (World.block_lt_of_cell? w _ hx209_3)).trans hx209_3; have HR209_1 := AM hi209_1; have HC209_1 := AM hl209_1; clear hi209_1 hl209_1; have HR209_2 := AM hi209_2; have HC209_2 := AM hl209_2; clear hi209_2 hl209_2; have HR209_3 := AM hi209_3; have HC209_3 := AM hl209_3; clear hi209_3 hl209_3; replace p209 := eq_true p209; replace q209 := eq_true q209; have p210 : 0 ≤ (x5_2 : Int) := of_decide_eq_true (by first | (with_reducible assumption) | assumption)
          have q210 : x5_2 < (l1_0.length : Int) := of_decide_eq_true (by first | (with_reducible assumption) | assumption)
          obtain ⟨ad210, A210_1, c210_1, A210_2, c210_2, A210_3, c210_3, e210, hx210_0, hx210_1, hx210_2, hx210_3, hl210_1, hi210_1, hl210_2, hi210_2, hl210_3, hi210_3⟩ := at_T40 HR1_0.out x5_2 p210 q210; have hw210_3 := hx210_3; have hw210_2 := hx210_2; have hw210_1 := hx210_1; have hw210_0 := hx210_0; cases e210
          replace hx210_0 := (HB.out.cell (World.block_lt_of_cell? w _ hx210_0)).trans hx210_0; replace hx210_1 := (HB.out.cell (World.block_lt_of_cell? w _ hx210_1)).trans hx210_1; replace hx210_2 := (HB.out.cell (World.block_lt_of_cell? w _ hx210_2)).trans hx210_2; replace hx210_3 := (HB.out.cell (World.block_lt_of_cell? w _ hx210_3)).trans hx210_3; have HR210_1 := AM hi210_1; have HC210_1 := AM hl210_1; clear hi210_1 hl210_1; have HR210_2 := AM hi210_2; have HC210_2 := AM hl210_2; clear hi210_2 hl210_2; have HR210_3 := AM hi210_3; have HC210_3 := AM hl210_3; clear hi210_3 hl210_3; replace p210 := eq_true p210; replace q210 := eq_true q210; refine start_ (n := 12) (S := fun w' => w'.cell? ⟨gb207, 0, none⟩ = some (.slice (some ad209) l0_0.length c0_0) ∧ w'.cell? ⟨gb207, 1, none⟩ = some (.int .i64 a0_1) ∧ w'.cell? ⟨gb208, 0, none⟩ = some (.slice (some ad210) l1_0.length c1_0) ∧ w'.cell? ⟨gb208, 1, none⟩ = some (.int .i64 a1_1) ∧ w'.cell? (ad209.add ((x5_2).toNat * 4)) = some (.int .i64 ((rd_T40 l0_0 x5_2).f0)) ∧ w'.cell? ⟨(ad209.add ((x5_2).toNat * 4)).block, (ad209.add ((x5_2).toNat * 4)).off + 1, none⟩ = some (.slice A209_1 ((rd_T40 l0_0 x5_2).f1).length c209_1) ∧ w'.cell? ⟨(ad209.add ((x5_2).toNat * 4)).block, (ad209.add ((x5_2).toNat * 4)).off + 2, none⟩ = some (.slice A209_2 ((rd_T40 l0_0 x5_2).f2).length c209_2) ∧ w'.cell? ⟨(ad209.add ((x5_2).toNat * 4)).block, (ad209.add ((x5_2).toNat * 4)).off + 3, none⟩ = some (.slice A209_3 ((rd_T40 l0_0 x5_2).f3).length c209_3) ∧ w'.cell? (ad210.add ((x5_2).toNat * 4)) = some (.int .i64 ((rd_T40 l1_0 x5_2).f0)) ∧ w'.cell? ⟨(ad210.add ((x5_2).toNat * 4)).block, (ad210.add ((x5_2).toNat * 4)).off + 1, none⟩ = some (.slice A210_1 ((rd_T40 l1_0 x5_2).f1).length c210_1) ∧ w'.cell? ⟨(ad210.add ((x5_2).toNat * 4)).block, (ad210.add ((x5_2).toNat * 4)).off + 2, none⟩ = some (.slice A210_2 ((rd_T40 l1_0 x5_2).f2).length c210_2) ∧ w'.cell? ⟨(ad210.add ((x5_2).toNat * 4)).block, (ad210.add ((x5_2).toNat * 4)).off + 3, none⟩ = some (.slice A210_3 ((rd_T40 l1_0 x5_2).f3).length c210_3)) (ds := []) #[false, false, false, false, false, false, false, false, false, false, false, false] (by kernel_rfl) rfl rfl ⟨(blk_cell BK207.out 0).trans rfl, (blk_cell BK207.out 1).trans rfl, (blk_cell BK208.out 0).trans rfl, (blk_cell BK208.out 1).trans rfl, ((HB.out.cell (World.block_lt_of_cell? w _ hw209_0)).trans hw209_0), ((HB.out.cell (World.block_lt_of_cell? w _ hw209_1)).trans hw209_1), ((HB.out.cell (World.block_lt_of_cell? w _ hw209_2)).trans hw209_2), ((HB.out.cell (World.block_lt_of_cell? w _ hw209_3)).trans hw209_3), ((HB.out.cell (World.block_lt_of_cell? w _ hw210_0)).trans hw210_0), ((HB.out.cell (World.block_lt_of_cell? w _ hw210_1)).trans hw210_1), ((HB.out.cell (World.block_lt_of_cell? w _ hw210_2)).trans hw210_2), ((HB.out.cell (World.block_lt_of_cell? w _ hw210_3)).trans hw210_3)⟩ (fun hHeld => ?_); refine with_tabW dioramaref09_Same.tab6 dioramaref09_Same.bits6 (fun HT_ HW_ => ?_)
          generalize wr.drew = w25 at BK207 BK208 HB HR209_1 HR209_2 HR209_3 HR210_1 HR210_2 HR210_3 hx209_0 hx209_1 hx209_2 hx209_3 hx210_0 hx210_1 hx210_2 hx210_3 hHeld ⊢
          refine pure_ (i := 0) (N := some 27) (v := ?_) (a' := ?_) #[true, false, false, false, false, false, false, false, false, false, false, false] rfl rfl (any_of HT_.out (by kernel_rfl)) (fun _ _ _ h => h) (Or.inl ⟨by rfl, ?_⟩) ?_ ?_
          rotate_left
          ·intro w'
           go_simp
           with_reducible rfl
          rotate_left
          ·simp only [Act.put, List.setIfInBounds_toArray, List.set_cons_zero, List.set_cons_succ, i64_w, i32_w]
           rfl
          refine pure_ (i := 2) (N := some 29) (v := ?_) (a' := ?_) #[true, false, true, false, false, false, false, false, false, false, false, false] rfl rfl (any_of HT_.out (by kernel_rfl)) (fun _ _ _ h => h) (Or.inl ⟨by rfl, ?_⟩) ?_ ?_
          rotate_left
          ·intro w'
           go_simp
           with_reducible rfl
          rotate_left
          ·simp only [Act.put, List.setIfInBounds_toArray, List.set_cons_zero, List.set_cons_succ, i64_w, i32_w]
           rfl
          refine pure_ (i := 5) (N := some 32) (v := ?_) (a' := ?_) #[true, false, true, false, false, true, false, false, false, false, false, false] rfl rfl (any_of HT_.out (by kernel_rfl)) (fun _ _ _ h => h) (Or.inl ⟨by rfl, ?_⟩) ?_ ?_
          rotate_left
          ·intro w'
           go_simp
           with_reducible rfl
          rotate_left
          ·simp only [Act.put, List.setIfInBounds_toArray, List.set_cons_zero, List.set_cons_succ, i64_w, i32_w]
           rfl
          refine pure_ (i := 7) (N := some 34) (v := ?_) (a' := ?_) #[true, false, true, false, false, true, false, true, false, false, false, false] rfl rfl (any_of HT_.out (by kernel_rfl)) (fun _ _ _ h => h) (Or.inl ⟨by rfl, ?_⟩) ?_ ?_
          rotate_left
          ·intro w'
           go_simp
           with_reducible rfl
          rotate_left
          ·simp only [Act.put, List.setIfInBounds_toArray, List.set_cons_zero, List.set_cons_succ, i64_w, i32_w]
           rfl
          refine take_ (i := 1) (N := some 28) (v := ?_) (a' := ?_) #[true, true, true, false, false, true, false, true, false, false, false, false] rfl rfl (take_ofW HT_.out HW_.out (by kernel_rfl)) (fun _ _ _ h => h) (Or.inl ⟨by rfl, ?_⟩) hHeld ?_ ?_
          rotate_left
          ·rintro w' ⟨s0, s1, s2, s3, s4, s5, s6, s7, s8, s9, s10, s11⟩
           go_simp
           with_reducible rfl
          rotate_left
          ·simp only [Act.put, List.setIfInBounds_toArray, List.set_cons_zero, List.set_cons_succ, i64_w, i32_w]
           rfl
          refine pure_ (i := 3) (N := some 30) (v := ?_) (a' := ?_) #[true, true, true, true, false, true, false, true, false, false, false, false] rfl rfl (any_of HT_.out (by kernel_rfl)) (fun _ _ _ h => h) (Or.inl ⟨by rfl, ?_⟩) ?_ ?_
          rotate_left
          ·intro w'
           go_simp
           with_reducible rfl
          rotate_left
          ·simp only [Act.put, List.setIfInBounds_toArray, List.set_cons_zero, List.set_cons_succ, i64_w, i32_w]
           rfl
          refine take_ (i := 4) (N := some 31) (v := ?_) (a' := ?_) #[true, true, true, true, true, true, false, true, false, false, false, false] rfl rfl (take_ofW HT_.out HW_.out (by kernel_rfl)) (fun _ _ _ h => h) (Or.inl ⟨by rfl, ?_⟩) hHeld ?_ ?_
          rotate_left
          ·rintro w' ⟨s0, s1, s2, s3, s4, s5, s6, s7, s8, s9, s10, s11⟩
           go_simp
           with_reducible rfl
          rotate_left
          ·simp only [Act.put, List.setIfInBounds_toArray, List.set_cons_zero, List.set_cons_succ, i64_w, i32_w]
           rfl
          refine take_ (i := 6) (N := some 33) (v := ?_) (a' := ?_) #[true, true, true, true, true, true, true, true, false, false, false, false] rfl rfl (take_ofW HT_.out HW_.out (by kernel_rfl)) (fun _ _ _ h => h) (Or.inl ⟨by rfl, ?_⟩) hHeld ?_ ?_
          rotate_left
          ·rintro w' ⟨s0, s1, s2, s3, s4, s5, s6, s7, s8, s9, s10, s11⟩
           go_simp
           with_reducible rfl
          rotate_left
          ·simp only [Act.put, List.setIfInBounds_toArray, List.set_cons_zero, List.set_cons_succ, i64_w, i32_w]
           rfl
          refine pure_ (i := 8) (N := some 35) (v := ?_) (a' := ?_) #[true, true, true, true, true, true, true, true, true, false, false, false] rfl rfl (any_of HT_.out (by kernel_rfl)) (fun _ _ _ h => h) (Or.inl ⟨by rfl, ?_⟩) ?_ ?_
          rotate_left
          ·intro w'
           go_simp
           with_reducible rfl
          rotate_left
          ·simp only [Act.put, List.setIfInBounds_toArray, List.set_cons_zero, List.set_cons_succ, i64_w, i32_w]
           rfl
          refine take_ (i := 9) (N := some 36) (v := ?_) (a' := ?_) #[true, true, true, true, true, true, true, true, true, true, false, false] rfl rfl (take_ofW HT_.out HW_.out (by kernel_rfl)) (fun _ _ _ h => h) (Or.inl ⟨by rfl, ?_⟩) hHeld ?_ ?_
          rotate_left
          ·rintro w' ⟨s0, s1, s2, s3, s4, s5, s6, s7, s8, s9, s10, s11⟩
           go_simp
           with_reducible rfl
          rotate_left
          ·simp only [Act.put, List.setIfInBounds_toArray, List.set_cons_zero, List.set_cons_succ, i64_w, i32_w]
           rfl
          refine one_ (i := 10) (N := some 37) #[true, true, true, true, true, true, true, true, true, true, true, false] rfl rfl (one_of HT_.out (by kernel_rfl)) (by decide) (fun K hK => ?_)
          refine goes_ Try.func43 (by kernel_rfl) rfl #[.agg #[.int .i64 ((rd_T40 l0_0 x5_2).f0), .slice A209_1 ((rd_T40 l0_0 x5_2).f1).length c209_1, .slice A209_2 ((rd_T40 l0_0 x5_2).f2).length c209_2, .slice A209_3 ((rd_T40 l0_0 x5_2).f3).length c209_3], .agg #[.int .i64 ((rd_T40 l1_0 x5_2).f0), .slice A210_1 ((rd_T40 l1_0 x5_2).f1).length c210_1, .slice A210_2 ((rd_T40 l1_0 x5_2).f2).length c210_2, .slice A210_3 ((rd_T40 l1_0 x5_2).f3).length c210_3]] (by rfl) rfl rfl (by (try simp only [List.map_toArray, List.map_cons, List.map_nil]); first | done | rfl | (simp only [List.length_drop, List.length_take]; rfl)) ?_
          with_reducible refine (dioramaref08_Same.calls k2 ((rd_T40 l0_0 x5_2).f0) _ _ ((rd_T40 l0_0 x5_2).f1) _ _ ((rd_T40 l0_0 x5_2).f2) _ _ ((rd_T40 l0_0 x5_2).f3) ((rd_T40 l1_0 x5_2).f0) _ _ ((rd_T40 l1_0 x5_2).f1) _ _ ((rd_T40 l1_0 x5_2).f2) _ _ ((rd_T40 l1_0 x5_2).f3) false _ ?side1 ?side2 ?side3 ?side4 ?side5 ?side6 ?side7 ?side8 ?side9 ?side10 ?side11 ?side12 A17.out).mono ?_
          (case side1 => exact Kd.C_below HR209_1.out (BB HB))
          (case side2 => exact HC209_1.out)
          (case side3 => exact Kd.C_below HR209_2.out (BB HB))
          (case side4 => exact HC209_2.out)
          (case side5 => exact Kd.C_below HR209_3.out (BB HB))
          (case side6 => exact HC209_3.out)
          (case side7 => exact Kd.C_below HR210_1.out (BB HB))
          (case side8 => exact HC210_1.out)
          (case side9 => exact Kd.C_below HR210_2.out (BB HB))
          (case side10 => exact HC210_2.out)
          (case side11 => exact Kd.C_below HR210_3.out (BB HB))
          (case side12 => exact HC210_3.out)
          rintro e w26 ⟨rfl, hb⟩
          refine ⟨_, rfl, ?_⟩
          replace BK207 := BE BK207 hb; replace BK208 := BE BK208 hb; replace HB := BS HB hb; (try clear hb)
          (try clear hb2)
          (try clear hk)
          (try clear hi)
          refine hK.out _ _ ⟨(blk_cell BK207.out 0).trans rfl, (blk_cell BK207.out 1).trans rfl, (blk_cell BK208.out 0).trans rfl, (blk_cell BK208.out 1).trans rfl, ((HB.out.cell (World.block_lt_of_cell? w _ hw209_0)).trans hw209_0), ((HB.out.cell (World.block_lt_of_cell? w _ hw209_1)).trans hw209_1), ((HB.out.cell (World.block_lt_of_cell? w _ hw209_2)).trans hw209_2), ((HB.out.cell (World.block_lt_of_cell? w _ hw209_3)).trans hw209_3), ((HB.out.cell (World.block_lt_of_cell? w _ hw210_0)).trans hw210_0), ((HB.out.cell (World.block_lt_of_cell? w _ hw210_1)).trans hw210_1), ((HB.out.cell (World.block_lt_of_cell? w _ hw210_2)).trans hw210_2), ((HB.out.cell (World.block_lt_of_cell? w _ hw210_3)).trans hw210_3)⟩ (fun hHeld => ?_)
          clear hK K; refine norm_ (a' := ?_) ?_ ?_
          rotate_left
          ·show Act.put _ (some 37) _ = _
           simp only [Act.put, List.setIfInBounds_toArray, List.set_cons_zero, List.set_cons_succ, i64_w, i32_w]
           rfl
          refine pure_ (i := 11) (N := some 38) (v := ?_) (a' := ?_) #[true, true, true, true, true, true, true, true, true, true, true, true] rfl rfl (any_of HT_.out (by kernel_rfl)) (fun _ _ _ h => h) (Or.inl ⟨by rfl, ?_⟩) ?_ ?_
          rotate_left
          ·intro w'
           go_simp
           with_reducible rfl
          rotate_left
          ·simp only [Act.put, List.setIfInBounds_toArray, List.set_cons_zero, List.set_cons_succ, i64_w, i32_w]
           rfl
          refine done_ (done_of HT_.out (by kernel_rfl)) ?_
          try go_wp2
          go_ret
          exact ⟨by first | rfl | (simp [errW_none, errW_some] <;> rfl) | (simp [*, errW_none, errW_some] <;> rfl), BB HB⟩
        ·rw [if_neg c16] at H; exact absurd H (by simp)
       ·rw [if_neg c15] at H; exact absurd H (by simp)
      ·rw [if_neg c14] at H; have c14b0 : decide (x5_2 < (l0_0.length : Int)) = false := decide_eq_false c14; clear c14; obtain rfl := Option.some.inj H; have hnb27 := NB207_208.out; have hnc27 := NB208_207.out; have hcz28_0 := BC BK207 0 (.slice A0_0 l0_0.length c0_0) rfl; have hcz28_1 := BC BK207 1 (.int .i64 a0_1) rfl; have hfz28_0 := BF BK207 0; have hfz28_1 := BF BK207 1; go_wp2
       go_ret
       exact ⟨by first | rfl | (simp [errW_none, errW_some] <;> rfl) | (simp [*, errW_none, errW_some] <;> rfl), BB HB⟩

/-! ### dioramaref09_Place: function 27 -/
def dioramaref09_Place.f (l0_0 : List (S40)) (a0_1 : Int) (a1 : Int) : Option (Bool) := if a1 ≥ 0 then (some (decide (a1 < (l0_0.length : Int)))) else (some false)
set_option maxHeartbeats 8000000 in
set_option maxRecDepth 100000 in
theorem dioramaref09_Place.calls (A0_0 : Option Addr) (c0_0 : Nat) (l0_0 : List (S40)) (a0_1 : Int) (a1 : Int) (r : Bool) (w : World) (hr0_0 : Kd.C k40 w A0_0 l0_0.length l0_0) (hc0_0 : l0_0.length ≤ c0_0) (h : dioramaref09_Place.f l0_0 a0_1 a1 = some r) :
  Calls Try.prog 27 #[.agg #[.slice A0_0 l0_0.length c0_0, .int .i64 a0_1], .int .i64 a1] w fun e w' => e = .returned (.bool r) ∧ Below w.heap.size w w' := by
 have hu24 := Try.underlying24; have HR0_0 := AM hr0_0; have HC0_0 := AM hc0_0; clear hr0_0 hc0_0; have HB := AM (Below.refl w.heap.size w); have H : (if a1 ≥ 0 then (some (decide (a1 < (l0_0.length : Int)))) else (some false)) = some r := h; clear h; by_cases c3 : a1 ≥ 0
 ·rw [if_pos c3] at H; have c3b0 : decide (0 ≤ a1) = true := decide_eq_true c3; clear c3; obtain rfl := Option.some.inj H; go_enter Try.func27, Try.ntmps27
  go_wp2_with (first | ((with_reducible refine gate_dst (N := 2) rfl ?_); refine box_event ?hg (N := 2) ?hd (cs := #[.slice A0_0 l0_0.length c0_0, .int .i64 a0_1]) (t := 24) ?hr ?_; (case hd => rfl); (case hg => rfl); (case hr => first | (go_simp; done) | (go_simp; rfl)); intro gb212 hg w4 hbox hb; have BK212 := AM (hbox); have GW212 := GW HB hg; have GE212 := GW HB hg; replace HB := BS HB hb; clear hb hbox hg; have hcz5_0 := BC BK212 0 (.slice A0_0 l0_0.length c0_0) rfl; have hcz5_1 := BC BK212 1 (.int .i64 a0_1) rfl; have hfz5_0 := BF BK212 0; have hfz5_1 := BF BK212 1))
  go_ret
  exact ⟨by first | rfl | (simp [errW_none, errW_some] <;> rfl) | (simp [*, errW_none, errW_some] <;> rfl), BB HB⟩
 ·rw [if_neg c3] at H; have c3b0 : decide (0 ≤ a1) = false := decide_eq_false c3; clear c3; obtain rfl := Option.some.inj H; go_enter Try.func27, Try.ntmps27
  go_wp2_with (first | ((with_reducible refine gate_dst (N := 2) rfl ?_); refine box_event ?hg (N := 2) ?hd (cs := #[.slice A0_0 l0_0.length c0_0, .int .i64 a0_1]) (t := 24) ?hr ?_; (case hd => rfl); (case hg => rfl); (case hr => first | (go_simp; done) | (go_simp; rfl)); intro gb212 hg w6 hbox hb; have BK212 := AM (hbox); have GW212 := GW HB hg; have GE212 := GW HB hg; replace HB := BS HB hb; clear hb hbox hg))
  go_ret
  exact ⟨by first | rfl | (simp [errW_none, errW_some] <;> rfl) | (simp [*, errW_none, errW_some] <;> rfl), BB HB⟩

end Go.Proofs.Ytlfjjapndlkamaa.GH
