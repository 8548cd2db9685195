-- Printed by a program of the session (wip/gen/tprint.py, over a turned copy of the kit's print): Lean checks it.
import Derived.Test.YtlfjjapndlkamaaCtGHx0
import Derived.Test.YtlfjjapndlkamaaCtGHx3
import Derived.Test.YtlfjjapndlkamaaCtGHx4
namespace Go.Proofs.Ytlfjjapndlkamaa.GH
open Go.RowKit Go.Proofs.YtlfjjapndlkamaaW.PrintWords Go.Proofs.YtlfjjapndlkamaaW.PrintLast Go.Proofs.YtlfjjapndlkamaaW.PrintMore
attribute [local go_sem] max2_int min2_int max_two min_two max_three min_three max_four min_four   -- for this text's walks alone
set_option linter.unusedVariables false
set_option linter.unusedSimpArgs false

/-! ### canon_Is: function 24 -/
def canon_Is.l0 : Nat → List Int → List Int → Int → Int → Option (Bool)
 | 0, _, _, _, _ => none
 | k + 1, x3, x8, x9, x10 => if x10 < x9 then (if 0 ≤ x10 then (if x10 < (x8.length : Int) then (if x10 = (rd x8 x10) then (canon_Is.l0 k x3 x8 x9 (wrap64 (x10 + 1))) else (some false)) else (none)) else (none)) else (if (x3.length : Int) > 0 then ((slices_IsSorted_int_int.f k x3).bind fun t153 => (some t153)) else (some false))
def canon_Is.f (k : Nat) (l0_0 : List (S40)) (a0_1 : Int) : Option (Bool) := (canon_Numbers.f k l0_0 a0_1).bind fun t149 => (canon_Is.l0 k t149 t149 (t149.length : Int) 0)
set_option maxHeartbeats 8000000 in
set_option maxRecDepth 100000 in
theorem canon_Is.calls (k : Nat) (A0_0 : Option Addr) (c0_0 : Nat) (l0_0 : List (S40)) (a0_1 : Int) (r : Bool) (w : World) (hr0_0 : Kd.C k40 w A0_0 l0_0.length l0_0) (hc0_0 : l0_0.length ≤ c0_0) (h : canon_Is.f k l0_0 a0_1 = some r) :
  Calls Try.prog 24 #[.agg #[.slice A0_0 l0_0.length c0_0, .int .i64 a0_1]] w fun e w' => e = .returned (.bool r) ∧ Below w.heap.size w w' := by
 have hu24 := Try.underlying24; have HR0_0 := AM hr0_0; have HC0_0 := AM hc0_0; clear hr0_0 hc0_0; have HB := AM (Below.refl w.heap.size w); have H : ((canon_Numbers.f k l0_0 a0_1).bind fun t149 => (canon_Is.l0 k t149 t149 (t149.length : Int) 0)) = some r := h
 clear h; replace H := Option.bind_eq_some_iff.mp H; obtain ⟨t149, A20, H⟩ := H; replace H : (canon_Is.l0 k t149 t149 (t149.length : Int) 0) = some r := H; have A2 := AM A20; clear A20; have H' := AM H; clear H; go_enter Try.func24, Try.ntmps24
 go_wp2_with (first | ((with_reducible refine gate_dst (N := 1) rfl ?_); refine box_event ?hg (N := 1) ?hd (cs := #[.slice A0_0 l0_0.length c0_0, .int .i64 a0_1]) (t := 24) ?hr ?_; (case hd => rfl); (case hg => rfl); (case hr => first | (go_simp; done) | (go_simp; rfl)); intro gb148 hg w3 hbox hb; have BK148 := AM (hbox); have GW148 := GW HB hg; have GE148 := GW HB hg; replace HB := BS HB hb; clear hb hbox hg; have hcz4_0 := BC BK148 0 (.slice A0_0 l0_0.length c0_0) rfl; have hcz4_1 := BC BK148 1 (.int .i64 a0_1) rfl; have hfz4_0 := BF BK148 0; have hfz4_1 := BF BK148 1) | ((with_reducible refine gate_callee (f := 18) rfl ?_); refine goesM_ (some 7) rfl rfl Try.func18 #[.agg #[.slice A0_0 l0_0.length c0_0, .int .i64 a0_1]] rfl ?_; (with_reducible refine (canon_Numbers.calls k _ _ l0_0 a0_1 t149 _ ?side1 ?side2 A2.out).mono ?_); (case side1 => exact Kd.C_below HR0_0.out (BB HB)); (case side2 => exact HC0_0.out); rintro e w5 ⟨v150, rfl, ho0, hb⟩; refine ⟨_, rfl, ?_⟩; have HO151 := AM (Kd.R_lower ho0 (below_size (BB HB))); replace BK148 := BE BK148 hb; replace HB := BS HB hb; (try clear hb); (try clear hb2); (try clear hk); (try clear hi); (try clear ho0); obtain ⟨Ao6, co6, eo6⟩ := Kd.R_slice HO151.out; subst eo6))
 go_loopg [10] k (fun kq v10 w' => ∃ (x10_1 : Int), v10 = .int .i64 x10_1 ∧ Aside0 (canon_Is.l0 kq t149 t149 (t149.length : Int) x10_1 = some r) ∧ Aside0 (kq ≤ k) ∧ Aside0 (Kd.R (Kd.int .i64) 3 w' w.heap.size (fun _ => True) (.slice Ao6 t149.length co6) t149) ∧ Aside0 (Kd.R (Kd.int .i64) 3 w' w.heap.size (fun _ => True) (.slice Ao6 t149.length co6) t149) ∧ Aside0 (w'.heap[gb148]? = some (.cells #[(.slice A0_0 l0_0.length c0_0), .int .i64 a0_1] 24 (0, 0))) ∧ Aside0 (Below w.heap.size w w'))
 case atStart => exact ⟨(0), (by first | rfl | (simp; done) | (simp [*]; done)), H', ⟨Nat.le_refl _⟩, ⟨by (with_reducible repeat (first | apply Kd.R_alloc | apply Kd.R_drewN | apply Kd.R_drew)); exact HO151.out⟩, ⟨by (with_reducible repeat (first | apply Kd.R_alloc | apply Kd.R_drewN | apply Kd.R_drew)); exact HO151.out⟩, ⟨BL BK148⟩, ⟨BB HB⟩⟩
 case round =>
  clear H'; try clear c1
  try clear c2
  try clear p2
  try clear hcz4_0
  try clear hcz4_1
  try clear hfz4_0
  try clear hfz4_1
  obtain ⟨x10_1, rfl, HA, HK1, HO_3, HO_8, BK148, HB⟩ := hrel; cases gk with
  | zero => exact absurd HA.out (by simp [canon_Is.l0])
  | succ k1 =>
   have H := HA.out; clear HA; simp only [canon_Is.l0] at H
   by_cases c7 : x10_1 < (t149.length : Int)
   ·rw [if_pos c7] at H; have c7b0 : decide (x10_1 < (t149.length : Int)) = true := decide_eq_true c7; clear c7; by_cases c8 : 0 ≤ x10_1
    ·rw [if_pos c8] at H; have c8b0 : decide (0 ≤ x10_1) = true := decide_eq_true c8; clear c8; by_cases c9 : x10_1 < (t149.length : Int)
     ·rw [if_pos c9] at H; have c9b0 : decide (x10_1 < (t149.length : Int)) = true := decide_eq_true c9; clear c9; by_cases c10 : x10_1 = (rd t149 x10_1)
      ·rw [if_pos c10] at H; have c10b0 : (x10_1 == (rd t149 x10_1)) = true := beq_iff_eq.mpr c10; have c10b1 : (x10_1 != (rd t149 x10_1)) = false := bne_eq_false_iff_eq.mpr c10; clear c10; have H' := AM H; clear H; have p152 : 0 ≤ (x10_1 : Int) := of_decide_eq_true (by first | (with_reducible assumption) | assumption)
       have q152 : x10_1 < (t149.length : Int) := of_decide_eq_true (by first | (with_reducible assumption) | assumption)
       obtain ⟨ad152, e152, hx152_0⟩ := Kd.at_int (Kd.R_reads' HO_8.out).2.2 x10_1 p152 q152; cases e152
       replace p152 := eq_true p152; replace q152 := eq_true q152; go_wp2
       go_roundg k1
       case measure => have := HK1.out; omega
       case rel => exact ⟨(wrap64 (x10_1 + 1)), (by first | rfl | (simp; done) | (simp [*]; done)), H', ⟨by have := HK1.out; omega⟩, ⟨by (with_reducible repeat (first | apply Kd.R_alloc | apply Kd.R_drewN | apply Kd.R_drew)); exact HO_3.out⟩, ⟨by (with_reducible repeat (first | apply Kd.R_alloc | apply Kd.R_drewN | apply Kd.R_drew)); exact HO_8.out⟩, ⟨BL BK148⟩, ⟨BB HB⟩⟩
      ·rw [if_neg c10] at H; have c10b0 : (x10_1 == (rd t149 x10_1)) = false := beq_eq_false_iff_ne.mpr c10; have c10b1 : (x10_1 != (rd t149 x10_1)) = true := bne_iff_ne.mpr c10; obtain rfl := Option.some.inj H; have p152 : 0 ≤ (x10_1 : Int) := of_decide_eq_true (by first | (with_reducible assumption) | assumption)
       have q152 : x10_1 < (t149.length : Int) := of_decide_eq_true (by first | (with_reducible assumption) | assumption)
       obtain ⟨ad152, e152, hx152_0⟩ := Kd.at_int (Kd.R_reads' HO_8.out).2.2 x10_1 p152 q152; cases e152
       replace p152 := eq_true p152; replace q152 := eq_true q152; go_wp2
       go_ret
       exact ⟨by first | rfl | (simp [errW_none, errW_some] <;> rfl) | (simp [*, errW_none, errW_some] <;> rfl), BB HB⟩
     ·rw [if_neg c9] at H; exact absurd H (by simp)
    ·rw [if_neg c8] at H; exact absurd H (by simp)
   ·rw [if_neg c7] at H; have c7b0 : decide (x10_1 < (t149.length : Int)) = false := decide_eq_false c7; clear c7; by_cases c11 : (t149.length : Int) > 0
    ·rw [if_pos c11] at H; have c11b0 : decide (0 < (t149.length : Int)) = true := decide_eq_true c11; have c11b1 : decide (0 < t149.length) = true := decide_eq_true (by omega)
     clear c11; replace H := Option.bind_eq_some_iff.mp H; obtain ⟨t153, A120, H⟩ := H; replace H : (some t153) = some r := H; have A12 := AM A120; clear A120; obtain rfl := Option.some.inj H; go_wp2_with (first | (go_at_call 46; (with_reducible refine (slices_IsSorted_int_int.calls k1 _ _ t149 t153 _ ?side1 ?side2 A12.out).mono ?_); (case side1 => exact CR HO_3); (case side2 => exact (Kd.R_reads' HO_3.out).2.1); rintro e w' ⟨rfl, ⟨nd, rfl⟩⟩))
     go_ret
     exact ⟨by first | rfl | (simp [errW_none, errW_some] <;> rfl) | (simp [*, errW_none, errW_some] <;> rfl), BB HB⟩
    ·rw [if_neg c11] at H; have c11b0 : decide (0 < (t149.length : Int)) = false := decide_eq_false c11; have c11b1 : decide (0 < t149.length) = false := decide_eq_false (by omega)
     clear c11; obtain rfl := Option.some.inj H; go_wp2
     go_ret
     exact ⟨by first | rfl | (simp [errW_none, errW_some] <;> rfl) | (simp [*, errW_none, errW_some] <;> rfl), BB HB⟩

/-! ### dioramalaw10_awake: function 14 -/
section
open Go.Lib
def aN : List S40 := [⟨1, [], [], [2, 1]⟩, ⟨3, [], [], []⟩, ⟨4, [], [], []⟩]
def aC : List S40 := [⟨4, [], [], []⟩, ⟨3, [], [], []⟩, ⟨1, [], [], [0, 1]⟩]
theorem a_canon : canon_Canon.f 60 aN 0 = some (aC, 2, 0) := by
 have h : ((canon_Canon.f 60 aN 0).map fun r => (r.1.map (fun y => (y.f0, y.f1, y.f3)), r.2)) = some (aC.map (fun y => (y.f0, y.f1, y.f3)), 2, 0) ∧ ((canon_Canon.f 60 aN 0).map fun r => r.1.map fun y => y.f2.length) = some [0, 0, 0] := by decide +kernel
 rcases hc : canon_Canon.f 60 aN 0 with _ | ⟨r1, r2⟩
 ·rw [hc] at h; simp at h
 ·rw [hc] at h; simp only [Option.map_some, Option.some.injEq, Prod.mk.injEq] at h
  obtain ⟨⟨h1, h2⟩, h3⟩ := h; match r1, h1, h3 with
  | [⟨a0, a1, a2, a3⟩, ⟨b0, b1, b2, b3⟩, ⟨c0, c1, c2, c3⟩], h1, h3 =>
   simp only [aC, List.map_cons, List.map_nil, List.cons.injEq, Prod.mk.injEq, and_true] at h1
   simp only [List.map_cons, List.map_nil, List.cons.injEq, and_true] at h3
   obtain ⟨⟨rfl, rfl, rfl⟩, ⟨rfl, rfl, rfl⟩, ⟨rfl, rfl, rfl⟩⟩ := h1; obtain ⟨e1, e2, e3⟩ := h3; obtain rfl := List.eq_nil_of_length_eq_zero e1; obtain rfl := List.eq_nil_of_length_eq_zero e2; obtain rfl := List.eq_nil_of_length_eq_zero e3; rw [← h2]; rfl
theorem a_none : canon_Canon.f 60 [] 0 = some ([], 0, 13) := by rfl
theorem a_nums : canon_Numbers.f 60 aN 0 = some [2, 1, 0] := by decide +kernel
theorem a_is1 : canon_Is.f 60 aC 2 = some true := by decide +kernel
theorem a_is2 : canon_Is.f 60 aN 0 = some false := by decide +kernel
theorem a_ints : dioramaref09_Ints.f 60 [0, 1] [0, 1] = some true := by decide +kernel
theorem a_ints3 : dioramaref09_Ints.f 60 [2, 1, 0] [2, 1, 0] = some true := by decide +kernel
/-- The scene's three blocks. -/
structure ThreeA (w : World) (b : Nat) : Prop where
 kids : w.heap[b]? = some (.cells #[.int .i64 2, .int .i64 1] 3 (0, 0))
 nodes : w.heap[b + 1]? = some (.cells #[.int .i64 1, .slice none 0 0, .slice none 0 0, .slice (some ⟨b, 0, none⟩) 2 2, .int .i64 3, .slice none 0 0, .slice none 0 0, .slice none 0 0, .int .i64 4, .slice none 0 0, .slice none 0 0, .slice none 0 0] 40 (0, 0))
 box : w.heap[b + 2]? = some (.cells #[.slice (some ⟨b + 1, 0, none⟩) 3 3, .int .i64 0] 24 (0, 0))
theorem ThreeA.below {w w' : World} {b : Nat} (h : ThreeA w b) (hb : ∀ k, k < w.heap.size → w'.heap[k]? = w.heap[k]?) : ThreeA w' b :=
 ⟨(hb _ (blk_lt h.kids)).trans h.kids, (hb _ (blk_lt h.nodes)).trans h.nodes, (hb _ (blk_lt h.box)).trans h.box⟩
theorem ThreeA.C {W : World} {b : Nat} (h : ThreeA W b) : Kd.C k40 W (some ⟨b + 1, 0, none⟩) aN.length aN := by
 have hnI : Kd.C (Kd.int .i64) W none 0 [] := ⟨rfl, by omega, fun h => absurd h (by omega)⟩
 have hnS : Kd.C Kd.string W none 0 [] := ⟨rfl, by omega, fun h => absurd h (by omega)⟩
 have hk : Kd.C (Kd.int .i64) W (some ⟨b, 0, none⟩) [2, 1].length [2, 1] := ⟨rfl, by simp, fun _ => ⟨⟨b, 0, none⟩, rfl, fun j p hp => by
  match j, hp with
  | 0, hp => cases hp; exact ⟨[.int .i64 2], rfl, rfl, fun i u hu => by match i, hu with | 0, hu => cases hu; exact (blk_cell h.kids 0).trans rfl⟩
  | 1, hp => cases hp; exact ⟨[.int .i64 1], rfl, rfl, fun i u hu => by match i, hu with | 0, hu => cases hu; exact (blk_cell h.kids 1).trans rfl⟩⟩⟩
 refine ⟨rfl, by show 3 ≤ 9223372036854775807; omega, fun _ => ⟨⟨b + 1, 0, none⟩, rfl, fun j p hp => ?_⟩⟩
 match j, hp with
 | 0, hp =>
  cases hp
  exact ⟨_, rfl, k40_mk W ⟨1, [], [], [2, 1]⟩ (Nat.le_refl _) hnI (Nat.le_refl _) hnS (c3 := 2) (by simp) hk, fun i u hu => by
   match i, hu with
   | 0, hu => cases hu; exact (blk_cell h.nodes 0).trans rfl
   | 1, hu => cases hu; exact (blk_cell h.nodes 1).trans rfl
   | 2, hu => cases hu; exact (blk_cell h.nodes 2).trans rfl
   | 3, hu => cases hu; exact (blk_cell h.nodes 3).trans rfl⟩
 | 1, hp =>
  cases hp
  exact ⟨_, rfl, k40_mk W ⟨3, [], [], []⟩ (Nat.le_refl _) hnI (Nat.le_refl _) hnS (Nat.le_refl _) hnI, fun i u hu => by
   match i, hu with
   | 0, hu => cases hu; exact (blk_cell h.nodes 4).trans rfl
   | 1, hu => cases hu; exact (blk_cell h.nodes 5).trans rfl
   | 2, hu => cases hu; exact (blk_cell h.nodes 6).trans rfl
   | 3, hu => cases hu; exact (blk_cell h.nodes 7).trans rfl⟩
 | 2, hp =>
  cases hp
  exact ⟨_, rfl, k40_mk W ⟨4, [], [], []⟩ (Nat.le_refl _) hnI (Nat.le_refl _) hnS (Nat.le_refl _) hnI, fun i u hu => by
   match i, hu with
   | 0, hu => cases hu; exact (blk_cell h.nodes 8).trans rfl
   | 1, hu => cases hu; exact (blk_cell h.nodes 9).trans rfl
   | 2, hu => cases hu; exact (blk_cell h.nodes 10).trans rfl
   | 3, hu => cases hu; exact (blk_cell h.nodes 11).trans rfl⟩
/-- A row of numbers in a block of its own. -/
theorem lit_C {W : World} {b : Nat} {l : List Int} {n : Nat} (hn : n = l.length) (hm : n ≤ 1000) (h : W.heap[b]? = some (.cells (l.map (Value.int .i64)).toArray 3 (0, 0))) : Kd.C (Kd.int .i64) W (some ⟨b, 0, none⟩) n l := by
 subst hn; refine ⟨rfl, by omega, fun _ => ⟨⟨b, 0, none⟩, rfl, fun j p hp => ⟨[.int .i64 p], rfl, rfl, fun i u hu => ?_⟩⟩⟩
 match i, hu with
 | 0, hu =>
  cases hu
  have := blk_cell h j; rw [List.getElem?_toArray, List.getElem?_map, hp] at this; have e : ((⟨b, 0, none⟩ : Addr).add (j * (Kd.int .i64).sz + 0)) = ⟨b, j, none⟩ := by rw [Nat.add_zero, show (Kd.int .i64).sz = 1 from rfl, Nat.mul_one]; cases j <;> simp [Addr.add]
  rw [e]; simpa using this
set_option maxHeartbeats 8000000 in
set_option maxRecDepth 100000 in
theorem awake10_calls (w : World) : Calls Try.prog 14 #[] w fun e w' => e = .returned (.bool true) ∧ Below w.heap.size w w' := by
 go_enter Try.func14, Try.ntmps14
 go_wp2_with (fail)
 have h1 : ThreeA (((w.alloc (.cells #[.int .i64 2, .int .i64 1] 3)).alloc (.cells #[.int .i64 1, .slice none 0 0, .slice none 0 0, .slice (some ⟨w.heap.size, 0, none⟩) 2 2, .int .i64 3, .slice none 0 0, .slice none 0 0, .slice none 0 0, .int .i64 4, .slice none 0 0, .slice none 0 0, .slice none 0 0] 40)).alloc (.cells #[.slice (some ⟨w.heap.size + 1, 0, none⟩) 3 3, .int .i64 0] 24)) w.heap.size := by
  refine ⟨blk_alloc (blk_alloc (heap_alloc_new w _) _) _, blk_alloc ?_ _, ?_⟩
  ·have := heap_alloc_new (w.alloc (.cells #[.int .i64 2, .int .i64 1] 3)) (.cells #[.int .i64 1, .slice none 0 0, .slice none 0 0, .slice (some ⟨w.heap.size, 0, none⟩) 2 2, .int .i64 3, .slice none 0 0, .slice none 0 0, .slice none 0 0, .int .i64 4, .slice none 0 0, .slice none 0 0, .slice none 0 0] 40); rwa [show (w.alloc (.cells #[.int .i64 2, .int .i64 1] 3)).heap.size = w.heap.size + 1 by simp] at this
  ·have := heap_alloc_new ((w.alloc (.cells #[.int .i64 2, .int .i64 1] 3)).alloc (.cells #[.int .i64 1, .slice none 0 0, .slice none 0 0, .slice (some ⟨w.heap.size, 0, none⟩) 2 2, .int .i64 3, .slice none 0 0, .slice none 0 0, .slice none 0 0, .int .i64 4, .slice none 0 0, .slice none 0 0, .slice none 0 0] 40)) (.cells #[.slice (some ⟨w.heap.size + 1, 0, none⟩) 3 3, .int .i64 0] 24); rwa [show ((w.alloc (.cells #[.int .i64 2, .int .i64 1] 3)).alloc (.cells #[.int .i64 1, .slice none 0 0, .slice none 0 0, .slice (some ⟨w.heap.size, 0, none⟩) 2 2, .int .i64 3, .slice none 0 0, .slice none 0 0, .slice none 0 0, .int .i64 4, .slice none 0 0, .slice none 0 0, .slice none 0 0] 40)).heap.size = w.heap.size + 2 by simp] at this
 have hB1 : Below w.heap.size w (((w.alloc (.cells #[.int .i64 2, .int .i64 1] 3)).alloc (.cells #[.int .i64 1, .slice none 0 0, .slice none 0 0, .slice (some ⟨w.heap.size, 0, none⟩) 2 2, .int .i64 3, .slice none 0 0, .slice none 0 0, .slice none 0 0, .int .i64 4, .slice none 0 0, .slice none 0 0, .slice none 0 0] 40)).alloc (.cells #[.slice (some ⟨w.heap.size + 1, 0, none⟩) 3 3, .int .i64 0] 24)) := (((Below.refl _ _).alloc (Nat.le_refl _) _).alloc (by simp) _).alloc (by simp; omega) _
 generalize (((w.alloc (.cells #[.int .i64 2, .int .i64 1] 3)).alloc (.cells #[.int .i64 1, .slice none 0 0, .slice none 0 0, .slice (some ⟨w.heap.size, 0, none⟩) 2 2, .int .i64 3, .slice none 0 0, .slice none 0 0, .slice none 0 0, .int .i64 4, .slice none 0 0, .slice none 0 0, .slice none 0 0] 40)).alloc (.cells #[.slice (some ⟨w.heap.size + 1, 0, none⟩) 3 3, .int .i64 0] 24)) = w1 at h1 hB1 ⊢
 have H1 := Lib.hid h1; have HB1 := Lib.hid hB1; clear h1 hB1; refine (canon_Canon.calls 60 (some ⟨w.heap.size + 1, 0, none⟩) 3 aN 0 aC 2 0 w1 H1.out.C (Nat.le_refl 3) a_canon).mono ?_
 rintro e w2 ⟨v2, rfl, hR2, hb2⟩
 have H2 := Lib.hid (H1.out.below hb2.block); have HB2 := Lib.hid (below_step HB1.out hb2); obtain ⟨inn, hin⟩ := Kd.R_own hR2; have hin3 : w2.ownsRow w1.heap.size 40 4 v2 3 inn := hin; obtain ⟨g2, c2, rfl, hg2, hg2l⟩ := hin3.form (show 0 < 3 by omega)
 obtain ⟨hx3, hc2, hC2⟩ := Kd.R_reads' hR2; clear hx3; have HC2 := Lib.hid hC2; have hc2' : 3 ≤ c2 := hc2; clear hin hin3 inn hR2 hb2 hC2 hc2; have hn0 : Kd.C k40 w2 none 0 [] := ⟨rfl, by omega, fun h => absurd h (by omega)⟩
 go_wp2_with (fail)
 have hn2 := heap_alloc_new w2 (.cells #[.slice (some ⟨g2, 0, none⟩) 3 c2, .int .i64 2] 24); have hb2a : Below w2.heap.size w2 (w2.alloc (.cells #[.slice (some ⟨g2, 0, none⟩) 3 c2, .int .i64 2] 24)) := (Below.refl _ _).alloc (Nat.le_refl _) _; generalize (w2.alloc (.cells #[.slice (some ⟨g2, 0, none⟩) 3 c2, .int .i64 2] 24)) = w3 at hn2 hb2a ⊢
 refine (canon_Canon.calls 60 none 0 [] 0 [] 0 13 w3 (Kd.C_below hn0 hb2a) (Nat.le_refl 0) a_none).mono ?_
 rintro e w4 ⟨v4, rfl, hR4, hb4⟩
 obtain ⟨A4, c4, hv4⟩ := Kd.R_slice hR4; have hv4' : v4 = .slice A4 0 c4 := hv4; subst hv4'; clear hv4 hR4; have hb24 := below_step hb2a hb4; have H4 := Lib.hid (H2.out.below hb24.block); have HB4 := Lib.hid (below_step HB2.out hb24); have HC4 := Lib.hid (Kd.C_below HC2.out hb24); have HN4 := Lib.hid ((hb4.block w2.heap.size (blk_lt hn2)).trans hn2); clear hb24 hb4 hb2a hn2 hn0; go_upto_region 4 with (fail)
 have hb4a : Below w4.heap.size w4 (w4.alloc (.cells #[.slice A4 0 c4, .int .i64 0] 24)) := (Below.refl _ _).alloc (Nat.le_refl _) _; generalize (w4.alloc (.cells #[.slice A4 0 c4, .int .i64 0] 24)) = w5 at hb4a ⊢
 have H5 := Lib.hid (H4.out.below hb4a.block); have HB5 := Lib.hid (below_step HB4.out hb4a); have hC5 := Kd.C_below HC4.out hb4a; have HN5 := Lib.hid ((hb4a.block w2.heap.size (blk_lt HN4.out)).trans HN4.out); have q0 : w5.cell? ⟨w2.heap.size, 0, none⟩ = some (.slice (some ⟨g2, 0, none⟩) 3 c2) := (blk_cell HN5.out 0).trans rfl; have q1 : w5.cell? ⟨w2.heap.size, 1, none⟩ = some (.int .i64 2) := (blk_cell HN5.out 1).trans rfl; obtain ⟨ad, _, _, _, _, _, _, ea, hx0, _, _, _, _⟩ := at_T40 hC5 0 (by omega) (by show (0 : Int) < 3; omega)
 cases ea
 obtain ⟨ad, _, _, _, _, _, _, ea, hx1, _, _, _, _⟩ := at_T40 hC5 1 (by omega) (by show (1 : Int) < 3; omega)
 cases ea
 obtain ⟨ad, _, _, _, _, A3, c3, ea, _, _, _, hx2, _, _, _, _, hl3, hi3⟩ := at_T40 hC5 2 (by omega) (by show (2 : Int) < 3; omega)
 cases ea
 have n0 : w5.cell? ⟨g2, 0, none⟩ = some (.int .i64 4) := hx0; have n1 : w5.cell? ⟨g2, 4, none⟩ = some (.int .i64 3) := hx1; have n2 : w5.cell? ⟨g2, 11, none⟩ = some (.slice A3 2 c3) := hx2; have hl3' : 2 ≤ c3 := hl3; have HI3 : Hid (Kd.C (Kd.int .i64) w5 A3 2 [0, 1]) := Lib.hid hi3; have HC5 := Lib.hid hC5; clear hx0 hx1 hx2 hl3 hi3 hC5 hb4a; go_wp2_with (fail)
 have hb5a : Below w5.heap.size w5 (w5.alloc (.cells #[.int .i64 0, .int .i64 1] 3)) := (Below.refl _ _).alloc (Nat.le_refl _) _; refine (dioramaref09_Ints.calls 60 A3 c3 [0, 1] (some ⟨w5.heap.size, 0, none⟩) 2 [0, 1] true _ (Kd.C_below HI3.out hb5a) hl3' (lit_C (n := 2) (l := [0, 1]) rfl (by omega) (heap_alloc_new w5 _)) (by simp) a_ints).mono ?_
 rintro e w6 ⟨rfl, hd6⟩
 have hb6 := below_step hb5a hd6.below; have H6 := Lib.hid (H5.out.below hb6.block); have HB6 := Lib.hid (below_step HB5.out hb6); have HC6 := Lib.hid (Kd.C_below HC5.out hb6); have HN6 := Lib.hid ((hb6.block w2.heap.size (blk_lt HN5.out)).trans HN5.out); have p0 : w6.cell? ⟨w.heap.size + 1 + 1, 0, none⟩ = some (.slice (some ⟨w.heap.size + 1, 0, none⟩) 3 3) := (blk_cell H6.out.box 0).trans rfl; have p1 : w6.cell? ⟨w.heap.size + 1 + 1, 1, none⟩ = some (.int .i64 0) := (blk_cell H6.out.box 1).trans rfl; clear q0 q1 n0 n1 n2 hb6 hd6 hb5a; go_wp2_with (fail)
 refine (canon_Numbers.calls 60 (some ⟨w.heap.size + 1, 0, none⟩) 3 aN 0 [2, 1, 0] w6 H6.out.C (Nat.le_refl 3) a_nums).mono ?_
 rintro e w7 ⟨v7, rfl, hR7, hb7⟩
 obtain ⟨A7, c7, hv7, hl7, hC7⟩ := Kd.R_reads hR7; have hv7' : v7 = .slice A7 3 c7 := hv7; subst hv7'; have HC7 := Lib.hid hC7; have hl7' : 3 ≤ c7 := hl7; have H7 := Lib.hid (H6.out.below hb7.block); have HB7 := Lib.hid (below_step HB6.out hb7); have HCC7 := Lib.hid (Kd.C_below HC6.out hb7); have HN7 := Lib.hid ((hb7.block w2.heap.size (blk_lt HN6.out)).trans HN6.out); clear hv7 hl7 hC7 hb7 hR7 p0 p1; go_wp2_with (fail)
 have hb7a : Below w7.heap.size w7 (w7.alloc (.cells #[.int .i64 2, .int .i64 1, .int .i64 0] 3)) := (Below.refl _ _).alloc (Nat.le_refl _) _; refine (dioramaref09_Ints.calls 60 A7 c7 [2, 1, 0] (some ⟨w7.heap.size, 0, none⟩) 3 [2, 1, 0] true _ (Kd.C_below HC7.out hb7a) hl7' (lit_C (n := 3) (l := [2, 1, 0]) rfl (by omega) (heap_alloc_new w7 _)) (by simp) a_ints3).mono ?_
 rintro e w8 ⟨rfl, hd8⟩
 have hb8 := below_step hb7a hd8.below; have H8 := Lib.hid (H7.out.below hb8.block); have HB8 := Lib.hid (below_step HB7.out hb8); have HC8 := Lib.hid (Kd.C_below HCC7.out hb8); have HN8 := Lib.hid ((hb8.block w2.heap.size (blk_lt HN7.out)).trans HN7.out); have q0 : w8.cell? ⟨w2.heap.size, 0, none⟩ = some (.slice (some ⟨g2, 0, none⟩) 3 c2) := (blk_cell HN8.out 0).trans rfl; have q1 : w8.cell? ⟨w2.heap.size, 1, none⟩ = some (.int .i64 2) := (blk_cell HN8.out 1).trans rfl; clear hb8 hd8 hb7a; go_wp2_with (fail)
 refine (canon_Is.calls 60 (some ⟨g2, 0, none⟩) c2 aC 2 true w8 HC8.out hc2' a_is1).mono ?_
 rintro e w9 ⟨rfl, hb9⟩
 have H9 := Lib.hid (H8.out.below hb9.block); have HB9 := Lib.hid (below_step HB8.out hb9); have p0 : w9.cell? ⟨w.heap.size + 1 + 1, 0, none⟩ = some (.slice (some ⟨w.heap.size + 1, 0, none⟩) 3 3) := (blk_cell H9.out.box 0).trans rfl; have p1 : w9.cell? ⟨w.heap.size + 1 + 1, 1, none⟩ = some (.int .i64 0) := (blk_cell H9.out.box 1).trans rfl; clear hb9 q0 q1; go_wp2_with (fail)
 refine (canon_Is.calls 60 (some ⟨w.heap.size + 1, 0, none⟩) 3 aN 0 false w9 H9.out.C (Nat.le_refl 3) a_is2).mono ?_
 rintro e w10 ⟨rfl, hb10⟩
 have HB10 := Lib.hid (below_step HB9.out hb10); clear hb10; go_wp2_with (fail)
 go_ret
 exact ⟨rfl, HB10.out⟩
end
def dioramalaw10_awake.f (k : Nat) : Option Bool := some true
theorem dioramalaw10_awake.calls (k : Nat) (r : Bool) (w : World) (h : dioramalaw10_awake.f k = some r) :
  Calls Try.prog 14 #[] w fun e w' => e = .returned (.bool r) ∧ Below w.heap.size w w' := by
 obtain rfl := Option.some.inj h; exact awake10_calls w

/-! ### dioramaref09_Edges: function 35 -/
def dioramaref09_Edges.l0 : Nat → Int → Int → List (S40) → Int → Option (Int)
 | 0, _, _, _, _ => none
 | k + 1, x3, x4, x155000, x155001 => if x4 < (x155000.length : Int) then (if 0 ≤ x4 then (dioramaref09_Edges.l0 k (wrap64 (x3 + (((rd_T40 x155000 x4).f3).length : Int))) (wrap64 (x4 + 1)) x155000 x155001) else (none)) else (some x3)
def dioramaref09_Edges.f (k : Nat) (l0_0 : List (S40)) (a0_1 : Int) : Option (Int) := dioramaref09_Edges.l0 k 0 0 l0_0 a0_1
set_option maxHeartbeats 8000000 in
set_option maxRecDepth 100000 in
theorem dioramaref09_Edges.calls (k : Nat) (A0_0 : Option Addr) (c0_0 : Nat) (l0_0 : List (S40)) (a0_1 : Int) (r : Int) (w : World) (hr0_0 : Kd.C k40 w A0_0 l0_0.length l0_0) (hc0_0 : l0_0.length ≤ c0_0) (h : dioramaref09_Edges.f k l0_0 a0_1 = some r) :
  Calls Try.prog 35 #[.agg #[.slice A0_0 l0_0.length c0_0, .int .i64 a0_1]] w fun e w' => e = .returned (.int .i64 r) ∧ Below w.heap.size w w' := by
 have hu24 := Try.underlying24; have HR0_0 := AM hr0_0; have HC0_0 := AM hc0_0; clear hr0_0 hc0_0; have HB := AM (Below.refl w.heap.size w); have H : (dioramaref09_Edges.l0 k 0 0 l0_0 a0_1) = some r := h; clear h; have H' := AM H; clear H; go_enter Try.func35, Try.ntmps35
 go_wp2_with (first | ((with_reducible refine gate_dst (N := 1) rfl ?_); refine box_event ?hg (N := 1) ?hd (cs := #[.slice A0_0 l0_0.length c0_0, .int .i64 a0_1]) (t := 24) ?hr ?_; (case hd => rfl); (case hg => rfl); (case hr => first | (go_simp; done) | (go_simp; rfl)); intro gb154 hg w2 hbox hb; have BK154 := AM (hbox); have GW154 := GW HB hg; have GE154 := GW HB hg; replace HB := BS HB hb; clear hb hbox hg))
 go_loopg [3, 4] k (fun kq v3 v4 w' => ∃ (x3_1 : Int) (x4_1 : Int), v3 = .int .i64 x3_1 ∧ v4 = .int .i64 x4_1 ∧ Aside0 (dioramaref09_Edges.l0 kq x3_1 x4_1 l0_0 a0_1 = some r) ∧ Aside0 (kq ≤ k) ∧ Aside0 (w'.heap[gb154]? = some (.cells #[(.slice A0_0 l0_0.length c0_0), .int .i64 a0_1] 24 (0, 0))) ∧ Aside0 (Below w.heap.size w w'))
 case atStart => exact ⟨(0), (0), (by first | rfl | (simp; done) | (simp [*]; done)), (by first | rfl | (simp; done) | (simp [*]; done)), H', ⟨Nat.le_refl _⟩, ⟨BL BK154⟩, ⟨BB HB⟩⟩
 case round =>
  clear H'; try clear p2
  obtain ⟨x3_1, x4_1, rfl, rfl, HA, HK1, BK154, HB⟩ := hrel; cases gk with
  | zero => exact absurd HA.out (by simp [dioramaref09_Edges.l0])
  | succ k1 =>
   have H := HA.out; clear HA; simp only [dioramaref09_Edges.l0] at H
   by_cases c3 : x4_1 < (l0_0.length : Int)
   ·rw [if_pos c3] at H; have c3b0 : decide (x4_1 < (l0_0.length : Int)) = true := decide_eq_true c3; clear c3; by_cases c4 : 0 ≤ x4_1
    ·rw [if_pos c4] at H; have c4b0 : decide (0 ≤ x4_1) = true := decide_eq_true c4; clear c4; have H' := AM H; clear H; have hcz5_0 := BC BK154 0 (.slice A0_0 l0_0.length c0_0) rfl; have hcz5_1 := BC BK154 1 (.int .i64 a0_1) rfl; have hfz5_0 := BF BK154 0; have hfz5_1 := BF BK154 1; have p155 : 0 ≤ (x4_1 : Int) := of_decide_eq_true (by first | (with_reducible assumption) | assumption)
     have q155 : x4_1 < (l0_0.length : Int) := of_decide_eq_true (by first | (with_reducible assumption) | assumption)
     obtain ⟨ad155, A155_1, c155_1, A155_2, c155_2, A155_3, c155_3, e155, hx155_0, hx155_1, hx155_2, hx155_3, hl155_1, hi155_1, hl155_2, hi155_2, hl155_3, hi155_3⟩ := at_T40 HR0_0.out x4_1 p155 q155; cases e155
     replace hx155_0 := (HB.out.cell (World.block_lt_of_cell? w _ hx155_0)).trans hx155_0; replace hx155_1 := (HB.out.cell (World.block_lt_of_cell? w _ hx155_1)).trans hx155_1; replace hx155_2 := (HB.out.cell (World.block_lt_of_cell? w _ hx155_2)).trans hx155_2; replace hx155_3 := (HB.out.cell (World.block_lt_of_cell? w _ hx155_3)).trans hx155_3; have HR155_1 := AM hi155_1; have HC155_1 := AM hl155_1; clear hi155_1 hl155_1; have HR155_2 := AM hi155_2; have HC155_2 := AM hl155_2; clear hi155_2 hl155_2; have HR155_3 := AM hi155_3; have HC155_3 := AM hl155_3; clear hi155_3 hl155_3; replace p155 := eq_true p155; replace q155 := eq_true q155; go_wp2
     go_roundg k1
     case measure => have := HK1.out; omega
     case rel => exact ⟨(wrap64 (x3_1 + (((rd_T40 l0_0 x4_1).f3).length : Int))), (wrap64 (x4_1 + 1)), (by first | rfl | (simp; done) | (simp [*]; done)), (by first | rfl | (simp; done) | (simp [*]; done)), H', ⟨by have := HK1.out; omega⟩, ⟨BL BK154⟩, ⟨BB HB⟩⟩
    ·rw [if_neg c4] at H; exact absurd H (by simp)
   ·rw [if_neg c3] at H; have c3b0 : decide (x4_1 < (l0_0.length : Int)) = false := decide_eq_false c3; clear c3; obtain rfl := Option.some.inj H; have hcz6_0 := BC BK154 0 (.slice A0_0 l0_0.length c0_0) rfl; have hcz6_1 := BC BK154 1 (.int .i64 a0_1) rfl; have hfz6_0 := BF BK154 0; have hfz6_1 := BF BK154 1; go_wp2
    go_ret
    exact ⟨by first | rfl | (simp [errW_none, errW_some] <;> rfl) | (simp [*, errW_none, errW_some] <;> rfl), BB HB⟩

/-! ### dioramaref08_Great: function 40 -/
mutual
def dioramaref08_Great.j0 : Nat → Bool → Int → List Int → List ByteArray → List Int → Option (Bool)
 | 0, _, _, _, _, _ => none
 | k + 1, x19, x157000, x157001, x157002, x157003 => if x19 = true then (some true) else (dioramaref08_Great.l0 k 0 x157000 x157001 x157002 x157003)
def dioramaref08_Great.l0 : Nat → Int → Int → List Int → List ByteArray → List Int → Option (Bool)
 | 0, _, _, _, _, _ => none
 | k + 1, x3, x157000, x157001, x157002, x157003 => if x3 < (x157002.length : Int) then (if 0 ≤ x3 then (if ((rdOf ByteArray.empty x157002 x3).size : Int) > 500 then (some true) else (dioramaref08_Great.l0 k (wrap64 (x3 + 1)) x157000 x157001 x157002 x157003)) else (none)) else (some false)
end
def dioramaref08_Great.f (k : Nat) (a0_0 : Int) (l0_1 : List Int) (l0_2 : List ByteArray) (l0_3 : List Int) : Option (Bool) := if (l0_1.length : Int) > 100 then (dioramaref08_Great.j0 k true a0_0 l0_1 l0_2 l0_3) else (if (l0_2.length : Int) > 100 then (dioramaref08_Great.j0 k true a0_0 l0_1 l0_2 l0_3) else (dioramaref08_Great.j0 k (decide ((l0_3.length : Int) > 300)) a0_0 l0_1 l0_2 l0_3))
set_option maxHeartbeats 8000000 in
set_option maxRecDepth 100000 in
theorem dioramaref08_Great.calls (k : Nat) (a0_0 : Int) (A0_1 : Option Addr) (c0_1 : Nat) (l0_1 : List Int) (A0_2 : Option Addr) (c0_2 : Nat) (l0_2 : List ByteArray) (A0_3 : Option Addr) (c0_3 : Nat) (l0_3 : List Int) (r : Bool) (w : World) (hr0_1 : Kd.C (Kd.int .i64) w A0_1 l0_1.length l0_1) (hc0_1 : l0_1.length ≤ c0_1) (hr0_2 : Kd.C Kd.string w A0_2 l0_2.length l0_2) (hc0_2 : l0_2.length ≤ c0_2) (hr0_3 : Kd.C (Kd.int .i64) w A0_3 l0_3.length l0_3) (hc0_3 : l0_3.length ≤ c0_3) (h : dioramaref08_Great.f k a0_0 l0_1 l0_2 l0_3 = some r) :
  Calls Try.prog 40 #[.agg #[.int .i64 a0_0, .slice A0_1 l0_1.length c0_1, .slice A0_2 l0_2.length c0_2, .slice A0_3 l0_3.length c0_3]] w fun e w' => e = .returned (.bool r) ∧ Below w.heap.size w w' := by
 have hu40 := Try.underlying40; have HR0_1 := AM hr0_1; have HC0_1 := AM hc0_1; clear hr0_1 hc0_1; have HR0_2 := AM hr0_2; have HC0_2 := AM hc0_2; clear hr0_2 hc0_2; have HR0_3 := AM hr0_3; have HC0_3 := AM hc0_3; clear hr0_3 hc0_3; have HB := AM (Below.refl w.heap.size w); have H : (if (l0_1.length : Int) > 100 then (dioramaref08_Great.j0 k true a0_0 l0_1 l0_2 l0_3) else (if (l0_2.length : Int) > 100 then (dioramaref08_Great.j0 k true a0_0 l0_1 l0_2 l0_3) else (dioramaref08_Great.j0 k (decide ((l0_3.length : Int) > 300)) a0_0 l0_1 l0_2 l0_3))) = some r := h; clear h; have HC2 := AM H; clear H; go_enter Try.func40, Try.ntmps40
 go_upto_region 1 with (first | ((with_reducible refine gate_dst (N := 1) rfl ?_); refine box_event ?hg (N := 1) ?hd (cs := #[.int .i64 a0_0, .slice A0_1 l0_1.length c0_1, .slice A0_2 l0_2.length c0_2, .slice A0_3 l0_3.length c0_3]) (t := 40) ?hr ?_; (case hd => rfl); (case hg => rfl); (case hr => first | (go_simp; done) | (go_simp; rfl)); intro gb156 hg w3 hbox hb; have BK156 := AM (hbox); have GW156 := GW HB hg; have GE156 := GW HB hg; replace HB := BS HB hb; clear hb hbox hg))
 (try simp only [Act.put, List.setIfInBounds_toArray, List.set_cons_zero, List.set_cons_succ])
 go_cut [19] (fun v19 wc => ∃ (kq : Nat) (x19_1 : Bool), v19 = .bool x19_1 ∧ Aside0 (dioramaref08_Great.j0 kq x19_1 a0_0 l0_1 l0_2 l0_3 = some r) ∧ Aside0 (kq ≤ k) ∧ Aside0 (wc.heap[gb156]? = some (.cells #[.int .i64 a0_0, (.slice A0_1 l0_1.length c0_1), (.slice A0_2 l0_2.length c0_2), (.slice A0_3 l0_3.length c0_3)] 40 (0, 0))) ∧ Aside0 (Below w.heap.size w wc))
 case first =>
  have H := HC2.out; clear HC2; by_cases c4 : (l0_1.length : Int) > 100
  ·rw [if_pos c4] at H; have c4b0 : decide (100 < (l0_1.length : Int)) = true := decide_eq_true c4; have c4b1 : decide (100 < l0_1.length) = true := decide_eq_true (by omega)
   clear c4; (first | rw [c4b0] | (simp only [i64_w, i32_w]; rw [c4b0]) | skip)
   have H' := AM H; clear H; have hcz5_0 := BC BK156 0 (.int .i64 a0_0) rfl; have hcz5_1 := BC BK156 1 (.slice A0_1 l0_1.length c0_1) rfl; have hcz5_2 := BC BK156 2 (.slice A0_2 l0_2.length c0_2) rfl; have hcz5_3 := BC BK156 3 (.slice A0_3 l0_3.length c0_3) rfl; have hfz5_0 := BF BK156 0; have hfz5_1 := BF BK156 1; have hfz5_2 := BF BK156 2; have hfz5_3 := BF BK156 3; go_wp2
   go_meet
   case rel => exact ⟨_, (true), (by first | rfl | (simp; done) | (simp [*]; done)), H', ⟨by first | omega | exact Nat.le_refl _⟩, ⟨BL BK156⟩, ⟨BB HB⟩⟩
  ·rw [if_neg c4] at H; have c4b0 : decide (100 < (l0_1.length : Int)) = false := decide_eq_false c4; have c4b1 : decide (100 < l0_1.length) = false := decide_eq_false (by omega)
   clear c4; (first | rw [c4b0] | (simp only [i64_w, i32_w]; rw [c4b0]) | skip)
   by_cases c6 : (l0_2.length : Int) > 100
   ·rw [if_pos c6] at H; have c6b0 : decide (100 < (l0_2.length : Int)) = true := decide_eq_true c6; have c6b1 : decide (100 < l0_2.length) = true := decide_eq_true (by omega)
    clear c6; have H' := AM H; clear H; have hcz7_0 := BC BK156 0 (.int .i64 a0_0) rfl; have hcz7_1 := BC BK156 1 (.slice A0_1 l0_1.length c0_1) rfl; have hcz7_2 := BC BK156 2 (.slice A0_2 l0_2.length c0_2) rfl; have hcz7_3 := BC BK156 3 (.slice A0_3 l0_3.length c0_3) rfl; have hfz7_0 := BF BK156 0; have hfz7_1 := BF BK156 1; have hfz7_2 := BF BK156 2; have hfz7_3 := BF BK156 3; go_wp2
    go_meet
    case rel => exact ⟨_, (true), (by first | rfl | (simp; done) | (simp [*]; done)), H', ⟨by first | omega | exact Nat.le_refl _⟩, ⟨BL BK156⟩, ⟨BB HB⟩⟩
   ·rw [if_neg c6] at H; have c6b0 : decide (100 < (l0_2.length : Int)) = false := decide_eq_false c6; have c6b1 : decide (100 < l0_2.length) = false := decide_eq_false (by omega)
    clear c6; have H' := AM H; clear H; have hcz8_0 := BC BK156 0 (.int .i64 a0_0) rfl; have hcz8_1 := BC BK156 1 (.slice A0_1 l0_1.length c0_1) rfl; have hcz8_2 := BC BK156 2 (.slice A0_2 l0_2.length c0_2) rfl; have hcz8_3 := BC BK156 3 (.slice A0_3 l0_3.length c0_3) rfl; have hfz8_0 := BF BK156 0; have hfz8_1 := BF BK156 1; have hfz8_2 := BF BK156 2; have hfz8_3 := BF BK156 3; go_wp2
    go_meet
    case rel => exact ⟨_, (decide ((l0_3.length : Int) > 300)), (by first | rfl | (simp; done) | (simp [*]; done)), H', ⟨by first | omega | exact Nat.le_refl _⟩, ⟨BL BK156⟩, ⟨BB HB⟩⟩
 case rest =>
  clear HC2; try clear p2
  try clear c4
  try clear c4b0
  try clear c4b1
  try clear c6
  try clear c6b0
  try clear c6b1
  try clear hcz5_0
  try clear hcz5_1
  try clear hcz5_2
  try clear hcz5_3
  try clear hcz7_0
  try clear hcz7_1
  try clear hcz7_2
  try clear hcz7_3
  try clear hcz8_0
  try clear hcz8_1
  try clear hcz8_2
  try clear hcz8_3
  try clear hfz5_0
  try clear hfz5_1
  try clear hfz5_2
  try clear hfz5_3
  try clear hfz7_0
  try clear hfz7_1
  try clear hfz7_2
  try clear hfz7_3
  try clear hfz8_0
  try clear hfz8_1
  try clear hfz8_2
  try clear hfz8_3
  obtain ⟨kq, x19_1, rfl, HA, HJ1, BK156, HB⟩ := hcut; cases kq with
  | zero => exact absurd HA.out (by simp [dioramaref08_Great.j0])
  | succ kj1 =>
   have H := HA.out; clear HA; simp only [dioramaref08_Great.j0] at H
   by_cases c9 : x19_1 = true
   ·subst c9; have H1 : (some true) = some r := by rw [if_pos rfl] at H; exact H
    clear H; have H := H1; clear H1; obtain rfl := Option.some.inj H; go_wp2
    go_ret
    exact ⟨by first | rfl | (simp [errW_none, errW_some] <;> rfl) | (simp [*, errW_none, errW_some] <;> rfl), BB HB⟩
   ·replace c9 := Bool.eq_false_iff.mpr c9; subst c9; have H1 : (dioramaref08_Great.l0 kj1 0 a0_0 l0_1 l0_2 l0_3) = some r := by rw [if_neg (show ¬ (false = true) by decide)] at H; exact H
    clear H; have H := H1; clear H1; have H' := AM H; clear H; go_wp2
    go_loopg [3] kj1 (fun kq v3 w' => ∃ (x3_2 : Int), v3 = .int .i64 x3_2 ∧ Aside0 (dioramaref08_Great.l0 kq x3_2 a0_0 l0_1 l0_2 l0_3 = some r) ∧ Aside0 (kq ≤ kj1) ∧ Aside0 (w'.heap[gb156]? = some (.cells #[.int .i64 a0_0, (.slice A0_1 l0_1.length c0_1), (.slice A0_2 l0_2.length c0_2), (.slice A0_3 l0_3.length c0_3)] 40 (0, 0))) ∧ Aside0 (Below w.heap.size w w'))
    case atStart => exact ⟨(0), (by first | rfl | (simp; done) | (simp [*]; done)), H', ⟨Nat.le_refl _⟩, ⟨BL BK156⟩, ⟨BB HB⟩⟩
    case round =>
     clear H'; try clear p2
     try clear c4
     try clear c4b0
     try clear c4b1
     try clear c6
     try clear c6b0
     try clear c6b1
     try clear c9
     try clear hcz5_0
     try clear hcz5_1
     try clear hcz5_2
     try clear hcz5_3
     try clear hcz7_0
     try clear hcz7_1
     try clear hcz7_2
     try clear hcz7_3
     try clear hcz8_0
     try clear hcz8_1
     try clear hcz8_2
     try clear hcz8_3
     try clear hfz5_0
     try clear hfz5_1
     try clear hfz5_2
     try clear hfz5_3
     try clear hfz7_0
     try clear hfz7_1
     try clear hfz7_2
     try clear hfz7_3
     try clear hfz8_0
     try clear hfz8_1
     try clear hfz8_2
     try clear hfz8_3
     try clear p2
     obtain ⟨x3_2, rfl, HA, HK2, BK156, HB⟩ := hrel; cases gk with
     | zero => exact absurd HA.out (by simp [dioramaref08_Great.l0])
     | succ k2 =>
      have H := HA.out; clear HA; simp only [dioramaref08_Great.l0] at H
      by_cases c10 : x3_2 < (l0_2.length : Int)
      ·rw [if_pos c10] at H; have c10b0 : decide (x3_2 < (l0_2.length : Int)) = true := decide_eq_true c10; clear c10; by_cases c11 : 0 ≤ x3_2
       ·rw [if_pos c11] at H; have c11b0 : decide (0 ≤ x3_2) = true := decide_eq_true c11; clear c11; by_cases c12 : ((rdOf ByteArray.empty l0_2 x3_2).size : Int) > 500
        ·rw [if_pos c12] at H; have c12b0 : decide (500 < ((rdOf ByteArray.empty l0_2 x3_2).size : Int)) = true := decide_eq_true c12; have c12b1 : decide (500 < (rdOf ByteArray.empty l0_2 x3_2).size) = true := decide_eq_true (by omega)
         clear c12; obtain rfl := Option.some.inj H; have hcz13_0 := BC BK156 0 (.int .i64 a0_0) rfl; have hcz13_1 := BC BK156 1 (.slice A0_1 l0_1.length c0_1) rfl; have hcz13_2 := BC BK156 2 (.slice A0_2 l0_2.length c0_2) rfl; have hcz13_3 := BC BK156 3 (.slice A0_3 l0_3.length c0_3) rfl; have hfz13_0 := BF BK156 0; have hfz13_1 := BF BK156 1; have hfz13_2 := BF BK156 2; have hfz13_3 := BF BK156 3; have p157 : 0 ≤ (x3_2 : Int) := of_decide_eq_true (by first | (with_reducible assumption) | assumption)
         have q157 : x3_2 < (l0_2.length : Int) := of_decide_eq_true (by first | (with_reducible assumption) | assumption)
         obtain ⟨ad157, e157, hx157_0⟩ := Kd.at_string HR0_2.out x3_2 p157 q157; cases e157
         replace hx157_0 := (HB.out.cell (World.block_lt_of_cell? w _ hx157_0)).trans hx157_0; replace p157 := eq_true p157; replace q157 := eq_true q157; go_wp2
         go_ret
         exact ⟨by first | rfl | (simp [errW_none, errW_some] <;> rfl) | (simp [*, errW_none, errW_some] <;> rfl), BB HB⟩
        ·rw [if_neg c12] at H; have c12b0 : decide (500 < ((rdOf ByteArray.empty l0_2 x3_2).size : Int)) = false := decide_eq_false c12; have c12b1 : decide (500 < (rdOf ByteArray.empty l0_2 x3_2).size) = false := decide_eq_false (by omega)
         clear c12; have H' := AM H; clear H; have hcz14_0 := BC BK156 0 (.int .i64 a0_0) rfl; have hcz14_1 := BC BK156 1 (.slice A0_1 l0_1.length c0_1) rfl; have hcz14_2 := BC BK156 2 (.slice A0_2 l0_2.length c0_2) rfl; have hcz14_3 := BC BK156 3 (.slice A0_3 l0_3.length c0_3) rfl; have hfz14_0 := BF BK156 0; have hfz14_1 := BF BK156 1; have hfz14_2 := BF BK156 2; have hfz14_3 := BF BK156 3; have p157 : 0 ≤ (x3_2 : Int) := of_decide_eq_true (by first | (with_reducible assumption) | assumption)
         have q157 : x3_2 < (l0_2.length : Int) := of_decide_eq_true (by first | (with_reducible assumption) | assumption)
         obtain ⟨ad157, e157, hx157_0⟩ := Kd.at_string HR0_2.out x3_2 p157 q157; cases e157
         replace hx157_0 := (HB.out.cell (World.block_lt_of_cell? w _ hx157_0)).trans hx157_0; replace p157 := eq_true p157; replace q157 := eq_true q157; go_wp2
         go_roundg k2
         case measure => have := HJ1.out; have := HK2.out; omega
         case rel => exact ⟨(wrap64 (x3_2 + 1)), (by first | rfl | (simp; done) | (simp [*]; done)), H', ⟨by have := HJ1.out; have := HK2.out; omega⟩, ⟨BL BK156⟩, ⟨BB HB⟩⟩
       ·rw [if_neg c11] at H; exact absurd H (by simp)
      ·rw [if_neg c10] at H; have c10b0 : decide (x3_2 < (l0_2.length : Int)) = false := decide_eq_false c10; clear c10; obtain rfl := Option.some.inj H; have hcz15_0 := BC BK156 0 (.int .i64 a0_0) rfl; have hcz15_1 := BC BK156 1 (.slice A0_1 l0_1.length c0_1) rfl; have hcz15_2 := BC BK156 2 (.slice A0_2 l0_2.length c0_2) rfl; have hcz15_3 := BC BK156 3 (.slice A0_3 l0_3.length c0_3) rfl; have hfz15_0 := BF BK156 0; have hfz15_1 := BF BK156 1; have hfz15_2 := BF BK156 2; have hfz15_3 := BF BK156 3; go_wp2
       go_ret
       exact ⟨by first | rfl | (simp [errW_none, errW_some] <;> rfl) | (simp [*, errW_none, errW_some] <;> rfl), BB HB⟩

end Go.Proofs.Ytlfjjapndlkamaa.GH
