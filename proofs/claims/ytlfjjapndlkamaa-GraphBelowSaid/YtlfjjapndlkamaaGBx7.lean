-- Printed by a program of the session (wip/gen/tprint.py, over a turned copy of the kit's print): Lean checks it.
import Derived.Test.YtlfjjapndlkamaaGBx0
import Derived.Test.YtlfjjapndlkamaaGBx3
import Derived.Test.YtlfjjapndlkamaaGBx5
import Derived.Test.YtlfjjapndlkamaaGBx6
namespace Go.Proofs.Ytlfjjapndlkamaa.GB
open Go.RowKit Go.Proofs.YtlfjjapndlkamaaW.PrintWords Go.Proofs.YtlfjjapndlkamaaW.PrintLast Go.Proofs.YtlfjjapndlkamaaW.PrintMore
attribute [local go_sem] max2_int min2_int max_two min_two max_three min_three max_four min_four   -- for this text's walks alone
set_option linter.unusedVariables false
set_option linter.unusedSimpArgs false

/-! ### dioramalaw09_awake: function 33 -/
/-- Two nodes with kids alone. -/
def twoN (l1 l2 : List Int) : List S40 := [⟨0, [], [], l1⟩, ⟨0, [], [], l2⟩]
theorem two_C {W : World} {b : Nat} {A1 A2 : Option Addr} {c1 c2 : Nat} {l1 l2 : List Int} (hb : W.heap[b]? = some (.cells #[.int .i64 0, .slice none 0 0, .slice none 0 0, .slice A1 l1.length c1, .int .i64 0, .slice none 0 0, .slice none 0 0, .slice A2 l2.length c2] 40 (0, 0)))
  (hl1 : l1.length ≤ c1) (hl2 : l2.length ≤ c2) (h1 : Kd.C (Kd.int .i64) W A1 l1.length l1) (h2 : Kd.C (Kd.int .i64) W A2 l2.length l2) : Kd.C k40 W (some ⟨b, 0, none⟩) (twoN l1 l2).length (twoN l1 l2) := by
 have hnI : Kd.C (Kd.int .i64) W none 0 [] := ⟨rfl, by omega, fun h => absurd h (by omega)⟩
 have hnS : Kd.C Kd.string W none 0 [] := ⟨rfl, by omega, fun h => absurd h (by omega)⟩
 refine ⟨rfl, by unfold twoN; simp, fun _ => ⟨⟨b, 0, none⟩, rfl, fun j p hp => ?_⟩⟩
 match j, hp with
 | 0, hp =>
  cases hp
  exact ⟨_, rfl, k40_mk W ⟨0, [], [], l1⟩ (Nat.le_refl _) hnI (Nat.le_refl _) hnS hl1 h1, fun i u hu => by
   match i, hu with
   | 0, hu => cases hu; exact (blk_cell hb 0).trans rfl
   | 1, hu => cases hu; exact (blk_cell hb 1).trans rfl
   | 2, hu => cases hu; exact (blk_cell hb 2).trans rfl
   | 3, hu => cases hu; exact (blk_cell hb 3).trans rfl⟩
 | 1, hp =>
  cases hp
  exact ⟨_, rfl, k40_mk W ⟨0, [], [], l2⟩ (Nat.le_refl _) hnI (Nat.le_refl _) hnS hl2 h2, fun i u hu => by
   match i, hu with
   | 0, hu => cases hu; exact (blk_cell hb 4).trans rfl
   | 1, hu => cases hu; exact (blk_cell hb 5).trans rfl
   | 2, hu => cases hu; exact (blk_cell hb 6).trans rfl
   | 3, hu => cases hu; exact (blk_cell hb 7).trans rfl⟩
/-- The scene's three blocks. -/
structure Three (w : World) (b : Nat) (v1 v2 : Value) (r : Int) : Prop where
 kids : w.heap[b]? = some (.cells #[.int .i64 1, .int .i64 1] 3 (0, 0))
 nodes : w.heap[b + 1]? = some (.cells #[.int .i64 0, .slice none 0 0, .slice none 0 0, v1, .int .i64 0, .slice none 0 0, .slice none 0 0, v2] 40 (0, 0))
 box : w.heap[b + 2]? = some (.cells #[.slice (some ⟨b + 1, 0, none⟩) 2 2, .int .i64 r] 24 (0, 0))
theorem Three.below {w w' : World} {b : Nat} {v1 v2 : Value} {r : Int} (h : Three w b v1 v2 r) (hb : ∀ k, k < w.heap.size → w'.heap[k]? = w.heap[k]?) : Three w' b v1 v2 r :=
 ⟨(hb _ (blk_lt h.kids)).trans h.kids, (hb _ (blk_lt h.nodes)).trans h.nodes, (hb _ (blk_lt h.box)).trans h.box⟩
theorem Three.c0 {w : World} {b : Nat} {v1 v2 : Value} {r : Int} (h : Three w b v1 v2 r) : w.cell? ⟨b + 1 + 1, 0, none⟩ = some (.slice (some ⟨b + 1, 0, none⟩) 2 2) := (blk_cell h.box 0).trans rfl
theorem Three.c1 {w : World} {b : Nat} {v1 v2 : Value} {r : Int} (h : Three w b v1 v2 r) : w.cell? ⟨b + 1 + 1, 1, none⟩ = some (.int .i64 r) := (blk_cell h.box 1).trans rfl
theorem ones_C {w : World} {b : Nat} {v1 v2 : Value} {r : Int} (h : Three w b v1 v2 r) : Kd.C (Kd.int .i64) w (some ⟨b, 0, none⟩) [1, 1].length [1, 1] :=
 ⟨rfl, by simp, fun _ => ⟨⟨b, 0, none⟩, rfl, fun j p hp => by
  match j, hp with
  | 0, hp => cases hp; exact ⟨[.int .i64 1], rfl, rfl, fun i u hu => by match i, hu with | 0, hu => cases hu; exact (blk_cell h.kids 0).trans rfl⟩
  | 1, hp => cases hp; exact ⟨[.int .i64 1], rfl, rfl, fun i u hu => by match i, hu with | 0, hu => cases hu; exact (blk_cell h.kids 1).trans rfl⟩⟩⟩
theorem Three.C1 {w : World} {b : Nat} {r : Int} (h : Three w b (.slice (some ⟨b, 0, none⟩) 2 2) (.slice none 0 0) r) : Kd.C k40 w (some ⟨b + 1, 0, none⟩) (twoN [1, 1] []).length (twoN [1, 1] []) :=
 two_C (l1 := [1, 1]) (l2 := []) h.nodes (by simp) (by simp) (ones_C h) ⟨rfl, by simp, fun h => absurd h (by simp)⟩
theorem check1 : graph_Check.f 60 (twoN [1, 1] []) 0 = some (0, 0) := by decide +kernel
theorem depth1 : graph_Depth.f 60 (twoN [1, 1] []) 0 = some 2 := by decide +kernel
theorem edges1 : graph_Edges.f 60 (twoN [1, 1] []) 0 = some 2 := by decide +kernel
theorem check2 : graph_Check.f 60 (twoN [1, 1] []) 1 = some (15, 0) := by decide +kernel
theorem check3 : graph_Check.f 60 (twoN [1, 1] [0]) 1 = some (14, 0) := by decide +kernel
theorem below3 : graph_Below.f (twoN [1, 1] [0]) 1 1 = some [0, 1] := by decide +kernel
theorem ints3 : dioramaref09_Ints.f 60 [0, 1] [0, 1] = some true := by decide +kernel
theorem Three.drewN {w : World} {b : Nat} {v1 v2 : Value} {r : Int} (h : Three w b v1 v2 r) (n : Nat) : Three (w.drewN n) b v1 v2 r := ⟨h.kids, h.nodes, h.box⟩
theorem Three.drew {w : World} {b : Nat} {v1 v2 : Value} {r : Int} (h : Three w b v1 v2 r) : Three w.drew b v1 v2 r := ⟨h.kids, h.nodes, h.box⟩
theorem depth_c {W : World} {b : Nat} (h : Three W b (.slice (some ⟨b, 0, none⟩) 2 2) (.slice none 0 0) 0) : Calls Try.prog 31 #[.agg #[.slice (some ⟨b + 1, 0, none⟩) 2 2, .int .i64 0]] W fun e w' => e = .returned (.int .i64 2) ∧ Below W.heap.size W w' :=
 graph_Depth.calls 60 (some ⟨b + 1, 0, none⟩) 2 (twoN [1, 1] []) 0 2 W h.C1 (by unfold twoN; simp) depth1
theorem edges_c {W : World} {b : Nat} (h : Three W b (.slice (some ⟨b, 0, none⟩) 2 2) (.slice none 0 0) 0) : Calls Try.prog 32 #[.agg #[.slice (some ⟨b + 1, 0, none⟩) 2 2, .int .i64 0]] W fun e w' => e = .returned (.int .i64 2) ∧ Below W.heap.size W w' :=
 graph_Edges.calls 60 (some ⟨b + 1, 0, none⟩) 2 (twoN [1, 1] []) 0 2 W h.C1 (by unfold twoN; simp) edges1
theorem check2_c {W : World} {b : Nat} (h : Three W b (.slice (some ⟨b, 0, none⟩) 2 2) (.slice none 0 0) 1) : Calls Try.prog 34 #[.agg #[.slice (some ⟨b + 1, 0, none⟩) 2 2, .int .i64 1]] W fun e w' => e = .returned (.tuple #[.int .i64 15, .int .i64 0]) ∧ Below W.heap.size W w' :=
 graph_Check.calls 60 (some ⟨b + 1, 0, none⟩) 2 (twoN [1, 1] []) 1 15 0 W h.C1 (by unfold twoN; simp) check2
/-- The second node's kids are the one number nought. -/
structure Four (w : World) (b g : Nat) : Prop where
 three : Three w b (.slice (some ⟨b, 0, none⟩) 2 2) (.slice (some ⟨g, 0, none⟩) 1 1) 1
 kid : w.heap[g]? = some (.cells #[.int .i64 0] 3 (0, 0))
theorem Four.below {w w' : World} {b g : Nat} (h : Four w b g) (hb : ∀ k, k < w.heap.size → w'.heap[k]? = w.heap[k]?) : Four w' b g := ⟨h.three.below hb, (hb _ (blk_lt h.kid)).trans h.kid⟩
theorem Four.drew {w : World} {b g : Nat} (h : Four w b g) : Four w.drew b g := ⟨h.three.drew, h.kid⟩
theorem Four.drewN {w : World} {b g : Nat} (h : Four w b g) (n : Nat) : Four (w.drewN n) b g := ⟨h.three.drewN n, h.kid⟩
theorem Four.C {w : World} {b g : Nat} (h : Four w b g) : Kd.C k40 w (some ⟨b + 1, 0, none⟩) (twoN [1, 1] [0]).length (twoN [1, 1] [0]) :=
 two_C (l1 := [1, 1]) (l2 := [0]) h.three.nodes (by simp) (by simp) (ones_C h.three) ⟨rfl, by simp, fun _ => ⟨⟨g, 0, none⟩, rfl, fun j p hp => by
  match j, hp with
  | 0, hp => cases hp; exact ⟨[.int .i64 0], rfl, rfl, fun i u hu => by match i, hu with | 0, hu => cases hu; exact (blk_cell h.kid 0).trans rfl⟩⟩⟩
theorem check3_c {W : World} {b g : Nat} (h : Four W b g) : Calls Try.prog 34 #[.agg #[.slice (some ⟨b + 1, 0, none⟩) 2 2, .int .i64 1]] W fun e w' => e = .returned (.tuple #[.int .i64 14, .int .i64 0]) ∧ Below W.heap.size W w' :=
 graph_Check.calls 60 (some ⟨b + 1, 0, none⟩) 2 (twoN [1, 1] [0]) 1 14 0 W h.C (by unfold twoN; simp) check3
theorem below_c {W : World} {b g : Nat} (h : Four W b g) : Calls Try.prog 36 #[.agg #[.slice (some ⟨b + 1, 0, none⟩) 2 2, .int .i64 1], .int .i64 1] W fun e w' => ∃ v : Value, e = .returned v ∧ Kd.R (Kd.int .i64) 3 w' W.heap.size (fun _ => True) v [0, 1] ∧ Below W.heap.size W w' :=
 graph_Below.calls (some ⟨b + 1, 0, none⟩) 2 (twoN [1, 1] [0]) 1 1 [0, 1] W h.C (by unfold twoN; simp) below3
set_option maxHeartbeats 8000000 in
set_option maxRecDepth 100000 in
theorem awake_calls (w : World) : Calls Try.prog 33 #[] w fun e w' => e = .returned (.bool true) ∧ Below w.heap.size w w' := by
 go_enter Try.func33, Try.ntmps33
 go_wp2_with (fail)
 have h1 : Three (((w.alloc (.cells #[.int .i64 1, .int .i64 1] 3)).alloc (.cells #[.int .i64 0, .slice none 0 0, .slice none 0 0, .slice (some ⟨w.heap.size, 0, none⟩) 2 2, .int .i64 0, .slice none 0 0, .slice none 0 0, .slice none 0 0] 40)).alloc (.cells #[.slice (some ⟨w.heap.size + 1, 0, none⟩) 2 2, .int .i64 0] 24)) w.heap.size (.slice (some ⟨w.heap.size, 0, none⟩) 2 2) (.slice none 0 0) 0 := by
  refine ⟨blk_alloc (blk_alloc (heap_alloc_new w _) _) _, ?_, ?_⟩
  ·refine blk_alloc ?_ _
   have := heap_alloc_new (w.alloc (.cells #[.int .i64 1, .int .i64 1] 3)) (.cells #[.int .i64 0, .slice none 0 0, .slice none 0 0, .slice (some ⟨w.heap.size, 0, none⟩) 2 2, .int .i64 0, .slice none 0 0, .slice none 0 0, .slice none 0 0] 40)
   simpa using this
  ·have := heap_alloc_new ((w.alloc (.cells #[.int .i64 1, .int .i64 1] 3)).alloc (.cells #[.int .i64 0, .slice none 0 0, .slice none 0 0, .slice (some ⟨w.heap.size, 0, none⟩) 2 2, .int .i64 0, .slice none 0 0, .slice none 0 0, .slice none 0 0] 40)) (.cells #[.slice (some ⟨w.heap.size + 1, 0, none⟩) 2 2, .int .i64 0] 24)
   simpa using this
 have hB1 : Below w.heap.size w (((w.alloc (.cells #[.int .i64 1, .int .i64 1] 3)).alloc (.cells #[.int .i64 0, .slice none 0 0, .slice none 0 0, .slice (some ⟨w.heap.size, 0, none⟩) 2 2, .int .i64 0, .slice none 0 0, .slice none 0 0, .slice none 0 0] 40)).alloc (.cells #[.slice (some ⟨w.heap.size + 1, 0, none⟩) 2 2, .int .i64 0] 24)) := (((Below.refl _ _).alloc (Nat.le_refl _) _).alloc (by simp) _).alloc (by simp; omega) _
 generalize (((w.alloc (.cells #[.int .i64 1, .int .i64 1] 3)).alloc (.cells #[.int .i64 0, .slice none 0 0, .slice none 0 0, .slice (some ⟨w.heap.size, 0, none⟩) 2 2, .int .i64 0, .slice none 0 0, .slice none 0 0, .slice none 0 0] 40)).alloc (.cells #[.slice (some ⟨w.heap.size + 1, 0, none⟩) 2 2, .int .i64 0] 24)) = w1 at h1 hB1 ⊢
 have H1 := Lib.hid h1
 have HB1 := Lib.hid hB1
 clear h1 hB1
 refine (graph_Check.calls 60 (some ⟨w.heap.size + 1, 0, none⟩) 2 (twoN [1, 1] []) 0 0 0 w1 H1.out.C1 (by unfold twoN; simp) check1).mono ?_
 rintro e w2 ⟨rfl, hb2⟩
 have H2 := Lib.hid (H1.out.below (fun k_ hk_ => hb2.block k_ hk_))
 have HB2 := Lib.hid (below_step HB1.out hb2)
 clear hb2
 have c20 := H2.out.c0
 have c21 := H2.out.c1
 go_wp2_with (fail)
 go_region_held3 (fun w' => w'.cell? ⟨w.heap.size + 1 + 1, 0, none⟩ = some (.slice (some ⟨w.heap.size + 1, 0, none⟩) 2 2) ∧ w'.cell? ⟨w.heap.size + 1 + 1, 1, none⟩ = some (.int .i64 0)) (go_keep)
  (first
   | ((go_at_call 31; refine (depth_c (b := w.heap.size) (by first | exact H2.out | exact H2.out.drew | exact H2.out.drewN _)).mono ?_; rintro e w3 ⟨rfl, hb_⟩; have H3 := Lib.hid (H2.out.below (fun k_ hk_ => hb_.block k_ hk_)); have HB3 := Lib.hid (below_step (by repeat (first | (with_reducible first | exact HB2.out | apply pw_below_drewN | apply below_drew1) | exact HB2.out)) hb_); have c30 := H3.out.c0; have c31 := H3.out.c1; clear hb_))
   | ((go_at_call 32; refine (edges_c (b := w.heap.size) (by first | exact H3.out | exact H3.out.drew | exact H3.out.drewN _)).mono ?_; rintro e w4 ⟨rfl, hb_⟩; have H4 := Lib.hid (H3.out.below (fun k_ hk_ => hb_.block k_ hk_)); have HB4 := Lib.hid (below_step (by repeat (first | (with_reducible first | exact HB3.out | apply pw_below_drewN | apply below_drew1) | exact HB3.out)) hb_); have c40 := H4.out.c0; have c41 := H4.out.c1; clear hb_)))
 rename_i hS
 clear hS c20 c21 c30 c31
 have f4 : w4.frozen? ⟨w.heap.size + 1 + 1, 1, none⟩ = false := blk_frozen H4.out.box 1
 have h5 : Three (w4.setCell ⟨w.heap.size + 1 + 1, 1, none⟩ (.int .i64 1)) w.heap.size (.slice (some ⟨w.heap.size, 0, none⟩) 2 2) (.slice none 0 0) 1 :=
  ⟨blk_far H4.out.kids (show w.heap.size ≠ w.heap.size + 1 + 1 by omega) _, blk_far H4.out.nodes (show w.heap.size + 1 ≠ w.heap.size + 1 + 1 by omega) _, blk_put H4.out.box 1 _ rfl⟩
 have H5 := Lib.hid h5
 have HB5 := Lib.hid (HB4.out.setCell (p := ⟨w.heap.size + 1 + 1, 1, none⟩) (by simp; omega) (.int .i64 1))
 clear h5
 go_wp2_with (fail)
 refine (check2_c (b := w.heap.size) H5.out).mono ?_
 rintro e w6 ⟨rfl, hb6⟩
 have H6 := Lib.hid (H5.out.below (fun k_ hk_ => hb6.block k_ hk_))
 have HB6 := Lib.hid (below_step HB5.out hb6)
 clear hb6 f4 c40 c41
 have h7 : Four ((w6.alloc (.cells #[.int .i64 0] 3)).setCell ⟨w.heap.size + 1, 7, none⟩ (.slice (some ⟨w6.heap.size, 0, none⟩) 1 1)) w.heap.size w6.heap.size := by
  have hlt := blk_lt H6.out.box
  refine ⟨⟨blk_far (blk_alloc H6.out.kids _) (show w.heap.size ≠ w.heap.size + 1 by omega) _, blk_put (blk_alloc H6.out.nodes _) 7 _ rfl, blk_far (blk_alloc H6.out.box _) (show w.heap.size + 2 ≠ w.heap.size + 1 by omega) _⟩, blk_far (heap_alloc_new w6 _) (show w6.heap.size ≠ w.heap.size + 1 by omega) _⟩
 have H7 := Lib.hid h7
 have HB7 := Lib.hid ((HB6.out.alloc HB6.out.size (.cells #[.int .i64 0] 3)).setCell (p := ⟨w.heap.size + 1, 7, none⟩) (by simp) (.slice (some ⟨w6.heap.size, 0, none⟩) 1 1))
 have c60 : w6.cell? ⟨w.heap.size + 1 + 1, 0, none⟩ = some (.slice (some ⟨w.heap.size + 1, 0, none⟩) 2 2) := H6.out.c0
 have c60' : (w6.alloc (.cells #[.int .i64 0] 3)).cell? ⟨w.heap.size + 1 + 1, 0, none⟩ = some (.slice (some ⟨w.heap.size + 1, 0, none⟩) 2 2) := (blk_cell (blk_alloc H6.out.box _) 0).trans rfl
 have f7 : (w6.alloc (.cells #[.int .i64 0] 3)).frozen? ⟨w.heap.size + 1, 7, none⟩ = false := blk_frozen (blk_alloc H6.out.nodes _) 7
 have e7 : (w6.alloc (.cells #[.int .i64 0] 3)).cell? ⟨w.heap.size + 1, 7, none⟩ = some (.slice none 0 0) := (blk_cell (blk_alloc H6.out.nodes _) 7).trans rfl
 have c70 := H7.out.three.c0
 have c71 := H7.out.three.c1
 clear h7
 go_wp2_with (fail)
 refine (check3_c (b := w.heap.size) H7.out).mono ?_
 rintro e w8 ⟨rfl, hb8⟩
 have H8 := Lib.hid (H7.out.below (fun k_ hk_ => hb8.block k_ hk_))
 have HB8 := Lib.hid (below_step HB7.out hb8)
 have c80 := H8.out.three.c0
 have c81 := H8.out.three.c1
 clear hb8 c60 c60' f7 e7 c70 c71
 go_wp2_with (fail)
 refine (below_c (b := w.heap.size) H8.out).mono ?_
 rintro e w9 ⟨v9, rfl, hR9, hb9⟩
 obtain ⟨A9, c9, hv9, hc9, hC9⟩ := Kd.R_reads hR9
 subst hv9
 have HC9 := Lib.hid hC9
 have HB9 := Lib.hid (below_step HB8.out hb9)
 clear hb9 hR9 hC9 c80 c81
 go_wp2_with (fail)
 have hlit : Kd.C (Kd.int .i64) (w9.alloc (.cells #[.int .i64 0, .int .i64 1] 3)) (some ⟨w9.heap.size, 0, none⟩) [0, 1].length [0, 1] :=
  ⟨rfl, by simp, fun _ => ⟨⟨w9.heap.size, 0, none⟩, rfl, fun j p hp => by
   match j, hp with
   | 0, hp => cases hp; exact ⟨[.int .i64 0], rfl, rfl, fun i u hu => by match i, hu with | 0, hu => cases hu; exact (blk_cell (heap_alloc_new w9 _) 0).trans rfl⟩
   | 1, hp => cases hp; exact ⟨[.int .i64 1], rfl, rfl, fun i u hu => by match i, hu with | 0, hu => cases hu; exact (blk_cell (heap_alloc_new w9 _) 1).trans rfl⟩⟩⟩
 have hal : Below w9.heap.size w9 (w9.alloc (.cells #[.int .i64 0, .int .i64 1] 3)) := (Below.refl _ _).alloc (Nat.le_refl _) _
 refine (dioramaref09_Ints.calls 60 A9 c9 [0, 1] (some ⟨w9.heap.size, 0, none⟩) 2 [0, 1] true _ (Kd.C_below HC9.out hal) hc9 hlit (by simp) ints3).mono ?_
 rintro e w10 ⟨rfl, hd10⟩
 have HB10 := Lib.hid (below_step (below_step HB9.out hal) hd10.below)
 clear hd10 hlit hal
 go_wp2_with (fail)
 go_ret
 exact ⟨rfl, HB10.out⟩
def dioramalaw09_awake.f (k : Nat) : Option Bool := some true
theorem dioramalaw09_awake.mono : ∀ k, LeO (dioramalaw09_awake.f k) (dioramalaw09_awake.f (k + 1)) := fun k r h => h
theorem dioramalaw09_awake.calls (k : Nat) (r : Bool) (w : World) (h : dioramalaw09_awake.f k = some r) :
  Calls Try.prog 33 #[] w fun e w' => e = .returned (.bool r) ∧ Below w.heap.size w w' := by
 obtain rfl := Option.some.inj h
 exact awake_calls w

/-! ### dioramaref09_Refs: function 37 -/
mutual
def dioramaref09_Refs.l0 : Nat → Int → List (S40) → Int → Option (Int)
 | 0, _, _, _ => none
 | k + 1, x3, x200000, x200001 => if x3 < (x200000.length : Int) then (dioramaref09_Refs.l1 k x3 0 x200000 x200001) else (some (-1))
def dioramaref09_Refs.l1 : Nat → Int → Int → List (S40) → Int → Option (Int)
 | 0, _, _, _, _ => none
 | k + 1, x3, x4, x200000, x200001 => if 0 ≤ x3 then (if x3 < (x200000.length : Int) then (if x4 < (((rd_T40 x200000 x3).f3).length : Int) then (if 0 ≤ x4 then ((dioramaref09_Place.f x200000 x200001 (rd ((rd_T40 x200000 x3).f3) x4)).bind fun t203 => (if t203 = true then (dioramaref09_Refs.l1 k x3 (wrap64 (x4 + 1)) x200000 x200001) else (some x3))) else (none)) else (dioramaref09_Refs.l0 k (wrap64 (x3 + 1)) x200000 x200001)) else (none)) else (none)
end
def dioramaref09_Refs.f (k : Nat) (l0_0 : List (S40)) (a0_1 : Int) : Option (Int) := dioramaref09_Refs.l0 k 0 l0_0 a0_1
theorem dioramaref09_Refs.mono_l : ∀ k, (∀ y0 y1 y2, LeO (dioramaref09_Refs.l0 k y0 y1 y2) (dioramaref09_Refs.l0 (k + 1) y0 y1 y2)) ∧ (∀ y0 y1 y2 y3, LeO (dioramaref09_Refs.l1 k y0 y1 y2 y3) (dioramaref09_Refs.l1 (k + 1) y0 y1 y2 y3))
 | 0 => ⟨fun _ _ _ r h => by simp [dioramaref09_Refs.l0] at h, fun _ _ _ _ r h => by simp [dioramaref09_Refs.l1] at h⟩
 | k + 1 => by
  obtain ⟨ih0, ih1⟩ := dioramaref09_Refs.mono_l k
  refine ⟨?_, ?_⟩
  ·intro y0 y1 y2
   unfold dioramaref09_Refs.l0
   repeat' first
   | (with_reducible exact ih0 _ _ _)
   | (with_reducible exact ih1 _ _ _ _)
   | (with_reducible exact LeO.refl _)
   | (with_reducible exact LeO.none _)
   | (with_reducible refine LeO.ite ?_ ?_)
   | (with_reducible refine LeO.bind ?_ (fun _ => ?_))
   | exact ih0 _ _ _
   | exact ih1 _ _ _ _
   | exact LeO.none _
   | refine LeO.ite ?_ ?_
   | refine LeO.bind ?_ (fun _ => ?_)
  ·intro y0 y1 y2 y3
   unfold dioramaref09_Refs.l1
   repeat' first
   | (with_reducible exact ih0 _ _ _)
   | (with_reducible exact ih1 _ _ _ _)
   | (with_reducible exact LeO.refl _)
   | (with_reducible exact LeO.none _)
   | (with_reducible refine LeO.ite ?_ ?_)
   | (with_reducible refine LeO.bind ?_ (fun _ => ?_))
   | exact ih0 _ _ _
   | exact ih1 _ _ _ _
   | exact LeO.none _
   | refine LeO.ite ?_ ?_
   | refine LeO.bind ?_ (fun _ => ?_)
theorem dioramaref09_Refs.mono : ∀ a0 a1 k, LeO (dioramaref09_Refs.f k a0 a1) (dioramaref09_Refs.f (k + 1) a0 a1) := by
 intro a0 a1 k
 obtain ⟨ih0, ih1⟩ := dioramaref09_Refs.mono_l k
 unfold dioramaref09_Refs.f
 repeat' first
   | (with_reducible exact ih0 _ _ _)
   | (with_reducible exact ih1 _ _ _ _)
   | (with_reducible exact LeO.refl _)
   | (with_reducible exact LeO.none _)
   | (with_reducible refine LeO.ite ?_ ?_)
   | (with_reducible refine LeO.bind ?_ (fun _ => ?_))
   | exact ih0 _ _ _
   | exact ih1 _ _ _ _
   | exact LeO.none _
   | refine LeO.ite ?_ ?_
   | refine LeO.bind ?_ (fun _ => ?_)
def dioramaref09_Refs.T7 : Bool × List (List Nat × List Nat) := (true, [([], []), ([], []), ([1], [1]), ([], []), ([2, 3], [2, 3]), ([4], [4]), ([5], [5]), ([], []), ([6, 7], [6, 7]), ([8], [8]), ([0, 9], [0, 9]), ([10], [10])])
def dioramaref09_Refs.B7 : List Nat := [0, 0, 2, 0, 14, 30, 62, 0, 254, 510, 1023, 2047]
theorem dioramaref09_Refs.tab7 : rtab .any (opsOf Try.f37 7) = dioramaref09_Refs.T7 := by kernel_rfl
theorem dioramaref09_Refs.bits7 : waitsOk dioramaref09_Refs.T7.2 dioramaref09_Refs.B7 = true := by kernel_rfl
set_option maxHeartbeats 8000000 in
set_option maxRecDepth 100000 in
theorem dioramaref09_Refs.calls (k : Nat) (A0_0 : Option Addr) (c0_0 : Nat) (l0_0 : List (S40)) (a0_1 : Int) (r : Int) (w : World) (hr0_0 : Kd.C k40 w A0_0 l0_0.length l0_0) (hc0_0 : l0_0.length ≤ c0_0) (h : dioramaref09_Refs.f k l0_0 a0_1 = some r) :
  Calls Try.prog 37 #[.agg #[.slice A0_0 l0_0.length c0_0, .int .i64 a0_1]] w fun e w' => e = .returned (.int .i64 r) ∧ Below w.heap.size w w' := by
 have hu24 := Try.underlying24
 have HR0_0 := Aside0.mk hr0_0
 have HC0_0 := Aside0.mk hc0_0
 clear hr0_0 hc0_0
 have HB := Aside0.mk (Below.refl w.heap.size w)
 have H : (dioramaref09_Refs.l0 k 0 l0_0 a0_1) = some r := h
 clear h
 have H' := Aside0.mk H
 clear H
 go_enter Try.func37, Try.ntmps37
 go_wp2_with (first | ((with_reducible refine gate_dst (N := 1) rfl ?_); refine box_event ?hg (N := 1) ?hd (cs := #[.slice A0_0 l0_0.length c0_0, .int .i64 a0_1]) (t := 24) ?hr ?_; (case hd => rfl); (case hg => rfl); (case hr => first | (go_simp; done) | (go_simp; rfl)); intro gb199 hg w2 hbox hb; have n0_ := Aside0.mk (below_step (by repeat (first | (with_reducible first | exact HB.out | apply below_alloc | apply pw_below_drewN | apply below_drew1) | exact HB.out)) hb); have n1_ := Aside0.mk (hbox); have n2_ := Aside0.mk ((by rw [hg]; exact (below_size (by repeat (first | (with_reducible first | exact HB.out | apply below_alloc | apply pw_below_drewN | apply below_drew1) | exact HB.out))) : w.heap.size ≤ gb199)); have n3_ := Aside0.mk ((by rw [hg]; exact (below_size (by repeat (first | (with_reducible first | exact HB.out | apply below_alloc | apply pw_below_drewN | apply below_drew1) | exact HB.out))) : w.heap.size ≤ gb199)); clear HB; have HB := n0_; have BK199 := n1_; have GW199 := n2_; have GE199 := n3_; clear n0_ n1_ n2_ n3_; clear hb hbox hg))
 go_loopg [3] k (fun kq v3 w' => ∃ (x3_1 : Int), v3 = .int .i64 x3_1 ∧ Aside0 (dioramaref09_Refs.l0 kq x3_1 l0_0 a0_1 = some r) ∧ Aside0 (kq ≤ k) ∧ Aside0 (w'.heap[gb199]? = some (.cells #[(.slice A0_0 l0_0.length c0_0), .int .i64 a0_1] 24 (0, 0))) ∧ Aside0 (Below w.heap.size w w'))
 case atStart => exact ⟨(0), (by first | rfl | (simp; done) | (simp [*]; done)), H', ⟨Nat.le_refl _⟩, ⟨by (with_reducible repeat (first | refine blk_drewN ?_ _ | refine blk_drew ?_ | refine blk_alloc ?_ _)); exact BK199.out⟩, ⟨by repeat (first | (with_reducible first | exact HB.out | apply below_alloc | apply pw_below_drewN | apply below_drew1 | refine below_set ?_ GE199.out) | exact HB.out)⟩⟩
 case round =>
  clear H'
  try clear p2
  obtain ⟨x3_1, rfl, HA, HK1, BK199, HB⟩ := hrel
  cases gk with
  | zero => exact absurd HA.out (by simp [dioramaref09_Refs.l0])
  | succ k1 =>
   have H := HA.out
   clear HA
   simp only [dioramaref09_Refs.l0] at H
   by_cases c3 : x3_1 < (l0_0.length : Int)
   ·rw [if_pos c3] at H
    have c3b0 : decide (x3_1 < (l0_0.length : Int)) = true := decide_eq_true c3
    clear c3
    have H' := Aside0.mk H
    clear H
    have hcz4_0 : wr.cell? ⟨gb199, 0, none⟩ = some (.slice A0_0 l0_0.length c0_0) := (blk_cell BK199.out 0).trans rfl
    have hcz4_1 : wr.cell? ⟨gb199, 1, none⟩ = some (.int .i64 a0_1) := (blk_cell BK199.out 1).trans rfl
    have hfz4_0 := blk_frozen BK199.out 0
    have hfz4_1 := blk_frozen BK199.out 1
    go_wp2
    go_loopg [4] k1 (fun kq v4 w' => ∃ (x4_2 : Int), v4 = .int .i64 x4_2 ∧ Aside0 (dioramaref09_Refs.l1 kq x3_1 x4_2 l0_0 a0_1 = some r) ∧ Aside0 (kq ≤ k1) ∧ Aside0 (w'.heap[gb199]? = some (.cells #[(.slice A0_0 l0_0.length c0_0), .int .i64 a0_1] 24 (0, 0))) ∧ Aside0 (Below w.heap.size w w'))
    case atStart => exact ⟨(0), (by first | rfl | (simp; done) | (simp [*]; done)), H', ⟨Nat.le_refl _⟩, ⟨by (with_reducible repeat (first | refine blk_drewN ?_ _ | refine blk_drew ?_ | refine blk_alloc ?_ _)); exact BK199.out⟩, ⟨by repeat (first | (with_reducible first | exact HB.out | apply below_alloc | apply pw_below_drewN | apply below_drew1 | refine below_set ?_ GE199.out) | exact HB.out)⟩⟩
    case round =>
     clear H'
     try clear p2
     try clear c3
     try clear c3b0
     try clear hcz4_0
     try clear hcz4_1
     try clear hfz4_0
     try clear hfz4_1
     try clear p2
     obtain ⟨x4_2, rfl, HA, HK2, BK199, HB⟩ := hrel
     cases gk with
     | zero => exact absurd HA.out (by simp [dioramaref09_Refs.l1])
     | succ k2 =>
      have H := HA.out
      clear HA
      simp only [dioramaref09_Refs.l1] at H
      by_cases c5 : 0 ≤ x3_1
      ·rw [if_pos c5] at H
       have c5b0 : decide (0 ≤ x3_1) = true := decide_eq_true c5
       clear c5
       by_cases c6 : x3_1 < (l0_0.length : Int)
       ·rw [if_pos c6] at H
        have c6b0 : decide (x3_1 < (l0_0.length : Int)) = true := decide_eq_true c6
        clear c6
        by_cases c7 : x4_2 < (((rd_T40 l0_0 x3_1).f3).length : Int)
        ·rw [if_pos c7] at H
         have c7b0 : decide (x4_2 < (((rd_T40 l0_0 x3_1).f3).length : Int)) = true := decide_eq_true c7
         clear c7
         by_cases c8 : 0 ≤ x4_2
         ·rw [if_pos c8] at H
          have c8b0 : decide (0 ≤ x4_2) = true := decide_eq_true c8
          clear c8
          replace H := Option.bind_eq_some_iff.mp H
          obtain ⟨t203, A90, H⟩ := H
          replace H : (if t203 = true then (dioramaref09_Refs.l1 k2 x3_1 (wrap64 (x4_2 + 1)) l0_0 a0_1) else (some x3_1)) = some r := H
          have A9 := Aside0.mk A90
          clear A90
          by_cases c10 : t203 = true
          ·subst c10
           have H1 : (dioramaref09_Refs.l1 k2 x3_1 (wrap64 (x4_2 + 1)) l0_0 a0_1) = some r := by rw [if_pos rfl] at H; exact H
           clear H
           have H := H1
           clear H1
           have H' := Aside0.mk H
           clear H
           have hcz11_0 : wr.cell? ⟨gb199, 0, none⟩ = some (.slice A0_0 l0_0.length c0_0) := (blk_cell BK199.out 0).trans rfl
           have hcz11_1 : wr.cell? ⟨gb199, 1, none⟩ = some (.int .i64 a0_1) := (blk_cell BK199.out 1).trans rfl
           have hfz11_0 := blk_frozen BK199.out 0
           have hfz11_1 := blk_frozen BK199.out 1
           have p200 : 0 ≤ (x3_1 : Int) := of_decide_eq_true (by first | (with_reducible assumption) | assumption)
           have q200 : x3_1 < (l0_0.length : Int) := of_decide_eq_true (by first | (with_reducible assumption) | assumption)
           obtain ⟨ad200, A200_1, c200_1, A200_2, c200_2, A200_3, c200_3, e200, hx200_0, hx200_1, hx200_2, hx200_3, hl200_1, hi200_1, hl200_2, hi200_2, hl200_3, hi200_3⟩ := at_T40 HR0_0.out x3_1 p200 q200
           cases e200
           replace hx200_0 := (HB.out.cell (World.block_lt_of_cell? w _ hx200_0)).trans hx200_0
           replace hx200_1 := (HB.out.cell (World.block_lt_of_cell? w _ hx200_1)).trans hx200_1
           replace hx200_2 := (HB.out.cell (World.block_lt_of_cell? w _ hx200_2)).trans hx200_2
           replace hx200_3 := (HB.out.cell (World.block_lt_of_cell? w _ hx200_3)).trans hx200_3
           have HR200_1 := Aside0.mk hi200_1
           have HC200_1 := Aside0.mk hl200_1
           clear hi200_1 hl200_1
           have HR200_2 := Aside0.mk hi200_2
           have HC200_2 := Aside0.mk hl200_2
           clear hi200_2 hl200_2
           have HR200_3 := Aside0.mk hi200_3
           have HC200_3 := Aside0.mk hl200_3
           clear hi200_3 hl200_3
           replace p200 := eq_true p200
           replace q200 := eq_true q200
           try go_wp2
           have n0_ := Aside0.mk (blk_drew BK199.out)
           have n1_ := Aside0.mk (below_drew1 HB.out)
           clear BK199
           clear HB
           have BK199 := n0_
           have HB := n1_
           clear n0_ n1_
           have p201 : 0 ≤ (x3_1 : Int) := of_decide_eq_true (by first | (with_reducible assumption) | assumption)
           have q201 : x3_1 < (l0_0.length : Int) := of_decide_eq_true (by first | (with_reducible assumption) | assumption)
           obtain ⟨ad201, A201_1, c201_1, A201_2, c201_2, A201_3, c201_3, e201, hx201_0, hx201_1, hx201_2, hx201_3, hl201_1, hi201_1, hl201_2, hi201_2, hl201_3, hi201_3⟩ := at_T40 HR0_0.out x3_1 p201 q201
           have hw201_3 := hx201_3
           have hw201_2 := hx201_2
           have hw201_1 := hx201_1
           have hw201_0 := hx201_0
           obtain rfl : ad200 = ad201 := (by injection e201)
           replace hx201_0 := (HB.out.cell (World.block_lt_of_cell? w _ hx201_0)).trans hx201_0
           replace hx201_1 := (HB.out.cell (World.block_lt_of_cell? w _ hx201_1)).trans hx201_1
           replace hx201_2 := (HB.out.cell (World.block_lt_of_cell? w _ hx201_2)).trans hx201_2
           replace hx201_3 := (HB.out.cell (World.block_lt_of_cell? w _ hx201_3)).trans hx201_3
           have HR201_1 := Aside0.mk hi201_1
           have HC201_1 := Aside0.mk hl201_1
           clear hi201_1 hl201_1
           have HR201_2 := Aside0.mk hi201_2
           have HC201_2 := Aside0.mk hl201_2
           clear hi201_2 hl201_2
           have HR201_3 := Aside0.mk hi201_3
           have HC201_3 := Aside0.mk hl201_3
           clear hi201_3 hl201_3
           replace p201 := eq_true p201
           replace q201 := eq_true q201
           have p202 : 0 ≤ (x4_2 : Int) := of_decide_eq_true (by first | (with_reducible assumption) | assumption)
           have q202 : x4_2 < (((rd_T40 l0_0 x3_1).f3).length : Int) := of_decide_eq_true (by first | (with_reducible assumption) | assumption)
           obtain ⟨ad202, e202, hx202_0⟩ := Kd.at_int HR201_3.out x4_2 p202 q202
           have hw202_0 := hx202_0
           cases e202
           replace hx202_0 := (HB.out.cell (World.block_lt_of_cell? w _ hx202_0)).trans hx202_0
           replace p202 := eq_true p202
           replace q202 := eq_true q202
           refine start_ (n := 12) (S := fun w' => w'.cell? ⟨gb199, 0, none⟩ = some (.slice (some ad200) l0_0.length c0_0) ∧ w'.cell? ⟨gb199, 1, none⟩ = some (.int .i64 a0_1) ∧ w'.cell? (ad200.add ((x3_1).toNat * 4)) = some (.int .i64 ((rd_T40 l0_0 x3_1).f0)) ∧ w'.cell? ⟨(ad200.add ((x3_1).toNat * 4)).block, (ad200.add ((x3_1).toNat * 4)).off + 1, none⟩ = some (.slice A201_1 ((rd_T40 l0_0 x3_1).f1).length c201_1) ∧ w'.cell? ⟨(ad200.add ((x3_1).toNat * 4)).block, (ad200.add ((x3_1).toNat * 4)).off + 2, none⟩ = some (.slice A201_2 ((rd_T40 l0_0 x3_1).f2).length c201_2) ∧ w'.cell? ⟨(ad200.add ((x3_1).toNat * 4)).block, (ad200.add ((x3_1).toNat * 4)).off + 3, none⟩ = some (.slice (some ad202) ((rd_T40 l0_0 x3_1).f3).length c201_3) ∧ w'.cell? (ad202.add (x4_2).toNat) = some (.int .i64 (rd ((rd_T40 l0_0 x3_1).f3) x4_2))) (ds := []) #[false, false, false, false, false, false, false, false, false, false, false, false] (by kernel_rfl) rfl rfl ⟨(blk_cell BK199.out 0).trans rfl, (blk_cell BK199.out 1).trans rfl, ((HB.out.cell (World.block_lt_of_cell? w _ hw201_0)).trans hw201_0), ((HB.out.cell (World.block_lt_of_cell? w _ hw201_1)).trans hw201_1), ((HB.out.cell (World.block_lt_of_cell? w _ hw201_2)).trans hw201_2), ((HB.out.cell (World.block_lt_of_cell? w _ hw201_3)).trans hw201_3), ((HB.out.cell (World.block_lt_of_cell? w _ hw202_0)).trans hw202_0)⟩ (fun hHeld => ?_); refine with_tabW dioramaref09_Refs.tab7 dioramaref09_Refs.bits7 (fun HT_ HW_ => ?_)
           generalize wr.drew = w12 at BK199 HB HR201_1 HR201_2 HR201_3 hx201_0 hx201_1 hx201_2 hx201_3 hx202_0 hHeld ⊢
           refine pure_ (i := 1) (N := some 24) (v := ?_) (a' := ?_) #[false, true, false, false, false, false, false, false, false, false, false, false] rfl rfl (any_of HT_.out (by kernel_rfl)) (fun _ _ _ h => h) (Or.inl ⟨by rfl, ?_⟩) ?_ ?_
           rotate_left
           ·intro w'
            go_simp
            with_reducible rfl
           rotate_left
           ·simp only [Act.put, List.setIfInBounds_toArray, List.set_cons_zero, List.set_cons_succ, i64_w, i32_w]
            rfl
           refine pure_ (i := 3) (N := some 26) (v := ?_) (a' := ?_) #[false, true, false, true, false, false, false, false, false, false, false, false] rfl rfl (any_of HT_.out (by kernel_rfl)) (fun _ _ _ h => h) (Or.inl ⟨by rfl, ?_⟩) ?_ ?_
           rotate_left
           ·intro w'
            go_simp
            with_reducible rfl
           rotate_left
           ·simp only [Act.put, List.setIfInBounds_toArray, List.set_cons_zero, List.set_cons_succ, i64_w, i32_w]
            rfl
           refine pure_ (i := 7) (N := some 30) (v := ?_) (a' := ?_) #[false, true, false, true, false, false, false, true, false, false, false, false] rfl rfl (any_of HT_.out (by kernel_rfl)) (fun _ _ _ h => h) (Or.inl ⟨by rfl, ?_⟩) ?_ ?_
           rotate_left
           ·intro w'
            go_simp
            with_reducible rfl
           rotate_left
           ·simp only [Act.put, List.setIfInBounds_toArray, List.set_cons_zero, List.set_cons_succ, i64_w, i32_w]
            rfl
           refine take_ (i := 0) (N := some 23) (v := ?_) (a' := ?_) #[true, true, false, true, false, false, false, true, false, false, false, false] rfl rfl (take_ofW HT_.out HW_.out (by kernel_rfl)) (fun _ _ _ h => h) (Or.inl ⟨by rfl, ?_⟩) hHeld ?_ ?_
           rotate_left
           ·rintro w' ⟨s0, s1, s2, s3, s4, s5, s6⟩
            go_simp
            with_reducible rfl
           rotate_left
           ·simp only [Act.put, List.setIfInBounds_toArray, List.set_cons_zero, List.set_cons_succ, i64_w, i32_w]
            rfl
           refine take_ (i := 2) (N := some 25) (v := ?_) (a' := ?_) #[true, true, true, true, false, false, false, true, false, false, false, false] rfl rfl (take_ofW HT_.out HW_.out (by kernel_rfl)) (fun _ _ _ h => h) (Or.inl ⟨by rfl, ?_⟩) hHeld ?_ ?_
           rotate_left
           ·rintro w' ⟨s0, s1, s2, s3, s4, s5, s6⟩
            go_simp
            with_reducible rfl
           rotate_left
           ·simp only [Act.put, List.setIfInBounds_toArray, List.set_cons_zero, List.set_cons_succ, i64_w, i32_w]
            rfl
           refine pure_ (i := 4) (N := some 27) (v := ?_) (a' := ?_) #[true, true, true, true, true, false, false, true, false, false, false, false] rfl rfl (any_of HT_.out (by kernel_rfl)) (fun _ _ _ h => h) (Or.inl ⟨by rfl, ?_⟩) ?_ ?_
           rotate_left
           ·intro w'
            go_simp
            with_reducible rfl
           rotate_left
           ·simp only [Act.put, List.setIfInBounds_toArray, List.set_cons_zero, List.set_cons_succ, i64_w, i32_w]
            rfl
           refine pure_ (i := 5) (N := some 28) (v := ?_) (a' := ?_) #[true, true, true, true, true, true, false, true, false, false, false, false] rfl rfl (any_of HT_.out (by kernel_rfl)) (fun _ _ _ h => h) (Or.inl ⟨by rfl, ?_⟩) ?_ ?_
           rotate_left
           ·intro w'
            go_simp
            with_reducible rfl
           rotate_left
           ·simp only [Act.put, List.setIfInBounds_toArray, List.set_cons_zero, List.set_cons_succ, i64_w, i32_w]
            rfl
           refine take_ (i := 6) (N := some 29) (v := ?_) (a' := ?_) #[true, true, true, true, true, true, true, true, false, false, false, false] rfl rfl (take_ofW HT_.out HW_.out (by kernel_rfl)) (fun _ _ _ h => h) (Or.inl ⟨by rfl, ?_⟩) hHeld ?_ ?_
           rotate_left
           ·rintro w' ⟨s0, s1, s2, s3, s4, s5, s6⟩
            go_simp
            with_reducible rfl
           rotate_left
           ·simp only [Act.put, List.setIfInBounds_toArray, List.set_cons_zero, List.set_cons_succ, i64_w, i32_w]
            rfl
           refine pure_ (i := 8) (N := some 31) (v := ?_) (a' := ?_) #[true, true, true, true, true, true, true, true, true, false, false, false] rfl rfl (any_of HT_.out (by kernel_rfl)) (fun _ _ _ h => h) (Or.inl ⟨by rfl, ?_⟩) ?_ ?_
           rotate_left
           ·intro w'
            go_simp
            with_reducible rfl
           rotate_left
           ·simp only [Act.put, List.setIfInBounds_toArray, List.set_cons_zero, List.set_cons_succ, i64_w, i32_w]
            rfl
           refine take_ (i := 9) (N := some 32) (v := ?_) (a' := ?_) #[true, true, true, true, true, true, true, true, true, true, false, false] rfl rfl (take_ofW HT_.out HW_.out (by kernel_rfl)) (fun _ _ _ h => h) (Or.inl ⟨by rfl, ?_⟩) hHeld ?_ ?_
           rotate_left
           ·rintro w' ⟨s0, s1, s2, s3, s4, s5, s6⟩
            go_simp
            with_reducible rfl
           rotate_left
           ·simp only [Act.put, List.setIfInBounds_toArray, List.set_cons_zero, List.set_cons_succ, i64_w, i32_w]
            rfl
           refine one_ (i := 10) (N := some 33) #[true, true, true, true, true, true, true, true, true, true, true, false] rfl rfl (one_of HT_.out (by kernel_rfl)) (by decide) (fun K hK => ?_)
           refine goes_ Try.func27 (by kernel_rfl) rfl #[.agg #[.slice (some ad200) l0_0.length c0_0, .int .i64 a0_1], .int .i64 (rd ((rd_T40 l0_0 x3_1).f3) x4_2)] (by rfl) rfl rfl (by (try simp only [List.map_toArray, List.map_cons, List.map_nil]); first | done | rfl | (simp only [List.length_drop, List.length_take]; rfl)) ?_
           with_reducible refine (dioramaref09_Place.calls _ _ l0_0 a0_1 (rd ((rd_T40 l0_0 x3_1).f3) x4_2) true _ ?side1 ?side2 A9.out).mono ?_
           (case side1 => repeat (first | exact (Kd.C_below HR0_0.out HB.out) | (with_reducible refine Kd.C_alloc ?_ _) | (with_reducible refine Kd.C_drewN ?_ _) | (with_reducible refine Kd.C_drew ?_)))
           (case side2 => exact HC0_0.out)
           rintro e w13 ⟨rfl, hb⟩
           refine ⟨_, rfl, ?_⟩
           have n0_ := Aside0.mk (blk_below (g := gb199) (o := .cells #[.slice (some ad200) l0_0.length c0_0, .int .i64 a0_1] 24 (0, 0)) (by (with_reducible repeat (first | refine blk_drewN ?_ _ | refine blk_drew ?_ | refine blk_alloc ?_ _)); exact BK199.out) hb)
           have n1_ := Aside0.mk (below_step (by repeat (first | (with_reducible first | exact HB.out | apply below_alloc | apply pw_below_drewN | apply below_drew1 | refine below_set ?_ GE199.out) | exact HB.out)) hb)
           clear BK199
           clear HB
           have BK199 := n0_
           have HB := n1_
           clear n0_ n1_
           (try clear hb)
           (try clear hb2)
           (try clear hk)
           (try clear hi)
           refine hK.out _ _ ⟨(blk_cell BK199.out 0).trans rfl, (blk_cell BK199.out 1).trans rfl, ((HB.out.cell (World.block_lt_of_cell? w _ hw201_0)).trans hw201_0), ((HB.out.cell (World.block_lt_of_cell? w _ hw201_1)).trans hw201_1), ((HB.out.cell (World.block_lt_of_cell? w _ hw201_2)).trans hw201_2), ((HB.out.cell (World.block_lt_of_cell? w _ hw201_3)).trans hw201_3), ((HB.out.cell (World.block_lt_of_cell? w _ hw202_0)).trans hw202_0)⟩ (fun hHeld => ?_)
           clear hK K
           refine norm_ (a' := ?_) ?_ ?_
           rotate_left
           ·show Act.put _ (some 33) _ = _
            simp only [Act.put, List.setIfInBounds_toArray, List.set_cons_zero, List.set_cons_succ, i64_w, i32_w]
            rfl
           refine pure_ (i := 11) (N := some 34) (v := ?_) (a' := ?_) #[true, true, true, true, true, true, true, true, true, true, true, true] rfl rfl (any_of HT_.out (by kernel_rfl)) (fun _ _ _ h => h) (Or.inl ⟨by rfl, ?_⟩) ?_ ?_
           rotate_left
           ·intro w'
            go_simp
            with_reducible rfl
           rotate_left
           ·simp only [Act.put, List.setIfInBounds_toArray, List.set_cons_zero, List.set_cons_succ, i64_w, i32_w]
            rfl
           refine done_ (done_of HT_.out (by kernel_rfl)) ?_
           try go_wp2
           go_roundg k2
           case measure => have := HK1.out; have := HK2.out; omega
           case rel => exact ⟨(wrap64 (x4_2 + 1)), (by first | rfl | (simp; done) | (simp [*]; done)), H', ⟨by have := HK1.out; have := HK2.out; omega⟩, ⟨by (with_reducible repeat (first | refine blk_drewN ?_ _ | refine blk_drew ?_ | refine blk_alloc ?_ _)); exact BK199.out⟩, ⟨by repeat (first | (with_reducible first | exact HB.out | apply below_alloc | apply pw_below_drewN | apply below_drew1 | refine below_set ?_ GE199.out) | exact HB.out)⟩⟩
          ·replace c10 := Bool.eq_false_iff.mpr c10
           subst c10
           have H1 : (some x3_1) = some r := by rw [if_neg (show ¬ (false = true) by decide)] at H; exact H
           clear H
           have H := H1
           clear H1
           obtain rfl := Option.some.inj H
           have hcz14_0 : wr.cell? ⟨gb199, 0, none⟩ = some (.slice A0_0 l0_0.length c0_0) := (blk_cell BK199.out 0).trans rfl
           have hcz14_1 : wr.cell? ⟨gb199, 1, none⟩ = some (.int .i64 a0_1) := (blk_cell BK199.out 1).trans rfl
           have hfz14_0 := blk_frozen BK199.out 0
           have hfz14_1 := blk_frozen BK199.out 1
           have p200 : 0 ≤ (x3_1 : Int) := of_decide_eq_true (by first | (with_reducible assumption) | assumption)
           have q200 : x3_1 < (l0_0.length : Int) := of_decide_eq_true (by first | (with_reducible assumption) | assumption)
           obtain ⟨ad200, A200_1, c200_1, A200_2, c200_2, A200_3, c200_3, e200, hx200_0, hx200_1, hx200_2, hx200_3, hl200_1, hi200_1, hl200_2, hi200_2, hl200_3, hi200_3⟩ := at_T40 HR0_0.out x3_1 p200 q200
           cases e200
           replace hx200_0 := (HB.out.cell (World.block_lt_of_cell? w _ hx200_0)).trans hx200_0
           replace hx200_1 := (HB.out.cell (World.block_lt_of_cell? w _ hx200_1)).trans hx200_1
           replace hx200_2 := (HB.out.cell (World.block_lt_of_cell? w _ hx200_2)).trans hx200_2
           replace hx200_3 := (HB.out.cell (World.block_lt_of_cell? w _ hx200_3)).trans hx200_3
           have HR200_1 := Aside0.mk hi200_1
           have HC200_1 := Aside0.mk hl200_1
           clear hi200_1 hl200_1
           have HR200_2 := Aside0.mk hi200_2
           have HC200_2 := Aside0.mk hl200_2
           clear hi200_2 hl200_2
           have HR200_3 := Aside0.mk hi200_3
           have HC200_3 := Aside0.mk hl200_3
           clear hi200_3 hl200_3
           replace p200 := eq_true p200
           replace q200 := eq_true q200
           try go_wp2
           have n0_ := Aside0.mk (blk_drew BK199.out)
           have n1_ := Aside0.mk (below_drew1 HB.out)
           clear BK199
           clear HB
           have BK199 := n0_
           have HB := n1_
           clear n0_ n1_
           have p201 : 0 ≤ (x3_1 : Int) := of_decide_eq_true (by first | (with_reducible assumption) | assumption)
           have q201 : x3_1 < (l0_0.length : Int) := of_decide_eq_true (by first | (with_reducible assumption) | assumption)
           obtain ⟨ad201, A201_1, c201_1, A201_2, c201_2, A201_3, c201_3, e201, hx201_0, hx201_1, hx201_2, hx201_3, hl201_1, hi201_1, hl201_2, hi201_2, hl201_3, hi201_3⟩ := at_T40 HR0_0.out x3_1 p201 q201
           have hw201_3 := hx201_3
           have hw201_2 := hx201_2
           have hw201_1 := hx201_1
           have hw201_0 := hx201_0
           obtain rfl : ad200 = ad201 := (by injection e201)
           replace hx201_0 := (HB.out.cell (World.block_lt_of_cell? w _ hx201_0)).trans hx201_0
           replace hx201_1 := (HB.out.cell (World.block_lt_of_cell? w _ hx201_1)).trans hx201_1
           replace hx201_2 := (HB.out.cell (World.block_lt_of_cell? w _ hx201_2)).trans hx201_2
           replace hx201_3 := (HB.out.cell (World.block_lt_of_cell? w _ hx201_3)).trans hx201_3
           have HR201_1 := Aside0.mk hi201_1
           have HC201_1 := Aside0.mk hl201_1
           clear hi201_1 hl201_1
           have HR201_2 := Aside0.mk hi201_2
           have HC201_2 := Aside0.mk hl201_2
           clear hi201_2 hl201_2
           have HR201_3 := Aside0.mk hi201_3
           have HC201_3 := Aside0.mk hl201_3
           clear hi201_3 hl201_3
           replace p201 := eq_true p201
           replace q201 := eq_true q201
           have p202 : 0 ≤ (x4_2 : Int) := of_decide_eq_true (by first | (with_reducible assumption) | assumption)
           have q202 : x4_2 < (((rd_T40 l0_0 x3_1).f3).length : Int) := of_decide_eq_true (by first | (with_reducible assumption) | assumption)
           obtain ⟨ad202, e202, hx202_0⟩ := Kd.at_int HR201_3.out x4_2 p202 q202
           have hw202_0 := hx202_0
           cases e202
           replace hx202_0 := (HB.out.cell (World.block_lt_of_cell? w _ hx202_0)).trans hx202_0
           replace p202 := eq_true p202
           replace q202 := eq_true q202
           refine start_ (n := 12) (S := fun w' => w'.cell? ⟨gb199, 0, none⟩ = some (.slice (some ad200) l0_0.length c0_0) ∧ w'.cell? ⟨gb199, 1, none⟩ = some (.int .i64 a0_1) ∧ w'.cell? (ad200.add ((x3_1).toNat * 4)) = some (.int .i64 ((rd_T40 l0_0 x3_1).f0)) ∧ w'.cell? ⟨(ad200.add ((x3_1).toNat * 4)).block, (ad200.add ((x3_1).toNat * 4)).off + 1, none⟩ = some (.slice A201_1 ((rd_T40 l0_0 x3_1).f1).length c201_1) ∧ w'.cell? ⟨(ad200.add ((x3_1).toNat * 4)).block, (ad200.add ((x3_1).toNat * 4)).off + 2, none⟩ = some (.slice A201_2 ((rd_T40 l0_0 x3_1).f2).length c201_2) ∧ w'.cell? ⟨(ad200.add ((x3_1).toNat * 4)).block, (ad200.add ((x3_1).toNat * 4)).off + 3, none⟩ = some (.slice (some ad202) ((rd_T40 l0_0 x3_1).f3).length c201_3) ∧ w'.cell? (ad202.add (x4_2).toNat) = some (.int .i64 (rd ((rd_T40 l0_0 x3_1).f3) x4_2))) (ds := []) #[false, false, false, false, false, false, false, false, false, false, false, false] (by kernel_rfl) rfl rfl ⟨(blk_cell BK199.out 0).trans rfl, (blk_cell BK199.out 1).trans rfl, ((HB.out.cell (World.block_lt_of_cell? w _ hw201_0)).trans hw201_0), ((HB.out.cell (World.block_lt_of_cell? w _ hw201_1)).trans hw201_1), ((HB.out.cell (World.block_lt_of_cell? w _ hw201_2)).trans hw201_2), ((HB.out.cell (World.block_lt_of_cell? w _ hw201_3)).trans hw201_3), ((HB.out.cell (World.block_lt_of_cell? w _ hw202_0)).trans hw202_0)⟩ (fun hHeld => ?_); refine with_tabW dioramaref09_Refs.tab7 dioramaref09_Refs.bits7 (fun HT_ HW_ => ?_)
           generalize wr.drew = w15 at BK199 HB HR201_1 HR201_2 HR201_3 hx201_0 hx201_1 hx201_2 hx201_3 hx202_0 hHeld ⊢
           refine pure_ (i := 1) (N := some 24) (v := ?_) (a' := ?_) #[false, true, false, false, false, false, false, false, false, false, false, false] rfl rfl (any_of HT_.out (by kernel_rfl)) (fun _ _ _ h => h) (Or.inl ⟨by rfl, ?_⟩) ?_ ?_
           rotate_left
           ·intro w'
            go_simp
            with_reducible rfl
           rotate_left
           ·simp only [Act.put, List.setIfInBounds_toArray, List.set_cons_zero, List.set_cons_succ, i64_w, i32_w]
            rfl
           refine pure_ (i := 3) (N := some 26) (v := ?_) (a' := ?_) #[false, true, false, true, false, false, false, false, false, false, false, false] rfl rfl (any_of HT_.out (by kernel_rfl)) (fun _ _ _ h => h) (Or.inl ⟨by rfl, ?_⟩) ?_ ?_
           rotate_left
           ·intro w'
            go_simp
            with_reducible rfl
           rotate_left
           ·simp only [Act.put, List.setIfInBounds_toArray, List.set_cons_zero, List.set_cons_succ, i64_w, i32_w]
            rfl
           refine pure_ (i := 7) (N := some 30) (v := ?_) (a' := ?_) #[false, true, false, true, false, false, false, true, false, false, false, false] rfl rfl (any_of HT_.out (by kernel_rfl)) (fun _ _ _ h => h) (Or.inl ⟨by rfl, ?_⟩) ?_ ?_
           rotate_left
           ·intro w'
            go_simp
            with_reducible rfl
           rotate_left
           ·simp only [Act.put, List.setIfInBounds_toArray, List.set_cons_zero, List.set_cons_succ, i64_w, i32_w]
            rfl
           refine take_ (i := 0) (N := some 23) (v := ?_) (a' := ?_) #[true, true, false, true, false, false, false, true, false, false, false, false] rfl rfl (take_ofW HT_.out HW_.out (by kernel_rfl)) (fun _ _ _ h => h) (Or.inl ⟨by rfl, ?_⟩) hHeld ?_ ?_
           rotate_left
           ·rintro w' ⟨s0, s1, s2, s3, s4, s5, s6⟩
            go_simp
            with_reducible rfl
           rotate_left
           ·simp only [Act.put, List.setIfInBounds_toArray, List.set_cons_zero, List.set_cons_succ, i64_w, i32_w]
            rfl
           refine take_ (i := 2) (N := some 25) (v := ?_) (a' := ?_) #[true, true, true, true, false, false, false, true, false, false, false, false] rfl rfl (take_ofW HT_.out HW_.out (by kernel_rfl)) (fun _ _ _ h => h) (Or.inl ⟨by rfl, ?_⟩) hHeld ?_ ?_
           rotate_left
           ·rintro w' ⟨s0, s1, s2, s3, s4, s5, s6⟩
            go_simp
            with_reducible rfl
           rotate_left
           ·simp only [Act.put, List.setIfInBounds_toArray, List.set_cons_zero, List.set_cons_succ, i64_w, i32_w]
            rfl
           refine pure_ (i := 4) (N := some 27) (v := ?_) (a' := ?_) #[true, true, true, true, true, false, false, true, false, false, false, false] rfl rfl (any_of HT_.out (by kernel_rfl)) (fun _ _ _ h => h) (Or.inl ⟨by rfl, ?_⟩) ?_ ?_
           rotate_left
           ·intro w'
            go_simp
            with_reducible rfl
           rotate_left
           ·simp only [Act.put, List.setIfInBounds_toArray, List.set_cons_zero, List.set_cons_succ, i64_w, i32_w]
            rfl
           refine pure_ (i := 5) (N := some 28) (v := ?_) (a' := ?_) #[true, true, true, true, true, true, false, true, false, false, false, false] rfl rfl (any_of HT_.out (by kernel_rfl)) (fun _ _ _ h => h) (Or.inl ⟨by rfl, ?_⟩) ?_ ?_
           rotate_left
           ·intro w'
            go_simp
            with_reducible rfl
           rotate_left
           ·simp only [Act.put, List.setIfInBounds_toArray, List.set_cons_zero, List.set_cons_succ, i64_w, i32_w]
            rfl
           refine take_ (i := 6) (N := some 29) (v := ?_) (a' := ?_) #[true, true, true, true, true, true, true, true, false, false, false, false] rfl rfl (take_ofW HT_.out HW_.out (by kernel_rfl)) (fun _ _ _ h => h) (Or.inl ⟨by rfl, ?_⟩) hHeld ?_ ?_
           rotate_left
           ·rintro w' ⟨s0, s1, s2, s3, s4, s5, s6⟩
            go_simp
            with_reducible rfl
           rotate_left
           ·simp only [Act.put, List.setIfInBounds_toArray, List.set_cons_zero, List.set_cons_succ, i64_w, i32_w]
            rfl
           refine pure_ (i := 8) (N := some 31) (v := ?_) (a' := ?_) #[true, true, true, true, true, true, true, true, true, false, false, false] rfl rfl (any_of HT_.out (by kernel_rfl)) (fun _ _ _ h => h) (Or.inl ⟨by rfl, ?_⟩) ?_ ?_
           rotate_left
           ·intro w'
            go_simp
            with_reducible rfl
           rotate_left
           ·simp only [Act.put, List.setIfInBounds_toArray, List.set_cons_zero, List.set_cons_succ, i64_w, i32_w]
            rfl
           refine take_ (i := 9) (N := some 32) (v := ?_) (a' := ?_) #[true, true, true, true, true, true, true, true, true, true, false, false] rfl rfl (take_ofW HT_.out HW_.out (by kernel_rfl)) (fun _ _ _ h => h) (Or.inl ⟨by rfl, ?_⟩) hHeld ?_ ?_
           rotate_left
           ·rintro w' ⟨s0, s1, s2, s3, s4, s5, s6⟩
            go_simp
            with_reducible rfl
           rotate_left
           ·simp only [Act.put, List.setIfInBounds_toArray, List.set_cons_zero, List.set_cons_succ, i64_w, i32_w]
            rfl
           refine one_ (i := 10) (N := some 33) #[true, true, true, true, true, true, true, true, true, true, true, false] rfl rfl (one_of HT_.out (by kernel_rfl)) (by decide) (fun K hK => ?_)
           refine goes_ Try.func27 (by kernel_rfl) rfl #[.agg #[.slice (some ad200) l0_0.length c0_0, .int .i64 a0_1], .int .i64 (rd ((rd_T40 l0_0 x3_1).f3) x4_2)] (by rfl) rfl rfl (by (try simp only [List.map_toArray, List.map_cons, List.map_nil]); first | done | rfl | (simp only [List.length_drop, List.length_take]; rfl)) ?_
           with_reducible refine (dioramaref09_Place.calls _ _ l0_0 a0_1 (rd ((rd_T40 l0_0 x3_1).f3) x4_2) false _ ?side1 ?side2 A9.out).mono ?_
           (case side1 => repeat (first | exact (Kd.C_below HR0_0.out HB.out) | (with_reducible refine Kd.C_alloc ?_ _) | (with_reducible refine Kd.C_drewN ?_ _) | (with_reducible refine Kd.C_drew ?_)))
           (case side2 => exact HC0_0.out)
           rintro e w16 ⟨rfl, hb⟩
           refine ⟨_, rfl, ?_⟩
           have n0_ := Aside0.mk (blk_below (g := gb199) (o := .cells #[.slice (some ad200) l0_0.length c0_0, .int .i64 a0_1] 24 (0, 0)) (by (with_reducible repeat (first | refine blk_drewN ?_ _ | refine blk_drew ?_ | refine blk_alloc ?_ _)); exact BK199.out) hb)
           have n1_ := Aside0.mk (below_step (by repeat (first | (with_reducible first | exact HB.out | apply below_alloc | apply pw_below_drewN | apply below_drew1 | refine below_set ?_ GE199.out) | exact HB.out)) hb)
           clear BK199
           clear HB
           have BK199 := n0_
           have HB := n1_
           clear n0_ n1_
           (try clear hb)
           (try clear hb2)
           (try clear hk)
           (try clear hi)
           refine hK.out _ _ ⟨(blk_cell BK199.out 0).trans rfl, (blk_cell BK199.out 1).trans rfl, ((HB.out.cell (World.block_lt_of_cell? w _ hw201_0)).trans hw201_0), ((HB.out.cell (World.block_lt_of_cell? w _ hw201_1)).trans hw201_1), ((HB.out.cell (World.block_lt_of_cell? w _ hw201_2)).trans hw201_2), ((HB.out.cell (World.block_lt_of_cell? w _ hw201_3)).trans hw201_3), ((HB.out.cell (World.block_lt_of_cell? w _ hw202_0)).trans hw202_0)⟩ (fun hHeld => ?_)
           clear hK K
           refine norm_ (a' := ?_) ?_ ?_
           rotate_left
           ·show Act.put _ (some 33) _ = _
            simp only [Act.put, List.setIfInBounds_toArray, List.set_cons_zero, List.set_cons_succ, i64_w, i32_w]
            rfl
           refine pure_ (i := 11) (N := some 34) (v := ?_) (a' := ?_) #[true, true, true, true, true, true, true, true, true, true, true, true] rfl rfl (any_of HT_.out (by kernel_rfl)) (fun _ _ _ h => h) (Or.inl ⟨by rfl, ?_⟩) ?_ ?_
           rotate_left
           ·intro w'
            go_simp
            with_reducible rfl
           rotate_left
           ·simp only [Act.put, List.setIfInBounds_toArray, List.set_cons_zero, List.set_cons_succ, i64_w, i32_w]
            rfl
           refine done_ (done_of HT_.out (by kernel_rfl)) ?_
           try go_wp2
           go_ret
           exact ⟨by first | rfl | (simp [errW_none, errW_some] <;> rfl) | (simp [*, errW_none, errW_some] <;> rfl), by repeat (first | (with_reducible first | exact HB.out | apply below_alloc | apply pw_below_drewN | apply below_drew1 | refine below_set ?_ GE199.out) | exact HB.out)⟩
         ·rw [if_neg c8] at H
          exact absurd H (by simp)
        ·rw [if_neg c7] at H
         have c7b0 : decide (x4_2 < (((rd_T40 l0_0 x3_1).f3).length : Int)) = false := decide_eq_false c7
         clear c7
         have H' := Aside0.mk H
         clear H
         have hcz17_0 : wr.cell? ⟨gb199, 0, none⟩ = some (.slice A0_0 l0_0.length c0_0) := (blk_cell BK199.out 0).trans rfl
         have hcz17_1 : wr.cell? ⟨gb199, 1, none⟩ = some (.int .i64 a0_1) := (blk_cell BK199.out 1).trans rfl
         have hfz17_0 := blk_frozen BK199.out 0
         have hfz17_1 := blk_frozen BK199.out 1
         have p200 : 0 ≤ (x3_1 : Int) := of_decide_eq_true (by first | (with_reducible assumption) | assumption)
         have q200 : x3_1 < (l0_0.length : Int) := of_decide_eq_true (by first | (with_reducible assumption) | assumption)
         obtain ⟨ad200, A200_1, c200_1, A200_2, c200_2, A200_3, c200_3, e200, hx200_0, hx200_1, hx200_2, hx200_3, hl200_1, hi200_1, hl200_2, hi200_2, hl200_3, hi200_3⟩ := at_T40 HR0_0.out x3_1 p200 q200
         cases e200
         replace hx200_0 := (HB.out.cell (World.block_lt_of_cell? w _ hx200_0)).trans hx200_0
         replace hx200_1 := (HB.out.cell (World.block_lt_of_cell? w _ hx200_1)).trans hx200_1
         replace hx200_2 := (HB.out.cell (World.block_lt_of_cell? w _ hx200_2)).trans hx200_2
         replace hx200_3 := (HB.out.cell (World.block_lt_of_cell? w _ hx200_3)).trans hx200_3
         have HR200_1 := Aside0.mk hi200_1
         have HC200_1 := Aside0.mk hl200_1
         clear hi200_1 hl200_1
         have HR200_2 := Aside0.mk hi200_2
         have HC200_2 := Aside0.mk hl200_2
         clear hi200_2 hl200_2
         have HR200_3 := Aside0.mk hi200_3
         have HC200_3 := Aside0.mk hl200_3
         clear hi200_3 hl200_3
         replace p200 := eq_true p200
         replace q200 := eq_true q200
         go_wp2
         go_roundg k2
         case measure => have := HK1.out; have := HK2.out; omega
         case rel => exact ⟨(wrap64 (x3_1 + 1)), (by first | rfl | (simp; done) | (simp [*]; done)), H', ⟨by have := HK1.out; have := HK2.out; omega⟩, ⟨by (with_reducible repeat (first | refine blk_drewN ?_ _ | refine blk_drew ?_ | refine blk_alloc ?_ _)); exact BK199.out⟩, ⟨by repeat (first | (with_reducible first | exact HB.out | apply below_alloc | apply pw_below_drewN | apply below_drew1 | refine below_set ?_ GE199.out) | exact HB.out)⟩⟩
       ·rw [if_neg c6] at H
        exact absurd H (by simp)
      ·rw [if_neg c5] at H
       exact absurd H (by simp)
   ·rw [if_neg c3] at H
    have c3b0 : decide (x3_1 < (l0_0.length : Int)) = false := decide_eq_false c3
    clear c3
    obtain rfl := Option.some.inj H
    have hcz18_0 : wr.cell? ⟨gb199, 0, none⟩ = some (.slice A0_0 l0_0.length c0_0) := (blk_cell BK199.out 0).trans rfl
    have hcz18_1 : wr.cell? ⟨gb199, 1, none⟩ = some (.int .i64 a0_1) := (blk_cell BK199.out 1).trans rfl
    have hfz18_0 := blk_frozen BK199.out 0
    have hfz18_1 := blk_frozen BK199.out 1
    go_wp2
    go_ret
    exact ⟨by first | rfl | (simp [errW_none, errW_some] <;> rfl) | (simp [*, errW_none, errW_some] <;> rfl), by repeat (first | (with_reducible first | exact HB.out | apply below_alloc | apply pw_below_drewN | apply below_drew1 | refine below_set ?_ GE199.out) | exact HB.out)⟩

end Go.Proofs.Ytlfjjapndlkamaa.GB
