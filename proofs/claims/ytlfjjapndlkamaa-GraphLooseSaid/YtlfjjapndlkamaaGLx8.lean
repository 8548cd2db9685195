-- Printed by a program of the session (wip/gen/tprint.py, over a turned copy of the kit's print): Lean checks it.
import Derived.Test.YtlfjjapndlkamaaGLx0
import Derived.Test.YtlfjjapndlkamaaGLx4
import Derived.Test.YtlfjjapndlkamaaGLx6
import Derived.Test.YtlfjjapndlkamaaGLx7
namespace Go.Proofs.Ytlfjjapndlkamaa.GL
open Go.RowKit Go.Proofs.YtlfjjapndlkamaaW.PrintWords Go.Proofs.YtlfjjapndlkamaaW.PrintLast Go.Proofs.YtlfjjapndlkamaaW.PrintMore
attribute [local go_sem] max2_int min2_int max_two min_two max_three min_three max_four min_four   -- for this text's walks alone
set_option linter.unusedVariables false
set_option linter.unusedSimpArgs false

/-! ### dioramalaw09_awake: function 33 -/
/-- Two nodes with kids alone. -/
def twoN (l1 l2 : List Int) : List S40 := [⟨0, [], [], l1⟩, ⟨0, [], [], l2⟩]
theorem two_C {W : World} {b : Nat} {A1 A2 : Option Addr} {c1 c2 : Nat} {l1 l2 : List Int} (hb : W.heap[b]? = some (.cells #[.int .i64 0, .slice none 0 0, .slice none 0 0, .slice A1 l1.length c1, .int .i64 0, .slice none 0 0, .slice none 0 0, .slice A2 l2.length c2] 40 (0, 0)))
  (hl1 : l1.length ≤ c1) (hl2 : l2.length ≤ c2) (h1 : Kd.C (Kd.int .i64) W A1 l1.length l1) (h2 : Kd.C (Kd.int .i64) W A2 l2.length l2) : Kd.C k40 W (some ⟨b, 0, none⟩) (twoN l1 l2).length (twoN l1 l2) := by
 have hnI : Kd.C (Kd.int .i64) W none 0 [] := ⟨rfl, by omega, fun h => absurd h (by omega)⟩
 have hnS : Kd.C Kd.string W none 0 [] := ⟨rfl, by omega, fun h => absurd h (by omega)⟩
 refine ⟨rfl, by unfold twoN; simp, fun _ => ⟨⟨b, 0, none⟩, rfl, fun j p hp => ?_⟩⟩
 match j, hp with
 | 0, hp =>
  cases hp
  exact ⟨_, rfl, k40_mk W ⟨0, [], [], l1⟩ (Nat.le_refl _) hnI (Nat.le_refl _) hnS hl1 h1, fun i u hu => by
   match i, hu with
   | 0, hu => cases hu; exact (blk_cell hb 0).trans rfl
   | 1, hu => cases hu; exact (blk_cell hb 1).trans rfl
   | 2, hu => cases hu; exact (blk_cell hb 2).trans rfl
   | 3, hu => cases hu; exact (blk_cell hb 3).trans rfl⟩
 | 1, hp =>
  cases hp
  exact ⟨_, rfl, k40_mk W ⟨0, [], [], l2⟩ (Nat.le_refl _) hnI (Nat.le_refl _) hnS hl2 h2, fun i u hu => by
   match i, hu with
   | 0, hu => cases hu; exact (blk_cell hb 4).trans rfl
   | 1, hu => cases hu; exact (blk_cell hb 5).trans rfl
   | 2, hu => cases hu; exact (blk_cell hb 6).trans rfl
   | 3, hu => cases hu; exact (blk_cell hb 7).trans rfl⟩
/-- The scene's three blocks. -/
structure Three (w : World) (b : Nat) (v1 v2 : Value) (r : Int) : Prop where
 kids : w.heap[b]? = some (.cells #[.int .i64 1, .int .i64 1] 3 (0, 0))
 nodes : w.heap[b + 1]? = some (.cells #[.int .i64 0, .slice none 0 0, .slice none 0 0, v1, .int .i64 0, .slice none 0 0, .slice none 0 0, v2] 40 (0, 0))
 box : w.heap[b + 2]? = some (.cells #[.slice (some ⟨b + 1, 0, none⟩) 2 2, .int .i64 r] 24 (0, 0))
theorem Three.below {w w' : World} {b : Nat} {v1 v2 : Value} {r : Int} (h : Three w b v1 v2 r) (hb : ∀ k, k < w.heap.size → w'.heap[k]? = w.heap[k]?) : Three w' b v1 v2 r :=
 ⟨(hb _ (blk_lt h.kids)).trans h.kids, (hb _ (blk_lt h.nodes)).trans h.nodes, (hb _ (blk_lt h.box)).trans h.box⟩
theorem Three.c0 {w : World} {b : Nat} {v1 v2 : Value} {r : Int} (h : Three w b v1 v2 r) : w.cell? ⟨b + 1 + 1, 0, none⟩ = some (.slice (some ⟨b + 1, 0, none⟩) 2 2) := (blk_cell h.box 0).trans rfl
theorem Three.c1 {w : World} {b : Nat} {v1 v2 : Value} {r : Int} (h : Three w b v1 v2 r) : w.cell? ⟨b + 1 + 1, 1, none⟩ = some (.int .i64 r) := (blk_cell h.box 1).trans rfl
theorem ones_C {w : World} {b : Nat} {v1 v2 : Value} {r : Int} (h : Three w b v1 v2 r) : Kd.C (Kd.int .i64) w (some ⟨b, 0, none⟩) [1, 1].length [1, 1] :=
 ⟨rfl, by simp, fun _ => ⟨⟨b, 0, none⟩, rfl, fun j p hp => by
  match j, hp with
  | 0, hp => cases hp; exact ⟨[.int .i64 1], rfl, rfl, fun i u hu => by match i, hu with | 0, hu => cases hu; exact (blk_cell h.kids 0).trans rfl⟩
  | 1, hp => cases hp; exact ⟨[.int .i64 1], rfl, rfl, fun i u hu => by match i, hu with | 0, hu => cases hu; exact (blk_cell h.kids 1).trans rfl⟩⟩⟩
theorem Three.C1 {w : World} {b : Nat} {r : Int} (h : Three w b (.slice (some ⟨b, 0, none⟩) 2 2) (.slice none 0 0) r) : Kd.C k40 w (some ⟨b + 1, 0, none⟩) (twoN [1, 1] []).length (twoN [1, 1] []) :=
 two_C (l1 := [1, 1]) (l2 := []) h.nodes (by simp) (by simp) (ones_C h) ⟨rfl, by simp, fun h => absurd h (by simp)⟩
theorem check1 : graph_Check.f 60 (twoN [1, 1] []) 0 = some (0, 0) := by decide +kernel
theorem depth1 : graph_Depth.f 60 (twoN [1, 1] []) 0 = some 2 := by decide +kernel
theorem edges1 : graph_Edges.f 60 (twoN [1, 1] []) 0 = some 2 := by decide +kernel
theorem check2 : graph_Check.f 60 (twoN [1, 1] []) 1 = some (15, 0) := by decide +kernel
theorem check3 : graph_Check.f 60 (twoN [1, 1] [0]) 1 = some (14, 0) := by decide +kernel
theorem below3 : graph_Below.f (twoN [1, 1] [0]) 1 1 = some [0, 1] := by decide +kernel
theorem ints3 : dioramaref09_Ints.f 60 [0, 1] [0, 1] = some true := by decide +kernel
theorem Three.drewN {w : World} {b : Nat} {v1 v2 : Value} {r : Int} (h : Three w b v1 v2 r) (n : Nat) : Three (w.drewN n) b v1 v2 r := ⟨h.kids, h.nodes, h.box⟩
theorem Three.drew {w : World} {b : Nat} {v1 v2 : Value} {r : Int} (h : Three w b v1 v2 r) : Three w.drew b v1 v2 r := ⟨h.kids, h.nodes, h.box⟩
theorem depth_c {W : World} {b : Nat} (h : Three W b (.slice (some ⟨b, 0, none⟩) 2 2) (.slice none 0 0) 0) : Calls Try.prog 31 #[.agg #[.slice (some ⟨b + 1, 0, none⟩) 2 2, .int .i64 0]] W fun e w' => e = .returned (.int .i64 2) ∧ Below W.heap.size W w' :=
 graph_Depth.calls 60 (some ⟨b + 1, 0, none⟩) 2 (twoN [1, 1] []) 0 2 W h.C1 (by unfold twoN; simp) depth1
theorem edges_c {W : World} {b : Nat} (h : Three W b (.slice (some ⟨b, 0, none⟩) 2 2) (.slice none 0 0) 0) : Calls Try.prog 32 #[.agg #[.slice (some ⟨b + 1, 0, none⟩) 2 2, .int .i64 0]] W fun e w' => e = .returned (.int .i64 2) ∧ Below W.heap.size W w' :=
 graph_Edges.calls 60 (some ⟨b + 1, 0, none⟩) 2 (twoN [1, 1] []) 0 2 W h.C1 (by unfold twoN; simp) edges1
theorem check2_c {W : World} {b : Nat} (h : Three W b (.slice (some ⟨b, 0, none⟩) 2 2) (.slice none 0 0) 1) : Calls Try.prog 34 #[.agg #[.slice (some ⟨b + 1, 0, none⟩) 2 2, .int .i64 1]] W fun e w' => e = .returned (.tuple #[.int .i64 15, .int .i64 0]) ∧ Below W.heap.size W w' :=
 graph_Check.calls 60 (some ⟨b + 1, 0, none⟩) 2 (twoN [1, 1] []) 1 15 0 W h.C1 (by unfold twoN; simp) check2
/-- The second node's kids are the one number nought. -/
structure Four (w : World) (b g : Nat) : Prop where
 three : Three w b (.slice (some ⟨b, 0, none⟩) 2 2) (.slice (some ⟨g, 0, none⟩) 1 1) 1
 kid : w.heap[g]? = some (.cells #[.int .i64 0] 3 (0, 0))
theorem Four.below {w w' : World} {b g : Nat} (h : Four w b g) (hb : ∀ k, k < w.heap.size → w'.heap[k]? = w.heap[k]?) : Four w' b g := ⟨h.three.below hb, (hb _ (blk_lt h.kid)).trans h.kid⟩
theorem Four.drew {w : World} {b g : Nat} (h : Four w b g) : Four w.drew b g := ⟨h.three.drew, h.kid⟩
theorem Four.drewN {w : World} {b g : Nat} (h : Four w b g) (n : Nat) : Four (w.drewN n) b g := ⟨h.three.drewN n, h.kid⟩
theorem Four.C {w : World} {b g : Nat} (h : Four w b g) : Kd.C k40 w (some ⟨b + 1, 0, none⟩) (twoN [1, 1] [0]).length (twoN [1, 1] [0]) :=
 two_C (l1 := [1, 1]) (l2 := [0]) h.three.nodes (by simp) (by simp) (ones_C h.three) ⟨rfl, by simp, fun _ => ⟨⟨g, 0, none⟩, rfl, fun j p hp => by
  match j, hp with
  | 0, hp => cases hp; exact ⟨[.int .i64 0], rfl, rfl, fun i u hu => by match i, hu with | 0, hu => cases hu; exact (blk_cell h.kid 0).trans rfl⟩⟩⟩
theorem check3_c {W : World} {b g : Nat} (h : Four W b g) : Calls Try.prog 34 #[.agg #[.slice (some ⟨b + 1, 0, none⟩) 2 2, .int .i64 1]] W fun e w' => e = .returned (.tuple #[.int .i64 14, .int .i64 0]) ∧ Below W.heap.size W w' :=
 graph_Check.calls 60 (some ⟨b + 1, 0, none⟩) 2 (twoN [1, 1] [0]) 1 14 0 W h.C (by unfold twoN; simp) check3
theorem below_c {W : World} {b g : Nat} (h : Four W b g) : Calls Try.prog 36 #[.agg #[.slice (some ⟨b + 1, 0, none⟩) 2 2, .int .i64 1], .int .i64 1] W fun e w' => ∃ v : Value, e = .returned v ∧ Kd.R (Kd.int .i64) 3 w' W.heap.size (fun _ => True) v [0, 1] ∧ Below W.heap.size W w' :=
 graph_Below.calls (some ⟨b + 1, 0, none⟩) 2 (twoN [1, 1] [0]) 1 1 [0, 1] W h.C (by unfold twoN; simp) below3
set_option maxHeartbeats 8000000 in
set_option maxRecDepth 100000 in
theorem awake_calls (w : World) : Calls Try.prog 33 #[] w fun e w' => e = .returned (.bool true) ∧ Below w.heap.size w w' := by
 go_enter Try.func33, Try.ntmps33
 go_wp2_with (fail)
 have h1 : Three (((w.alloc (.cells #[.int .i64 1, .int .i64 1] 3)).alloc (.cells #[.int .i64 0, .slice none 0 0, .slice none 0 0, .slice (some ⟨w.heap.size, 0, none⟩) 2 2, .int .i64 0, .slice none 0 0, .slice none 0 0, .slice none 0 0] 40)).alloc (.cells #[.slice (some ⟨w.heap.size + 1, 0, none⟩) 2 2, .int .i64 0] 24)) w.heap.size (.slice (some ⟨w.heap.size, 0, none⟩) 2 2) (.slice none 0 0) 0 := by
  refine ⟨blk_alloc (blk_alloc (heap_alloc_new w _) _) _, ?_, ?_⟩
  ·refine blk_alloc ?_ _
   have := heap_alloc_new (w.alloc (.cells #[.int .i64 1, .int .i64 1] 3)) (.cells #[.int .i64 0, .slice none 0 0, .slice none 0 0, .slice (some ⟨w.heap.size, 0, none⟩) 2 2, .int .i64 0, .slice none 0 0, .slice none 0 0, .slice none 0 0] 40)
   simpa using this
  ·have := heap_alloc_new ((w.alloc (.cells #[.int .i64 1, .int .i64 1] 3)).alloc (.cells #[.int .i64 0, .slice none 0 0, .slice none 0 0, .slice (some ⟨w.heap.size, 0, none⟩) 2 2, .int .i64 0, .slice none 0 0, .slice none 0 0, .slice none 0 0] 40)) (.cells #[.slice (some ⟨w.heap.size + 1, 0, none⟩) 2 2, .int .i64 0] 24)
   simpa using this
 have hB1 : Below w.heap.size w (((w.alloc (.cells #[.int .i64 1, .int .i64 1] 3)).alloc (.cells #[.int .i64 0, .slice none 0 0, .slice none 0 0, .slice (some ⟨w.heap.size, 0, none⟩) 2 2, .int .i64 0, .slice none 0 0, .slice none 0 0, .slice none 0 0] 40)).alloc (.cells #[.slice (some ⟨w.heap.size + 1, 0, none⟩) 2 2, .int .i64 0] 24)) := (((Below.refl _ _).alloc (Nat.le_refl _) _).alloc (by simp) _).alloc (by simp; omega) _
 generalize (((w.alloc (.cells #[.int .i64 1, .int .i64 1] 3)).alloc (.cells #[.int .i64 0, .slice none 0 0, .slice none 0 0, .slice (some ⟨w.heap.size, 0, none⟩) 2 2, .int .i64 0, .slice none 0 0, .slice none 0 0, .slice none 0 0] 40)).alloc (.cells #[.slice (some ⟨w.heap.size + 1, 0, none⟩) 2 2, .int .i64 0] 24)) = w1 at h1 hB1 ⊢
 have H1 := Lib.hid h1
 have HB1 := Lib.hid hB1
 clear h1 hB1
 refine (graph_Check.calls 60 (some ⟨w.heap.size + 1, 0, none⟩) 2 (twoN [1, 1] []) 0 0 0 w1 H1.out.C1 (by unfold twoN; simp) check1).mono ?_
 rintro e w2 ⟨rfl, hb2⟩
 have H2 := Lib.hid (H1.out.below (fun k_ hk_ => hb2.block k_ hk_))
 have HB2 := Lib.hid (below_step HB1.out hb2)
 clear hb2
 have c20 := H2.out.c0
 have c21 := H2.out.c1
 go_wp2_with (fail)
 go_region_held3 (fun w' => w'.cell? ⟨w.heap.size + 1 + 1, 0, none⟩ = some (.slice (some ⟨w.heap.size + 1, 0, none⟩) 2 2) ∧ w'.cell? ⟨w.heap.size + 1 + 1, 1, none⟩ = some (.int .i64 0)) (go_keep)
  (first
   | ((go_at_call 31; refine (depth_c (b := w.heap.size) (by first | exact H2.out | exact H2.out.drew | exact H2.out.drewN _)).mono ?_; rintro e w3 ⟨rfl, hb_⟩; have H3 := Lib.hid (H2.out.below (fun k_ hk_ => hb_.block k_ hk_)); have HB3 := Lib.hid (below_step (by repeat (first | (with_reducible first | exact HB2.out | apply pw_below_drewN | apply below_drew1) | exact HB2.out)) hb_); have c30 := H3.out.c0; have c31 := H3.out.c1; clear hb_))
   | ((go_at_call 32; refine (edges_c (b := w.heap.size) (by first | exact H3.out | exact H3.out.drew | exact H3.out.drewN _)).mono ?_; rintro e w4 ⟨rfl, hb_⟩; have H4 := Lib.hid (H3.out.below (fun k_ hk_ => hb_.block k_ hk_)); have HB4 := Lib.hid (below_step (by repeat (first | (with_reducible first | exact HB3.out | apply pw_below_drewN | apply below_drew1) | exact HB3.out)) hb_); have c40 := H4.out.c0; have c41 := H4.out.c1; clear hb_)))
 rename_i hS
 clear hS c20 c21 c30 c31
 have f4 : w4.frozen? ⟨w.heap.size + 1 + 1, 1, none⟩ = false := blk_frozen H4.out.box 1
 have h5 : Three (w4.setCell ⟨w.heap.size + 1 + 1, 1, none⟩ (.int .i64 1)) w.heap.size (.slice (some ⟨w.heap.size, 0, none⟩) 2 2) (.slice none 0 0) 1 :=
  ⟨blk_far H4.out.kids (show w.heap.size ≠ w.heap.size + 1 + 1 by omega) _, blk_far H4.out.nodes (show w.heap.size + 1 ≠ w.heap.size + 1 + 1 by omega) _, blk_put H4.out.box 1 _ rfl⟩
 have H5 := Lib.hid h5
 have HB5 := Lib.hid (HB4.out.setCell (p := ⟨w.heap.size + 1 + 1, 1, none⟩) (by simp; omega) (.int .i64 1))
 clear h5
 go_wp2_with (fail)
 refine (check2_c (b := w.heap.size) H5.out).mono ?_
 rintro e w6 ⟨rfl, hb6⟩
 have H6 := Lib.hid (H5.out.below (fun k_ hk_ => hb6.block k_ hk_))
 have HB6 := Lib.hid (below_step HB5.out hb6)
 clear hb6 f4 c40 c41
 have h7 : Four ((w6.alloc (.cells #[.int .i64 0] 3)).setCell ⟨w.heap.size + 1, 7, none⟩ (.slice (some ⟨w6.heap.size, 0, none⟩) 1 1)) w.heap.size w6.heap.size := by
  have hlt := blk_lt H6.out.box
  refine ⟨⟨blk_far (blk_alloc H6.out.kids _) (show w.heap.size ≠ w.heap.size + 1 by omega) _, blk_put (blk_alloc H6.out.nodes _) 7 _ rfl, blk_far (blk_alloc H6.out.box _) (show w.heap.size + 2 ≠ w.heap.size + 1 by omega) _⟩, blk_far (heap_alloc_new w6 _) (show w6.heap.size ≠ w.heap.size + 1 by omega) _⟩
 have H7 := Lib.hid h7
 have HB7 := Lib.hid ((HB6.out.alloc HB6.out.size (.cells #[.int .i64 0] 3)).setCell (p := ⟨w.heap.size + 1, 7, none⟩) (by simp) (.slice (some ⟨w6.heap.size, 0, none⟩) 1 1))
 have c60 : w6.cell? ⟨w.heap.size + 1 + 1, 0, none⟩ = some (.slice (some ⟨w.heap.size + 1, 0, none⟩) 2 2) := H6.out.c0
 have c60' : (w6.alloc (.cells #[.int .i64 0] 3)).cell? ⟨w.heap.size + 1 + 1, 0, none⟩ = some (.slice (some ⟨w.heap.size + 1, 0, none⟩) 2 2) := (blk_cell (blk_alloc H6.out.box _) 0).trans rfl
 have f7 : (w6.alloc (.cells #[.int .i64 0] 3)).frozen? ⟨w.heap.size + 1, 7, none⟩ = false := blk_frozen (blk_alloc H6.out.nodes _) 7
 have e7 : (w6.alloc (.cells #[.int .i64 0] 3)).cell? ⟨w.heap.size + 1, 7, none⟩ = some (.slice none 0 0) := (blk_cell (blk_alloc H6.out.nodes _) 7).trans rfl
 have c70 := H7.out.three.c0
 have c71 := H7.out.three.c1
 clear h7
 go_wp2_with (fail)
 refine (check3_c (b := w.heap.size) H7.out).mono ?_
 rintro e w8 ⟨rfl, hb8⟩
 have H8 := Lib.hid (H7.out.below (fun k_ hk_ => hb8.block k_ hk_))
 have HB8 := Lib.hid (below_step HB7.out hb8)
 have c80 := H8.out.three.c0
 have c81 := H8.out.three.c1
 clear hb8 c60 c60' f7 e7 c70 c71
 go_wp2_with (fail)
 refine (below_c (b := w.heap.size) H8.out).mono ?_
 rintro e w9 ⟨v9, rfl, hR9, hb9⟩
 obtain ⟨A9, c9, hv9, hc9, hC9⟩ := Kd.R_reads hR9
 subst hv9
 have HC9 := Lib.hid hC9
 have HB9 := Lib.hid (below_step HB8.out hb9)
 clear hb9 hR9 hC9 c80 c81
 go_wp2_with (fail)
 have hlit : Kd.C (Kd.int .i64) (w9.alloc (.cells #[.int .i64 0, .int .i64 1] 3)) (some ⟨w9.heap.size, 0, none⟩) [0, 1].length [0, 1] :=
  ⟨rfl, by simp, fun _ => ⟨⟨w9.heap.size, 0, none⟩, rfl, fun j p hp => by
   match j, hp with
   | 0, hp => cases hp; exact ⟨[.int .i64 0], rfl, rfl, fun i u hu => by match i, hu with | 0, hu => cases hu; exact (blk_cell (heap_alloc_new w9 _) 0).trans rfl⟩
   | 1, hp => cases hp; exact ⟨[.int .i64 1], rfl, rfl, fun i u hu => by match i, hu with | 0, hu => cases hu; exact (blk_cell (heap_alloc_new w9 _) 1).trans rfl⟩⟩⟩
 have hal : Below w9.heap.size w9 (w9.alloc (.cells #[.int .i64 0, .int .i64 1] 3)) := (Below.refl _ _).alloc (Nat.le_refl _) _
 refine (dioramaref09_Ints.calls 60 A9 c9 [0, 1] (some ⟨w9.heap.size, 0, none⟩) 2 [0, 1] true _ (Kd.C_below HC9.out hal) hc9 hlit (by simp) ints3).mono ?_
 rintro e w10 ⟨rfl, hd10⟩
 have HB10 := Lib.hid (below_step (below_step HB9.out hal) hd10.below)
 clear hd10 hlit hal
 go_wp2_with (fail)
 go_ret
 exact ⟨rfl, HB10.out⟩
def dioramalaw09_awake.f (k : Nat) : Option Bool := some true
theorem dioramalaw09_awake.mono : ∀ k, LeO (dioramalaw09_awake.f k) (dioramalaw09_awake.f (k + 1)) := fun k r h => h
theorem dioramalaw09_awake.calls (k : Nat) (r : Bool) (w : World) (h : dioramalaw09_awake.f k = some r) :
  Calls Try.prog 33 #[] w fun e w' => e = .returned (.bool r) ∧ Below w.heap.size w w' := by
 obtain rfl := Option.some.inj h
 exact awake_calls w

-- NOT PRINTED: function 12 (dioramalaw09_GraphLoose)

end Go.Proofs.Ytlfjjapndlkamaa.GL
