/- GraphLoose, called. -/
import Derived.Test.YtlfjjapndlkamaaGrV
import Derived.Test.YtlfjjapndlkamaaGrD
import Derived.Test.YtlfjjapndlkamaaGLx8
import Derived.Test.YtlfjjapndlkamaaGLx4
import Derived.Deep.LoopGhost
namespace Go.Proofs.Ytlfjjapndlkamaa.GL
open Go.RowKit Go.Lib Go.Maps Go.Proofs.YtlfjjapndlkamaaW.PrintWords Go.Proofs.YtlfjjapndlkamaaW.PrintLast Go.Proofs.YtlfjjapndlkamaaW.PrintMore
set_option linter.unusedVariables false
set_option linter.unusedSimpArgs false
/-- 'm[j] = true' in a literal. -/
theorem wpList_insert {ops : Array Oper} {rest : List Oper} {o : Oper} {a : Act} {Q : Exit → Act → World → Prop} (w : World)
    (hg : o.guard = none) (m x v : Operand) (hop : o.op = Op.insert 44 m x v) (b n : Nat) (met : List Nat) (hown : Set.IsSet w b n met) (j : Nat) (hj : j ≤ 9223372036854775807) (ji : Int) (hji : ji = (j : Int)) (hn : n < maxLen)
    (hm : a.eval m = .map (some b)) (hx : a.eval x = .int .i64 ji) (hv : a.eval v = .bool true)
    (hK : ∀ w', Set.IsSet w' b (n + 1) (j :: met) → w.grownBy w' (some b) → wpList Try.prog ops Q rest (a.put o.dst undef) w') :
    wpList Try.prog ops Q (o :: rest) a w := by
  subst hji
  refine wpList_plain hg fun K' hK' => ?_
  obtain ⟨w', hrun, r1, r2⟩ := hown.store hj hn
  unfold Oper.wp
  simp [execOp, hop, hm, hx, hv, hrun, Result.andThen]
  exact hK' _ _ (hK w' r1 r2)
/-- What is below a node, sorted. -/
def belowL (l0 : List (S40)) (x : Nat) : List Nat := (List.range l0.length).filter fun i => decide (i ∈ GT.reachS (GT.toG (kidsI l0)) [x])
theorem below_of {l0 : List (S40)} {a1 : Int} (hn : l0.length ≤ 1000000) (hE : ((kidsI l0).map List.length).sum ≤ 1000000) (h0 : 0 ≤ a1) (h1 : a1 < (l0.length : Int)) (hgood : GT.firstBad (kidsI l0) = none) {x : Nat} (hx : x < l0.length) {xi : Int} (hxi : xi = (x : Int)) : graph_Below.f l0 a1 xi = some (intsOf (belowL l0 x)) := by
  subst hxi
  rw [graph_Below.f, if_pos ⟨hn, hE⟩, if_neg (by omega), hgood, Int.toNat_natCast]
  rfl
theorem mem_below {l0 : List (S40)} (hE : ((kidsI l0).map List.length).sum ≤ 1000000) (hgood : GT.firstBad (kidsI l0) = none) {x : Nat} (hx : x < l0.length) (j : Nat) : j ∈ belowL l0 x ↔ GT.Path (GT.toG (kidsI l0)) x j := by
  have hl : (GT.toG (kidsI l0)).length = l0.length := by rw [GT.length_toG, kids_len]
  unfold belowL
  rw [List.mem_filter, List.mem_range, decide_eq_true_eq, GT.mem_reachS (GT.wf_of_firstBad hgood) (fun y hy => by rw [List.mem_singleton] at hy; omega) (by rw [GT.edges_toG]; simp; omega)]
  constructor
  · rintro ⟨_, f, hf, p⟩
    rw [List.mem_singleton] at hf
    exact hf ▸ p
  · intro p
    exact ⟨by have := p.lt (GT.wf_of_firstBad hgood) (by omega); omega, x, by simp, p⟩
theorem below_nodup (l0 : List (S40)) (x : Nat) : (belowL l0 x).Nodup := List.nodup_range.filter _
theorem below_len (l0 : List (S40)) (x : Nat) : (belowL l0 x).length ≤ l0.length := by
  have := List.length_filter_le (fun i => decide (i ∈ GT.reachS (GT.toG (kidsI l0)) [x])) (List.range l0.length)
  rwa [List.length_range] at this
theorem rd_ints (L : List Nat) {i : Int} (h0 : 0 ≤ i) (h1 : i < (L.length : Int)) : (intsOf L).getD i.toNat 0 = ((L[i.toNat]'(by omega) : Nat) : Int) := by
  unfold intsOf
  rw [List.getD_eq_getElem?_getD, List.getElem?_map, List.getElem?_eq_getElem (by omega)]
  rfl
section
variable (A0 : Option Addr) (c0 : Nat) (l0 : List (S40)) (a1 at_ : Int) (w : World)
set_option maxHeartbeats 8000000 in
set_option maxRecDepth 100000 in
theorem loose_great (k : Nat) (hr0 : Kd.C k40 w A0 l0.length l0) (hc0 : l0.length ≤ c0) (hg1 : dioramaref09_Great.f k l0 a1 = some true) :
    Calls Try.prog 12 #[.agg #[.slice A0 l0.length c0, .int .i64 a1], .int .i64 at_] w fun e w' => e = .returned (.bool true) ∧ Below w.heap.size w w' := by
  have HR := Lib.hid hr0
  clear hr0
  go_enter Try.func12, Try.ntmps12
  go_wp2_with (fail)
  refine (dioramalaw09_awake.calls k true _ rfl).mono ?_
  rintro e w1 ⟨rfl, hb1⟩
  have HX1 : Hid (SBox w1 w.heap.size A0 l0.length c0 a1) := Lib.hid ((hb1.block w.heap.size (blk_lt (heap_alloc_new w _))).trans (heap_alloc_new w _))
  have HB1 := Lib.hid (below_step ((Below.refl _ w).alloc (Nat.le_refl _) _) hb1)
  have q0 : w1.cell? ⟨w.heap.size, 0, none⟩ = some (.slice A0 l0.length c0) := (blk_cell HX1.out 0).trans rfl
  have q1 : w1.cell? ⟨w.heap.size, 1, none⟩ = some (.int .i64 a1) := (blk_cell HX1.out 1).trans rfl
  clear hb1
  go_wp2_with (fail)
  refine (dioramaref09_Great.calls k A0 c0 l0 a1 true w1 (Kd.C_below HR.out HB1.out) hc0 hg1).mono ?_
  rintro e w2 ⟨rfl, hb2⟩
  have HB2 := Lib.hid (below_step HB1.out hb2)
  clear hb2 q0 q1
  go_wp2_with (fail)
  refine (dioramalaw09_awake.calls k true _ rfl).mono ?_
  rintro e w3 ⟨rfl, hb3⟩
  have HB3 := Lib.hid (below_step HB2.out hb3)
  clear hb3
  go_wp2_with (fail)
  go_ret
  exact ⟨rfl, HB3.out⟩
set_option maxHeartbeats 8000000 in
set_option maxRecDepth 100000 in
theorem loose_wrong (k : Nat) (hr0 : Kd.C k40 w A0 l0.length l0) (hc0 : l0.length ≤ c0) (hg1 : dioramaref09_Great.f k l0 a1 = some false) (hr1 : dioramaref09_Right.f k l0 a1 = some false) :
    Calls Try.prog 12 #[.agg #[.slice A0 l0.length c0, .int .i64 a1], .int .i64 at_] w fun e w' => e = .returned (.bool true) ∧ Below w.heap.size w w' := by
  have HR := Lib.hid hr0
  clear hr0
  go_enter Try.func12, Try.ntmps12
  go_wp2_with (fail)
  refine (dioramalaw09_awake.calls k true _ rfl).mono ?_
  rintro e w1 ⟨rfl, hb1⟩
  have HX1 : Hid (SBox w1 w.heap.size A0 l0.length c0 a1) := Lib.hid ((hb1.block w.heap.size (blk_lt (heap_alloc_new w _))).trans (heap_alloc_new w _))
  have HB1 := Lib.hid (below_step ((Below.refl _ w).alloc (Nat.le_refl _) _) hb1)
  have q0 : w1.cell? ⟨w.heap.size, 0, none⟩ = some (.slice A0 l0.length c0) := (blk_cell HX1.out 0).trans rfl
  have q1 : w1.cell? ⟨w.heap.size, 1, none⟩ = some (.int .i64 a1) := (blk_cell HX1.out 1).trans rfl
  clear hb1
  go_wp2_with (fail)
  refine (dioramaref09_Great.calls k A0 c0 l0 a1 false w1 (Kd.C_below HR.out HB1.out) hc0 hg1).mono ?_
  rintro e w2 ⟨rfl, hb2⟩
  have HX2 : Hid (SBox w2 w.heap.size A0 l0.length c0 a1) := Lib.hid ((hb2.block w.heap.size (blk_lt HX1.out)).trans HX1.out)
  have HB2 := Lib.hid (below_step HB1.out hb2)
  have p0 : w2.cell? ⟨w.heap.size, 0, none⟩ = some (.slice A0 l0.length c0) := (blk_cell HX2.out 0).trans rfl
  have p1 : w2.cell? ⟨w.heap.size, 1, none⟩ = some (.int .i64 a1) := (blk_cell HX2.out 1).trans rfl
  clear hb2 q0 q1
  go_wp2_with (fail)
  refine (dioramaref09_Right.calls k A0 c0 l0 a1 false w2 (Kd.C_below HR.out HB2.out) hc0 hr1).mono ?_
  rintro e w3 ⟨rfl, hb3⟩
  have HB3 := Lib.hid (below_step HB2.out hb3)
  clear hb3 p0 p1
  go_wp2_with (fail)
  refine (dioramalaw09_awake.calls k true _ rfl).mono ?_
  rintro e w4 ⟨rfl, hb4⟩
  have HB4 := Lib.hid (below_step HB3.out hb4)
  clear hb4
  go_wp2_with (fail)
  go_ret
  exact ⟨rfl, HB4.out⟩
set_option maxHeartbeats 8000000 in
set_option maxRecDepth 100000 in
theorem loose_place (k : Nat) (hr0 : Kd.C k40 w A0 l0.length l0) (hc0 : l0.length ≤ c0) (hg1 : dioramaref09_Great.f k l0 a1 = some false) (hr1 : dioramaref09_Right.f k l0 a1 = some true) (hp1 : dioramaref09_Place.f l0 a1 at_ = some false) :
    Calls Try.prog 12 #[.agg #[.slice A0 l0.length c0, .int .i64 a1], .int .i64 at_] w fun e w' => e = .returned (.bool true) ∧ Below w.heap.size w w' := by
  have HR := Lib.hid hr0
  clear hr0
  go_enter Try.func12, Try.ntmps12
  go_wp2_with (fail)
  refine (dioramalaw09_awake.calls k true _ rfl).mono ?_
  rintro e w1 ⟨rfl, hb1⟩
  have HX1 : Hid (SBox w1 w.heap.size A0 l0.length c0 a1) := Lib.hid ((hb1.block w.heap.size (blk_lt (heap_alloc_new w _))).trans (heap_alloc_new w _))
  have HB1 := Lib.hid (below_step ((Below.refl _ w).alloc (Nat.le_refl _) _) hb1)
  have q0 : w1.cell? ⟨w.heap.size, 0, none⟩ = some (.slice A0 l0.length c0) := (blk_cell HX1.out 0).trans rfl
  have q1 : w1.cell? ⟨w.heap.size, 1, none⟩ = some (.int .i64 a1) := (blk_cell HX1.out 1).trans rfl
  clear hb1
  go_wp2_with (fail)
  refine (dioramaref09_Great.calls k A0 c0 l0 a1 false w1 (Kd.C_below HR.out HB1.out) hc0 hg1).mono ?_
  rintro e w2 ⟨rfl, hb2⟩
  have HX2 : Hid (SBox w2 w.heap.size A0 l0.length c0 a1) := Lib.hid ((hb2.block w.heap.size (blk_lt HX1.out)).trans HX1.out)
  have HB2 := Lib.hid (below_step HB1.out hb2)
  have p0 : w2.cell? ⟨w.heap.size, 0, none⟩ = some (.slice A0 l0.length c0) := (blk_cell HX2.out 0).trans rfl
  have p1 : w2.cell? ⟨w.heap.size, 1, none⟩ = some (.int .i64 a1) := (blk_cell HX2.out 1).trans rfl
  clear hb2 q0 q1
  go_wp2_with (fail)
  refine (dioramaref09_Right.calls k A0 c0 l0 a1 true w2 (Kd.C_below HR.out HB2.out) hc0 hr1).mono ?_
  rintro e w3 ⟨rfl, hb3⟩
  have HX3 : Hid (SBox w3 w.heap.size A0 l0.length c0 a1) := Lib.hid ((hb3.block w.heap.size (blk_lt HX2.out)).trans HX2.out)
  have HB3 := Lib.hid (below_step HB2.out hb3)
  have q0 : w3.cell? ⟨w.heap.size, 0, none⟩ = some (.slice A0 l0.length c0) := (blk_cell HX3.out 0).trans rfl
  have q1 : w3.cell? ⟨w.heap.size, 1, none⟩ = some (.int .i64 a1) := (blk_cell HX3.out 1).trans rfl
  clear hb3 p0 p1
  go_wp2_with (fail)
  refine (dioramaref09_Place.calls A0 c0 l0 a1 at_ false w3 (Kd.C_below HR.out HB3.out) hc0 hp1).mono ?_
  rintro e w4 ⟨rfl, hb4⟩
  have HB4 := Lib.hid (below_step HB3.out hb4)
  clear hb4 q0 q1
  go_wp2_with (fail)
  refine (dioramalaw09_awake.calls k true _ rfl).mono ?_
  rintro e w5 ⟨rfl, hb5⟩
  have HB5 := Lib.hid (below_step HB4.out hb5)
  clear hb5
  go_wp2_with (fail)
  go_ret
  exact ⟨rfl, HB5.out⟩
set_option maxHeartbeats 8000000 in
set_option maxRecDepth 100000 in
theorem loose_calls (k : Nat) (hr0 : Kd.C k40 w A0 l0.length l0) (hc0 : l0.length ≤ c0) (hlen : l0.length ≤ 1000000) (hsum : ((kidsI l0).map List.length).sum ≤ 1000000)
    (hg1 : dioramaref09_Great.f k l0 a1 = some false) (hr1 : dioramaref09_Right.f k l0 a1 = some true) (hp1 : dioramaref09_Place.f l0 a1 at_ = some true) (hc : (checkP l0 a1).1 = 0) (r : Nat) (hr : at_ = (r : Int)) (hrl : r < l0.length) :
    Calls Try.prog 12 #[.agg #[.slice A0 l0.length c0, .int .i64 a1], .int .i64 at_] w fun e w' => e = .returned (.bool true) ∧ Below w.heap.size w w' := by
  obtain ⟨h0, h1, hgood, hacy, hall⟩ := checkP_zero hsum hc
  have HR := Lib.hid hr0
  have HS := Lib.hid hsum
  have HG := Lib.hid hg1
  have HT := Lib.hid hr1
  have HP := Lib.hid hp1
  have HAT := Lib.hid hr
  have HGO := Lib.hid hgood
  have HAC := Lib.hid hacy
  have HAL := Lib.hid hall
  clear hr0 hsum hc hg1 hr1 hp1 hr hgood hacy hall
  have hmm := @run_makeMap Try.prog
  go_enter Try.func12, Try.ntmps12
  go_wp2_with (fail)
  refine (dioramalaw09_awake.calls k true _ rfl).mono ?_
  rintro e w1 ⟨rfl, hb1⟩
  have HX1 : Hid (SBox w1 w.heap.size A0 l0.length c0 a1) := Lib.hid ((hb1.block w.heap.size (blk_lt (heap_alloc_new w _))).trans (heap_alloc_new w _))
  have HB1 := Lib.hid (below_step ((Below.refl _ w).alloc (Nat.le_refl _) _) hb1)
  have q0 : w1.cell? ⟨w.heap.size, 0, none⟩ = some (.slice A0 l0.length c0) := (blk_cell HX1.out 0).trans rfl
  have q1 : w1.cell? ⟨w.heap.size, 1, none⟩ = some (.int .i64 a1) := (blk_cell HX1.out 1).trans rfl
  clear hb1
  go_wp2_with (fail)
  refine (dioramaref09_Great.calls k A0 c0 l0 a1 false w1 (Kd.C_below HR.out HB1.out) hc0 HG.out).mono ?_
  rintro e w2 ⟨rfl, hb2⟩
  have HX2 : Hid (SBox w2 w.heap.size A0 l0.length c0 a1) := Lib.hid ((hb2.block w.heap.size (blk_lt HX1.out)).trans HX1.out)
  have HB2 := Lib.hid (below_step HB1.out hb2)
  have p0 : w2.cell? ⟨w.heap.size, 0, none⟩ = some (.slice A0 l0.length c0) := (blk_cell HX2.out 0).trans rfl
  have p1 : w2.cell? ⟨w.heap.size, 1, none⟩ = some (.int .i64 a1) := (blk_cell HX2.out 1).trans rfl
  clear hb2 q0 q1
  go_wp2_with (fail)
  refine (dioramaref09_Right.calls k A0 c0 l0 a1 true w2 (Kd.C_below HR.out HB2.out) hc0 HT.out).mono ?_
  rintro e w3 ⟨rfl, hb3⟩
  have HX3 : Hid (SBox w3 w.heap.size A0 l0.length c0 a1) := Lib.hid ((hb3.block w.heap.size (blk_lt HX2.out)).trans HX2.out)
  have HB3 := Lib.hid (below_step HB2.out hb3)
  have q0 : w3.cell? ⟨w.heap.size, 0, none⟩ = some (.slice A0 l0.length c0) := (blk_cell HX3.out 0).trans rfl
  have q1 : w3.cell? ⟨w.heap.size, 1, none⟩ = some (.int .i64 a1) := (blk_cell HX3.out 1).trans rfl
  clear hb3 p0 p1
  go_wp2_with (fail)
  refine (dioramaref09_Place.calls A0 c0 l0 a1 at_ true w3 (Kd.C_below HR.out HB3.out) hc0 HP.out).mono ?_
  rintro e w4 ⟨rfl, hb4⟩
  have hX4 : SBox w4 w.heap.size A0 l0.length c0 a1 := (hb4.block w.heap.size (blk_lt HX3.out)).trans HX3.out
  have HX4 := Lib.hid hX4
  have HB4 := Lib.hid (below_step HB3.out hb4)
  have hbl4 := blk_lt hX4
  clear hb4 q0 q1 hX4
  have hrw : r ≤ 9223372036854775807 := by omega
  have ha0 : 0 ≤ at_ := by have := HAT.out; omega
  have ha1 : at_ < (l0.length : Int) := by have := HAT.out; omega
  obtain ⟨ad, A1, c1, A2, c2, A3, c3, e, hx0, hx1, hx2, hx3, hl1, hi1, hl2, hi2, hl3, hi3⟩ := at_T40 HR.out at_ (by have := HAT.out; omega) (by have := HAT.out; omega)
  cases e
  have HX3' := Lib.hid hx3
  have HI3 := Lib.hid hi3
  have hkl : ((rd_T40 l0 at_).f3).length ≤ 1000000 := kid_len l0 HS.out at_
  have hki := kids_ints HGO.out at_
  have htn : at_.toNat = r := by have := HAT.out; omega
  rw [htn] at hki
  have HKI := Lib.hid hki
  have HKB : Hid (∀ x ∈ GT.kids (GT.toG (kidsI l0)) r, x < l0.length) := Lib.hid (fun x hx => by
    have := GT.wf_of_firstBad HGO.out r x hx
    rw [GT.length_toG, kids_len] at this
    exact this)
  have hklen : ((rd_T40 l0 at_).f3).length = (GT.kids (GT.toG (kidsI l0)) r).length := by rw [← HKI.out, intsOf_len]
  have HKL := Lib.hid hklen
  clear hx0 hx1 hx2 hx3 hl1 hi1 hl2 hi2 hi3 hki htn hklen
  go_wp2_with (first
    | (refine wpList_insert _ rfl _ _ _ rfl w4.heap.size 0 [] (Set.made w4) r hrw at_ HAT.out (by unfold maxLen; omega) rfl rfl rfl ?_; intro w5 hset5 hg5; have HS5 := Lib.hid hset5; have HB5 := Lib.hid (Kw.grown_below (HB4.out.alloc HB4.out.size (.map #[] 0)) hg5 (fun g h => by cases h; exact HB4.out.size)); have HX5 : Hid (SBox w5 w.heap.size (some ad) l0.length c0 a1) := Lib.hid ((hg5.block w.heap.size (by simp; omega) (by simp; omega)).trans (blk_alloc HX4.out _)); have q0 : w5.cell? ⟨w.heap.size, 0, none⟩ = some (.slice (some ad) l0.length c0) := (blk_cell HX5.out 0).trans rfl; have q3 := (HB5.out.cell (World.block_lt_of_cell? w _ HX3'.out)).trans HX3'.out; have hsz5 : w4.heap.size < w5.heap.size := (by have := hg5.size; simp at this; omega); have HZ5 := Lib.hid hsz5; clear hset5 hg5 hsz5))
  clear q0 q3
  go_loopg [41] ((rd_T40 l0 at_).f3).length (fun kq v41 wr => ∃ (i : Int) (met : List Nat) (m : Nat), v41 = .int .i64 i ∧ 0 ≤ i ∧ i + kq = ((rd_T40 l0 at_).f3).length ∧ Aside0 (Set.IsSet wr w4.heap.size m met ∧ m ≤ 1 + i.toNat * 1000000) ∧ Aside0 met.Nodup ∧ Aside0 (∀ x, x ∈ met ↔ x = r ∨ ∃ k ∈ (GT.kids (GT.toG (kidsI l0)) r).take i.toNat, GT.Path (GT.toG (kidsI l0)) k x) ∧ Aside0 (SBox wr w.heap.size (some ad) l0.length c0 a1) ∧ Aside0 (Below w.heap.size w wr) ∧ Aside0 (w4.heap.size < wr.heap.size))
  case atStart => exact ⟨0, [r], 1, rfl, by omega, by omega, ⟨HS5.out, by simp⟩, ⟨by simp⟩, ⟨by simp⟩, ⟨HX5.out⟩, ⟨HB5.out⟩, ⟨HZ5.out⟩⟩
  case round =>
    obtain ⟨i, met, m, rfl, hi0, hik, hset, hnd, hmem, hbx, hbel, hsz⟩ := hrel
    have q0 : wr.cell? ⟨w.heap.size, 0, none⟩ = some (.slice (some ad) l0.length c0) := (blk_cell hbx.out 0).trans rfl
    have q1 : wr.cell? ⟨w.heap.size, 1, none⟩ = some (.int .i64 a1) := (blk_cell hbx.out 1).trans rfl
    by_cases hlt : i < (((rd_T40 l0 at_).f3).length : Int)
    · have t4 : decide (i < (((rd_T40 l0 at_).f3).length : Int)) = true := decide_eq_true hlt
      obtain ⟨ad3, e3, hx4⟩ := Kd.at_int (Kd.C_below HI3.out hbel.out) i hi0 hlt
      cases e3
      obtain ⟨ko, rfl⟩ : ∃ g, gk = g + 1 := ⟨gk - 1, by omega⟩
      have hil : i.toNat < (GT.kids (GT.toG (kidsI l0)) r).length := by have := HKL.out; omega
      obtain ⟨kn, hkn⟩ : ∃ kn, kn = (GT.kids (GT.toG (kidsI l0)) r)[i.toNat] := ⟨_, rfl⟩
      have hkm : kn ∈ GT.kids (GT.toG (kidsI l0)) r := by rw [hkn]; exact List.getElem_mem _
      have hkr : rd ((rd_T40 l0 at_).f3) i = (kn : Int) := by
        have := rd_ints (GT.kids (GT.toG (kidsI l0)) r) hi0 (by omega)
        rw [HKI.out] at this
        rw [hkn]
        exact this
      obtain ⟨ki, hki⟩ : ∃ ki, ki = rd ((rd_T40 l0 at_).f3) i := ⟨_, rfl⟩
      rw [← hki] at hx4 hkr
      have HKM := Lib.hid hkm
      have HKN := Lib.hid hkn
      have HKR := Lib.hid hkr
      have hkl2 : kn < l0.length := HKB.out kn hkm
      clear hki hkr hkm hkn
      go_wp2_with (fail)
      refine (graph_Below.calls (some ad) c0 l0 a1 ki (intsOf (belowL l0 kn)) wr (Kd.C_below HR.out hbel.out) hc0 (below_of hlen HS.out h0 h1 HGO.out hkl2 HKR.out)).mono ?_
      rintro e w6 ⟨v6, rfl, hR6, hb6⟩
      have hR6' := Kd.R_lower hR6 (show w4.heap.size + 1 ≤ wr.heap.size from hsz.out)
      obtain ⟨A6, c6, rfl⟩ := Kd.R_slice hR6
      have HO6 := Lib.hid (Kw.own_of_R hR6')
      have HS6 := Lib.hid (hset.out.1.below hb6)
      have HX6 : Hid (SBox w6 w.heap.size (some ad) l0.length c0 a1) := Lib.hid ((hb6.block w.heap.size (blk_lt hbx.out)).trans hbx.out)
      have HB6 := Lib.hid (below_step hbel.out hb6)
      have HZ6 : Hid (w4.heap.size < w6.heap.size) := Lib.hid (by have := hb6.size; have := hsz.out; omega)
      have hbl := below_len l0 kn
      have hil2 : (intsOf (belowL l0 kn)).length = (belowL l0 kn).length := intsOf_len _
      have HMM := Lib.hid hmem.out
      have HND := Lib.hid hnd.out
      have HM6 : Hid (m ≤ 1 + i.toNat * 1000000) := Lib.hid hset.out.2
      clear hR6 hR6' hb6 q0 q1 hx4 t4 hset hnd hmem hbx hbel hsz
      rw [hil2] at HO6 ⊢
      go_wp2_with (fail)
      go_loopg [49] ((belowL l0 kn).length) (fun kq v49 wq => ∃ (t : Int) (met2 : List Nat) (m2 : Nat), v49 = .int .i64 t ∧ 0 ≤ t ∧ t + kq = (belowL l0 kn).length ∧ Aside0 (Set.IsSet wq w4.heap.size m2 met2 ∧ m2 ≤ m + t.toNat) ∧ Aside0 met2.Nodup ∧ Aside0 (∀ x, x ∈ met2 ↔ x ∈ met ∨ x ∈ (belowL l0 kn).take t.toNat) ∧ Aside0 (wq.ownsRow (w4.heap.size + 1) 3 1 (.slice A6 (belowL l0 kn).length c6) (belowL l0 kn).length ((intsOf (belowL l0 kn)).map (Value.int .i64))) ∧ Aside0 (SBox wq w.heap.size (some ad) l0.length c0 a1) ∧ Aside0 (Below w.heap.size w wq) ∧ Aside0 (w4.heap.size < wq.heap.size))
      case atStart => exact ⟨0, met, m, rfl, by omega, by omega, ⟨HS6.out, by omega⟩, ⟨HND.out⟩, ⟨by simp⟩, ⟨HO6.out⟩, ⟨HX6.out⟩, ⟨HB6.out⟩, ⟨HZ6.out⟩⟩
      case round =>
        obtain ⟨t, met2, m2, rfl, ht0, htk, hset, hnd, hmem, hown, hbx, hbel, hsz⟩ := hrel
        by_cases htl : t < ((belowL l0 kn).length : Int)
        · have t5 : decide (t < ((belowL l0 kn).length : Int)) = true := decide_eq_true htl
          obtain ⟨g6, cap6, hv6⟩ : ∃ g cap, Value.slice A6 (belowL l0 kn).length c6 = .slice (some ⟨g, 0, none⟩) (belowL l0 kn).length cap := by
            rcases hown.out.2 with ⟨_, h0⟩ | ⟨g, cap, cur, hv, _⟩
            · omega
            · exact ⟨g, cap, hv⟩
          cases hv6
          have hgb : w4.heap.size + 1 ≤ g6 := own_base hown.out g6 rfl
          obtain ⟨xn, hxn⟩ : ∃ xn, xn = (belowL l0 kn)[t.toNat]'(by omega) := ⟨_, rfl⟩
          have hxm : xn ∈ belowL l0 kn := by rw [hxn]; exact List.getElem_mem _
          have hxp := (mem_below HS.out HGO.out hkl2 xn).1 hxm
          have hxr : xn ≠ r := fun h => HAC.out r ⟨kn, HKM.out, h ▸ hxp⟩
          have hxl : xn < l0.length := by have := hxp.lt (GT.wf_of_firstBad HGO.out) (by rw [GT.length_toG, kids_len]; exact hkl2); rw [GT.length_toG, kids_len] at this; exact this
          obtain ⟨xi, hxi⟩ : ∃ xi : Int, xi = (xn : Int) := ⟨_, rfl⟩
          have hcx : wr.cell? ⟨g6, t.toNat, none⟩ = some (.int .i64 xi) := by
            have := hown.out.cellAt t.toNat (by omega)
            rw [this, hxi, hxn]
            unfold intsOf
            rw [List.map_map, List.getElem?_map, List.getElem?_eq_getElem (by omega)]
            rfl
          have t6 : decide (xi = at_) = false := decide_eq_false (by have := HAT.out; omega)
          have t6n : ¬ xi = at_ := by have := HAT.out; omega
          have t6b : (xi == at_) = false := by simpa using t6n
          have HXI := Lib.hid hxi
          have HXN := Lib.hid hxn
          have hxw : xn ≤ 9223372036854775807 := by omega
          have hmx : m2 < maxLen := by have := hset.out.2; have := HM6.out; unfold maxLen; omega
          clear hxm hxp hxr hxi hxn
          go_wp2_with (first
            | (at_mapUpdate; refine Set.wpList_store _ rfl _ _ _ rfl w4.heap.size m2 met2 hset.out.1 xn hxw xi HXI.out hmx rfl rfl rfl ?_; intro w7 hset7 hg7; have HS7 := Lib.hid hset7; have HG7 := Lib.hid hg7; clear hset7 hg7))
          obtain ⟨kp, rfl⟩ : ∃ g, gk = g + 1 := ⟨gk - 1, by omega⟩
          go_roundg kp
          case measure => omega
          case rel =>
            have hsz4 := HB4.out.size
            have hgs := HG7.out.size
            have hbz := blk_lt hbx.out
            have hsz' := hsz.out
            have htk2 : (t + 1).toNat = t.toNat + 1 := by omega
            have htake : ∀ x, x ∈ (belowL l0 kn).take (t + 1).toNat ↔ x ∈ (belowL l0 kn).take t.toNat ∨ x = xn := fun x => by
              rw [htk2, List.take_succ_eq_append_getElem (by omega), List.mem_append, List.mem_singleton, ← HXN.out]
            have hrow := hown.out.kept HG7.out (.inr (fun h => by simp [Value.ownBlock] at h; omega))
            have hblk : SBox _ w.heap.size (some ad) l0.length c0 a1 := (HG7.out.block w.heap.size hbz (by simp; omega)).trans hbx.out
            have hbe := Kw.grown_below hbel.out HG7.out (fun g h => by cases h; omega)
            by_cases hin : xn ∈ met2
            · exact ⟨t + 1, met2, m2 + 1, rfl, by omega, by omega, ⟨HS7.out.congr (fun j => by rw [List.mem_cons]; exact ⟨fun h => h.elim (fun h => h ▸ hin) id, .inr⟩), by have := hset.out.2; omega⟩, hnd, ⟨fun x => by rw [htake, hmem.out]; have := hmem.out xn; exact ⟨fun h => h.elim .inl (fun h => .inr (.inl h)), fun h => h.elim .inl (fun h => h.elim .inr (fun h => by subst h; exact this.1 hin))⟩⟩, ⟨hrow⟩, ⟨hblk⟩, ⟨hbe⟩, ⟨by omega⟩⟩
            · exact ⟨t + 1, xn :: met2, m2 + 1, rfl, by omega, by omega, ⟨HS7.out, by have := hset.out.2; omega⟩, ⟨List.nodup_cons.2 ⟨hin, hnd.out⟩⟩, ⟨fun x => by rw [htake, List.mem_cons, hmem.out]; exact ⟨fun h => h.elim (fun h => .inr (.inr h)) (fun h => h.elim .inl (fun h => .inr (.inl h))), fun h => h.elim (fun h => .inr (.inl h)) (fun h => h.elim (fun h => .inr (.inr h)) .inl)⟩⟩, ⟨hrow⟩, ⟨hblk⟩, ⟨hbe⟩, ⟨by omega⟩⟩
        · have t5 : decide (t < ((belowL l0 kn).length : Int)) = false := decide_eq_false htl
          go_wp2_with (fail)
          go_roundg ko
          case measure => omega
          case rel =>
            have htake : (belowL l0 kn).take t.toNat = belowL l0 kn := List.take_of_length_le (by omega)
            have hi2 : (i + 1).toNat = i.toNat + 1 := by omega
            exact ⟨i + 1, met2, m2, rfl, by omega, by omega, ⟨hset.out.1, by have := hset.out.2; have := HM6.out; omega⟩, hnd, ⟨fun x => by
              rw [hmem.out, htake, HMM.out, mem_below HS.out HGO.out hkl2, hi2, List.take_succ_eq_append_getElem (by omega), ← HKN.out]
              constructor
              · rintro ((h | ⟨k, hk, p⟩) | h)
                · exact .inl h
                · exact .inr ⟨k, List.mem_append.2 (.inl hk), p⟩
                · exact .inr ⟨kn, by simp, h⟩
              · rintro (h | ⟨k, hk, p⟩)
                · exact .inl (.inl h)
                · rcases List.mem_append.1 hk with h | h
                  · exact .inl (.inr ⟨k, h, p⟩)
                  · rw [List.mem_singleton] at h; exact .inr (h ▸ p)⟩, hbx, hbel, hsz⟩
    · have t4 : decide (i < (((rd_T40 l0 at_).f3).length : Int)) = false := decide_eq_false hlt
      have hall : ∀ x, x ∈ met ↔ x ∈ belowL l0 r := fun x => by
        rw [hmem.out, mem_below HS.out HGO.out hrl, List.take_of_length_le (by have := HKL.out; omega)]
        constructor
        · rintro (h | ⟨k, hk, p⟩)
          · rw [h]; exact .refl r
          · exact .step hk p
        · intro p
          rcases GT.led_or_path p with h | ⟨k, hk, p⟩
          · exact .inl h.symm
          · exact .inr ⟨k, hk, p⟩
      have hlen2 : met.length = (belowL l0 r).length := (List.perm_ext_iff_of_nodup hnd.out (below_nodup l0 r)).2 hall |>.length_eq
      have HLL := Lib.hid hlen2
      have HALL := Lib.hid hall
      clear hall hlen2
      go_wp2_with (fail)
      refine (graph_Below.calls (some ad) c0 l0 a1 at_ (intsOf (belowL l0 r)) wr (Kd.C_below HR.out hbel.out) hc0 (below_of hlen HS.out h0 h1 HGO.out hrl HAT.out)).mono ?_
      rintro e w6 ⟨v6, rfl, hR6, hb6⟩
      obtain ⟨A6, c6, hv6, hc6, hC6⟩ := Kd.R_reads hR6
      subst hv6
      have HC6 := Lib.hid hC6
      have HS6 := Lib.hid (hset.out.1.below hb6)
      have HX6 : Hid (SBox w6 w.heap.size (some ad) l0.length c0 a1) := Lib.hid ((hb6.block w.heap.size (blk_lt hbx.out)).trans hbx.out)
      have HB6 := Lib.hid (below_step hbel.out hb6)
      have HND := Lib.hid hnd.out
      have hbl := below_len l0 r
      have hil2 : (intsOf (belowL l0 r)).length = (belowL l0 r).length := intsOf_len _
      clear hR6 hb6 q0 q1 t4 hset hnd hmem hbx hbel hsz hC6
      rw [hil2] at HC6 ⊢
      go_wp2_with (fail)
      go_loopg [65] ((belowL l0 r).length) (fun kq v65 wq => ∃ (t : Int), v65 = .int .i64 t ∧ 0 ≤ t ∧ t + kq = (belowL l0 r).length ∧ Aside0 (wq = w6))
      case atStart => exact ⟨0, rfl, by omega, by omega, ⟨rfl⟩⟩
      case round =>
        obtain ⟨t, rfl, ht0, htk, hw⟩ := hrel
        have hw' := hw.out
        subst hw'
        by_cases htl : t < ((belowL l0 r).length : Int)
        · have t5 : decide (t < ((belowL l0 r).length : Int)) = true := decide_eq_true htl
          obtain ⟨ad6, e6, hx6⟩ := Kd.at_int HC6.out t ht0 htl
          cases e6
          obtain ⟨xn, hxn⟩ : ∃ xn, xn = (belowL l0 r)[t.toNat]'(by omega) := ⟨_, rfl⟩
          have hxm : xn ∈ met := by rw [HALL.out, hxn]; exact List.getElem_mem _
          obtain ⟨xi, hxi⟩ : ∃ xi : Int, xi = rd (intsOf (belowL l0 r)) t := ⟨_, rfl⟩
          have hxe : xi = (xn : Int) := by
            have := rd_ints (belowL l0 r) ht0 (by omega)
            rw [hxi, hxn]
            exact this
          rw [← hxi] at hx6
          have hxl : xn < l0.length := by
            have h := (HALL.out xn).1 hxm
            have h2 := ((mem_below HS.out HGO.out hrl xn).1 h).lt (GT.wf_of_firstBad HGO.out) (by rw [GT.length_toG, kids_len]; exact hrl)
            rw [GT.length_toG, kids_len] at h2
            exact h2
          have hxw : xn ≤ 9223372036854775807 := by omega
          have hd : decide (xn ∈ met) = true := decide_eq_true hxm
          have HXE := Lib.hid hxe
          obtain ⟨kp, rfl⟩ : ∃ g, gk = g + 1 := ⟨gk - 1, by omega⟩
          clear hxi hxn hxe hxm
          go_wp2_with (at_lookup; refine Set.wpList_look _ rfl _ _ rfl w4.heap.size m met HS6.out xn hxw xi HXE.out rfl rfl ?_; rw [hd])
          go_roundg kp
          case measure => omega
          case rel => exact ⟨t + 1, rfl, by omega, by omega, ⟨rfl⟩⟩
        · have t5 : decide (t < ((belowL l0 r).length : Int)) = false := decide_eq_false htl
          have hroot : (belowL l0 a1.toNat).length = l0.length := by
            have h := (List.perm_ext_iff_of_nodup (below_nodup l0 a1.toNat) (List.nodup_range (n := l0.length))).2 (fun x => by
              rw [mem_below HS.out HGO.out (by omega), List.mem_range]
              constructor
              · intro p
                have h2 := p.lt (GT.wf_of_firstBad HGO.out) (by rw [GT.length_toG, kids_len]; omega)
                rw [GT.length_toG, kids_len] at h2
                exact h2
              · intro hx
                rcases HAL.out x hx with h | ⟨k, hk, p⟩
                · rw [h]; exact .refl _
                · exact .step hk p)
            rw [h.length_eq, List.length_range]
          have hL8 : (intsOf (belowL l0 a1.toNat)).length = l0.length := by rw [intsOf_len]; exact hroot
          have hlk0 := fun ty => HS6.out.len HND.out ty
          have hlk1 := fun ty => (Set.IsSet.drew HS6.out).len HND.out ty
          have hlk2 := fun (kk : Nat) ty => (Set.IsSet.drewN HS6.out kk).len HND.out ty
          rw [HLL.out] at hlk0 hlk1
          have hlk3 : ∀ (kk : Nat) (ty : TypeId), (Builtin.len_ #[44] ty #[.map (some w4.heap.size)]).run Try.prog (wr.drewN kk) = .ok (.int .i64 ((belowL l0 r).length : Int)) (wr.drewN kk) := fun kk ty => by rw [← HLL.out]; exact hlk2 kk ty
          clear hlk2
          have q0 : wr.cell? ⟨w.heap.size, 0, none⟩ = some (.slice (some ad) l0.length c0) := (blk_cell HX6.out 0).trans rfl
          have q1 : wr.cell? ⟨w.heap.size, 1, none⟩ = some (.int .i64 a1) := (blk_cell HX6.out 1).trans rfl
          have HBO := Lib.hid (below_of hlen HS.out h0 h1 HGO.out (x := a1.toNat) (xi := a1) (by omega) (by omega))
          have HL8 := Lib.hid hL8
          clear hroot hL8
          go_wp2_with (fail)
          go_region_held3 (fun w' => w'.cell? ⟨w.heap.size, 0, none⟩ = some (.slice (some ad) l0.length c0) ∧ w'.cell? ⟨w.heap.size, 1, none⟩ = some (.int .i64 a1) ∧ (∀ ty : TypeId, (Builtin.len_ #[44] ty #[.map (some w4.heap.size)]).run Try.prog w' = .ok (.int .i64 ((belowL l0 r).length : Int)) w')) (go_keep)
            ((go_at_call 36; refine (graph_Below.calls (some ad) c0 l0 a1 a1 _ _ (by repeat (first | exact (Kd.C_below HR.out HB6.out) | (with_reducible refine Kd.C_alloc ?_ _) | (with_reducible refine Kd.C_drewN ?_ _) | (with_reducible refine Kd.C_drew ?_))) hc0 HBO.out).mono ?_; rintro e w8 ⟨v8, rfl, hR8, hb8⟩; obtain ⟨A8, c8, rfl⟩ := Kd.R_slice hR8; rw [HL8.out]; have q0b : w8.cell? ⟨w.heap.size, 0, none⟩ = some (.slice (some ad) l0.length c0) := (hb8.cell (World.block_lt_of_cell? wr _ q0)).trans q0; have q1b : w8.cell? ⟨w.heap.size, 1, none⟩ = some (.int .i64 a1) := (hb8.cell (World.block_lt_of_cell? wr _ q1)).trans q1; have HB8 := Lib.hid (below_step (by repeat (first | (with_reducible first | exact HB6.out | apply pw_below_drewN | apply below_drew1) | exact HB6.out)) hb8); have hlk8 : ∀ ty : TypeId, (Builtin.len_ #[44] ty #[.map (some w4.heap.size)]).run Try.prog w8 = .ok (.int .i64 ((belowL l0 r).length : Int)) w8 := (fun ty => by rw [← HLL.out]; exact (HS6.out.of_block (hb8.block _ HS6.out.lt)).len HND.out ty); clear hb8 hR8))
          rename_i hS9
          clear hS9
          go_wp2_with (fail)
          go_ret
          exact ⟨rfl, by repeat (first | (with_reducible first | exact HB8.out | apply pw_below_drewN | apply below_drew1) | exact HB8.out)⟩
end
end Go.Proofs.Ytlfjjapndlkamaa.GL
