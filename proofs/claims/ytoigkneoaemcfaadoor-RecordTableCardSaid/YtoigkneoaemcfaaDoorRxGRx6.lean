-- Printed by a program of the session (wip/gen/tprint.py, over a turned copy of the kit's print): Lean checks it.
import Derived.Test.YtoigkneoaemcfaaDoorRxGRx0
namespace Go.Proofs.YtoigkneoaemcfaaDoor.GR
open Go.RowKit Go.Proofs.YtoigkneoaemcfaaDoorW.PrintWords Go.Proofs.YtoigkneoaemcfaaDoorW.PrintLast Go.Proofs.YtoigkneoaemcfaaDoorW.PrintMore
attribute [local go_sem] max2_int min2_int max_two min_two max_three min_three max_four min_four   -- for this text's walks alone
set_option linter.unusedVariables false
set_option linter.unusedSimpArgs false

/-! ### dioramaref08_Copy: function 18 -/
section
open Go.Lib
def dioramaref08_Copy.f (a0_0 : Int) (l0_1 : List Int) (l0_2 : List ByteArray) (l0_3 : List Int) : Option (Int × List Int × List ByteArray × List Int) :=
 if l0_1.length < 17592186044416 ∧ l0_2.length < 8796093022208 ∧ l0_3.length < 17592186044416 then some (a0_0, l0_1, l0_2, l0_3) else none
def dioramaref08_Copy.T1 : Bool × List (List Nat × List Nat) := (true, [([], []), ([0], [0]), ([], []), ([], []), ([3], [3]), ([2, 4], [2, 4]), ([], []), ([], []), ([7], [7]), ([6, 8, 5], [6, 8]), ([], []), ([], []), ([11], [11]), ([10, 12, 9], [10, 12]), ([1, 5, 9, 13], [1, 5, 9, 13]), ([14, 13, 0, 1, 2, 3, 4, 5, 6, 7, 8, 9, 10, 11, 12, 13, 14], [14])])
def dioramaref08_Copy.B1 : List Nat := [0, 1, 0, 0, 8, 28, 0, 0, 128, 508, 0, 0, 2048, 8188, 16383, 32767]
theorem dioramaref08_Copy.tab1 : rtab .any (opsOf Tryd.f18 1) = dioramaref08_Copy.T1 := by kernel_rfl
theorem dioramaref08_Copy.bits1 : waitsOk dioramaref08_Copy.T1.2 dioramaref08_Copy.B1 = true := by kernel_rfl
theorem wpOp_intro {P : Program} {ops : Array Oper} {Q : Exit → Act → World → Prop} {i : Nat} {oi : Oper} {N : Option Tmp} {K : Act → World → Prop} {a : Act} {w : World} (hi : ops[i]? = some oi) (hN : oi.dst = N) (h : if Region.wanted oi (yielded ops a.tmps) = true then Oper.wp P oi a w K Q else K (a.put N undef) w) : wpOp P ops Q i K a w := by
 subst hN
 unfold wpOp
 rw [hi]
 simp only
 by_cases hc : Region.wanted oi (yielded ops a.tmps) = true
 ·rw [if_pos hc] at h ⊢
  exact .inl h
 ·rw [if_neg hc] at h ⊢
  exact h
/-- What is done: p, q, r of each row's two steps. -/
def dioramaref08_Copy.L (p q r : Nat) : Array Bool := #[true, true, decide (1 ≤ p), true, true, decide (2 ≤ p), decide (1 ≤ q), true, true, decide (2 ≤ q), decide (1 ≤ r), true, true, decide (2 ≤ r), false, false]
theorem dioramaref08_Copy.ready : ∀ p, p < 3 → ∀ q, q < 3 → ∀ r, r < 3 → (readyT dioramaref08_Copy.T1.2 (dioramaref08_Copy.L p q r).toList).all (fun i => ((if p = 0 then [2] else if p = 1 then [5] else []) ++ (if q = 0 then [6] else if q = 1 then [9] else []) ++ (if r = 0 then [10] else if r = 1 then [13] else []) ++ (if p + q + r = 6 then [14] else [])).contains i) = true ∧ readyT dioramaref08_Copy.T1.2 (dioramaref08_Copy.L p q r).toList ≠ [] := by decide
set_option maxHeartbeats 4000000 in
set_option maxRecDepth 100000 in
theorem dioramaref08_Copy.run {ops : Array Oper} (hops : ops = opsOf Tryd.f18 1) {Q : Exit → Act → World → Prop} {S : World → Prop} {w0 : World} {x0 x1 x2 x3 x4 x6 x10 x14 x17 : Value} {A1 A2 A3 : Option Addr} {c1 c2 c3 : Nat} {l1 : List Int} {l2 : List ByteArray} {l3 : List Int}
  (g1 : Kd.C (Kd.int .i64) w0 A1 l1.length l1) (g2 : Kd.C Kd.string w0 A2 l2.length l2) (g3 : Kd.C (Kd.int .i64) w0 A3 l3.length l3) (m1 : l1.length < 17592186044416) (m2 : l2.length < 8796093022208) (m3 : l3.length < 17592186044416)
  (hS : ∀ w', Below w0.heap.size w0 w' → S w')
  (hfin : ∀ v1 v1' v2 v2' v3 v3' W, Below w0.heap.size w0 W → Kd.R (Kd.int .i64) 2 W w0.heap.size (fun _ => True) v1' l1 → Kd.R Kd.string 9 W w0.heap.size (fun _ => True) v2' l2 → Kd.R (Kd.int .i64) 3 W w0.heap.size (fun _ => True) v3' l3 →
   wpAnyLast Tryd.prog .any ops Q S [] 2 (dioramaref08_Copy.L 2 2 2) { tmps := #[x0, x1, x2, x3, x4, v1, x6, .slice A1 l1.length c1, v1', v2, x10, .slice A2 l2.length c2, v2', v3, x14, .slice A3 l3.length c3, v3', x17], defers := [] } W) :
  ∀ (n p q r : Nat) (v1 v1' v2 v2' v3 v3' : Value) (W : World), p < 3 → q < 3 → r < 3 → n + p + q + r = 6 → Below w0.heap.size w0 W →
   (p = 1 → Kd.R (Kd.int .i64) 2 W w0.heap.size (fun _ => True) v1 []) → (p = 2 → Kd.R (Kd.int .i64) 2 W w0.heap.size (fun _ => True) v1' l1) →
   (q = 1 → Kd.R Kd.string 9 W w0.heap.size (fun _ => True) v2 []) → (q = 2 → Kd.R Kd.string 9 W w0.heap.size (fun _ => True) v2' l2) →
   (r = 1 → Kd.R (Kd.int .i64) 3 W w0.heap.size (fun _ => True) v3 []) → (r = 2 → Kd.R (Kd.int .i64) 3 W w0.heap.size (fun _ => True) v3' l3) →
   wpAnyLast Tryd.prog .any ops Q S [] (n + 2) (dioramaref08_Copy.L p q r) { tmps := #[x0, x1, x2, x3, x4, v1, x6, .slice A1 l1.length c1, v1', v2, x10, .slice A2 l2.length c2, v2', v3, x14, .slice A3 l3.length c3, v3', x17], defers := [] } W := by
 subst hops
 intro n
 induction n with
 | zero =>
  intro p q r v1 v1' v2 v2' v3 v3' W hp hq hr hn hB _ h1 _ h2 _ h3
  obtain rfl : p = 2 := by omega
  obtain rfl : q = 2 := by omega
  obtain rfl : r = 2 := by omega
  exact hfin v1 v1' v2 v2' v3 v3' W hB (h1 rfl) (h2 rfl) (h3 rfl)
 | succ n ih =>
  intro p q r v1 v1' v2 v2' v3 v3' W hp hq hr hn hB h1 h1' h2 h2' h3 h3'
  have hrd : Region.ready .any (opsOf Tryd.f18 1) (dioramaref08_Copy.L p q r) = readyT dioramaref08_Copy.T1.2 (dioramaref08_Copy.L p q r).toList := ready_eq.trans (by rw [dioramaref08_Copy.tab1])
  obtain ⟨hr1, hr2⟩ := dioramaref08_Copy.ready p hp q hq r hr
  have hn6 : ¬ p + q + r = 6 := by omega
  have hz := hB.size
  refine ⟨fun h => absurd (hrd.symm.trans h) hr2, fun i hi => ?_⟩
  ·rw [hrd] at hi
   have hi := List.contains_iff_mem.1 (List.all_eq_true.1 hr1 i hi)
   rw [if_neg hn6, List.append_nil, List.mem_append, List.mem_append] at hi
   rcases hi with (hi | hi) | hi
   ·by_cases e1 : p = 0
    ·subst e1
     rw [if_pos rfl, List.mem_singleton] at hi
     subst hi
     refine wpOp_intro (i := 2) (N := some 5) rfl rfl ?_
     refine Kd.R_lit_step (Kd.int .i64) (w0 := w0) w0.heap.size 2 ?hg (N := 5) ?hd (xs := ([] : List Int)) (inner := []) (ok := fun _ => True) (okp := fun _ => True) ?hr ?hp (fun _ hk => hk) trivial hB hz (by simp) ?_
     case hd => rfl
     case hg => rfl
     case hr => kernel_rfl
     case hp => exact Reps.none _ _
     intro u W1 hu hB1 hg _
     exact ⟨fun _ _ => hS _ hB1, ih 1 q r u v1' v2 v2' v3 v3' W1 (by omega) hq hr (by omega) hB1 (fun _ => hu) (fun h => by cases h) (fun h => Kd.R_grown (h2 h) hg (fun _ _ => by simp)) (fun h => Kd.R_grown (h2' h) hg (fun _ _ => by simp)) (fun h => Kd.R_grown (h3 h) hg (fun _ _ => by simp)) (fun h => Kd.R_grown (h3' h) hg (fun _ _ => by simp))⟩
    ·by_cases e2 : p = 1
     ·subst e2
      rw [if_neg (by omega), if_pos rfl, List.mem_singleton] at hi
      subst hi
      refine wpOp_intro (i := 5) (N := some 8) rfl rfl ?_
      refine Kd.R_append_rows_step (Kd.int .i64) (w0 := w0) w0.heap.size (by rfl) (.tmp 5) (.tmp 7) 36 2 (.int .i64 0) 8 rfl Tryd.underlying36 (show (Tryd.prog.info? 2).map (fun i => (i.zero, i.size, i.bytes)) = some (some (.int .i64 0), 1, 8) from by kernel_rfl) rfl (by decide) (by omega) v1 [] l1 A1 _ c1 (fun _ => True) (fun _ => False) rfl rfl (h1 rfl) (Kd.C_below g1 hB) (fun _ _ h => h) (fun _ h => h.elim) (fun _ _ => trivial) hB hz (by simp; omega) ?_
      intro u W1 hu hB1 hg _
      exact ⟨fun _ _ => hS _ hB1, ih 2 q r v1 u v2 v2' v3 v3' W1 (by omega) hq hr (by omega) hB1 (fun h => by cases h) (fun _ => by simpa using hu) (fun h => Kd.R_over (h2 h) (h1 rfl) (by decide) hg) (fun h => Kd.R_over (h2' h) (h1 rfl) (by decide) hg) (fun h => Kd.R_over (h3 h) (h1 rfl) (by decide) hg) (fun h => Kd.R_over (h3' h) (h1 rfl) (by decide) hg)⟩
     ·rw [if_neg e1, if_neg e2] at hi
      cases hi
   ·by_cases e1 : q = 0
    ·subst e1
     rw [if_pos rfl, List.mem_singleton] at hi
     subst hi
     refine wpOp_intro (i := 6) (N := some 9) rfl rfl ?_
     refine Kd.R_lit_step Kd.string (w0 := w0) w0.heap.size 9 ?hg (N := 9) ?hd (xs := ([] : List ByteArray)) (inner := []) (ok := fun _ => True) (okp := fun _ => True) ?hr ?hp (fun _ hk => hk) trivial hB hz (by simp) ?_
     case hd => rfl
     case hg => rfl
     case hr => kernel_rfl
     case hp => exact Reps.none _ _
     intro u W1 hu hB1 hg _
     exact ⟨fun _ _ => hS _ hB1, ih p 1 r v1 v1' u v2' v3 v3' W1 hp (by omega) hr (by omega) hB1 (fun h => Kd.R_grown (h1 h) hg (fun _ _ => by simp)) (fun h => Kd.R_grown (h1' h) hg (fun _ _ => by simp)) (fun _ => hu) (fun h => by cases h) (fun h => Kd.R_grown (h3 h) hg (fun _ _ => by simp)) (fun h => Kd.R_grown (h3' h) hg (fun _ _ => by simp))⟩
    ·by_cases e2 : q = 1
     ·subst e2
      rw [if_neg (by omega), if_pos rfl, List.mem_singleton] at hi
      subst hi
      refine wpOp_intro (i := 9) (N := some 12) rfl rfl ?_
      refine Kd.R_append_rows_step Kd.string (w0 := w0) w0.heap.size (by rfl) (.tmp 9) (.tmp 11) 37 9 (.string ⟨#[]⟩) 16 rfl Tryd.underlying37 (show (Tryd.prog.info? 9).map (fun i => (i.zero, i.size, i.bytes)) = some (some (.string ⟨#[]⟩), 1, 16) from by kernel_rfl) rfl (by decide) (by omega) v2 [] l2 A2 _ c2 (fun _ => True) (fun _ => False) rfl rfl (h2 rfl) (Kd.C_below g2 hB) (fun _ _ h => h) (fun _ h => h.elim) (fun _ _ => trivial) hB hz (by simp; omega) ?_
      intro u W1 hu hB1 hg _
      exact ⟨fun _ _ => hS _ hB1, ih p 2 r v1 v1' v2 u v3 v3' W1 hp (by omega) hr (by omega) hB1 (fun h => Kd.R_over (h1 h) (h2 rfl) (by decide) hg) (fun h => Kd.R_over (h1' h) (h2 rfl) (by decide) hg) (fun h => by cases h) (fun _ => by simpa using hu) (fun h => Kd.R_over (h3 h) (h2 rfl) (by decide) hg) (fun h => Kd.R_over (h3' h) (h2 rfl) (by decide) hg)⟩
     ·rw [if_neg e1, if_neg e2] at hi
      cases hi
   ·by_cases e1 : r = 0
    ·subst e1
     rw [if_pos rfl, List.mem_singleton] at hi
     subst hi
     refine wpOp_intro (i := 10) (N := some 13) rfl rfl ?_
     refine Kd.R_lit_step (Kd.int .i64) (w0 := w0) w0.heap.size 3 ?hg (N := 13) ?hd (xs := ([] : List Int)) (inner := []) (ok := fun _ => True) (okp := fun _ => True) ?hr ?hp (fun _ hk => hk) trivial hB hz (by simp) ?_
     case hd => rfl
     case hg => rfl
     case hr => kernel_rfl
     case hp => exact Reps.none _ _
     intro u W1 hu hB1 hg _
     exact ⟨fun _ _ => hS _ hB1, ih p q 1 v1 v1' v2 v2' u v3' W1 hp hq (by omega) (by omega) hB1 (fun h => Kd.R_grown (h1 h) hg (fun _ _ => by simp)) (fun h => Kd.R_grown (h1' h) hg (fun _ _ => by simp)) (fun h => Kd.R_grown (h2 h) hg (fun _ _ => by simp)) (fun h => Kd.R_grown (h2' h) hg (fun _ _ => by simp)) (fun _ => hu) (fun h => by cases h)⟩
    ·by_cases e2 : r = 1
     ·subst e2
      rw [if_neg (by omega), if_pos rfl, List.mem_singleton] at hi
      subst hi
      refine wpOp_intro (i := 13) (N := some 16) rfl rfl ?_
      refine Kd.R_append_rows_step (Kd.int .i64) (w0 := w0) w0.heap.size (by rfl) (.tmp 13) (.tmp 15) 38 3 (.int .i64 0) 8 rfl Tryd.underlying38 (show (Tryd.prog.info? 3).map (fun i => (i.zero, i.size, i.bytes)) = some (some (.int .i64 0), 1, 8) from by kernel_rfl) rfl (by decide) (by omega) v3 [] l3 A3 _ c3 (fun _ => True) (fun _ => False) rfl rfl (h3 rfl) (Kd.C_below g3 hB) (fun _ _ h => h) (fun _ h => h.elim) (fun _ _ => trivial) hB hz (by simp; omega) ?_
      intro u W1 hu hB1 hg _
      exact ⟨fun _ _ => hS _ hB1, ih p q 2 v1 v1' v2 v2' v3 u W1 hp hq (by omega) (by omega) hB1 (fun h => Kd.R_over (h1 h) (h3 rfl) (by decide) hg) (fun h => Kd.R_over (h1' h) (h3 rfl) (by decide) hg) (fun h => Kd.R_over (h2 h) (h3 rfl) (by decide) hg) (fun h => Kd.R_over (h2' h) (h3 rfl) (by decide) hg) (fun h => by cases h) (fun _ => by simpa using hu)⟩
     ·rw [if_neg e1, if_neg e2] at hi
      cases hi
set_option maxHeartbeats 4000000 in
set_option maxRecDepth 100000 in
theorem dioramaref08_Copy.calls (a0_0 : Int) (A0_1 : Option Addr) (c0_1 : Nat) (l0_1 : List Int) (A0_2 : Option Addr) (c0_2 : Nat) (l0_2 : List ByteArray) (A0_3 : Option Addr) (c0_3 : Nat) (l0_3 : List Int) (r1 : Int) (r2 : List Int) (r3 : List ByteArray) (r4 : List Int) (w : World) (hr0_1 : Kd.C (Kd.int .i64) w A0_1 l0_1.length l0_1) (hc0_1 : l0_1.length ≤ c0_1) (hr0_2 : Kd.C Kd.string w A0_2 l0_2.length l0_2) (hc0_2 : l0_2.length ≤ c0_2) (hr0_3 : Kd.C (Kd.int .i64) w A0_3 l0_3.length l0_3) (hc0_3 : l0_3.length ≤ c0_3) (h : dioramaref08_Copy.f a0_0 l0_1 l0_2 l0_3 = some (r1, r2, r3, r4)) :
  Calls Tryd.prog 18 #[.agg #[.int .i64 a0_0, .slice A0_1 l0_1.length c0_1, .slice A0_2 l0_2.length c0_2, .slice A0_3 l0_3.length c0_3]] w fun e w' => ∃ v1_ v2_ v3_ : Value, e = .returned (.agg #[.int .i64 r1, v1_, v2_, v3_]) ∧ Kd.R (Kd.int .i64) 2 w' w.heap.size (fun _ => True) v1_ r2 ∧ Kd.R Kd.string 9 w' w.heap.size (fun _ => True) v2_ r3 ∧ Kd.R (Kd.int .i64) 3 w' w.heap.size (fun _ => True) v3_ r4 ∧ Below w.heap.size w w' := by
 unfold dioramaref08_Copy.f at h
 split at h
 ·rename_i hm
  simp only [Option.some.injEq, Prod.mk.injEq] at h
  obtain ⟨rfl, rfl, rfl, rfl⟩ := h
  obtain ⟨m1, m2, m3⟩ := hm
  have H1 := Lib.hid hr0_1
  have H2 := Lib.hid hr0_2
  have H3 := Lib.hid hr0_3
  have M1 := Lib.hid m1
  have M2 := Lib.hid m2
  have M3 := Lib.hid m3
  clear hr0_1 hr0_2 hr0_3 m1 m2 m3
  go_enter Tryd.func18, Tryd.ntmps18
  go_upto_region 1 with (fail)
  have hb := blk_alloc (heap_alloc_new w (.cells #[.int .i64 a0_0, .slice A0_1 l0_1.length c0_1, .slice A0_2 l0_2.length c0_2, .slice A0_3 l0_3.length c0_3] 40)) (.cells #[.int .i64 0, .slice none 0 0, .slice none 0 0, .slice none 0 0] 40)
  have ho := heap_alloc_new (w.alloc (.cells #[.int .i64 a0_0, .slice A0_1 l0_1.length c0_1, .slice A0_2 l0_2.length c0_2, .slice A0_3 l0_3.length c0_3] 40)) (.cells #[.int .i64 0, .slice none 0 0, .slice none 0 0, .slice none 0 0] 40)
  have hB : Below w.heap.size w ((w.alloc (.cells #[.int .i64 a0_0, .slice A0_1 l0_1.length c0_1, .slice A0_2 l0_2.length c0_2, .slice A0_3 l0_3.length c0_3] 40)).alloc (.cells #[.int .i64 0, .slice none 0 0, .slice none 0 0, .slice none 0 0] 40)) := ((Below.refl _ w).alloc (Nat.le_refl _) _).alloc (by simp) _
  have hz1 : (w.alloc (.cells #[.int .i64 a0_0, .slice A0_1 l0_1.length c0_1, .slice A0_2 l0_2.length c0_2, .slice A0_3 l0_3.length c0_3] 40)).heap.size = w.heap.size + 1 := by simp
  rw [hz1] at ho
  clear hz1
  generalize ((w.alloc (.cells #[.int .i64 a0_0, .slice A0_1 l0_1.length c0_1, .slice A0_2 l0_2.length c0_2, .slice A0_3 l0_3.length c0_3] 40)).alloc (.cells #[.int .i64 0, .slice none 0 0, .slice none 0 0, .slice none 0 0] 40)) = w2 at hb ho hB ⊢
  have BK := Lib.hid (blk_drew hb)
  have BO := Lib.hid (blk_drew ho)
  have HB := Lib.hid hB.drew
  clear hb ho hB
  refine start_ (n := 16) (S := fun w' => w'.cell? ⟨w.heap.size, 0, none⟩ = some (.int .i64 a0_0) ∧ w'.cell? ⟨w.heap.size, 1, none⟩ = some (.slice A0_1 l0_1.length c0_1) ∧ w'.cell? ⟨w.heap.size, 2, none⟩ = some (.slice A0_2 l0_2.length c0_2) ∧ w'.cell? ⟨w.heap.size, 3, none⟩ = some (.slice A0_3 l0_3.length c0_3)) (ds := []) #[false, false, false, false, false, false, false, false, false, false, false, false, false, false, false, false] (by kernel_rfl) rfl rfl ⟨(blk_cell BK.out 0).trans rfl, (blk_cell BK.out 1).trans rfl, (blk_cell BK.out 2).trans rfl, (blk_cell BK.out 3).trans rfl⟩ (fun hHeld => ?_)
  refine with_tabW dioramaref08_Copy.tab1 dioramaref08_Copy.bits1 (fun HT_ HW_ => ?_)
  generalize w2.drew = w3 at BK BO HB hHeld ⊢
  refine pure_ (i := 0) (N := some 3) (v := ?_) (a' := ?_) #[true, false, false, false, false, false, false, false, false, false, false, false, false, false, false, false] rfl rfl (any_of HT_.out (by kernel_rfl)) (fun _ _ _ h => h) (Or.inl ⟨by rfl, ?_⟩) ?_ ?_
  rotate_left
  ·intro w'; go_simp; with_reducible rfl
  rotate_left
  ·simp only [Act.put, List.setIfInBounds_toArray, List.set_cons_zero, List.set_cons_succ, i64_w, i32_w]; rfl
  refine pure_ (i := 3) (N := some 6) (v := ?_) (a' := ?_) #[true, false, false, true, false, false, false, false, false, false, false, false, false, false, false, false] rfl rfl (any_of HT_.out (by kernel_rfl)) (fun _ _ _ h => h) (Or.inl ⟨by rfl, ?_⟩) ?_ ?_
  rotate_left
  ·intro w'; go_simp; with_reducible rfl
  rotate_left
  ·simp only [Act.put, List.setIfInBounds_toArray, List.set_cons_zero, List.set_cons_succ, i64_w, i32_w]; rfl
  refine pure_ (i := 7) (N := some 10) (v := ?_) (a' := ?_) #[true, false, false, true, false, false, false, true, false, false, false, false, false, false, false, false] rfl rfl (any_of HT_.out (by kernel_rfl)) (fun _ _ _ h => h) (Or.inl ⟨by rfl, ?_⟩) ?_ ?_
  rotate_left
  ·intro w'; go_simp; with_reducible rfl
  rotate_left
  ·simp only [Act.put, List.setIfInBounds_toArray, List.set_cons_zero, List.set_cons_succ, i64_w, i32_w]; rfl
  refine pure_ (i := 11) (N := some 14) (v := ?_) (a' := ?_) #[true, false, false, true, false, false, false, true, false, false, false, true, false, false, false, false] rfl rfl (any_of HT_.out (by kernel_rfl)) (fun _ _ _ h => h) (Or.inl ⟨by rfl, ?_⟩) ?_ ?_
  rotate_left
  ·intro w'; go_simp; with_reducible rfl
  rotate_left
  ·simp only [Act.put, List.setIfInBounds_toArray, List.set_cons_zero, List.set_cons_succ, i64_w, i32_w]; rfl
  refine take_ (i := 1) (N := some 4) (v := ?_) (a' := ?_) #[true, true, false, true, false, false, false, true, false, false, false, true, false, false, false, false] rfl rfl (take_ofW HT_.out HW_.out (by kernel_rfl)) (fun _ _ _ h => h) (Or.inl ⟨by rfl, ?_⟩) hHeld ?_ ?_
  rotate_left
  ·rintro w' ⟨s0, s1, s2, s3⟩; go_simp; with_reducible rfl
  rotate_left
  ·simp only [Act.put, List.setIfInBounds_toArray, List.set_cons_zero, List.set_cons_succ, i64_w, i32_w]; rfl
  refine take_ (i := 4) (N := some 7) (v := ?_) (a' := ?_) #[true, true, false, true, true, false, false, true, false, false, false, true, false, false, false, false] rfl rfl (take_ofW HT_.out HW_.out (by kernel_rfl)) (fun _ _ _ h => h) (Or.inl ⟨by rfl, ?_⟩) hHeld ?_ ?_
  rotate_left
  ·rintro w' ⟨s0, s1, s2, s3⟩; go_simp; with_reducible rfl
  rotate_left
  ·simp only [Act.put, List.setIfInBounds_toArray, List.set_cons_zero, List.set_cons_succ, i64_w, i32_w]; rfl
  refine take_ (i := 8) (N := some 11) (v := ?_) (a' := ?_) #[true, true, false, true, true, false, false, true, true, false, false, true, false, false, false, false] rfl rfl (take_ofW HT_.out HW_.out (by kernel_rfl)) (fun _ _ _ h => h) (Or.inl ⟨by rfl, ?_⟩) hHeld ?_ ?_
  rotate_left
  ·rintro w' ⟨s0, s1, s2, s3⟩; go_simp; with_reducible rfl
  rotate_left
  ·simp only [Act.put, List.setIfInBounds_toArray, List.set_cons_zero, List.set_cons_succ, i64_w, i32_w]; rfl
  refine take_ (i := 12) (N := some 15) (v := ?_) (a' := ?_) #[true, true, false, true, true, false, false, true, true, false, false, true, true, false, false, false] rfl rfl (take_ofW HT_.out HW_.out (by kernel_rfl)) (fun _ _ _ h => h) (Or.inl ⟨by rfl, ?_⟩) hHeld ?_ ?_
  rotate_left
  ·rintro w' ⟨s0, s1, s2, s3⟩; go_simp; with_reducible rfl
  rotate_left
  ·simp only [Act.put, List.setIfInBounds_toArray, List.set_cons_zero, List.set_cons_succ, i64_w, i32_w]; rfl
  have hblt := blk_lt BK.out
  have holt := blk_lt BO.out
  refine dioramaref08_Copy.run (by kernel_rfl) (Kd.C_below H1.out HB.out) (Kd.C_below H2.out HB.out) (Kd.C_below H3.out HB.out) M1.out M2.out M3.out (fun w' hb => ⟨(hb.cell hblt).trans hHeld.1, (hb.cell hblt).trans hHeld.2.1, (hb.cell hblt).trans hHeld.2.2.1, (hb.cell hblt).trans hHeld.2.2.2⟩) ?_ 6 0 0 0 _ _ _ _ _ _ w3 (by omega) (by omega) (by omega) rfl (Below.refl _ _) (fun h => by cases h) (fun h => by cases h) (fun h => by cases h) (fun h => by cases h) (fun h => by cases h) (fun h => by cases h)
  intro u1 v1 u2 v2 u3 v3 W hb ho1 ho2 ho3
  have BO2 := Lib.hid ((hb.block _ holt).trans BO.out)
  have BK2 := Lib.hid ((hb.block _ hblt).trans BK.out)
  have HB2 := Lib.hid (below_step HB.out hb)
  have O1 := Lib.hid ho1
  have O2 := Lib.hid ho2
  have O3 := Lib.hid ho3
  obtain ⟨B1, d1, rfl⟩ := Kd.R_slice O1.out
  obtain ⟨B2, d2, rfl⟩ := Kd.R_slice O2.out
  obtain ⟨B3, d3, rfl⟩ := Kd.R_slice O3.out
  have hW : W.cell? ⟨w.heap.size, 0, none⟩ = some (.int .i64 a0_0) ∧ W.cell? ⟨w.heap.size, 1, none⟩ = some (.slice A0_1 l0_1.length c0_1) ∧ W.cell? ⟨w.heap.size, 2, none⟩ = some (.slice A0_2 l0_2.length c0_2) ∧ W.cell? ⟨w.heap.size, 3, none⟩ = some (.slice A0_3 l0_3.length c0_3) := ⟨(blk_cell BK2.out 0).trans rfl, (blk_cell BK2.out 1).trans rfl, (blk_cell BK2.out 2).trans rfl, (blk_cell BK2.out 3).trans rfl⟩
  refine pure_ (i := 14) (N := some 17) (v := ?_) (a' := ?_) #[true, true, true, true, true, true, true, true, true, true, true, true, true, true, true, false] rfl rfl (any_of HT_.out (by kernel_rfl)) (fun _ _ _ h => h) (Or.inl ⟨by rfl, ?_⟩) ?_ ?_
  rotate_left
  ·intro w'; go_simp; with_reducible rfl
  rotate_left
  ·simp only [Act.put, List.setIfInBounds_toArray, List.set_cons_zero, List.set_cons_succ, i64_w, i32_w]; rfl
  refine one_ (i := 15) (N := none) #[true, true, true, true, true, true, true, true, true, true, true, true, true, true, true, true] rfl rfl (one_of HT_.out (by kernel_rfl)) (by decide) (fun K hK => ?_)
  have hs0 : W.cell? ⟨w.heap.size + 1, 0, none⟩ = some (.int .i64 0) := (blk_cell BO2.out 0).trans rfl
  have hs1 : W.cell? ⟨w.heap.size + 1, 1, none⟩ = some (.slice none 0 0) := (blk_cell BO2.out 1).trans rfl
  have hs2 : W.cell? ⟨w.heap.size + 1, 2, none⟩ = some (.slice none 0 0) := (blk_cell BO2.out 2).trans rfl
  have hs3 : W.cell? ⟨w.heap.size + 1, 3, none⟩ = some (.slice none 0 0) := (blk_cell BO2.out 3).trans rfl
  have hf0 := blk_frozen BO2.out 0
  have hf1 := blk_frozen BO2.out 1
  have hf2 := blk_frozen BO2.out 2
  have hf3 := blk_frozen BO2.out 3
  have hne : w.heap.size ≠ w.heap.size + 1 := by omega
  refine skip_ (w1 := ?_) (by rfl) rfl ?_ ?_
  rotate_left
  ·go_simp; rfl
  have far : ∀ (V : World) (j i : Nat) (u x : Value), V.cell? ⟨w.heap.size, j, none⟩ = some x → (V.setCell ⟨w.heap.size + 1, i, none⟩ u).cell? ⟨w.heap.size, j, none⟩ = some x := fun V j i u x h => (cell_far (p := ⟨w.heap.size + 1, i, none⟩) hne u).trans h
  refine hK.out _ _ ⟨far _ _ _ _ _ (far _ _ _ _ _ (far _ _ _ _ _ (far _ _ _ _ _ hW.1))), far _ _ _ _ _ (far _ _ _ _ _ (far _ _ _ _ _ (far _ _ _ _ _ hW.2.1))), far _ _ _ _ _ (far _ _ _ _ _ (far _ _ _ _ _ (far _ _ _ _ _ hW.2.2.1))), far _ _ _ _ _ (far _ _ _ _ _ (far _ _ _ _ _ (far _ _ _ _ _ hW.2.2.2)))⟩ (fun hHeld => ?_)
  clear hK K
  refine done_ (done_of HT_.out (by kernel_rfl)) ?_
  try go_wp2
  have hp0 := blk_put BO2.out 0 (.int .i64 a0_0) rfl
  have hp1 := blk_put hp0 1 (.slice B1 l0_1.length d1) rfl
  have hp2 := blk_put hp1 2 (.slice B2 l0_2.length d2) rfl
  have hp3 := blk_put hp2 3 (.slice B3 l0_3.length d3) rfl
  refine bodyPost_ret (results_cell_row rfl _ _ (w.heap.size + 1) 40 #[.int .i64 a0_0, .slice B1 l0_1.length d1, .slice B2 l0_2.length d2, .slice B3 l0_3.length d3] (0, 0) _ rfl hp3 Tryd.underlying40 rfl (by kernel_rfl)) rfl ?_
  have hsz := HB.out.size
  have far1 : ∀ {α : Type} {d : Kd α} {e : Nat} {v : Value} {xs : List α} (V : World) (i : Nat) (u : Value), Kd.R d e V w3.heap.size (fun _ => True) v xs → Kd.R d e (V.setCell ⟨w.heap.size + 1, i, none⟩ u) w3.heap.size (fun _ => True) v xs := fun V i u h => Kd.R_mono (Kd.R_far (p := ⟨w.heap.size + 1, i, none⟩) (Kd.R_bound h) (fun k hk => by have := hk.2.1; show k ≠ w.heap.size + 1; omega) u) (fun _ _ => trivial)
  exact ⟨_, _, _, rfl, Kd.R_lower (far1 _ _ _ (far1 _ _ _ (far1 _ _ _ (far1 _ _ _ O1.out)))) hsz, Kd.R_lower (far1 _ _ _ (far1 _ _ _ (far1 _ _ _ (far1 _ _ _ O2.out)))) hsz, Kd.R_lower (far1 _ _ _ (far1 _ _ _ (far1 _ _ _ (far1 _ _ _ O3.out)))) hsz, (((HB2.out.setCell (p := ⟨w.heap.size + 1, 0, none⟩) (by simp) _).setCell (p := ⟨w.heap.size + 1, 1, none⟩) (by simp) _).setCell (p := ⟨w.heap.size + 1, 2, none⟩) (by simp) _).setCell (p := ⟨w.heap.size + 1, 3, none⟩) (by simp) _⟩
 ·cases h
end


/-! ### dioramaref07_Spec: function 51 -/
mutual
def dioramaref07_Spec.j0 : Nat → Int → Bool → Int → Int → Int → Option (List Int × Int × Int × Int × Bool)
 | 0, _, _, _, _, _ => none
 | k + 1, x10, x18, x162001, x162002, x162003 => if x18 = true then (some ((([3] : List Int)), 1, 0, 0, true)) else (if x10 = 5 then (some (([] : List Int), 1, 0, 0, true)) else (if x10 = 6 then (some ((([4] : List Int)), 0, 0, 0, true)) else (some (([] : List Int), x162001, x162002, x162003, false))))
def dioramaref07_Spec.j1 : Nat → Int → Bool → Int → Int → Int → Option (List Int × Int × Int × Int × Bool)
 | 0, _, _, _, _, _ => none
 | k + 1, x31, x35, x162001, x162002, x162003 => if x35 = true then (some ((([2, 2, 2] : List Int)), 0, 1, 1, true)) else (if x31 = 3 then (some ((([3, 3, 3] : List Int)), 1, 0, 0, true)) else (if x31 = 4 then (some ((([3] : List Int)), 1, 0, 0, true)) else (if x31 = 5 then (some ((([3] : List Int)), 2, 0, 0, true)) else (if x31 = 6 then (some ((([1] : List Int)), 0, 0, (-1), true)) else (if x31 = 7 then (some ((([4, 4, 4, 5] : List Int)), 0, 0, 0, true)) else (some (([] : List Int), x162001, x162002, x162003, false)))))))
end
def dioramaref07_Spec.f (k : Nat) (a0 : Int) (a1 : Int) : Option (List Int × Int × Int × Int × Bool) := if a0 = 1 then (if a1 = 1 then (some (([] : List Int), 0, 0, (-1), true)) else (if a1 = 2 then (some ((([2, 2, 2, 2] : List Int)), 0, 1, 1, true)) else (if a1 = 3 then (dioramaref07_Spec.j0 k a1 (a1 == 3) 0 0 0) else (dioramaref07_Spec.j0 k a1 (a1 == 4) 0 0 0)))) else (if a1 = 1 then (some (([] : List Int), 1, 0, (-1), true)) else (if a1 = 2 then (dioramaref07_Spec.j1 k a1 (a1 == 2) 0 0 0) else (dioramaref07_Spec.j1 k a1 (a1 == 8) 0 0 0)))
set_option maxHeartbeats 8000000 in
set_option maxRecDepth 100000 in
theorem dioramaref07_Spec.calls (k : Nat) (a0 : Int) (a1 : Int) (r1 : List Int) (r2 : Int) (r3 : Int) (r4 : Int) (r5 : Bool) (w : World) (h : dioramaref07_Spec.f k a0 a1 = some (r1, r2, r3, r4, r5)) :
  Calls Tryd.prog 51 #[.int .i64 a0, .int .i64 a1] w fun e w' => ∃ v0_ : Value, e = .returned (.tuple #[.agg #[v0_, .int .i64 r2, .int .i64 r3, .int .i64 r4], .bool r5]) ∧ Kd.R (Kd.int .i64) 3 w' w.heap.size (fun _ => True) v0_ r1 ∧ Below w.heap.size w w' := by
 have hu97 := Tryd.underlying97
 have HB := Aside0.mk (Below.refl w.heap.size w)
 have H : (if a0 = 1 then (if a1 = 1 then (some (([] : List Int), 0, 0, (-1), true)) else (if a1 = 2 then (some ((([2, 2, 2, 2] : List Int)), 0, 1, 1, true)) else (if a1 = 3 then (dioramaref07_Spec.j0 k a1 (a1 == 3) 0 0 0) else (dioramaref07_Spec.j0 k a1 (a1 == 4) 0 0 0)))) else (if a1 = 1 then (some (([] : List Int), 1, 0, (-1), true)) else (if a1 = 2 then (dioramaref07_Spec.j1 k a1 (a1 == 2) 0 0 0) else (dioramaref07_Spec.j1 k a1 (a1 == 8) 0 0 0)))) = some (r1, r2, r3, r4, r5) := h
 clear h
 by_cases c3 : a0 = 1
 ·rw [if_pos c3] at H
  have c3b0 : (a0 == 1) = true := beq_iff_eq.mpr c3
  have c3b1 : (a0 != 1) = false := bne_eq_false_iff_eq.mpr c3
  clear c3
  by_cases c4 : a1 = 1
  ·rw [if_pos c4] at H
   have c4b0 : (a1 == 1) = true := beq_iff_eq.mpr c4
   have c4b1 : (a1 != 1) = false := bne_eq_false_iff_eq.mpr c4
   clear c4
   simp only [Option.some.injEq, Prod.mk.injEq] at H
   obtain ⟨rfl, rfl, rfl, rfl, rfl⟩ := H
   go_enter Tryd.func51, Tryd.ntmps51
   go_wp2_with (first | ((with_reducible refine gate_dst (N := 4) rfl ?_); refine box_event ?hg (N := 4) ?hd (cs := #[.slice none 0 0, .int .i64 0, .int .i64 0, .int .i64 0]) (t := 97) ?hr ?_; (case hd => rfl); (case hg => rfl); (case hr => first | (go_simp; done) | (go_simp; rfl)); intro gb160 hg w5 hbox hb; have n0_ := Aside0.mk (below_step (BB HB) hb); have n1_ := Aside0.mk (hbox); have n2_ := Aside0.mk ((by rw [hg]; exact (below_size (BB HB)) : w.heap.size ≤ gb160)); have n3_ := Aside0.mk ((by rw [hg]; exact (below_size (BB HB)) : w.heap.size ≤ gb160)); clear HB; have HB := n0_; have BK160 := n1_; have GW160 := n2_; have GE160 := n3_; clear n0_ n1_ n2_ n3_; clear hb hbox hg) | ((with_reducible refine gate_dst (N := 6) rfl ?_); refine box_event ?hg (N := 6) ?hd (cs := #[.slice none 0 0, .int .i64 0, .int .i64 0, .int .i64 0]) (t := 97) ?hr ?_; (case hd => rfl); (case hg => rfl); (case hr => first | (go_simp; done) | (go_simp; rfl)); intro gb161 hg w6 hbox hb; have n0_ := BE BK160 hb; have n1_ := Aside0.mk (below_step (BB HB) hb); have n2_ := Aside0.mk (hbox); have n3_ := Aside0.mk ((by rw [hg]; exact (below_size (BB HB)) : w.heap.size ≤ gb161)); have n4_ := Aside0.mk ((by rw [hg]; exact (below_size (BB HB)) : w.heap.size ≤ gb161)); have n5_ := Aside0.mk ((by rw [hg]; exact Nat.ne_of_lt (blk_lt (g := gb160) (o := .cells #[.slice none 0 0, .int .i64 0, .int .i64 0, .int .i64 0] 97 (0, 0)) (BL BK160)) : gb160 ≠ gb161)); have n6_ := Aside0.mk ((by rw [hg]; exact Nat.ne_of_gt (blk_lt (g := gb160) (o := .cells #[.slice none 0 0, .int .i64 0, .int .i64 0, .int .i64 0] 97 (0, 0)) (BL BK160)) : gb161 ≠ gb160)); clear BK160; clear HB; have BK160 := n0_; have HB := n1_; have BK161 := n2_; have GW161 := n3_; have GE161 := n4_; have NB160_161 := n5_; have NB161_160 := n6_; clear n0_ n1_ n2_ n3_ n4_ n5_ n6_; clear hb hbox hg; have hnb7 := NB161_160.out; have hnc7 := NB160_161.out; have hcz8_0 : w6.cell? ⟨gb161, 0, none⟩ = some (.slice none 0 0) := (blk_cell BK161.out 0).trans rfl; have hcz8_1 : w6.cell? ⟨gb161, 1, none⟩ = some (.int .i64 0) := (blk_cell BK161.out 1).trans rfl; have hcz8_2 : w6.cell? ⟨gb161, 2, none⟩ = some (.int .i64 0) := (blk_cell BK161.out 2).trans rfl; have hcz8_3 : w6.cell? ⟨gb161, 3, none⟩ = some (.int .i64 0) := (blk_cell BK161.out 3).trans rfl; have hfz8_0 := blk_frozen BK161.out 0; have hfz8_1 := blk_frozen BK161.out 1; have hfz8_2 := blk_frozen BK161.out 2; have hfz8_3 := blk_frozen BK161.out 3; have hcz9_0 : w6.cell? ⟨gb160, 0, none⟩ = some (.slice none 0 0) := (blk_cell BK160.out 0).trans rfl; have hcz9_1 : w6.cell? ⟨gb160, 1, none⟩ = some (.int .i64 0) := (blk_cell BK160.out 1).trans rfl; have hcz9_2 : w6.cell? ⟨gb160, 2, none⟩ = some (.int .i64 0) := (blk_cell BK160.out 2).trans rfl; have hcz9_3 : w6.cell? ⟨gb160, 3, none⟩ = some (.int .i64 0) := (blk_cell BK160.out 3).trans rfl; have hfz9_0 := blk_frozen BK160.out 0; have hfz9_1 := blk_frozen BK160.out 1; have hfz9_2 := blk_frozen BK160.out 2; have hfz9_3 := blk_frozen BK160.out 3))
   refine bodyPost_ret (results_ct rfl _ _ gb160 97 #[.slice none 0 0, .int .i64 0, .int .i64 0, .int .i64 (-1)] (0, 0) _ rfl (by refine blk_put (cs := #[.slice none 0 0, .int .i64 0, .int .i64 0, .int .i64 0]) ?_ 3 _ rfl; refine blk_put (cs := #[.slice none 0 0, .int .i64 0, .int .i64 0, .int .i64 0]) ?_ 2 _ rfl; refine blk_put (cs := #[.slice none 0 0, .int .i64 0, .int .i64 0, .int .i64 0]) ?_ 1 _ rfl; refine blk_put (cs := #[.slice none 0 0, .int .i64 0, .int .i64 0, .int .i64 0]) ?_ 0 _ rfl; refine blk_far ?_ NB160_161.out _; refine blk_far ?_ NB160_161.out _; refine blk_far ?_ NB160_161.out _; refine blk_far ?_ NB160_161.out _; (with_reducible repeat (first | refine blk_drewN ?_ _ | refine blk_drew ?_ | refine blk_alloc ?_ _)); exact BK160.out) Tryd.underlying97 rfl (by kernel_rfl)) rfl ?_
   exact ⟨_, by first | rfl | (simp [errW_none, errW_some] <;> rfl) | (simp [*, errW_none, errW_some] <;> rfl), by first | exact Kd.R_nil _ _ _ _ _ | exact Kd.N_nil _ _ _ _ _ | exact Kd.V_nil _ _ _ _ _ | exact Kd.Q_nil _ _ _ _ _ | exact Kd.S_nil _ _ _ _ _, BB HB⟩
  ·rw [if_neg c4] at H
   have c4b0 : (a1 == 1) = false := beq_eq_false_iff_ne.mpr c4
   have c4b1 : (a1 != 1) = true := bne_iff_ne.mpr c4
   by_cases c10 : a1 = 2
   ·rw [if_pos c10] at H
    have c10b0 : (a1 == 2) = true := beq_iff_eq.mpr c10
    have c10b1 : (a1 != 2) = false := bne_eq_false_iff_eq.mpr c10
    clear c10
    obtain ⟨y162, hy162⟩ : ∃ y_ : List Int, y_ = (([2, 2, 2, 2] : List Int)) := ⟨_, rfl⟩
    replace H : (some (y162, 0, 1, 1, true)) = some (r1, r2, r3, r4, r5) := by first | (rw [hy162]; with_reducible exact H) | (have H2_ := (Option.bind_some _ _).symm.trans H; rw [hy162]; with_reducible exact H2_) | (have H2_ := (Option.bind_some _ _).symm.trans H; with_reducible exact H2_) | with_reducible exact H | (rw [hy162]; exact H) | exact H
    have Ny162 := Aside0.mk hy162
    clear hy162
    simp only [Option.some.injEq, Prod.mk.injEq] at H
    obtain ⟨rfl, rfl, rfl, rfl, rfl⟩ := H
    go_enter Tryd.func51, Tryd.ntmps51
    go_wp2_with (first | ((with_reducible refine gate_dst (N := 4) rfl ?_); refine box_event ?hg (N := 4) ?hd (cs := #[.slice none 0 0, .int .i64 0, .int .i64 0, .int .i64 0]) (t := 97) ?hr ?_; (case hd => rfl); (case hg => rfl); (case hr => first | (go_simp; done) | (go_simp; rfl)); intro gb160 hg w11 hbox hb; have n0_ := Aside0.mk (below_step (BB HB) hb); have n1_ := Aside0.mk (hbox); have n2_ := Aside0.mk ((by rw [hg]; exact (below_size (BB HB)) : w.heap.size ≤ gb160)); have n3_ := Aside0.mk ((by rw [hg]; exact (below_size (BB HB)) : w.heap.size ≤ gb160)); clear HB; have HB := n0_; have BK160 := n1_; have GW160 := n2_; have GE160 := n3_; clear n0_ n1_ n2_ n3_; clear hb hbox hg) | ((with_reducible refine gate_dst (N := 6) rfl ?_); refine box_event ?hg (N := 6) ?hd (cs := #[.slice none 0 0, .int .i64 0, .int .i64 0, .int .i64 0]) (t := 97) ?hr ?_; (case hd => rfl); (case hg => rfl); (case hr => first | (go_simp; done) | (go_simp; rfl)); intro gb161 hg w12 hbox hb; have n0_ := BE BK160 hb; have n1_ := Aside0.mk (below_step (BB HB) hb); have n2_ := Aside0.mk (hbox); have n3_ := Aside0.mk ((by rw [hg]; exact (below_size (BB HB)) : w.heap.size ≤ gb161)); have n4_ := Aside0.mk ((by rw [hg]; exact (below_size (BB HB)) : w.heap.size ≤ gb161)); have n5_ := Aside0.mk ((by rw [hg]; exact Nat.ne_of_lt (blk_lt (g := gb160) (o := .cells #[.slice none 0 0, .int .i64 0, .int .i64 0, .int .i64 0] 97 (0, 0)) (BL BK160)) : gb160 ≠ gb161)); have n6_ := Aside0.mk ((by rw [hg]; exact Nat.ne_of_gt (blk_lt (g := gb160) (o := .cells #[.slice none 0 0, .int .i64 0, .int .i64 0, .int .i64 0] 97 (0, 0)) (BL BK160)) : gb161 ≠ gb160)); clear BK160; clear HB; have BK160 := n0_; have HB := n1_; have BK161 := n2_; have GW161 := n3_; have GE161 := n4_; have NB160_161 := n5_; have NB161_160 := n6_; clear n0_ n1_ n2_ n3_ n4_ n5_ n6_; clear hb hbox hg; have hnb13 := NB161_160.out; have hnc13 := NB160_161.out; have hcz14_0 : w12.cell? ⟨gb161, 0, none⟩ = some (.slice none 0 0) := (blk_cell BK161.out 0).trans rfl; have hcz14_1 : w12.cell? ⟨gb161, 1, none⟩ = some (.int .i64 0) := (blk_cell BK161.out 1).trans rfl; have hcz14_2 : w12.cell? ⟨gb161, 2, none⟩ = some (.int .i64 0) := (blk_cell BK161.out 2).trans rfl; have hcz14_3 : w12.cell? ⟨gb161, 3, none⟩ = some (.int .i64 0) := (blk_cell BK161.out 3).trans rfl; have hfz14_0 := blk_frozen BK161.out 0; have hfz14_1 := blk_frozen BK161.out 1; have hfz14_2 := blk_frozen BK161.out 2; have hfz14_3 := blk_frozen BK161.out 3) | ((with_reducible refine gate_dst (N := 16) rfl ?_); refine Kd.R_lit (Kd.int .i64) _ 3 ?hg (N := 16) ?hd (xs := ([2, 2, 2, 2] : List Int)) (inner := [.int .i64 2, .int .i64 2, .int .i64 2, .int .i64 2]) (ok := fun _ => True) (okp := fun _ => True) ?hr ?hp (fun _ hk => hk) trivial (Below.refl _ _) (Nat.le_refl _) (by simp) ?_; (case hd => rfl); (case hg => rfl); (case hr => first | (go_simp; done) | (go_simp; rfl)); (case hp => exact (Reps.one (show Kd.M (Kd.int .i64) _ _ _ 2 [.int .i64 2] from rfl) (Reps.one (show Kd.M (Kd.int .i64) _ _ _ 2 [.int .i64 2] from rfl) (Reps.one (show Kd.M (Kd.int .i64) _ _ _ 2 [.int .i64 2] from rfl) (Reps.one (show Kd.M (Kd.int .i64) _ _ _ 2 [.int .i64 2] from rfl) (Reps.none _ _)))))); intro v163 w15 ho16 hb hg_ hnew_; clear hg_ hnew_; (first | rw [← Ny162.out] at ho16 | (simp only [Int.reduceToNat] at ho16; rw [← Ny162.out] at ho16)); have n0_ := Aside0.mk (Kd.R_lower ho16 (below_size (BB HB))); have n1_ := Aside0.mk (blk_below (g := gb160) (o := .cells #[.slice none 0 0, .int .i64 0, .int .i64 0, .int .i64 0] 97 (0, 0)) (by refine blk_far ?_ NB160_161.out _; refine blk_far ?_ NB160_161.out _; refine blk_far ?_ NB160_161.out _; refine blk_far ?_ NB160_161.out _; (with_reducible repeat (first | refine blk_drewN ?_ _ | refine blk_drew ?_ | refine blk_alloc ?_ _)); exact BK160.out) hb); have n2_ := Aside0.mk (blk_below (g := gb161) (o := .cells #[.slice none 0 0, .int .i64 0, .int .i64 0, .int .i64 0] 97 (0, 0)) (by refine blk_put (cs := #[.slice none 0 0, .int .i64 0, .int .i64 0, .int .i64 0]) ?_ 3 _ rfl; refine blk_put (cs := #[.slice none 0 0, .int .i64 0, .int .i64 0, .int .i64 0]) ?_ 2 _ rfl; refine blk_put (cs := #[.slice none 0 0, .int .i64 0, .int .i64 0, .int .i64 0]) ?_ 1 _ rfl; refine blk_put (cs := #[.slice none 0 0, .int .i64 0, .int .i64 0, .int .i64 0]) ?_ 0 _ rfl; (with_reducible repeat (first | refine blk_drewN ?_ _ | refine blk_drew ?_ | refine blk_alloc ?_ _)); exact BK161.out) hb); have n3_ := Aside0.mk (below_step (BB HB) hb); clear BK160; clear BK161; clear HB; have HO164 := n0_; have BK160 := n1_; have BK161 := n2_; have HB := n3_; clear n0_ n1_ n2_ n3_; clear hb ho16; obtain ⟨Ao17, co17, eo17⟩ := Kd.R_slice HO164.out; subst eo17; have hcz18_0 : w15.cell? ⟨gb160, 0, none⟩ = some (.slice none 0 0) := (blk_cell BK160.out 0).trans rfl; have hcz18_1 : w15.cell? ⟨gb160, 1, none⟩ = some (.int .i64 0) := (blk_cell BK160.out 1).trans rfl; have hcz18_2 : w15.cell? ⟨gb160, 2, none⟩ = some (.int .i64 0) := (blk_cell BK160.out 2).trans rfl; have hcz18_3 : w15.cell? ⟨gb160, 3, none⟩ = some (.int .i64 0) := (blk_cell BK160.out 3).trans rfl; have hfz18_0 := blk_frozen BK160.out 0; have hfz18_1 := blk_frozen BK160.out 1; have hfz18_2 := blk_frozen BK160.out 2; have hfz18_3 := blk_frozen BK160.out 3))
    refine bodyPost_ret (results_ct rfl _ _ gb160 97 #[.slice Ao17 y162.length co17, .int .i64 0, .int .i64 1, .int .i64 1] (0, 0) _ rfl (by refine blk_put (cs := #[.slice Ao17 y162.length co17, .int .i64 0, .int .i64 1, .int .i64 0]) ?_ 3 _ rfl; refine blk_put (cs := #[.slice Ao17 y162.length co17, .int .i64 0, .int .i64 0, .int .i64 0]) ?_ 2 _ rfl; refine blk_put (cs := #[.slice Ao17 y162.length co17, .int .i64 0, .int .i64 0, .int .i64 0]) ?_ 1 _ rfl; refine blk_put (cs := #[.slice none 0 0, .int .i64 0, .int .i64 0, .int .i64 0]) ?_ 0 _ rfl; (with_reducible repeat (first | refine blk_drewN ?_ _ | refine blk_drew ?_ | refine blk_alloc ?_ _)); exact BK160.out) Tryd.underlying97 rfl (by kernel_rfl)) rfl ?_
    exact ⟨_, by first | rfl | (simp [errW_none, errW_some] <;> rfl) | (simp [*, errW_none, errW_some] <;> rfl), by exact Kd.R_mono (Kd.R_far (p := ⟨gb160, 3, none⟩) (Kd.R_far (p := ⟨gb160, 2, none⟩) (Kd.R_far (p := ⟨gb160, 1, none⟩) (Kd.R_far (p := ⟨gb160, 0, none⟩) (Kd.R_types HO164.out BK160.out (by decide)) (fun _ hk => hk.2) (.slice Ao17 y162.length co17)) (fun _ hk => hk.2) (.int .i64 0)) (fun _ hk => hk.2) (.int .i64 1)) (fun _ hk => hk.2) (.int .i64 1)) (fun _ hk => trivial), BB HB⟩
   ·rw [if_neg c10] at H
    have c10b0 : (a1 == 2) = false := beq_eq_false_iff_ne.mpr c10
    have c10b1 : (a1 != 2) = true := bne_iff_ne.mpr c10
    have HC19 := Aside0.mk H
    clear H
    go_enter Tryd.func51, Tryd.ntmps51
    go_upto_if 18 with (first | ((with_reducible refine gate_dst (N := 4) rfl ?_); refine box_event ?hg (N := 4) ?hd (cs := #[.slice none 0 0, .int .i64 0, .int .i64 0, .int .i64 0]) (t := 97) ?hr ?_; (case hd => rfl); (case hg => rfl); (case hr => first | (go_simp; done) | (go_simp; rfl)); intro gb160 hg w20 hbox hb; have n0_ := Aside0.mk (below_step (BB HB) hb); have n1_ := Aside0.mk (hbox); have n2_ := Aside0.mk ((by rw [hg]; exact (below_size (BB HB)) : w.heap.size ≤ gb160)); have n3_ := Aside0.mk ((by rw [hg]; exact (below_size (BB HB)) : w.heap.size ≤ gb160)); clear HB; have HB := n0_; have BK160 := n1_; have GW160 := n2_; have GE160 := n3_; clear n0_ n1_ n2_ n3_; clear hb hbox hg) | ((with_reducible refine gate_dst (N := 6) rfl ?_); refine box_event ?hg (N := 6) ?hd (cs := #[.slice none 0 0, .int .i64 0, .int .i64 0, .int .i64 0]) (t := 97) ?hr ?_; (case hd => rfl); (case hg => rfl); (case hr => first | (go_simp; done) | (go_simp; rfl)); intro gb161 hg w21 hbox hb; have n0_ := BE BK160 hb; have n1_ := Aside0.mk (below_step (BB HB) hb); have n2_ := Aside0.mk (hbox); have n3_ := Aside0.mk ((by rw [hg]; exact (below_size (BB HB)) : w.heap.size ≤ gb161)); have n4_ := Aside0.mk ((by rw [hg]; exact (below_size (BB HB)) : w.heap.size ≤ gb161)); have n5_ := Aside0.mk ((by rw [hg]; exact Nat.ne_of_lt (blk_lt (g := gb160) (o := .cells #[.slice none 0 0, .int .i64 0, .int .i64 0, .int .i64 0] 97 (0, 0)) (BL BK160)) : gb160 ≠ gb161)); have n6_ := Aside0.mk ((by rw [hg]; exact Nat.ne_of_gt (blk_lt (g := gb160) (o := .cells #[.slice none 0 0, .int .i64 0, .int .i64 0, .int .i64 0] 97 (0, 0)) (BL BK160)) : gb161 ≠ gb160)); clear BK160; clear HB; have BK160 := n0_; have HB := n1_; have BK161 := n2_; have GW161 := n3_; have GE161 := n4_; have NB160_161 := n5_; have NB161_160 := n6_; clear n0_ n1_ n2_ n3_ n4_ n5_ n6_; clear hb hbox hg; have hnb22 := NB161_160.out; have hnc22 := NB160_161.out; have hcz23_0 : w21.cell? ⟨gb161, 0, none⟩ = some (.slice none 0 0) := (blk_cell BK161.out 0).trans rfl; have hcz23_1 : w21.cell? ⟨gb161, 1, none⟩ = some (.int .i64 0) := (blk_cell BK161.out 1).trans rfl; have hcz23_2 : w21.cell? ⟨gb161, 2, none⟩ = some (.int .i64 0) := (blk_cell BK161.out 2).trans rfl; have hcz23_3 : w21.cell? ⟨gb161, 3, none⟩ = some (.int .i64 0) := (blk_cell BK161.out 3).trans rfl; have hfz23_0 := blk_frozen BK161.out 0; have hfz23_1 := blk_frozen BK161.out 1; have hfz23_2 := blk_frozen BK161.out 2; have hfz23_3 := blk_frozen BK161.out 3))
    (try simp only [Act.put, List.setIfInBounds_toArray, List.set_cons_zero, List.set_cons_succ])
    go_cut [18] (fun v18 wc => ∃ (kq : Nat) (x18_18 : Bool), v18 = .bool x18_18 ∧ Aside0 (dioramaref07_Spec.j0 kq a1 x18_18 0 0 0 = some (r1, r2, r3, r4, r5)) ∧ Aside0 (kq ≤ k) ∧ Aside0 (wc.heap[gb160]? = some (.cells #[(.slice none 0 0), .int .i64 0, .int .i64 0, .int .i64 0] 97 (0, 0))) ∧ Aside0 (wc.heap[gb161]? = some (.cells #[(.slice none 0 0), .int .i64 0, .int .i64 0, .int .i64 0] 97 (0, 0))) ∧ Aside0 (Below w.heap.size w wc))
    case first =>
     have H := HC19.out
     clear HC19
     by_cases c24 : a1 = 3
     ·rw [if_pos c24] at H
      have c24b0 : (a1 == 3) = true := beq_iff_eq.mpr c24
      have c24b1 : (a1 != 3) = false := bne_eq_false_iff_eq.mpr c24
      clear c24
      (first | rw [c24b0] | (simp only [i64_w, i32_w]; rw [c24b0]) | skip)
      have H' := Aside0.mk H
      clear H
      go_wp2
      go_meet
      case rel => exact ⟨_, ((a1 == 3)), (by first | rfl | (simp; done) | (simp [*]; done)), H', ⟨by first | omega | exact Nat.le_refl _⟩, ⟨by refine blk_far ?_ NB160_161.out _; refine blk_far ?_ NB160_161.out _; refine blk_far ?_ NB160_161.out _; refine blk_far ?_ NB160_161.out _; (with_reducible repeat (first | refine blk_drewN ?_ _ | refine blk_drew ?_ | refine blk_alloc ?_ _)); exact BK160.out⟩, ⟨by refine blk_put (cs := #[.slice none 0 0, .int .i64 0, .int .i64 0, .int .i64 0]) ?_ 3 _ rfl; refine blk_put (cs := #[.slice none 0 0, .int .i64 0, .int .i64 0, .int .i64 0]) ?_ 2 _ rfl; refine blk_put (cs := #[.slice none 0 0, .int .i64 0, .int .i64 0, .int .i64 0]) ?_ 1 _ rfl; refine blk_put (cs := #[.slice none 0 0, .int .i64 0, .int .i64 0, .int .i64 0]) ?_ 0 _ rfl; (with_reducible repeat (first | refine blk_drewN ?_ _ | refine blk_drew ?_ | refine blk_alloc ?_ _)); exact BK161.out⟩, ⟨BB HB⟩⟩
     ·rw [if_neg c24] at H
      have c24b0 : (a1 == 3) = false := beq_eq_false_iff_ne.mpr c24
      have c24b1 : (a1 != 3) = true := bne_iff_ne.mpr c24
      (first | rw [c24b0] | (simp only [i64_w, i32_w]; rw [c24b0]) | skip)
      have H' := Aside0.mk H
      clear H
      go_wp2
      go_meet
      case rel => exact ⟨_, ((a1 == 4)), (by first | rfl | (simp; done) | (simp [*]; done)), H', ⟨by first | omega | exact Nat.le_refl _⟩, ⟨by refine blk_far ?_ NB160_161.out _; refine blk_far ?_ NB160_161.out _; refine blk_far ?_ NB160_161.out _; refine blk_far ?_ NB160_161.out _; (with_reducible repeat (first | refine blk_drewN ?_ _ | refine blk_drew ?_ | refine blk_alloc ?_ _)); exact BK160.out⟩, ⟨by refine blk_put (cs := #[.slice none 0 0, .int .i64 0, .int .i64 0, .int .i64 0]) ?_ 3 _ rfl; refine blk_put (cs := #[.slice none 0 0, .int .i64 0, .int .i64 0, .int .i64 0]) ?_ 2 _ rfl; refine blk_put (cs := #[.slice none 0 0, .int .i64 0, .int .i64 0, .int .i64 0]) ?_ 1 _ rfl; refine blk_put (cs := #[.slice none 0 0, .int .i64 0, .int .i64 0, .int .i64 0]) ?_ 0 _ rfl; (with_reducible repeat (first | refine blk_drewN ?_ _ | refine blk_drew ?_ | refine blk_alloc ?_ _)); exact BK161.out⟩, ⟨BB HB⟩⟩
    case rest =>
     clear HC19
     try clear c1
     try clear c2
     try clear p2
     try clear c3
     try clear c3b0
     try clear c3b1
     try clear c4
     try clear c4b0
     try clear c4b1
     try clear c5
     try clear c7
     try clear c10
     try clear c10b0
     try clear c10b1
     try clear c13
     try clear c22
     try clear c24
     try clear c24b0
     try clear c24b1
     try clear hcz14_0
     try clear hcz14_1
     try clear hcz14_2
     try clear hcz14_3
     try clear hcz18_0
     try clear hcz18_1
     try clear hcz18_2
     try clear hcz18_3
     try clear hcz23_0
     try clear hcz23_1
     try clear hcz23_2
     try clear hcz23_3
     try clear hcz8_0
     try clear hcz8_1
     try clear hcz8_2
     try clear hcz8_3
     try clear hcz9_0
     try clear hcz9_1
     try clear hcz9_2
     try clear hcz9_3
     try clear hfz14_0
     try clear hfz14_1
     try clear hfz14_2
     try clear hfz14_3
     try clear hfz18_0
     try clear hfz18_1
     try clear hfz18_2
     try clear hfz18_3
     try clear hfz23_0
     try clear hfz23_1
     try clear hfz23_2
     try clear hfz23_3
     try clear hfz8_0
     try clear hfz8_1
     try clear hfz8_2
     try clear hfz8_3
     try clear hfz9_0
     try clear hfz9_1
     try clear hfz9_2
     try clear hfz9_3
     obtain ⟨kq, x18_18, rfl, HA, HJ18, BK160, BK161, HB⟩ := hcut
     cases kq with
     | zero => exact absurd HA.out (by simp [dioramaref07_Spec.j0])
     | succ kj18 =>
      have H := HA.out
      clear HA
      simp only [dioramaref07_Spec.j0] at H
      by_cases c25 : x18_18 = true
      ·subst c25
       have H1 : (some ((([3] : List Int)), 1, 0, 0, true)) = some (r1, r2, r3, r4, r5) := by rw [if_pos rfl] at H; exact H
       clear H
       have H := H1
       clear H1
       obtain ⟨y165, hy165⟩ : ∃ y_ : List Int, y_ = (([3] : List Int)) := ⟨_, rfl⟩
       replace H : (some (y165, 1, 0, 0, true)) = some (r1, r2, r3, r4, r5) := by first | (rw [hy165]; with_reducible exact H) | (have H2_ := (Option.bind_some _ _).symm.trans H; rw [hy165]; with_reducible exact H2_) | (have H2_ := (Option.bind_some _ _).symm.trans H; with_reducible exact H2_) | with_reducible exact H | (rw [hy165]; exact H) | exact H
       have Ny165 := Aside0.mk hy165
       clear hy165
       simp only [Option.some.injEq, Prod.mk.injEq] at H
       obtain ⟨rfl, rfl, rfl, rfl, rfl⟩ := H
       go_wp2_with (first | ((with_reducible refine gate_dst (N := 21) rfl ?_); refine Kd.R_lit (Kd.int .i64) _ 3 ?hg (N := 21) ?hd (xs := ([3] : List Int)) (inner := [.int .i64 3]) (ok := fun _ => True) (okp := fun _ => True) ?hr ?hp (fun _ hk => hk) trivial (Below.refl _ _) (Nat.le_refl _) (by simp) ?_; (case hd => rfl); (case hg => rfl); (case hr => first | (go_simp; done) | (go_simp; rfl)); (case hp => exact (Reps.one (show Kd.M (Kd.int .i64) _ _ _ 3 [.int .i64 3] from rfl) (Reps.none _ _))); intro v166 w26 ho27 hb hg_ hnew_; clear hg_ hnew_; (first | rw [← Ny165.out] at ho27 | (simp only [Int.reduceToNat] at ho27; rw [← Ny165.out] at ho27)); have n0_ := Aside0.mk (Kd.R_lower ho27 (below_size (BB HB))); have n1_ := BE BK160 hb; have n2_ := BE BK161 hb; have n3_ := Aside0.mk (below_step (BB HB) hb); clear BK160; clear BK161; clear HB; have HO167 := n0_; have BK160 := n1_; have BK161 := n2_; have HB := n3_; clear n0_ n1_ n2_ n3_; clear hb ho27; obtain ⟨Ao28, co28, eo28⟩ := Kd.R_slice HO167.out; subst eo28; have hnb29 := NB160_161.out; have hnc29 := NB161_160.out; have hcz30_0 : w26.cell? ⟨gb160, 0, none⟩ = some (.slice none 0 0) := (blk_cell BK160.out 0).trans rfl; have hcz30_1 : w26.cell? ⟨gb160, 1, none⟩ = some (.int .i64 0) := (blk_cell BK160.out 1).trans rfl; have hcz30_2 : w26.cell? ⟨gb160, 2, none⟩ = some (.int .i64 0) := (blk_cell BK160.out 2).trans rfl; have hcz30_3 : w26.cell? ⟨gb160, 3, none⟩ = some (.int .i64 0) := (blk_cell BK160.out 3).trans rfl; have hfz30_0 := blk_frozen BK160.out 0; have hfz30_1 := blk_frozen BK160.out 1; have hfz30_2 := blk_frozen BK160.out 2; have hfz30_3 := blk_frozen BK160.out 3))
       refine bodyPost_ret (results_ct rfl _ _ gb160 97 #[.slice Ao28 y165.length co28, .int .i64 1, .int .i64 0, .int .i64 0] (0, 0) _ rfl (by refine blk_put (cs := #[.slice Ao28 y165.length co28, .int .i64 1, .int .i64 0, .int .i64 0]) ?_ 3 _ rfl; refine blk_put (cs := #[.slice Ao28 y165.length co28, .int .i64 1, .int .i64 0, .int .i64 0]) ?_ 2 _ rfl; refine blk_put (cs := #[.slice Ao28 y165.length co28, .int .i64 0, .int .i64 0, .int .i64 0]) ?_ 1 _ rfl; refine blk_put (cs := #[.slice none 0 0, .int .i64 0, .int .i64 0, .int .i64 0]) ?_ 0 _ rfl; (with_reducible repeat (first | refine blk_drewN ?_ _ | refine blk_drew ?_ | refine blk_alloc ?_ _)); exact BK160.out) Tryd.underlying97 rfl (by kernel_rfl)) rfl ?_
       exact ⟨_, by first | rfl | (simp [errW_none, errW_some] <;> rfl) | (simp [*, errW_none, errW_some] <;> rfl), by exact Kd.R_mono (Kd.R_far (p := ⟨gb160, 3, none⟩) (Kd.R_far (p := ⟨gb160, 2, none⟩) (Kd.R_far (p := ⟨gb160, 1, none⟩) (Kd.R_far (p := ⟨gb160, 0, none⟩) (Kd.R_types HO167.out BK160.out (by decide)) (fun _ hk => hk.2) (.slice Ao28 y165.length co28)) (fun _ hk => hk.2) (.int .i64 1)) (fun _ hk => hk.2) (.int .i64 0)) (fun _ hk => hk.2) (.int .i64 0)) (fun _ hk => trivial), BB HB⟩
      ·replace c25 := Bool.eq_false_iff.mpr c25
       subst c25
       have H1 : (if a1 = 5 then (some (([] : List Int), 1, 0, 0, true)) else (if a1 = 6 then (some ((([4] : List Int)), 0, 0, 0, true)) else (some (([] : List Int), 0, 0, 0, false)))) = some (r1, r2, r3, r4, r5) := by rw [if_neg (show ¬ (false = true) by decide)] at H; exact H
       clear H
       have H := H1
       clear H1
       by_cases c31 : a1 = 5
       ·rw [if_pos c31] at H
        have c31b0 : (a1 == 5) = true := beq_iff_eq.mpr c31
        have c31b1 : (a1 != 5) = false := bne_eq_false_iff_eq.mpr c31
        clear c31
        simp only [Option.some.injEq, Prod.mk.injEq] at H
        obtain ⟨rfl, rfl, rfl, rfl, rfl⟩ := H
        have hnb32 := NB160_161.out
        have hnc32 := NB161_160.out
        have hcz33_0 : wc.cell? ⟨gb160, 0, none⟩ = some (.slice none 0 0) := (blk_cell BK160.out 0).trans rfl
        have hcz33_1 : wc.cell? ⟨gb160, 1, none⟩ = some (.int .i64 0) := (blk_cell BK160.out 1).trans rfl
        have hcz33_2 : wc.cell? ⟨gb160, 2, none⟩ = some (.int .i64 0) := (blk_cell BK160.out 2).trans rfl
        have hcz33_3 : wc.cell? ⟨gb160, 3, none⟩ = some (.int .i64 0) := (blk_cell BK160.out 3).trans rfl
        have hfz33_0 := blk_frozen BK160.out 0
        have hfz33_1 := blk_frozen BK160.out 1
        have hfz33_2 := blk_frozen BK160.out 2
        have hfz33_3 := blk_frozen BK160.out 3
        go_wp2
        refine bodyPost_ret (results_ct rfl _ _ gb160 97 #[.slice none 0 0, .int .i64 1, .int .i64 0, .int .i64 0] (0, 0) _ rfl (by refine blk_put (cs := #[.slice none 0 0, .int .i64 1, .int .i64 0, .int .i64 0]) ?_ 3 _ rfl; refine blk_put (cs := #[.slice none 0 0, .int .i64 1, .int .i64 0, .int .i64 0]) ?_ 2 _ rfl; refine blk_put (cs := #[.slice none 0 0, .int .i64 0, .int .i64 0, .int .i64 0]) ?_ 1 _ rfl; refine blk_put (cs := #[.slice none 0 0, .int .i64 0, .int .i64 0, .int .i64 0]) ?_ 0 _ rfl; (with_reducible repeat (first | refine blk_drewN ?_ _ | refine blk_drew ?_ | refine blk_alloc ?_ _)); exact BK160.out) Tryd.underlying97 rfl (by kernel_rfl)) rfl ?_
        exact ⟨_, by first | rfl | (simp [errW_none, errW_some] <;> rfl) | (simp [*, errW_none, errW_some] <;> rfl), by first | exact Kd.R_nil _ _ _ _ _ | exact Kd.N_nil _ _ _ _ _ | exact Kd.V_nil _ _ _ _ _ | exact Kd.Q_nil _ _ _ _ _ | exact Kd.S_nil _ _ _ _ _, BB HB⟩
       ·rw [if_neg c31] at H
        have c31b0 : (a1 == 5) = false := beq_eq_false_iff_ne.mpr c31
        have c31b1 : (a1 != 5) = true := bne_iff_ne.mpr c31
        by_cases c34 : a1 = 6
        ·rw [if_pos c34] at H
         have c34b0 : (a1 == 6) = true := beq_iff_eq.mpr c34
         have c34b1 : (a1 != 6) = false := bne_eq_false_iff_eq.mpr c34
         clear c34
         obtain ⟨y168, hy168⟩ : ∃ y_ : List Int, y_ = (([4] : List Int)) := ⟨_, rfl⟩
         replace H : (some (y168, 0, 0, 0, true)) = some (r1, r2, r3, r4, r5) := by first | (rw [hy168]; with_reducible exact H) | (have H2_ := (Option.bind_some _ _).symm.trans H; rw [hy168]; with_reducible exact H2_) | (have H2_ := (Option.bind_some _ _).symm.trans H; with_reducible exact H2_) | with_reducible exact H | (rw [hy168]; exact H) | exact H
         have Ny168 := Aside0.mk hy168
         clear hy168
         simp only [Option.some.injEq, Prod.mk.injEq] at H
         obtain ⟨rfl, rfl, rfl, rfl, rfl⟩ := H
         go_wp2_with (first | ((with_reducible refine gate_dst (N := 28) rfl ?_); refine Kd.R_lit (Kd.int .i64) _ 3 ?hg (N := 28) ?hd (xs := ([4] : List Int)) (inner := [.int .i64 4]) (ok := fun _ => True) (okp := fun _ => True) ?hr ?hp (fun _ hk => hk) trivial (Below.refl _ _) (Nat.le_refl _) (by simp) ?_; (case hd => rfl); (case hg => rfl); (case hr => first | (go_simp; done) | (go_simp; rfl)); (case hp => exact (Reps.one (show Kd.M (Kd.int .i64) _ _ _ 4 [.int .i64 4] from rfl) (Reps.none _ _))); intro v169 w35 ho36 hb hg_ hnew_; clear hg_ hnew_; (first | rw [← Ny168.out] at ho36 | (simp only [Int.reduceToNat] at ho36; rw [← Ny168.out] at ho36)); have n0_ := Aside0.mk (Kd.R_lower ho36 (below_size (BB HB))); have n1_ := BE BK160 hb; have n2_ := BE BK161 hb; have n3_ := Aside0.mk (below_step (BB HB) hb); clear BK160; clear BK161; clear HB; have HO170 := n0_; have BK160 := n1_; have BK161 := n2_; have HB := n3_; clear n0_ n1_ n2_ n3_; clear hb ho36; obtain ⟨Ao37, co37, eo37⟩ := Kd.R_slice HO170.out; subst eo37; have hnb38 := NB160_161.out; have hnc38 := NB161_160.out; have hcz39_0 : w35.cell? ⟨gb160, 0, none⟩ = some (.slice none 0 0) := (blk_cell BK160.out 0).trans rfl; have hcz39_1 : w35.cell? ⟨gb160, 1, none⟩ = some (.int .i64 0) := (blk_cell BK160.out 1).trans rfl; have hcz39_2 : w35.cell? ⟨gb160, 2, none⟩ = some (.int .i64 0) := (blk_cell BK160.out 2).trans rfl; have hcz39_3 : w35.cell? ⟨gb160, 3, none⟩ = some (.int .i64 0) := (blk_cell BK160.out 3).trans rfl; have hfz39_0 := blk_frozen BK160.out 0; have hfz39_1 := blk_frozen BK160.out 1; have hfz39_2 := blk_frozen BK160.out 2; have hfz39_3 := blk_frozen BK160.out 3))
         refine bodyPost_ret (results_ct rfl _ _ gb160 97 #[.slice Ao37 y168.length co37, .int .i64 0, .int .i64 0, .int .i64 0] (0, 0) _ rfl (by refine blk_put (cs := #[.slice Ao37 y168.length co37, .int .i64 0, .int .i64 0, .int .i64 0]) ?_ 3 _ rfl; refine blk_put (cs := #[.slice Ao37 y168.length co37, .int .i64 0, .int .i64 0, .int .i64 0]) ?_ 2 _ rfl; refine blk_put (cs := #[.slice Ao37 y168.length co37, .int .i64 0, .int .i64 0, .int .i64 0]) ?_ 1 _ rfl; refine blk_put (cs := #[.slice none 0 0, .int .i64 0, .int .i64 0, .int .i64 0]) ?_ 0 _ rfl; (with_reducible repeat (first | refine blk_drewN ?_ _ | refine blk_drew ?_ | refine blk_alloc ?_ _)); exact BK160.out) Tryd.underlying97 rfl (by kernel_rfl)) rfl ?_
         exact ⟨_, by first | rfl | (simp [errW_none, errW_some] <;> rfl) | (simp [*, errW_none, errW_some] <;> rfl), by exact Kd.R_mono (Kd.R_far (p := ⟨gb160, 3, none⟩) (Kd.R_far (p := ⟨gb160, 2, none⟩) (Kd.R_far (p := ⟨gb160, 1, none⟩) (Kd.R_far (p := ⟨gb160, 0, none⟩) (Kd.R_types HO170.out BK160.out (by decide)) (fun _ hk => hk.2) (.slice Ao37 y168.length co37)) (fun _ hk => hk.2) (.int .i64 0)) (fun _ hk => hk.2) (.int .i64 0)) (fun _ hk => hk.2) (.int .i64 0)) (fun _ hk => trivial), BB HB⟩
        ·rw [if_neg c34] at H
         have c34b0 : (a1 == 6) = false := beq_eq_false_iff_ne.mpr c34
         have c34b1 : (a1 != 6) = true := bne_iff_ne.mpr c34
         simp only [Option.some.injEq, Prod.mk.injEq] at H
         obtain ⟨rfl, rfl, rfl, rfl, rfl⟩ := H
         have hnb40 := NB161_160.out
         have hnc40 := NB160_161.out
         have hcz41_0 : wc.cell? ⟨gb161, 0, none⟩ = some (.slice none 0 0) := (blk_cell BK161.out 0).trans rfl
         have hcz41_1 : wc.cell? ⟨gb161, 1, none⟩ = some (.int .i64 0) := (blk_cell BK161.out 1).trans rfl
         have hcz41_2 : wc.cell? ⟨gb161, 2, none⟩ = some (.int .i64 0) := (blk_cell BK161.out 2).trans rfl
         have hcz41_3 : wc.cell? ⟨gb161, 3, none⟩ = some (.int .i64 0) := (blk_cell BK161.out 3).trans rfl
         have hfz41_0 := blk_frozen BK161.out 0
         have hfz41_1 := blk_frozen BK161.out 1
         have hfz41_2 := blk_frozen BK161.out 2
         have hfz41_3 := blk_frozen BK161.out 3
         have hcz42_0 : wc.cell? ⟨gb160, 0, none⟩ = some (.slice none 0 0) := (blk_cell BK160.out 0).trans rfl
         have hcz42_1 : wc.cell? ⟨gb160, 1, none⟩ = some (.int .i64 0) := (blk_cell BK160.out 1).trans rfl
         have hcz42_2 : wc.cell? ⟨gb160, 2, none⟩ = some (.int .i64 0) := (blk_cell BK160.out 2).trans rfl
         have hcz42_3 : wc.cell? ⟨gb160, 3, none⟩ = some (.int .i64 0) := (blk_cell BK160.out 3).trans rfl
         have hfz42_0 := blk_frozen BK160.out 0
         have hfz42_1 := blk_frozen BK160.out 1
         have hfz42_2 := blk_frozen BK160.out 2
         have hfz42_3 := blk_frozen BK160.out 3
         go_wp2
         refine bodyPost_ret (results_ct rfl _ _ gb160 97 #[.slice none 0 0, .int .i64 0, .int .i64 0, .int .i64 0] (0, 0) _ rfl (by refine blk_put (cs := #[.slice none 0 0, .int .i64 0, .int .i64 0, .int .i64 0]) ?_ 3 _ rfl; refine blk_put (cs := #[.slice none 0 0, .int .i64 0, .int .i64 0, .int .i64 0]) ?_ 2 _ rfl; refine blk_put (cs := #[.slice none 0 0, .int .i64 0, .int .i64 0, .int .i64 0]) ?_ 1 _ rfl; refine blk_put (cs := #[.slice none 0 0, .int .i64 0, .int .i64 0, .int .i64 0]) ?_ 0 _ rfl; (with_reducible repeat (first | refine blk_drewN ?_ _ | refine blk_drew ?_ | refine blk_alloc ?_ _)); exact BK160.out) Tryd.underlying97 rfl (by kernel_rfl)) rfl ?_
         exact ⟨_, by first | rfl | (simp [errW_none, errW_some] <;> rfl) | (simp [*, errW_none, errW_some] <;> rfl), by first | exact Kd.R_nil _ _ _ _ _ | exact Kd.N_nil _ _ _ _ _ | exact Kd.V_nil _ _ _ _ _ | exact Kd.Q_nil _ _ _ _ _ | exact Kd.S_nil _ _ _ _ _, BB HB⟩
 ·rw [if_neg c3] at H
  have c3b0 : (a0 == 1) = false := beq_eq_false_iff_ne.mpr c3
  have c3b1 : (a0 != 1) = true := bne_iff_ne.mpr c3
  by_cases c43 : a1 = 1
  ·rw [if_pos c43] at H
   have c43b0 : (a1 == 1) = true := beq_iff_eq.mpr c43
   have c43b1 : (a1 != 1) = false := bne_eq_false_iff_eq.mpr c43
   clear c43
   simp only [Option.some.injEq, Prod.mk.injEq] at H
   obtain ⟨rfl, rfl, rfl, rfl, rfl⟩ := H
   go_enter Tryd.func51, Tryd.ntmps51
   go_wp2_with (first | ((with_reducible refine gate_dst (N := 4) rfl ?_); refine box_event ?hg (N := 4) ?hd (cs := #[.slice none 0 0, .int .i64 0, .int .i64 0, .int .i64 0]) (t := 97) ?hr ?_; (case hd => rfl); (case hg => rfl); (case hr => first | (go_simp; done) | (go_simp; rfl)); intro gb160 hg w44 hbox hb; have n0_ := Aside0.mk (below_step (BB HB) hb); have n1_ := Aside0.mk (hbox); have n2_ := Aside0.mk ((by rw [hg]; exact (below_size (BB HB)) : w.heap.size ≤ gb160)); have n3_ := Aside0.mk ((by rw [hg]; exact (below_size (BB HB)) : w.heap.size ≤ gb160)); clear HB; have HB := n0_; have BK160 := n1_; have GW160 := n2_; have GE160 := n3_; clear n0_ n1_ n2_ n3_; clear hb hbox hg) | ((with_reducible refine gate_dst (N := 6) rfl ?_); refine box_event ?hg (N := 6) ?hd (cs := #[.slice none 0 0, .int .i64 0, .int .i64 0, .int .i64 0]) (t := 97) ?hr ?_; (case hd => rfl); (case hg => rfl); (case hr => first | (go_simp; done) | (go_simp; rfl)); intro gb161 hg w45 hbox hb; have n0_ := BE BK160 hb; have n1_ := Aside0.mk (below_step (BB HB) hb); have n2_ := Aside0.mk (hbox); have n3_ := Aside0.mk ((by rw [hg]; exact (below_size (BB HB)) : w.heap.size ≤ gb161)); have n4_ := Aside0.mk ((by rw [hg]; exact (below_size (BB HB)) : w.heap.size ≤ gb161)); have n5_ := Aside0.mk ((by rw [hg]; exact Nat.ne_of_lt (blk_lt (g := gb160) (o := .cells #[.slice none 0 0, .int .i64 0, .int .i64 0, .int .i64 0] 97 (0, 0)) (BL BK160)) : gb160 ≠ gb161)); have n6_ := Aside0.mk ((by rw [hg]; exact Nat.ne_of_gt (blk_lt (g := gb160) (o := .cells #[.slice none 0 0, .int .i64 0, .int .i64 0, .int .i64 0] 97 (0, 0)) (BL BK160)) : gb161 ≠ gb160)); clear BK160; clear HB; have BK160 := n0_; have HB := n1_; have BK161 := n2_; have GW161 := n3_; have GE161 := n4_; have NB160_161 := n5_; have NB161_160 := n6_; clear n0_ n1_ n2_ n3_ n4_ n5_ n6_; clear hb hbox hg; have hnb46 := NB161_160.out; have hnc46 := NB160_161.out; have hcz47_0 : w45.cell? ⟨gb161, 0, none⟩ = some (.slice none 0 0) := (blk_cell BK161.out 0).trans rfl; have hcz47_1 : w45.cell? ⟨gb161, 1, none⟩ = some (.int .i64 0) := (blk_cell BK161.out 1).trans rfl; have hcz47_2 : w45.cell? ⟨gb161, 2, none⟩ = some (.int .i64 0) := (blk_cell BK161.out 2).trans rfl; have hcz47_3 : w45.cell? ⟨gb161, 3, none⟩ = some (.int .i64 0) := (blk_cell BK161.out 3).trans rfl; have hfz47_0 := blk_frozen BK161.out 0; have hfz47_1 := blk_frozen BK161.out 1; have hfz47_2 := blk_frozen BK161.out 2; have hfz47_3 := blk_frozen BK161.out 3; have hcz48_0 : w45.cell? ⟨gb160, 0, none⟩ = some (.slice none 0 0) := (blk_cell BK160.out 0).trans rfl; have hcz48_1 : w45.cell? ⟨gb160, 1, none⟩ = some (.int .i64 0) := (blk_cell BK160.out 1).trans rfl; have hcz48_2 : w45.cell? ⟨gb160, 2, none⟩ = some (.int .i64 0) := (blk_cell BK160.out 2).trans rfl; have hcz48_3 : w45.cell? ⟨gb160, 3, none⟩ = some (.int .i64 0) := (blk_cell BK160.out 3).trans rfl; have hfz48_0 := blk_frozen BK160.out 0; have hfz48_1 := blk_frozen BK160.out 1; have hfz48_2 := blk_frozen BK160.out 2; have hfz48_3 := blk_frozen BK160.out 3))
   refine bodyPost_ret (results_ct rfl _ _ gb160 97 #[.slice none 0 0, .int .i64 1, .int .i64 0, .int .i64 (-1)] (0, 0) _ rfl (by refine blk_put (cs := #[.slice none 0 0, .int .i64 1, .int .i64 0, .int .i64 0]) ?_ 3 _ rfl; refine blk_put (cs := #[.slice none 0 0, .int .i64 1, .int .i64 0, .int .i64 0]) ?_ 2 _ rfl; refine blk_put (cs := #[.slice none 0 0, .int .i64 0, .int .i64 0, .int .i64 0]) ?_ 1 _ rfl; refine blk_put (cs := #[.slice none 0 0, .int .i64 0, .int .i64 0, .int .i64 0]) ?_ 0 _ rfl; refine blk_far ?_ NB160_161.out _; refine blk_far ?_ NB160_161.out _; refine blk_far ?_ NB160_161.out _; refine blk_far ?_ NB160_161.out _; (with_reducible repeat (first | refine blk_drewN ?_ _ | refine blk_drew ?_ | refine blk_alloc ?_ _)); exact BK160.out) Tryd.underlying97 rfl (by kernel_rfl)) rfl ?_
   exact ⟨_, by first | rfl | (simp [errW_none, errW_some] <;> rfl) | (simp [*, errW_none, errW_some] <;> rfl), by first | exact Kd.R_nil _ _ _ _ _ | exact Kd.N_nil _ _ _ _ _ | exact Kd.V_nil _ _ _ _ _ | exact Kd.Q_nil _ _ _ _ _ | exact Kd.S_nil _ _ _ _ _, BB HB⟩
  ·rw [if_neg c43] at H
   have c43b0 : (a1 == 1) = false := beq_eq_false_iff_ne.mpr c43
   have c43b1 : (a1 != 1) = true := bne_iff_ne.mpr c43
   have HC49 := Aside0.mk H
   clear H
   go_enter Tryd.func51, Tryd.ntmps51
   go_upto_if 35 with (first | ((with_reducible refine gate_dst (N := 4) rfl ?_); refine box_event ?hg (N := 4) ?hd (cs := #[.slice none 0 0, .int .i64 0, .int .i64 0, .int .i64 0]) (t := 97) ?hr ?_; (case hd => rfl); (case hg => rfl); (case hr => first | (go_simp; done) | (go_simp; rfl)); intro gb160 hg w50 hbox hb; have n0_ := Aside0.mk (below_step (BB HB) hb); have n1_ := Aside0.mk (hbox); have n2_ := Aside0.mk ((by rw [hg]; exact (below_size (BB HB)) : w.heap.size ≤ gb160)); have n3_ := Aside0.mk ((by rw [hg]; exact (below_size (BB HB)) : w.heap.size ≤ gb160)); clear HB; have HB := n0_; have BK160 := n1_; have GW160 := n2_; have GE160 := n3_; clear n0_ n1_ n2_ n3_; clear hb hbox hg) | ((with_reducible refine gate_dst (N := 6) rfl ?_); refine box_event ?hg (N := 6) ?hd (cs := #[.slice none 0 0, .int .i64 0, .int .i64 0, .int .i64 0]) (t := 97) ?hr ?_; (case hd => rfl); (case hg => rfl); (case hr => first | (go_simp; done) | (go_simp; rfl)); intro gb161 hg w51 hbox hb; have n0_ := BE BK160 hb; have n1_ := Aside0.mk (below_step (BB HB) hb); have n2_ := Aside0.mk (hbox); have n3_ := Aside0.mk ((by rw [hg]; exact (below_size (BB HB)) : w.heap.size ≤ gb161)); have n4_ := Aside0.mk ((by rw [hg]; exact (below_size (BB HB)) : w.heap.size ≤ gb161)); have n5_ := Aside0.mk ((by rw [hg]; exact Nat.ne_of_lt (blk_lt (g := gb160) (o := .cells #[.slice none 0 0, .int .i64 0, .int .i64 0, .int .i64 0] 97 (0, 0)) (BL BK160)) : gb160 ≠ gb161)); have n6_ := Aside0.mk ((by rw [hg]; exact Nat.ne_of_gt (blk_lt (g := gb160) (o := .cells #[.slice none 0 0, .int .i64 0, .int .i64 0, .int .i64 0] 97 (0, 0)) (BL BK160)) : gb161 ≠ gb160)); clear BK160; clear HB; have BK160 := n0_; have HB := n1_; have BK161 := n2_; have GW161 := n3_; have GE161 := n4_; have NB160_161 := n5_; have NB161_160 := n6_; clear n0_ n1_ n2_ n3_ n4_ n5_ n6_; clear hb hbox hg; have hnb52 := NB161_160.out; have hnc52 := NB160_161.out; have hcz53_0 : w51.cell? ⟨gb161, 0, none⟩ = some (.slice none 0 0) := (blk_cell BK161.out 0).trans rfl; have hcz53_1 : w51.cell? ⟨gb161, 1, none⟩ = some (.int .i64 0) := (blk_cell BK161.out 1).trans rfl; have hcz53_2 : w51.cell? ⟨gb161, 2, none⟩ = some (.int .i64 0) := (blk_cell BK161.out 2).trans rfl; have hcz53_3 : w51.cell? ⟨gb161, 3, none⟩ = some (.int .i64 0) := (blk_cell BK161.out 3).trans rfl; have hfz53_0 := blk_frozen BK161.out 0; have hfz53_1 := blk_frozen BK161.out 1; have hfz53_2 := blk_frozen BK161.out 2; have hfz53_3 := blk_frozen BK161.out 3))
   (try simp only [Act.put, List.setIfInBounds_toArray, List.set_cons_zero, List.set_cons_succ])
   go_cut [35] (fun v35 wc => ∃ (kq : Nat) (x35_48 : Bool), v35 = .bool x35_48 ∧ Aside0 (dioramaref07_Spec.j1 kq a1 x35_48 0 0 0 = some (r1, r2, r3, r4, r5)) ∧ Aside0 (kq ≤ k) ∧ Aside0 (wc.heap[gb160]? = some (.cells #[(.slice none 0 0), .int .i64 0, .int .i64 0, .int .i64 0] 97 (0, 0))) ∧ Aside0 (wc.heap[gb161]? = some (.cells #[(.slice none 0 0), .int .i64 0, .int .i64 0, .int .i64 0] 97 (0, 0))) ∧ Aside0 (Below w.heap.size w wc))
   case first =>
    have H := HC49.out
    clear HC49
    by_cases c54 : a1 = 2
    ·rw [if_pos c54] at H
     have c54b0 : (a1 == 2) = true := beq_iff_eq.mpr c54
     have c54b1 : (a1 != 2) = false := bne_eq_false_iff_eq.mpr c54
     clear c54
     (first | rw [c54b0] | (simp only [i64_w, i32_w]; rw [c54b0]) | skip)
     have H' := Aside0.mk H
     clear H
     go_wp2
     go_meet
     case rel => exact ⟨_, ((a1 == 2)), (by first | rfl | (simp; done) | (simp [*]; done)), H', ⟨by first | omega | exact Nat.le_refl _⟩, ⟨by refine blk_far ?_ NB160_161.out _; refine blk_far ?_ NB160_161.out _; refine blk_far ?_ NB160_161.out _; refine blk_far ?_ NB160_161.out _; (with_reducible repeat (first | refine blk_drewN ?_ _ | refine blk_drew ?_ | refine blk_alloc ?_ _)); exact BK160.out⟩, ⟨by refine blk_put (cs := #[.slice none 0 0, .int .i64 0, .int .i64 0, .int .i64 0]) ?_ 3 _ rfl; refine blk_put (cs := #[.slice none 0 0, .int .i64 0, .int .i64 0, .int .i64 0]) ?_ 2 _ rfl; refine blk_put (cs := #[.slice none 0 0, .int .i64 0, .int .i64 0, .int .i64 0]) ?_ 1 _ rfl; refine blk_put (cs := #[.slice none 0 0, .int .i64 0, .int .i64 0, .int .i64 0]) ?_ 0 _ rfl; (with_reducible repeat (first | refine blk_drewN ?_ _ | refine blk_drew ?_ | refine blk_alloc ?_ _)); exact BK161.out⟩, ⟨BB HB⟩⟩
    ·rw [if_neg c54] at H
     have c54b0 : (a1 == 2) = false := beq_eq_false_iff_ne.mpr c54
     have c54b1 : (a1 != 2) = true := bne_iff_ne.mpr c54
     (first | rw [c54b0] | (simp only [i64_w, i32_w]; rw [c54b0]) | skip)
     have H' := Aside0.mk H
     clear H
     go_wp2
     go_meet
     case rel => exact ⟨_, ((a1 == 8)), (by first | rfl | (simp; done) | (simp [*]; done)), H', ⟨by first | omega | exact Nat.le_refl _⟩, ⟨by refine blk_far ?_ NB160_161.out _; refine blk_far ?_ NB160_161.out _; refine blk_far ?_ NB160_161.out _; refine blk_far ?_ NB160_161.out _; (with_reducible repeat (first | refine blk_drewN ?_ _ | refine blk_drew ?_ | refine blk_alloc ?_ _)); exact BK160.out⟩, ⟨by refine blk_put (cs := #[.slice none 0 0, .int .i64 0, .int .i64 0, .int .i64 0]) ?_ 3 _ rfl; refine blk_put (cs := #[.slice none 0 0, .int .i64 0, .int .i64 0, .int .i64 0]) ?_ 2 _ rfl; refine blk_put (cs := #[.slice none 0 0, .int .i64 0, .int .i64 0, .int .i64 0]) ?_ 1 _ rfl; refine blk_put (cs := #[.slice none 0 0, .int .i64 0, .int .i64 0, .int .i64 0]) ?_ 0 _ rfl; (with_reducible repeat (first | refine blk_drewN ?_ _ | refine blk_drew ?_ | refine blk_alloc ?_ _)); exact BK161.out⟩, ⟨BB HB⟩⟩
   case rest =>
    clear HC49
    try clear c1
    try clear c2
    try clear p2
    try clear c3
    try clear c3b0
    try clear c3b1
    try clear c4
    try clear c4b0
    try clear c4b1
    try clear c5
    try clear c7
    try clear c10
    try clear c10b0
    try clear c10b1
    try clear c13
    try clear c22
    try clear c24
    try clear c24b0
    try clear c24b1
    try clear c25
    try clear c29
    try clear c31
    try clear c31b0
    try clear c31b1
    try clear c32
    try clear c34
    try clear c34b0
    try clear c34b1
    try clear c38
    try clear c40
    try clear c43
    try clear c43b0
    try clear c43b1
    try clear c46
    try clear c51
    try clear c52
    try clear c54
    try clear c54b0
    try clear c54b1
    try clear hcz14_0
    try clear hcz14_1
    try clear hcz14_2
    try clear hcz14_3
    try clear hcz18_0
    try clear hcz18_1
    try clear hcz18_2
    try clear hcz18_3
    try clear hcz23_0
    try clear hcz23_1
    try clear hcz23_2
    try clear hcz23_3
    try clear hcz30_0
    try clear hcz30_1
    try clear hcz30_2
    try clear hcz30_3
    try clear hcz33_0
    try clear hcz33_1
    try clear hcz33_2
    try clear hcz33_3
    try clear hcz39_0
    try clear hcz39_1
    try clear hcz39_2
    try clear hcz39_3
    try clear hcz41_0
    try clear hcz41_1
    try clear hcz41_2
    try clear hcz41_3
    try clear hcz42_0
    try clear hcz42_1
    try clear hcz42_2
    try clear hcz42_3
    try clear hcz47_0
    try clear hcz47_1
    try clear hcz47_2
    try clear hcz47_3
    try clear hcz48_0
    try clear hcz48_1
    try clear hcz48_2
    try clear hcz48_3
    try clear hcz53_0
    try clear hcz53_1
    try clear hcz53_2
    try clear hcz53_3
    try clear hcz8_0
    try clear hcz8_1
    try clear hcz8_2
    try clear hcz8_3
    try clear hcz9_0
    try clear hcz9_1
    try clear hcz9_2
    try clear hcz9_3
    try clear hfz14_0
    try clear hfz14_1
    try clear hfz14_2
    try clear hfz14_3
    try clear hfz18_0
    try clear hfz18_1
    try clear hfz18_2
    try clear hfz18_3
    try clear hfz23_0
    try clear hfz23_1
    try clear hfz23_2
    try clear hfz23_3
    try clear hfz30_0
    try clear hfz30_1
    try clear hfz30_2
    try clear hfz30_3
    try clear hfz33_0
    try clear hfz33_1
    try clear hfz33_2
    try clear hfz33_3
    try clear hfz39_0
    try clear hfz39_1
    try clear hfz39_2
    try clear hfz39_3
    try clear hfz41_0
    try clear hfz41_1
    try clear hfz41_2
    try clear hfz41_3
    try clear hfz42_0
    try clear hfz42_1
    try clear hfz42_2
    try clear hfz42_3
    try clear hfz47_0
    try clear hfz47_1
    try clear hfz47_2
    try clear hfz47_3
    try clear hfz48_0
    try clear hfz48_1
    try clear hfz48_2
    try clear hfz48_3
    try clear hfz53_0
    try clear hfz53_1
    try clear hfz53_2
    try clear hfz53_3
    try clear hfz8_0
    try clear hfz8_1
    try clear hfz8_2
    try clear hfz8_3
    try clear hfz9_0
    try clear hfz9_1
    try clear hfz9_2
    try clear hfz9_3
    try clear p2
    obtain ⟨kq, x35_48, rfl, HA, HJ48, BK160, BK161, HB⟩ := hcut
    cases kq with
    | zero => exact absurd HA.out (by simp [dioramaref07_Spec.j1])
    | succ kj48 =>
     have H := HA.out
     clear HA
     simp only [dioramaref07_Spec.j1] at H
     by_cases c55 : x35_48 = true
     ·subst c55
      have H1 : (some ((([2, 2, 2] : List Int)), 0, 1, 1, true)) = some (r1, r2, r3, r4, r5) := by rw [if_pos rfl] at H; exact H
      clear H
      have H := H1
      clear H1
      obtain ⟨y171, hy171⟩ : ∃ y_ : List Int, y_ = (([2, 2, 2] : List Int)) := ⟨_, rfl⟩
      replace H : (some (y171, 0, 1, 1, true)) = some (r1, r2, r3, r4, r5) := by first | (rw [hy171]; with_reducible exact H) | (have H2_ := (Option.bind_some _ _).symm.trans H; rw [hy171]; with_reducible exact H2_) | (have H2_ := (Option.bind_some _ _).symm.trans H; with_reducible exact H2_) | with_reducible exact H | (rw [hy171]; exact H) | exact H
      have Ny171 := Aside0.mk hy171
      clear hy171
      simp only [Option.some.injEq, Prod.mk.injEq] at H
      obtain ⟨rfl, rfl, rfl, rfl, rfl⟩ := H
      go_wp2_with (first | ((with_reducible refine gate_dst (N := 38) rfl ?_); refine Kd.R_lit (Kd.int .i64) _ 3 ?hg (N := 38) ?hd (xs := ([2, 2, 2] : List Int)) (inner := [.int .i64 2, .int .i64 2, .int .i64 2]) (ok := fun _ => True) (okp := fun _ => True) ?hr ?hp (fun _ hk => hk) trivial (Below.refl _ _) (Nat.le_refl _) (by simp) ?_; (case hd => rfl); (case hg => rfl); (case hr => first | (go_simp; done) | (go_simp; rfl)); (case hp => exact (Reps.one (show Kd.M (Kd.int .i64) _ _ _ 2 [.int .i64 2] from rfl) (Reps.one (show Kd.M (Kd.int .i64) _ _ _ 2 [.int .i64 2] from rfl) (Reps.one (show Kd.M (Kd.int .i64) _ _ _ 2 [.int .i64 2] from rfl) (Reps.none _ _))))); intro v172 w56 ho57 hb hg_ hnew_; clear hg_ hnew_; (first | rw [← Ny171.out] at ho57 | (simp only [Int.reduceToNat] at ho57; rw [← Ny171.out] at ho57)); have n0_ := Aside0.mk (Kd.R_lower ho57 (below_size (BB HB))); have n1_ := BE BK160 hb; have n2_ := BE BK161 hb; have n3_ := Aside0.mk (below_step (BB HB) hb); clear BK160; clear BK161; clear HB; have HO173 := n0_; have BK160 := n1_; have BK161 := n2_; have HB := n3_; clear n0_ n1_ n2_ n3_; clear hb ho57; obtain ⟨Ao58, co58, eo58⟩ := Kd.R_slice HO173.out; subst eo58; have hnb59 := NB160_161.out; have hnc59 := NB161_160.out; have hcz60_0 : w56.cell? ⟨gb160, 0, none⟩ = some (.slice none 0 0) := (blk_cell BK160.out 0).trans rfl; have hcz60_1 : w56.cell? ⟨gb160, 1, none⟩ = some (.int .i64 0) := (blk_cell BK160.out 1).trans rfl; have hcz60_2 : w56.cell? ⟨gb160, 2, none⟩ = some (.int .i64 0) := (blk_cell BK160.out 2).trans rfl; have hcz60_3 : w56.cell? ⟨gb160, 3, none⟩ = some (.int .i64 0) := (blk_cell BK160.out 3).trans rfl; have hfz60_0 := blk_frozen BK160.out 0; have hfz60_1 := blk_frozen BK160.out 1; have hfz60_2 := blk_frozen BK160.out 2; have hfz60_3 := blk_frozen BK160.out 3))
      refine bodyPost_ret (results_ct rfl _ _ gb160 97 #[.slice Ao58 y171.length co58, .int .i64 0, .int .i64 1, .int .i64 1] (0, 0) _ rfl (by refine blk_put (cs := #[.slice Ao58 y171.length co58, .int .i64 0, .int .i64 1, .int .i64 0]) ?_ 3 _ rfl; refine blk_put (cs := #[.slice Ao58 y171.length co58, .int .i64 0, .int .i64 0, .int .i64 0]) ?_ 2 _ rfl; refine blk_put (cs := #[.slice Ao58 y171.length co58, .int .i64 0, .int .i64 0, .int .i64 0]) ?_ 1 _ rfl; refine blk_put (cs := #[.slice none 0 0, .int .i64 0, .int .i64 0, .int .i64 0]) ?_ 0 _ rfl; (with_reducible repeat (first | refine blk_drewN ?_ _ | refine blk_drew ?_ | refine blk_alloc ?_ _)); exact BK160.out) Tryd.underlying97 rfl (by kernel_rfl)) rfl ?_
      exact ⟨_, by first | rfl | (simp [errW_none, errW_some] <;> rfl) | (simp [*, errW_none, errW_some] <;> rfl), by exact Kd.R_mono (Kd.R_far (p := ⟨gb160, 3, none⟩) (Kd.R_far (p := ⟨gb160, 2, none⟩) (Kd.R_far (p := ⟨gb160, 1, none⟩) (Kd.R_far (p := ⟨gb160, 0, none⟩) (Kd.R_types HO173.out BK160.out (by decide)) (fun _ hk => hk.2) (.slice Ao58 y171.length co58)) (fun _ hk => hk.2) (.int .i64 0)) (fun _ hk => hk.2) (.int .i64 1)) (fun _ hk => hk.2) (.int .i64 1)) (fun _ hk => trivial), BB HB⟩
     ·replace c55 := Bool.eq_false_iff.mpr c55
      subst c55
      have H1 : (if a1 = 3 then (some ((([3, 3, 3] : List Int)), 1, 0, 0, true)) else (if a1 = 4 then (some ((([3] : List Int)), 1, 0, 0, true)) else (if a1 = 5 then (some ((([3] : List Int)), 2, 0, 0, true)) else (if a1 = 6 then (some ((([1] : List Int)), 0, 0, (-1), true)) else (if a1 = 7 then (some ((([4, 4, 4, 5] : List Int)), 0, 0, 0, true)) else (some (([] : List Int), 0, 0, 0, false))))))) = some (r1, r2, r3, r4, r5) := by rw [if_neg (show ¬ (false = true) by decide)] at H; exact H
      clear H
      have H := H1
      clear H1
      by_cases c61 : a1 = 3
      ·rw [if_pos c61] at H
       have c61b0 : (a1 == 3) = true := beq_iff_eq.mpr c61
       have c61b1 : (a1 != 3) = false := bne_eq_false_iff_eq.mpr c61
       clear c61
       obtain ⟨y174, hy174⟩ : ∃ y_ : List Int, y_ = (([3, 3, 3] : List Int)) := ⟨_, rfl⟩
       replace H : (some (y174, 1, 0, 0, true)) = some (r1, r2, r3, r4, r5) := by first | (rw [hy174]; with_reducible exact H) | (have H2_ := (Option.bind_some _ _).symm.trans H; rw [hy174]; with_reducible exact H2_) | (have H2_ := (Option.bind_some _ _).symm.trans H; with_reducible exact H2_) | with_reducible exact H | (rw [hy174]; exact H) | exact H
       have Ny174 := Aside0.mk hy174
       clear hy174
       simp only [Option.some.injEq, Prod.mk.injEq] at H
       obtain ⟨rfl, rfl, rfl, rfl, rfl⟩ := H
       go_wp2_with (first | ((with_reducible refine gate_dst (N := 42) rfl ?_); refine Kd.R_lit (Kd.int .i64) _ 3 ?hg (N := 42) ?hd (xs := ([3, 3, 3] : List Int)) (inner := [.int .i64 3, .int .i64 3, .int .i64 3]) (ok := fun _ => True) (okp := fun _ => True) ?hr ?hp (fun _ hk => hk) trivial (Below.refl _ _) (Nat.le_refl _) (by simp) ?_; (case hd => rfl); (case hg => rfl); (case hr => first | (go_simp; done) | (go_simp; rfl)); (case hp => exact (Reps.one (show Kd.M (Kd.int .i64) _ _ _ 3 [.int .i64 3] from rfl) (Reps.one (show Kd.M (Kd.int .i64) _ _ _ 3 [.int .i64 3] from rfl) (Reps.one (show Kd.M (Kd.int .i64) _ _ _ 3 [.int .i64 3] from rfl) (Reps.none _ _))))); intro v175 w62 ho63 hb hg_ hnew_; clear hg_ hnew_; (first | rw [← Ny174.out] at ho63 | (simp only [Int.reduceToNat] at ho63; rw [← Ny174.out] at ho63)); have n0_ := Aside0.mk (Kd.R_lower ho63 (below_size (BB HB))); have n1_ := BE BK160 hb; have n2_ := BE BK161 hb; have n3_ := Aside0.mk (below_step (BB HB) hb); clear BK160; clear BK161; clear HB; have HO176 := n0_; have BK160 := n1_; have BK161 := n2_; have HB := n3_; clear n0_ n1_ n2_ n3_; clear hb ho63; obtain ⟨Ao64, co64, eo64⟩ := Kd.R_slice HO176.out; subst eo64; have hnb65 := NB160_161.out; have hnc65 := NB161_160.out; have hcz66_0 : w62.cell? ⟨gb160, 0, none⟩ = some (.slice none 0 0) := (blk_cell BK160.out 0).trans rfl; have hcz66_1 : w62.cell? ⟨gb160, 1, none⟩ = some (.int .i64 0) := (blk_cell BK160.out 1).trans rfl; have hcz66_2 : w62.cell? ⟨gb160, 2, none⟩ = some (.int .i64 0) := (blk_cell BK160.out 2).trans rfl; have hcz66_3 : w62.cell? ⟨gb160, 3, none⟩ = some (.int .i64 0) := (blk_cell BK160.out 3).trans rfl; have hfz66_0 := blk_frozen BK160.out 0; have hfz66_1 := blk_frozen BK160.out 1; have hfz66_2 := blk_frozen BK160.out 2; have hfz66_3 := blk_frozen BK160.out 3))
       refine bodyPost_ret (results_ct rfl _ _ gb160 97 #[.slice Ao64 y174.length co64, .int .i64 1, .int .i64 0, .int .i64 0] (0, 0) _ rfl (by refine blk_put (cs := #[.slice Ao64 y174.length co64, .int .i64 1, .int .i64 0, .int .i64 0]) ?_ 3 _ rfl; refine blk_put (cs := #[.slice Ao64 y174.length co64, .int .i64 1, .int .i64 0, .int .i64 0]) ?_ 2 _ rfl; refine blk_put (cs := #[.slice Ao64 y174.length co64, .int .i64 0, .int .i64 0, .int .i64 0]) ?_ 1 _ rfl; refine blk_put (cs := #[.slice none 0 0, .int .i64 0, .int .i64 0, .int .i64 0]) ?_ 0 _ rfl; (with_reducible repeat (first | refine blk_drewN ?_ _ | refine blk_drew ?_ | refine blk_alloc ?_ _)); exact BK160.out) Tryd.underlying97 rfl (by kernel_rfl)) rfl ?_
       exact ⟨_, by first | rfl | (simp [errW_none, errW_some] <;> rfl) | (simp [*, errW_none, errW_some] <;> rfl), by exact Kd.R_mono (Kd.R_far (p := ⟨gb160, 3, none⟩) (Kd.R_far (p := ⟨gb160, 2, none⟩) (Kd.R_far (p := ⟨gb160, 1, none⟩) (Kd.R_far (p := ⟨gb160, 0, none⟩) (Kd.R_types HO176.out BK160.out (by decide)) (fun _ hk => hk.2) (.slice Ao64 y174.length co64)) (fun _ hk => hk.2) (.int .i64 1)) (fun _ hk => hk.2) (.int .i64 0)) (fun _ hk => hk.2) (.int .i64 0)) (fun _ hk => trivial), BB HB⟩
      ·rw [if_neg c61] at H
       have c61b0 : (a1 == 3) = false := beq_eq_false_iff_ne.mpr c61
       have c61b1 : (a1 != 3) = true := bne_iff_ne.mpr c61
       by_cases c67 : a1 = 4
       ·rw [if_pos c67] at H
        have c67b0 : (a1 == 4) = true := beq_iff_eq.mpr c67
        have c67b1 : (a1 != 4) = false := bne_eq_false_iff_eq.mpr c67
        clear c67
        obtain ⟨y177, hy177⟩ : ∃ y_ : List Int, y_ = (([3] : List Int)) := ⟨_, rfl⟩
        replace H : (some (y177, 1, 0, 0, true)) = some (r1, r2, r3, r4, r5) := by first | (rw [hy177]; with_reducible exact H) | (have H2_ := (Option.bind_some _ _).symm.trans H; rw [hy177]; with_reducible exact H2_) | (have H2_ := (Option.bind_some _ _).symm.trans H; with_reducible exact H2_) | with_reducible exact H | (rw [hy177]; exact H) | exact H
        have Ny177 := Aside0.mk hy177
        clear hy177
        simp only [Option.some.injEq, Prod.mk.injEq] at H
        obtain ⟨rfl, rfl, rfl, rfl, rfl⟩ := H
        go_wp2_with (first | ((with_reducible refine gate_dst (N := 46) rfl ?_); refine Kd.R_lit (Kd.int .i64) _ 3 ?hg (N := 46) ?hd (xs := ([3] : List Int)) (inner := [.int .i64 3]) (ok := fun _ => True) (okp := fun _ => True) ?hr ?hp (fun _ hk => hk) trivial (Below.refl _ _) (Nat.le_refl _) (by simp) ?_; (case hd => rfl); (case hg => rfl); (case hr => first | (go_simp; done) | (go_simp; rfl)); (case hp => exact (Reps.one (show Kd.M (Kd.int .i64) _ _ _ 3 [.int .i64 3] from rfl) (Reps.none _ _))); intro v178 w68 ho69 hb hg_ hnew_; clear hg_ hnew_; (first | rw [← Ny177.out] at ho69 | (simp only [Int.reduceToNat] at ho69; rw [← Ny177.out] at ho69)); have n0_ := Aside0.mk (Kd.R_lower ho69 (below_size (BB HB))); have n1_ := BE BK160 hb; have n2_ := BE BK161 hb; have n3_ := Aside0.mk (below_step (BB HB) hb); clear BK160; clear BK161; clear HB; have HO179 := n0_; have BK160 := n1_; have BK161 := n2_; have HB := n3_; clear n0_ n1_ n2_ n3_; clear hb ho69; obtain ⟨Ao70, co70, eo70⟩ := Kd.R_slice HO179.out; subst eo70; have hnb71 := NB160_161.out; have hnc71 := NB161_160.out; have hcz72_0 : w68.cell? ⟨gb160, 0, none⟩ = some (.slice none 0 0) := (blk_cell BK160.out 0).trans rfl; have hcz72_1 : w68.cell? ⟨gb160, 1, none⟩ = some (.int .i64 0) := (blk_cell BK160.out 1).trans rfl; have hcz72_2 : w68.cell? ⟨gb160, 2, none⟩ = some (.int .i64 0) := (blk_cell BK160.out 2).trans rfl; have hcz72_3 : w68.cell? ⟨gb160, 3, none⟩ = some (.int .i64 0) := (blk_cell BK160.out 3).trans rfl; have hfz72_0 := blk_frozen BK160.out 0; have hfz72_1 := blk_frozen BK160.out 1; have hfz72_2 := blk_frozen BK160.out 2; have hfz72_3 := blk_frozen BK160.out 3))
        refine bodyPost_ret (results_ct rfl _ _ gb160 97 #[.slice Ao70 y177.length co70, .int .i64 1, .int .i64 0, .int .i64 0] (0, 0) _ rfl (by refine blk_put (cs := #[.slice Ao70 y177.length co70, .int .i64 1, .int .i64 0, .int .i64 0]) ?_ 3 _ rfl; refine blk_put (cs := #[.slice Ao70 y177.length co70, .int .i64 1, .int .i64 0, .int .i64 0]) ?_ 2 _ rfl; refine blk_put (cs := #[.slice Ao70 y177.length co70, .int .i64 0, .int .i64 0, .int .i64 0]) ?_ 1 _ rfl; refine blk_put (cs := #[.slice none 0 0, .int .i64 0, .int .i64 0, .int .i64 0]) ?_ 0 _ rfl; (with_reducible repeat (first | refine blk_drewN ?_ _ | refine blk_drew ?_ | refine blk_alloc ?_ _)); exact BK160.out) Tryd.underlying97 rfl (by kernel_rfl)) rfl ?_
        exact ⟨_, by first | rfl | (simp [errW_none, errW_some] <;> rfl) | (simp [*, errW_none, errW_some] <;> rfl), by exact Kd.R_mono (Kd.R_far (p := ⟨gb160, 3, none⟩) (Kd.R_far (p := ⟨gb160, 2, none⟩) (Kd.R_far (p := ⟨gb160, 1, none⟩) (Kd.R_far (p := ⟨gb160, 0, none⟩) (Kd.R_types HO179.out BK160.out (by decide)) (fun _ hk => hk.2) (.slice Ao70 y177.length co70)) (fun _ hk => hk.2) (.int .i64 1)) (fun _ hk => hk.2) (.int .i64 0)) (fun _ hk => hk.2) (.int .i64 0)) (fun _ hk => trivial), BB HB⟩
       ·rw [if_neg c67] at H
        have c67b0 : (a1 == 4) = false := beq_eq_false_iff_ne.mpr c67
        have c67b1 : (a1 != 4) = true := bne_iff_ne.mpr c67
        by_cases c73 : a1 = 5
        ·rw [if_pos c73] at H
         have c73b0 : (a1 == 5) = true := beq_iff_eq.mpr c73
         have c73b1 : (a1 != 5) = false := bne_eq_false_iff_eq.mpr c73
         clear c73
         obtain ⟨y180, hy180⟩ : ∃ y_ : List Int, y_ = (([3] : List Int)) := ⟨_, rfl⟩
         replace H : (some (y180, 2, 0, 0, true)) = some (r1, r2, r3, r4, r5) := by first | (rw [hy180]; with_reducible exact H) | (have H2_ := (Option.bind_some _ _).symm.trans H; rw [hy180]; with_reducible exact H2_) | (have H2_ := (Option.bind_some _ _).symm.trans H; with_reducible exact H2_) | with_reducible exact H | (rw [hy180]; exact H) | exact H
         have Ny180 := Aside0.mk hy180
         clear hy180
         simp only [Option.some.injEq, Prod.mk.injEq] at H
         obtain ⟨rfl, rfl, rfl, rfl, rfl⟩ := H
         go_wp2_with (first | ((with_reducible refine gate_dst (N := 50) rfl ?_); refine Kd.R_lit (Kd.int .i64) _ 3 ?hg (N := 50) ?hd (xs := ([3] : List Int)) (inner := [.int .i64 3]) (ok := fun _ => True) (okp := fun _ => True) ?hr ?hp (fun _ hk => hk) trivial (Below.refl _ _) (Nat.le_refl _) (by simp) ?_; (case hd => rfl); (case hg => rfl); (case hr => first | (go_simp; done) | (go_simp; rfl)); (case hp => exact (Reps.one (show Kd.M (Kd.int .i64) _ _ _ 3 [.int .i64 3] from rfl) (Reps.none _ _))); intro v181 w74 ho75 hb hg_ hnew_; clear hg_ hnew_; (first | rw [← Ny180.out] at ho75 | (simp only [Int.reduceToNat] at ho75; rw [← Ny180.out] at ho75)); have n0_ := Aside0.mk (Kd.R_lower ho75 (below_size (BB HB))); have n1_ := BE BK160 hb; have n2_ := BE BK161 hb; have n3_ := Aside0.mk (below_step (BB HB) hb); clear BK160; clear BK161; clear HB; have HO182 := n0_; have BK160 := n1_; have BK161 := n2_; have HB := n3_; clear n0_ n1_ n2_ n3_; clear hb ho75; obtain ⟨Ao76, co76, eo76⟩ := Kd.R_slice HO182.out; subst eo76; have hnb77 := NB160_161.out; have hnc77 := NB161_160.out; have hcz78_0 : w74.cell? ⟨gb160, 0, none⟩ = some (.slice none 0 0) := (blk_cell BK160.out 0).trans rfl; have hcz78_1 : w74.cell? ⟨gb160, 1, none⟩ = some (.int .i64 0) := (blk_cell BK160.out 1).trans rfl; have hcz78_2 : w74.cell? ⟨gb160, 2, none⟩ = some (.int .i64 0) := (blk_cell BK160.out 2).trans rfl; have hcz78_3 : w74.cell? ⟨gb160, 3, none⟩ = some (.int .i64 0) := (blk_cell BK160.out 3).trans rfl; have hfz78_0 := blk_frozen BK160.out 0; have hfz78_1 := blk_frozen BK160.out 1; have hfz78_2 := blk_frozen BK160.out 2; have hfz78_3 := blk_frozen BK160.out 3))
         refine bodyPost_ret (results_ct rfl _ _ gb160 97 #[.slice Ao76 y180.length co76, .int .i64 2, .int .i64 0, .int .i64 0] (0, 0) _ rfl (by refine blk_put (cs := #[.slice Ao76 y180.length co76, .int .i64 2, .int .i64 0, .int .i64 0]) ?_ 3 _ rfl; refine blk_put (cs := #[.slice Ao76 y180.length co76, .int .i64 2, .int .i64 0, .int .i64 0]) ?_ 2 _ rfl; refine blk_put (cs := #[.slice Ao76 y180.length co76, .int .i64 0, .int .i64 0, .int .i64 0]) ?_ 1 _ rfl; refine blk_put (cs := #[.slice none 0 0, .int .i64 0, .int .i64 0, .int .i64 0]) ?_ 0 _ rfl; (with_reducible repeat (first | refine blk_drewN ?_ _ | refine blk_drew ?_ | refine blk_alloc ?_ _)); exact BK160.out) Tryd.underlying97 rfl (by kernel_rfl)) rfl ?_
         exact ⟨_, by first | rfl | (simp [errW_none, errW_some] <;> rfl) | (simp [*, errW_none, errW_some] <;> rfl), by exact Kd.R_mono (Kd.R_far (p := ⟨gb160, 3, none⟩) (Kd.R_far (p := ⟨gb160, 2, none⟩) (Kd.R_far (p := ⟨gb160, 1, none⟩) (Kd.R_far (p := ⟨gb160, 0, none⟩) (Kd.R_types HO182.out BK160.out (by decide)) (fun _ hk => hk.2) (.slice Ao76 y180.length co76)) (fun _ hk => hk.2) (.int .i64 2)) (fun _ hk => hk.2) (.int .i64 0)) (fun _ hk => hk.2) (.int .i64 0)) (fun _ hk => trivial), BB HB⟩
        ·rw [if_neg c73] at H
         have c73b0 : (a1 == 5) = false := beq_eq_false_iff_ne.mpr c73
         have c73b1 : (a1 != 5) = true := bne_iff_ne.mpr c73
         by_cases c79 : a1 = 6
         ·rw [if_pos c79] at H
          have c79b0 : (a1 == 6) = true := beq_iff_eq.mpr c79
          have c79b1 : (a1 != 6) = false := bne_eq_false_iff_eq.mpr c79
          clear c79
          obtain ⟨y183, hy183⟩ : ∃ y_ : List Int, y_ = (([1] : List Int)) := ⟨_, rfl⟩
          replace H : (some (y183, 0, 0, (-1), true)) = some (r1, r2, r3, r4, r5) := by first | (rw [hy183]; with_reducible exact H) | (have H2_ := (Option.bind_some _ _).symm.trans H; rw [hy183]; with_reducible exact H2_) | (have H2_ := (Option.bind_some _ _).symm.trans H; with_reducible exact H2_) | with_reducible exact H | (rw [hy183]; exact H) | exact H
          have Ny183 := Aside0.mk hy183
          clear hy183
          simp only [Option.some.injEq, Prod.mk.injEq] at H
          obtain ⟨rfl, rfl, rfl, rfl, rfl⟩ := H
          go_wp2_with (first | ((with_reducible refine gate_dst (N := 54) rfl ?_); refine Kd.R_lit (Kd.int .i64) _ 3 ?hg (N := 54) ?hd (xs := ([1] : List Int)) (inner := [.int .i64 1]) (ok := fun _ => True) (okp := fun _ => True) ?hr ?hp (fun _ hk => hk) trivial (Below.refl _ _) (Nat.le_refl _) (by simp) ?_; (case hd => rfl); (case hg => rfl); (case hr => first | (go_simp; done) | (go_simp; rfl)); (case hp => exact (Reps.one (show Kd.M (Kd.int .i64) _ _ _ 1 [.int .i64 1] from rfl) (Reps.none _ _))); intro v184 w80 ho81 hb hg_ hnew_; clear hg_ hnew_; (first | rw [← Ny183.out] at ho81 | (simp only [Int.reduceToNat] at ho81; rw [← Ny183.out] at ho81)); have n0_ := Aside0.mk (Kd.R_lower ho81 (below_size (BB HB))); have n1_ := BE BK160 hb; have n2_ := BE BK161 hb; have n3_ := Aside0.mk (below_step (BB HB) hb); clear BK160; clear BK161; clear HB; have HO185 := n0_; have BK160 := n1_; have BK161 := n2_; have HB := n3_; clear n0_ n1_ n2_ n3_; clear hb ho81; obtain ⟨Ao82, co82, eo82⟩ := Kd.R_slice HO185.out; subst eo82; have hnb83 := NB160_161.out; have hnc83 := NB161_160.out; have hcz84_0 : w80.cell? ⟨gb160, 0, none⟩ = some (.slice none 0 0) := (blk_cell BK160.out 0).trans rfl; have hcz84_1 : w80.cell? ⟨gb160, 1, none⟩ = some (.int .i64 0) := (blk_cell BK160.out 1).trans rfl; have hcz84_2 : w80.cell? ⟨gb160, 2, none⟩ = some (.int .i64 0) := (blk_cell BK160.out 2).trans rfl; have hcz84_3 : w80.cell? ⟨gb160, 3, none⟩ = some (.int .i64 0) := (blk_cell BK160.out 3).trans rfl; have hfz84_0 := blk_frozen BK160.out 0; have hfz84_1 := blk_frozen BK160.out 1; have hfz84_2 := blk_frozen BK160.out 2; have hfz84_3 := blk_frozen BK160.out 3))
          refine bodyPost_ret (results_ct rfl _ _ gb160 97 #[.slice Ao82 y183.length co82, .int .i64 0, .int .i64 0, .int .i64 (-1)] (0, 0) _ rfl (by refine blk_put (cs := #[.slice Ao82 y183.length co82, .int .i64 0, .int .i64 0, .int .i64 0]) ?_ 3 _ rfl; refine blk_put (cs := #[.slice Ao82 y183.length co82, .int .i64 0, .int .i64 0, .int .i64 0]) ?_ 2 _ rfl; refine blk_put (cs := #[.slice Ao82 y183.length co82, .int .i64 0, .int .i64 0, .int .i64 0]) ?_ 1 _ rfl; refine blk_put (cs := #[.slice none 0 0, .int .i64 0, .int .i64 0, .int .i64 0]) ?_ 0 _ rfl; (with_reducible repeat (first | refine blk_drewN ?_ _ | refine blk_drew ?_ | refine blk_alloc ?_ _)); exact BK160.out) Tryd.underlying97 rfl (by kernel_rfl)) rfl ?_
          exact ⟨_, by first | rfl | (simp [errW_none, errW_some] <;> rfl) | (simp [*, errW_none, errW_some] <;> rfl), by exact Kd.R_mono (Kd.R_far (p := ⟨gb160, 3, none⟩) (Kd.R_far (p := ⟨gb160, 2, none⟩) (Kd.R_far (p := ⟨gb160, 1, none⟩) (Kd.R_far (p := ⟨gb160, 0, none⟩) (Kd.R_types HO185.out BK160.out (by decide)) (fun _ hk => hk.2) (.slice Ao82 y183.length co82)) (fun _ hk => hk.2) (.int .i64 0)) (fun _ hk => hk.2) (.int .i64 0)) (fun _ hk => hk.2) (.int .i64 (-1))) (fun _ hk => trivial), BB HB⟩
         ·rw [if_neg c79] at H
          have c79b0 : (a1 == 6) = false := beq_eq_false_iff_ne.mpr c79
          have c79b1 : (a1 != 6) = true := bne_iff_ne.mpr c79
          by_cases c85 : a1 = 7
          ·rw [if_pos c85] at H
           have c85b0 : (a1 == 7) = true := beq_iff_eq.mpr c85
           have c85b1 : (a1 != 7) = false := bne_eq_false_iff_eq.mpr c85
           clear c85
           obtain ⟨y186, hy186⟩ : ∃ y_ : List Int, y_ = (([4, 4, 4, 5] : List Int)) := ⟨_, rfl⟩
           replace H : (some (y186, 0, 0, 0, true)) = some (r1, r2, r3, r4, r5) := by first | (rw [hy186]; with_reducible exact H) | (have H2_ := (Option.bind_some _ _).symm.trans H; rw [hy186]; with_reducible exact H2_) | (have H2_ := (Option.bind_some _ _).symm.trans H; with_reducible exact H2_) | with_reducible exact H | (rw [hy186]; exact H) | exact H
           have Ny186 := Aside0.mk hy186
           clear hy186
           simp only [Option.some.injEq, Prod.mk.injEq] at H
           obtain ⟨rfl, rfl, rfl, rfl, rfl⟩ := H
           go_wp2_with (first | ((with_reducible refine gate_dst (N := 58) rfl ?_); refine Kd.R_lit (Kd.int .i64) _ 3 ?hg (N := 58) ?hd (xs := ([4, 4, 4, 5] : List Int)) (inner := [.int .i64 4, .int .i64 4, .int .i64 4, .int .i64 5]) (ok := fun _ => True) (okp := fun _ => True) ?hr ?hp (fun _ hk => hk) trivial (Below.refl _ _) (Nat.le_refl _) (by simp) ?_; (case hd => rfl); (case hg => rfl); (case hr => first | (go_simp; done) | (go_simp; rfl)); (case hp => exact (Reps.one (show Kd.M (Kd.int .i64) _ _ _ 4 [.int .i64 4] from rfl) (Reps.one (show Kd.M (Kd.int .i64) _ _ _ 4 [.int .i64 4] from rfl) (Reps.one (show Kd.M (Kd.int .i64) _ _ _ 4 [.int .i64 4] from rfl) (Reps.one (show Kd.M (Kd.int .i64) _ _ _ 5 [.int .i64 5] from rfl) (Reps.none _ _)))))); intro v187 w86 ho87 hb hg_ hnew_; clear hg_ hnew_; (first | rw [← Ny186.out] at ho87 | (simp only [Int.reduceToNat] at ho87; rw [← Ny186.out] at ho87)); have n0_ := Aside0.mk (Kd.R_lower ho87 (below_size (BB HB))); have n1_ := BE BK160 hb; have n2_ := BE BK161 hb; have n3_ := Aside0.mk (below_step (BB HB) hb); clear BK160; clear BK161; clear HB; have HO188 := n0_; have BK160 := n1_; have BK161 := n2_; have HB := n3_; clear n0_ n1_ n2_ n3_; clear hb ho87; obtain ⟨Ao88, co88, eo88⟩ := Kd.R_slice HO188.out; subst eo88; have hnb89 := NB160_161.out; have hnc89 := NB161_160.out; have hcz90_0 : w86.cell? ⟨gb160, 0, none⟩ = some (.slice none 0 0) := (blk_cell BK160.out 0).trans rfl; have hcz90_1 : w86.cell? ⟨gb160, 1, none⟩ = some (.int .i64 0) := (blk_cell BK160.out 1).trans rfl; have hcz90_2 : w86.cell? ⟨gb160, 2, none⟩ = some (.int .i64 0) := (blk_cell BK160.out 2).trans rfl; have hcz90_3 : w86.cell? ⟨gb160, 3, none⟩ = some (.int .i64 0) := (blk_cell BK160.out 3).trans rfl; have hfz90_0 := blk_frozen BK160.out 0; have hfz90_1 := blk_frozen BK160.out 1; have hfz90_2 := blk_frozen BK160.out 2; have hfz90_3 := blk_frozen BK160.out 3))
           refine bodyPost_ret (results_ct rfl _ _ gb160 97 #[.slice Ao88 y186.length co88, .int .i64 0, .int .i64 0, .int .i64 0] (0, 0) _ rfl (by refine blk_put (cs := #[.slice Ao88 y186.length co88, .int .i64 0, .int .i64 0, .int .i64 0]) ?_ 3 _ rfl; refine blk_put (cs := #[.slice Ao88 y186.length co88, .int .i64 0, .int .i64 0, .int .i64 0]) ?_ 2 _ rfl; refine blk_put (cs := #[.slice Ao88 y186.length co88, .int .i64 0, .int .i64 0, .int .i64 0]) ?_ 1 _ rfl; refine blk_put (cs := #[.slice none 0 0, .int .i64 0, .int .i64 0, .int .i64 0]) ?_ 0 _ rfl; (with_reducible repeat (first | refine blk_drewN ?_ _ | refine blk_drew ?_ | refine blk_alloc ?_ _)); exact BK160.out) Tryd.underlying97 rfl (by kernel_rfl)) rfl ?_
           exact ⟨_, by first | rfl | (simp [errW_none, errW_some] <;> rfl) | (simp [*, errW_none, errW_some] <;> rfl), by exact Kd.R_mono (Kd.R_far (p := ⟨gb160, 3, none⟩) (Kd.R_far (p := ⟨gb160, 2, none⟩) (Kd.R_far (p := ⟨gb160, 1, none⟩) (Kd.R_far (p := ⟨gb160, 0, none⟩) (Kd.R_types HO188.out BK160.out (by decide)) (fun _ hk => hk.2) (.slice Ao88 y186.length co88)) (fun _ hk => hk.2) (.int .i64 0)) (fun _ hk => hk.2) (.int .i64 0)) (fun _ hk => hk.2) (.int .i64 0)) (fun _ hk => trivial), BB HB⟩
          ·rw [if_neg c85] at H
           have c85b0 : (a1 == 7) = false := beq_eq_false_iff_ne.mpr c85
           have c85b1 : (a1 != 7) = true := bne_iff_ne.mpr c85
           simp only [Option.some.injEq, Prod.mk.injEq] at H
           obtain ⟨rfl, rfl, rfl, rfl, rfl⟩ := H
           have hnb91 := NB161_160.out
           have hnc91 := NB160_161.out
           have hcz92_0 : wc.cell? ⟨gb161, 0, none⟩ = some (.slice none 0 0) := (blk_cell BK161.out 0).trans rfl
           have hcz92_1 : wc.cell? ⟨gb161, 1, none⟩ = some (.int .i64 0) := (blk_cell BK161.out 1).trans rfl
           have hcz92_2 : wc.cell? ⟨gb161, 2, none⟩ = some (.int .i64 0) := (blk_cell BK161.out 2).trans rfl
           have hcz92_3 : wc.cell? ⟨gb161, 3, none⟩ = some (.int .i64 0) := (blk_cell BK161.out 3).trans rfl
           have hfz92_0 := blk_frozen BK161.out 0
           have hfz92_1 := blk_frozen BK161.out 1
           have hfz92_2 := blk_frozen BK161.out 2
           have hfz92_3 := blk_frozen BK161.out 3
           have hcz93_0 : wc.cell? ⟨gb160, 0, none⟩ = some (.slice none 0 0) := (blk_cell BK160.out 0).trans rfl
           have hcz93_1 : wc.cell? ⟨gb160, 1, none⟩ = some (.int .i64 0) := (blk_cell BK160.out 1).trans rfl
           have hcz93_2 : wc.cell? ⟨gb160, 2, none⟩ = some (.int .i64 0) := (blk_cell BK160.out 2).trans rfl
           have hcz93_3 : wc.cell? ⟨gb160, 3, none⟩ = some (.int .i64 0) := (blk_cell BK160.out 3).trans rfl
           have hfz93_0 := blk_frozen BK160.out 0
           have hfz93_1 := blk_frozen BK160.out 1
           have hfz93_2 := blk_frozen BK160.out 2
           have hfz93_3 := blk_frozen BK160.out 3
           go_wp2
           refine bodyPost_ret (results_ct rfl _ _ gb160 97 #[.slice none 0 0, .int .i64 0, .int .i64 0, .int .i64 0] (0, 0) _ rfl (by refine blk_put (cs := #[.slice none 0 0, .int .i64 0, .int .i64 0, .int .i64 0]) ?_ 3 _ rfl; refine blk_put (cs := #[.slice none 0 0, .int .i64 0, .int .i64 0, .int .i64 0]) ?_ 2 _ rfl; refine blk_put (cs := #[.slice none 0 0, .int .i64 0, .int .i64 0, .int .i64 0]) ?_ 1 _ rfl; refine blk_put (cs := #[.slice none 0 0, .int .i64 0, .int .i64 0, .int .i64 0]) ?_ 0 _ rfl; (with_reducible repeat (first | refine blk_drewN ?_ _ | refine blk_drew ?_ | refine blk_alloc ?_ _)); exact BK160.out) Tryd.underlying97 rfl (by kernel_rfl)) rfl ?_
           exact ⟨_, by first | rfl | (simp [errW_none, errW_some] <;> rfl) | (simp [*, errW_none, errW_some] <;> rfl), by first | exact Kd.R_nil _ _ _ _ _ | exact Kd.N_nil _ _ _ _ _ | exact Kd.V_nil _ _ _ _ _ | exact Kd.Q_nil _ _ _ _ _ | exact Kd.S_nil _ _ _ _ _, BB HB⟩

end Go.Proofs.YtoigkneoaemcfaaDoor.GR
