-- Printed by a program of the session (wip/gen/tprint.py, over a turned copy of the kit's print): Lean checks it.
import Derived.Test.YtlfjjapndlkamaaPaGAx0
namespace Go.Proofs.Ytlfjjapndlkamaa.GA
open Go.RowKit Go.Proofs.YtlfjjapndlkamaaW.PrintWords Go.Proofs.YtlfjjapndlkamaaW.PrintLast Go.Proofs.YtlfjjapndlkamaaW.PrintMore
attribute [local go_sem] max2_int min2_int max_two min_two max_three min_three max_four min_four   -- for this text's walks alone
set_option linter.unusedVariables false
set_option linter.unusedSimpArgs false

/-! ### dioramaref09_Place: function 27 -/
def dioramaref09_Place.f (l0_0 : List (S40)) (a0_1 : Int) (a1 : Int) : Option (Bool) := if a1 ≥ 0 then (some (decide (a1 < (l0_0.length : Int)))) else (some false)
set_option maxHeartbeats 8000000 in
set_option maxRecDepth 100000 in
theorem dioramaref09_Place.calls (A0_0 : Option Addr) (c0_0 : Nat) (l0_0 : List (S40)) (a0_1 : Int) (a1 : Int) (r : Bool) (w : World) (hr0_0 : Kd.C k40 w A0_0 l0_0.length l0_0) (hc0_0 : l0_0.length ≤ c0_0) (h : dioramaref09_Place.f l0_0 a0_1 a1 = some r) :
  Calls Try.prog 27 #[.agg #[.slice A0_0 l0_0.length c0_0, .int .i64 a0_1], .int .i64 a1] w fun e w' => e = .returned (.bool r) ∧ Below w.heap.size w w' := by
 have hu24 := Try.underlying24
 have HR0_0 := Aside0.mk hr0_0
 have HC0_0 := Aside0.mk hc0_0
 clear hr0_0 hc0_0
 have HB := Aside0.mk (Below.refl w.heap.size w)
 have H : (if a1 ≥ 0 then (some (decide (a1 < (l0_0.length : Int)))) else (some false)) = some r := h
 clear h
 by_cases c3 : a1 ≥ 0
 ·rw [if_pos c3] at H
  have c3b0 : decide (0 ≤ a1) = true := decide_eq_true c3
  clear c3
  obtain rfl := Option.some.inj H
  go_enter Try.func27, Try.ntmps27
  go_wp2_with (first | ((with_reducible refine gate_dst (N := 2) rfl ?_); refine box_event ?hg (N := 2) ?hd (cs := #[.slice A0_0 l0_0.length c0_0, .int .i64 a0_1]) (t := 24) ?hr ?_; (case hd => rfl); (case hg => rfl); (case hr => first | (go_simp; done) | (go_simp; rfl)); intro gb179 hg w4 hbox hb; have n0_ := Aside0.mk (below_step (BB HB) hb); have n1_ := Aside0.mk (hbox); have n2_ := Aside0.mk ((by rw [hg]; exact (below_size (BB HB)) : w.heap.size ≤ gb179)); have n3_ := Aside0.mk ((by rw [hg]; exact (below_size (BB HB)) : w.heap.size ≤ gb179)); clear HB; have HB := n0_; have BK179 := n1_; have GW179 := n2_; have GE179 := n3_; clear n0_ n1_ n2_ n3_; clear hb hbox hg; have hcz5_0 : w4.cell? ⟨gb179, 0, none⟩ = some (.slice A0_0 l0_0.length c0_0) := (blk_cell BK179.out 0).trans rfl; have hcz5_1 : w4.cell? ⟨gb179, 1, none⟩ = some (.int .i64 a0_1) := (blk_cell BK179.out 1).trans rfl; have hfz5_0 := blk_frozen BK179.out 0; have hfz5_1 := blk_frozen BK179.out 1))
  go_ret
  exact ⟨by first | rfl | (simp [errW_none, errW_some] <;> rfl) | (simp [*, errW_none, errW_some] <;> rfl), BB HB⟩
 ·rw [if_neg c3] at H
  have c3b0 : decide (0 ≤ a1) = false := decide_eq_false c3
  clear c3
  obtain rfl := Option.some.inj H
  go_enter Try.func27, Try.ntmps27
  go_wp2_with (first | ((with_reducible refine gate_dst (N := 2) rfl ?_); refine box_event ?hg (N := 2) ?hd (cs := #[.slice A0_0 l0_0.length c0_0, .int .i64 a0_1]) (t := 24) ?hr ?_; (case hd => rfl); (case hg => rfl); (case hr => first | (go_simp; done) | (go_simp; rfl)); intro gb179 hg w6 hbox hb; have n0_ := Aside0.mk (below_step (BB HB) hb); have n1_ := Aside0.mk (hbox); have n2_ := Aside0.mk ((by rw [hg]; exact (below_size (BB HB)) : w.heap.size ≤ gb179)); have n3_ := Aside0.mk ((by rw [hg]; exact (below_size (BB HB)) : w.heap.size ≤ gb179)); clear HB; have HB := n0_; have BK179 := n1_; have GW179 := n2_; have GE179 := n3_; clear n0_ n1_ n2_ n3_; clear hb hbox hg))
  go_ret
  exact ⟨by first | rfl | (simp [errW_none, errW_some] <;> rfl) | (simp [*, errW_none, errW_some] <;> rfl), BB HB⟩

/-! ### dioramaref09_Refs: function 37 -/
mutual
def dioramaref09_Refs.l0 : Nat → Int → List (S40) → Int → Option (Int)
 | 0, _, _, _ => none
 | k + 1, x3, x181000, x181001 => if x3 < (x181000.length : Int) then (dioramaref09_Refs.l1 k x3 0 x181000 x181001) else (some (-1))
def dioramaref09_Refs.l1 : Nat → Int → Int → List (S40) → Int → Option (Int)
 | 0, _, _, _, _ => none
 | k + 1, x3, x4, x181000, x181001 => if 0 ≤ x3 then (if x3 < (x181000.length : Int) then (if x4 < (((rd_T40 x181000 x3).f3).length : Int) then (if 0 ≤ x4 then ((dioramaref09_Place.f x181000 x181001 (rd ((rd_T40 x181000 x3).f3) x4)).bind fun t184 => (if t184 = true then (dioramaref09_Refs.l1 k x3 (wrap64 (x4 + 1)) x181000 x181001) else (some x3))) else (none)) else (dioramaref09_Refs.l0 k (wrap64 (x3 + 1)) x181000 x181001)) else (none)) else (none)
end
def dioramaref09_Refs.f (k : Nat) (l0_0 : List (S40)) (a0_1 : Int) : Option (Int) := dioramaref09_Refs.l0 k 0 l0_0 a0_1
def dioramaref09_Refs.T7 : Bool × List (List Nat × List Nat) := (true, [([], []), ([], []), ([1], [1]), ([], []), ([2, 3], [2, 3]), ([4], [4]), ([5], [5]), ([], []), ([6, 7], [6, 7]), ([8], [8]), ([0, 9], [0, 9]), ([10], [10])])
def dioramaref09_Refs.B7 : List Nat := [0, 0, 2, 0, 14, 30, 62, 0, 254, 510, 1023, 2047]
theorem dioramaref09_Refs.tab7 : rtab .any (opsOf Try.f37 7) = dioramaref09_Refs.T7 := by kernel_rfl
theorem dioramaref09_Refs.bits7 : waitsOk dioramaref09_Refs.T7.2 dioramaref09_Refs.B7 = true := by kernel_rfl
set_option maxHeartbeats 8000000 in
set_option maxRecDepth 100000 in
theorem dioramaref09_Refs.calls (k : Nat) (A0_0 : Option Addr) (c0_0 : Nat) (l0_0 : List (S40)) (a0_1 : Int) (r : Int) (w : World) (hr0_0 : Kd.C k40 w A0_0 l0_0.length l0_0) (hc0_0 : l0_0.length ≤ c0_0) (h : dioramaref09_Refs.f k l0_0 a0_1 = some r) :
  Calls Try.prog 37 #[.agg #[.slice A0_0 l0_0.length c0_0, .int .i64 a0_1]] w fun e w' => e = .returned (.int .i64 r) ∧ Below w.heap.size w w' := by
 have hu24 := Try.underlying24
 have HR0_0 := Aside0.mk hr0_0
 have HC0_0 := Aside0.mk hc0_0
 clear hr0_0 hc0_0
 have HB := Aside0.mk (Below.refl w.heap.size w)
 have H : (dioramaref09_Refs.l0 k 0 l0_0 a0_1) = some r := h
 clear h
 have H' := Aside0.mk H
 clear H
 go_enter Try.func37, Try.ntmps37
 go_wp2_with (first | ((with_reducible refine gate_dst (N := 1) rfl ?_); refine box_event ?hg (N := 1) ?hd (cs := #[.slice A0_0 l0_0.length c0_0, .int .i64 a0_1]) (t := 24) ?hr ?_; (case hd => rfl); (case hg => rfl); (case hr => first | (go_simp; done) | (go_simp; rfl)); intro gb180 hg w2 hbox hb; have n0_ := Aside0.mk (below_step (BB HB) hb); have n1_ := Aside0.mk (hbox); have n2_ := Aside0.mk ((by rw [hg]; exact (below_size (BB HB)) : w.heap.size ≤ gb180)); have n3_ := Aside0.mk ((by rw [hg]; exact (below_size (BB HB)) : w.heap.size ≤ gb180)); clear HB; have HB := n0_; have BK180 := n1_; have GW180 := n2_; have GE180 := n3_; clear n0_ n1_ n2_ n3_; clear hb hbox hg))
 go_loopg [3] k (fun kq v3 w' => ∃ (x3_1 : Int), v3 = .int .i64 x3_1 ∧ Aside0 (dioramaref09_Refs.l0 kq x3_1 l0_0 a0_1 = some r) ∧ Aside0 (kq ≤ k) ∧ Aside0 (w'.heap[gb180]? = some (.cells #[(.slice A0_0 l0_0.length c0_0), .int .i64 a0_1] 24 (0, 0))) ∧ Aside0 (Below w.heap.size w w'))
 case atStart => exact ⟨(0), (by first | rfl | (simp; done) | (simp [*]; done)), H', ⟨Nat.le_refl _⟩, ⟨BL BK180⟩, ⟨BB HB⟩⟩
 case round =>
  clear H'
  try clear p2
  obtain ⟨x3_1, rfl, HA, HK1, BK180, HB⟩ := hrel
  cases gk with
  | zero => exact absurd HA.out (by simp [dioramaref09_Refs.l0])
  | succ k1 =>
   have H := HA.out
   clear HA
   simp only [dioramaref09_Refs.l0] at H
   by_cases c3 : x3_1 < (l0_0.length : Int)
   ·rw [if_pos c3] at H
    have c3b0 : decide (x3_1 < (l0_0.length : Int)) = true := decide_eq_true c3
    clear c3
    have H' := Aside0.mk H
    clear H
    have hcz4_0 : wr.cell? ⟨gb180, 0, none⟩ = some (.slice A0_0 l0_0.length c0_0) := (blk_cell BK180.out 0).trans rfl
    have hcz4_1 : wr.cell? ⟨gb180, 1, none⟩ = some (.int .i64 a0_1) := (blk_cell BK180.out 1).trans rfl
    have hfz4_0 := blk_frozen BK180.out 0
    have hfz4_1 := blk_frozen BK180.out 1
    go_wp2
    go_loopg [4] k1 (fun kq v4 w' => ∃ (x4_2 : Int), v4 = .int .i64 x4_2 ∧ Aside0 (dioramaref09_Refs.l1 kq x3_1 x4_2 l0_0 a0_1 = some r) ∧ Aside0 (kq ≤ k1) ∧ Aside0 (w'.heap[gb180]? = some (.cells #[(.slice A0_0 l0_0.length c0_0), .int .i64 a0_1] 24 (0, 0))) ∧ Aside0 (Below w.heap.size w w'))
    case atStart => exact ⟨(0), (by first | rfl | (simp; done) | (simp [*]; done)), H', ⟨Nat.le_refl _⟩, ⟨BL BK180⟩, ⟨BB HB⟩⟩
    case round =>
     clear H'
     try clear p2
     try clear c3
     try clear c3b0
     try clear hcz4_0
     try clear hcz4_1
     try clear hfz4_0
     try clear hfz4_1
     try clear p2
     obtain ⟨x4_2, rfl, HA, HK2, BK180, HB⟩ := hrel
     cases gk with
     | zero => exact absurd HA.out (by simp [dioramaref09_Refs.l1])
     | succ k2 =>
      have H := HA.out
      clear HA
      simp only [dioramaref09_Refs.l1] at H
      by_cases c5 : 0 ≤ x3_1
      ·rw [if_pos c5] at H
       have c5b0 : decide (0 ≤ x3_1) = true := decide_eq_true c5
       clear c5
       by_cases c6 : x3_1 < (l0_0.length : Int)
       ·rw [if_pos c6] at H
        have c6b0 : decide (x3_1 < (l0_0.length : Int)) = true := decide_eq_true c6
        clear c6
        by_cases c7 : x4_2 < (((rd_T40 l0_0 x3_1).f3).length : Int)
        ·rw [if_pos c7] at H
         have c7b0 : decide (x4_2 < (((rd_T40 l0_0 x3_1).f3).length : Int)) = true := decide_eq_true c7
         clear c7
         by_cases c8 : 0 ≤ x4_2
         ·rw [if_pos c8] at H
          have c8b0 : decide (0 ≤ x4_2) = true := decide_eq_true c8
          clear c8
          replace H := Option.bind_eq_some_iff.mp H
          obtain ⟨t184, A90, H⟩ := H
          replace H : (if t184 = true then (dioramaref09_Refs.l1 k2 x3_1 (wrap64 (x4_2 + 1)) l0_0 a0_1) else (some x3_1)) = some r := H
          have A9 := Aside0.mk A90
          clear A90
          by_cases c10 : t184 = true
          ·subst c10
           have H1 : (dioramaref09_Refs.l1 k2 x3_1 (wrap64 (x4_2 + 1)) l0_0 a0_1) = some r := by rw [if_pos rfl] at H; exact H
           clear H
           have H := H1
           clear H1
           have H' := Aside0.mk H
           clear H
           have hcz11_0 : wr.cell? ⟨gb180, 0, none⟩ = some (.slice A0_0 l0_0.length c0_0) := (blk_cell BK180.out 0).trans rfl
           have hcz11_1 : wr.cell? ⟨gb180, 1, none⟩ = some (.int .i64 a0_1) := (blk_cell BK180.out 1).trans rfl
           have hfz11_0 := blk_frozen BK180.out 0
           have hfz11_1 := blk_frozen BK180.out 1
           have p181 : 0 ≤ (x3_1 : Int) := of_decide_eq_true (by first | (with_reducible assumption) | assumption)
           have q181 : x3_1 < (l0_0.length : Int) := of_decide_eq_true (by first | (with_reducible assumption) | assumption)
           obtain ⟨ad181, A181_1, c181_1, A181_2, c181_2, A181_3, c181_3, e181, hx181_0, hx181_1, hx181_2, hx181_3, hl181_1, hi181_1, hl181_2, hi181_2, hl181_3, hi181_3⟩ := at_T40 HR0_0.out x3_1 p181 q181
           cases e181
           replace hx181_0 := (HB.out.cell (World.block_lt_of_cell? w _ hx181_0)).trans hx181_0
           replace hx181_1 := (HB.out.cell (World.block_lt_of_cell? w _ hx181_1)).trans hx181_1
           replace hx181_2 := (HB.out.cell (World.block_lt_of_cell? w _ hx181_2)).trans hx181_2
           replace hx181_3 := (HB.out.cell (World.block_lt_of_cell? w _ hx181_3)).trans hx181_3
           have HR181_1 := Aside0.mk hi181_1
           have HC181_1 := Aside0.mk hl181_1
           clear hi181_1 hl181_1
           have HR181_2 := Aside0.mk hi181_2
           have HC181_2 := Aside0.mk hl181_2
           clear hi181_2 hl181_2
           have HR181_3 := Aside0.mk hi181_3
           have HC181_3 := Aside0.mk hl181_3
           clear hi181_3 hl181_3
           replace p181 := eq_true p181
           replace q181 := eq_true q181
           try go_wp2
           have n0_ := Aside0.mk (blk_drew BK180.out)
           have n1_ := Aside0.mk (below_drew1 HB.out)
           clear BK180
           clear HB
           have BK180 := n0_
           have HB := n1_
           clear n0_ n1_
           have p182 : 0 ≤ (x3_1 : Int) := of_decide_eq_true (by first | (with_reducible assumption) | assumption)
           have q182 : x3_1 < (l0_0.length : Int) := of_decide_eq_true (by first | (with_reducible assumption) | assumption)
           obtain ⟨ad182, A182_1, c182_1, A182_2, c182_2, A182_3, c182_3, e182, hx182_0, hx182_1, hx182_2, hx182_3, hl182_1, hi182_1, hl182_2, hi182_2, hl182_3, hi182_3⟩ := at_T40 HR0_0.out x3_1 p182 q182
           have hw182_3 := hx182_3
           have hw182_2 := hx182_2
           have hw182_1 := hx182_1
           have hw182_0 := hx182_0
           obtain rfl : ad181 = ad182 := (by injection e182)
           replace hx182_0 := (HB.out.cell (World.block_lt_of_cell? w _ hx182_0)).trans hx182_0
           replace hx182_1 := (HB.out.cell (World.block_lt_of_cell? w _ hx182_1)).trans hx182_1
           replace hx182_2 := (HB.out.cell (World.block_lt_of_cell? w _ hx182_2)).trans hx182_2
           replace hx182_3 := (HB.out.cell (World.block_lt_of_cell? w _ hx182_3)).trans hx182_3
           have HR182_1 := Aside0.mk hi182_1
           have HC182_1 := Aside0.mk hl182_1
           clear hi182_1 hl182_1
           have HR182_2 := Aside0.mk hi182_2
           have HC182_2 := Aside0.mk hl182_2
           clear hi182_2 hl182_2
           have HR182_3 := Aside0.mk hi182_3
           have HC182_3 := Aside0.mk hl182_3
           clear hi182_3 hl182_3
           replace p182 := eq_true p182
           replace q182 := eq_true q182
           have p183 : 0 ≤ (x4_2 : Int) := of_decide_eq_true (by first | (with_reducible assumption) | assumption)
           have q183 : x4_2 < (((rd_T40 l0_0 x3_1).f3).length : Int) := of_decide_eq_true (by first | (with_reducible assumption) | assumption)
           obtain ⟨ad183, e183, hx183_0⟩ := Kd.at_int HR182_3.out x4_2 p183 q183
           have hw183_0 := hx183_0
           cases e183
           replace hx183_0 := (HB.out.cell (World.block_lt_of_cell? w _ hx183_0)).trans hx183_0
           replace p183 := eq_true p183
           replace q183 := eq_true q183
           refine start_ (n := 12) (S := fun w' => w'.cell? ⟨gb180, 0, none⟩ = some (.slice (some ad181) l0_0.length c0_0) ∧ w'.cell? ⟨gb180, 1, none⟩ = some (.int .i64 a0_1) ∧ w'.cell? (ad181.add ((x3_1).toNat * 4)) = some (.int .i64 ((rd_T40 l0_0 x3_1).f0)) ∧ w'.cell? ⟨(ad181.add ((x3_1).toNat * 4)).block, (ad181.add ((x3_1).toNat * 4)).off + 1, none⟩ = some (.slice A182_1 ((rd_T40 l0_0 x3_1).f1).length c182_1) ∧ w'.cell? ⟨(ad181.add ((x3_1).toNat * 4)).block, (ad181.add ((x3_1).toNat * 4)).off + 2, none⟩ = some (.slice A182_2 ((rd_T40 l0_0 x3_1).f2).length c182_2) ∧ w'.cell? ⟨(ad181.add ((x3_1).toNat * 4)).block, (ad181.add ((x3_1).toNat * 4)).off + 3, none⟩ = some (.slice (some ad183) ((rd_T40 l0_0 x3_1).f3).length c182_3) ∧ w'.cell? (ad183.add (x4_2).toNat) = some (.int .i64 (rd ((rd_T40 l0_0 x3_1).f3) x4_2))) (ds := []) #[false, false, false, false, false, false, false, false, false, false, false, false] (by kernel_rfl) rfl rfl ⟨(blk_cell BK180.out 0).trans rfl, (blk_cell BK180.out 1).trans rfl, ((HB.out.cell (World.block_lt_of_cell? w _ hw182_0)).trans hw182_0), ((HB.out.cell (World.block_lt_of_cell? w _ hw182_1)).trans hw182_1), ((HB.out.cell (World.block_lt_of_cell? w _ hw182_2)).trans hw182_2), ((HB.out.cell (World.block_lt_of_cell? w _ hw182_3)).trans hw182_3), ((HB.out.cell (World.block_lt_of_cell? w _ hw183_0)).trans hw183_0)⟩ (fun hHeld => ?_); refine with_tabW dioramaref09_Refs.tab7 dioramaref09_Refs.bits7 (fun HT_ HW_ => ?_)
           generalize wr.drew = w12 at BK180 HB HR182_1 HR182_2 HR182_3 hx182_0 hx182_1 hx182_2 hx182_3 hx183_0 hHeld ⊢
           refine pure_ (i := 1) (N := some 24) (v := ?_) (a' := ?_) #[false, true, false, false, false, false, false, false, false, false, false, false] rfl rfl (any_of HT_.out (by kernel_rfl)) (fun _ _ _ h => h) (Or.inl ⟨by rfl, ?_⟩) ?_ ?_
           rotate_left
           ·intro w'
            go_simp
            with_reducible rfl
           rotate_left
           ·simp only [Act.put, List.setIfInBounds_toArray, List.set_cons_zero, List.set_cons_succ, i64_w, i32_w]
            rfl
           refine pure_ (i := 3) (N := some 26) (v := ?_) (a' := ?_) #[false, true, false, true, false, false, false, false, false, false, false, false] rfl rfl (any_of HT_.out (by kernel_rfl)) (fun _ _ _ h => h) (Or.inl ⟨by rfl, ?_⟩) ?_ ?_
           rotate_left
           ·intro w'
            go_simp
            with_reducible rfl
           rotate_left
           ·simp only [Act.put, List.setIfInBounds_toArray, List.set_cons_zero, List.set_cons_succ, i64_w, i32_w]
            rfl
           refine pure_ (i := 7) (N := some 30) (v := ?_) (a' := ?_) #[false, true, false, true, false, false, false, true, false, false, false, false] rfl rfl (any_of HT_.out (by kernel_rfl)) (fun _ _ _ h => h) (Or.inl ⟨by rfl, ?_⟩) ?_ ?_
           rotate_left
           ·intro w'
            go_simp
            with_reducible rfl
           rotate_left
           ·simp only [Act.put, List.setIfInBounds_toArray, List.set_cons_zero, List.set_cons_succ, i64_w, i32_w]
            rfl
           refine take_ (i := 0) (N := some 23) (v := ?_) (a' := ?_) #[true, true, false, true, false, false, false, true, false, false, false, false] rfl rfl (take_ofW HT_.out HW_.out (by kernel_rfl)) (fun _ _ _ h => h) (Or.inl ⟨by rfl, ?_⟩) hHeld ?_ ?_
           rotate_left
           ·rintro w' ⟨s0, s1, s2, s3, s4, s5, s6⟩
            go_simp
            with_reducible rfl
           rotate_left
           ·simp only [Act.put, List.setIfInBounds_toArray, List.set_cons_zero, List.set_cons_succ, i64_w, i32_w]
            rfl
           refine take_ (i := 2) (N := some 25) (v := ?_) (a' := ?_) #[true, true, true, true, false, false, false, true, false, false, false, false] rfl rfl (take_ofW HT_.out HW_.out (by kernel_rfl)) (fun _ _ _ h => h) (Or.inl ⟨by rfl, ?_⟩) hHeld ?_ ?_
           rotate_left
           ·rintro w' ⟨s0, s1, s2, s3, s4, s5, s6⟩
            go_simp
            with_reducible rfl
           rotate_left
           ·simp only [Act.put, List.setIfInBounds_toArray, List.set_cons_zero, List.set_cons_succ, i64_w, i32_w]
            rfl
           refine pure_ (i := 4) (N := some 27) (v := ?_) (a' := ?_) #[true, true, true, true, true, false, false, true, false, false, false, false] rfl rfl (any_of HT_.out (by kernel_rfl)) (fun _ _ _ h => h) (Or.inl ⟨by rfl, ?_⟩) ?_ ?_
           rotate_left
           ·intro w'
            go_simp
            with_reducible rfl
           rotate_left
           ·simp only [Act.put, List.setIfInBounds_toArray, List.set_cons_zero, List.set_cons_succ, i64_w, i32_w]
            rfl
           refine pure_ (i := 5) (N := some 28) (v := ?_) (a' := ?_) #[true, true, true, true, true, true, false, true, false, false, false, false] rfl rfl (any_of HT_.out (by kernel_rfl)) (fun _ _ _ h => h) (Or.inl ⟨by rfl, ?_⟩) ?_ ?_
           rotate_left
           ·intro w'
            go_simp
            with_reducible rfl
           rotate_left
           ·simp only [Act.put, List.setIfInBounds_toArray, List.set_cons_zero, List.set_cons_succ, i64_w, i32_w]
            rfl
           refine take_ (i := 6) (N := some 29) (v := ?_) (a' := ?_) #[true, true, true, true, true, true, true, true, false, false, false, false] rfl rfl (take_ofW HT_.out HW_.out (by kernel_rfl)) (fun _ _ _ h => h) (Or.inl ⟨by rfl, ?_⟩) hHeld ?_ ?_
           rotate_left
           ·rintro w' ⟨s0, s1, s2, s3, s4, s5, s6⟩
            go_simp
            with_reducible rfl
           rotate_left
           ·simp only [Act.put, List.setIfInBounds_toArray, List.set_cons_zero, List.set_cons_succ, i64_w, i32_w]
            rfl
           refine pure_ (i := 8) (N := some 31) (v := ?_) (a' := ?_) #[true, true, true, true, true, true, true, true, true, false, false, false] rfl rfl (any_of HT_.out (by kernel_rfl)) (fun _ _ _ h => h) (Or.inl ⟨by rfl, ?_⟩) ?_ ?_
           rotate_left
           ·intro w'
            go_simp
            with_reducible rfl
           rotate_left
           ·simp only [Act.put, List.setIfInBounds_toArray, List.set_cons_zero, List.set_cons_succ, i64_w, i32_w]
            rfl
           refine take_ (i := 9) (N := some 32) (v := ?_) (a' := ?_) #[true, true, true, true, true, true, true, true, true, true, false, false] rfl rfl (take_ofW HT_.out HW_.out (by kernel_rfl)) (fun _ _ _ h => h) (Or.inl ⟨by rfl, ?_⟩) hHeld ?_ ?_
           rotate_left
           ·rintro w' ⟨s0, s1, s2, s3, s4, s5, s6⟩
            go_simp
            with_reducible rfl
           rotate_left
           ·simp only [Act.put, List.setIfInBounds_toArray, List.set_cons_zero, List.set_cons_succ, i64_w, i32_w]
            rfl
           refine one_ (i := 10) (N := some 33) #[true, true, true, true, true, true, true, true, true, true, true, false] rfl rfl (one_of HT_.out (by kernel_rfl)) (by decide) (fun K hK => ?_)
           refine goes_ Try.func27 (by kernel_rfl) rfl #[.agg #[.slice (some ad181) l0_0.length c0_0, .int .i64 a0_1], .int .i64 (rd ((rd_T40 l0_0 x3_1).f3) x4_2)] (by rfl) rfl rfl (by (try simp only [List.map_toArray, List.map_cons, List.map_nil]); first | done | rfl | (simp only [List.length_drop, List.length_take]; rfl)) ?_
           with_reducible refine (dioramaref09_Place.calls _ _ l0_0 a0_1 (rd ((rd_T40 l0_0 x3_1).f3) x4_2) true _ ?side1 ?side2 A9.out).mono ?_
           (case side1 => repeat (first | exact (Kd.C_below HR0_0.out HB.out) | (with_reducible refine Kd.C_alloc ?_ _) | (with_reducible refine Kd.C_drewN ?_ _) | (with_reducible refine Kd.C_drew ?_)))
           (case side2 => exact HC0_0.out)
           rintro e w13 ⟨rfl, hb⟩
           refine ⟨_, rfl, ?_⟩
           have n0_ := BE BK180 hb
           have n1_ := Aside0.mk (below_step (BB HB) hb)
           clear BK180
           clear HB
           have BK180 := n0_
           have HB := n1_
           clear n0_ n1_
           (try clear hb)
           (try clear hb2)
           (try clear hk)
           (try clear hi)
           refine hK.out _ _ ⟨(blk_cell BK180.out 0).trans rfl, (blk_cell BK180.out 1).trans rfl, ((HB.out.cell (World.block_lt_of_cell? w _ hw182_0)).trans hw182_0), ((HB.out.cell (World.block_lt_of_cell? w _ hw182_1)).trans hw182_1), ((HB.out.cell (World.block_lt_of_cell? w _ hw182_2)).trans hw182_2), ((HB.out.cell (World.block_lt_of_cell? w _ hw182_3)).trans hw182_3), ((HB.out.cell (World.block_lt_of_cell? w _ hw183_0)).trans hw183_0)⟩ (fun hHeld => ?_)
           clear hK K
           refine norm_ (a' := ?_) ?_ ?_
           rotate_left
           ·show Act.put _ (some 33) _ = _
            simp only [Act.put, List.setIfInBounds_toArray, List.set_cons_zero, List.set_cons_succ, i64_w, i32_w]
            rfl
           refine pure_ (i := 11) (N := some 34) (v := ?_) (a' := ?_) #[true, true, true, true, true, true, true, true, true, true, true, true] rfl rfl (any_of HT_.out (by kernel_rfl)) (fun _ _ _ h => h) (Or.inl ⟨by rfl, ?_⟩) ?_ ?_
           rotate_left
           ·intro w'
            go_simp
            with_reducible rfl
           rotate_left
           ·simp only [Act.put, List.setIfInBounds_toArray, List.set_cons_zero, List.set_cons_succ, i64_w, i32_w]
            rfl
           refine done_ (done_of HT_.out (by kernel_rfl)) ?_
           try go_wp2
           go_roundg k2
           case measure => have := HK1.out; have := HK2.out; omega
           case rel => exact ⟨(wrap64 (x4_2 + 1)), (by first | rfl | (simp; done) | (simp [*]; done)), H', ⟨by have := HK1.out; have := HK2.out; omega⟩, ⟨BL BK180⟩, ⟨BB HB⟩⟩
          ·replace c10 := Bool.eq_false_iff.mpr c10
           subst c10
           have H1 : (some x3_1) = some r := by rw [if_neg (show ¬ (false = true) by decide)] at H; exact H
           clear H
           have H := H1
           clear H1
           obtain rfl := Option.some.inj H
           have hcz14_0 : wr.cell? ⟨gb180, 0, none⟩ = some (.slice A0_0 l0_0.length c0_0) := (blk_cell BK180.out 0).trans rfl
           have hcz14_1 : wr.cell? ⟨gb180, 1, none⟩ = some (.int .i64 a0_1) := (blk_cell BK180.out 1).trans rfl
           have hfz14_0 := blk_frozen BK180.out 0
           have hfz14_1 := blk_frozen BK180.out 1
           have p181 : 0 ≤ (x3_1 : Int) := of_decide_eq_true (by first | (with_reducible assumption) | assumption)
           have q181 : x3_1 < (l0_0.length : Int) := of_decide_eq_true (by first | (with_reducible assumption) | assumption)
           obtain ⟨ad181, A181_1, c181_1, A181_2, c181_2, A181_3, c181_3, e181, hx181_0, hx181_1, hx181_2, hx181_3, hl181_1, hi181_1, hl181_2, hi181_2, hl181_3, hi181_3⟩ := at_T40 HR0_0.out x3_1 p181 q181
           cases e181
           replace hx181_0 := (HB.out.cell (World.block_lt_of_cell? w _ hx181_0)).trans hx181_0
           replace hx181_1 := (HB.out.cell (World.block_lt_of_cell? w _ hx181_1)).trans hx181_1
           replace hx181_2 := (HB.out.cell (World.block_lt_of_cell? w _ hx181_2)).trans hx181_2
           replace hx181_3 := (HB.out.cell (World.block_lt_of_cell? w _ hx181_3)).trans hx181_3
           have HR181_1 := Aside0.mk hi181_1
           have HC181_1 := Aside0.mk hl181_1
           clear hi181_1 hl181_1
           have HR181_2 := Aside0.mk hi181_2
           have HC181_2 := Aside0.mk hl181_2
           clear hi181_2 hl181_2
           have HR181_3 := Aside0.mk hi181_3
           have HC181_3 := Aside0.mk hl181_3
           clear hi181_3 hl181_3
           replace p181 := eq_true p181
           replace q181 := eq_true q181
           try go_wp2
           have n0_ := Aside0.mk (blk_drew BK180.out)
           have n1_ := Aside0.mk (below_drew1 HB.out)
           clear BK180
           clear HB
           have BK180 := n0_
           have HB := n1_
           clear n0_ n1_
           have p182 : 0 ≤ (x3_1 : Int) := of_decide_eq_true (by first | (with_reducible assumption) | assumption)
           have q182 : x3_1 < (l0_0.length : Int) := of_decide_eq_true (by first | (with_reducible assumption) | assumption)
           obtain ⟨ad182, A182_1, c182_1, A182_2, c182_2, A182_3, c182_3, e182, hx182_0, hx182_1, hx182_2, hx182_3, hl182_1, hi182_1, hl182_2, hi182_2, hl182_3, hi182_3⟩ := at_T40 HR0_0.out x3_1 p182 q182
           have hw182_3 := hx182_3
           have hw182_2 := hx182_2
           have hw182_1 := hx182_1
           have hw182_0 := hx182_0
           obtain rfl : ad181 = ad182 := (by injection e182)
           replace hx182_0 := (HB.out.cell (World.block_lt_of_cell? w _ hx182_0)).trans hx182_0
           replace hx182_1 := (HB.out.cell (World.block_lt_of_cell? w _ hx182_1)).trans hx182_1
           replace hx182_2 := (HB.out.cell (World.block_lt_of_cell? w _ hx182_2)).trans hx182_2
           replace hx182_3 := (HB.out.cell (World.block_lt_of_cell? w _ hx182_3)).trans hx182_3
           have HR182_1 := Aside0.mk hi182_1
           have HC182_1 := Aside0.mk hl182_1
           clear hi182_1 hl182_1
           have HR182_2 := Aside0.mk hi182_2
           have HC182_2 := Aside0.mk hl182_2
           clear hi182_2 hl182_2
           have HR182_3 := Aside0.mk hi182_3
           have HC182_3 := Aside0.mk hl182_3
           clear hi182_3 hl182_3
           replace p182 := eq_true p182
           replace q182 := eq_true q182
           have p183 : 0 ≤ (x4_2 : Int) := of_decide_eq_true (by first | (with_reducible assumption) | assumption)
           have q183 : x4_2 < (((rd_T40 l0_0 x3_1).f3).length : Int) := of_decide_eq_true (by first | (with_reducible assumption) | assumption)
           obtain ⟨ad183, e183, hx183_0⟩ := Kd.at_int HR182_3.out x4_2 p183 q183
           have hw183_0 := hx183_0
           cases e183
           replace hx183_0 := (HB.out.cell (World.block_lt_of_cell? w _ hx183_0)).trans hx183_0
           replace p183 := eq_true p183
           replace q183 := eq_true q183
           refine start_ (n := 12) (S := fun w' => w'.cell? ⟨gb180, 0, none⟩ = some (.slice (some ad181) l0_0.length c0_0) ∧ w'.cell? ⟨gb180, 1, none⟩ = some (.int .i64 a0_1) ∧ w'.cell? (ad181.add ((x3_1).toNat * 4)) = some (.int .i64 ((rd_T40 l0_0 x3_1).f0)) ∧ w'.cell? ⟨(ad181.add ((x3_1).toNat * 4)).block, (ad181.add ((x3_1).toNat * 4)).off + 1, none⟩ = some (.slice A182_1 ((rd_T40 l0_0 x3_1).f1).length c182_1) ∧ w'.cell? ⟨(ad181.add ((x3_1).toNat * 4)).block, (ad181.add ((x3_1).toNat * 4)).off + 2, none⟩ = some (.slice A182_2 ((rd_T40 l0_0 x3_1).f2).length c182_2) ∧ w'.cell? ⟨(ad181.add ((x3_1).toNat * 4)).block, (ad181.add ((x3_1).toNat * 4)).off + 3, none⟩ = some (.slice (some ad183) ((rd_T40 l0_0 x3_1).f3).length c182_3) ∧ w'.cell? (ad183.add (x4_2).toNat) = some (.int .i64 (rd ((rd_T40 l0_0 x3_1).f3) x4_2))) (ds := []) #[false, false, false, false, false, false, false, false, false, false, false, false] (by kernel_rfl) rfl rfl ⟨(blk_cell BK180.out 0).trans rfl, (blk_cell BK180.out 1).trans rfl, ((HB.out.cell (World.block_lt_of_cell? w _ hw182_0)).trans hw182_0), ((HB.out.cell (World.block_lt_of_cell? w _ hw182_1)).trans hw182_1), ((HB.out.cell (World.block_lt_of_cell? w _ hw182_2)).trans hw182_2), ((HB.out.cell (World.block_lt_of_cell? w _ hw182_3)).trans hw182_3), ((HB.out.cell (World.block_lt_of_cell? w _ hw183_0)).trans hw183_0)⟩ (fun hHeld => ?_); refine with_tabW dioramaref09_Refs.tab7 dioramaref09_Refs.bits7 (fun HT_ HW_ => ?_)
           generalize wr.drew = w15 at BK180 HB HR182_1 HR182_2 HR182_3 hx182_0 hx182_1 hx182_2 hx182_3 hx183_0 hHeld ⊢
           refine pure_ (i := 1) (N := some 24) (v := ?_) (a' := ?_) #[false, true, false, false, false, false, false, false, false, false, false, false] rfl rfl (any_of HT_.out (by kernel_rfl)) (fun _ _ _ h => h) (Or.inl ⟨by rfl, ?_⟩) ?_ ?_
           rotate_left
           ·intro w'
            go_simp
            with_reducible rfl
           rotate_left
           ·simp only [Act.put, List.setIfInBounds_toArray, List.set_cons_zero, List.set_cons_succ, i64_w, i32_w]
            rfl
           refine pure_ (i := 3) (N := some 26) (v := ?_) (a' := ?_) #[false, true, false, true, false, false, false, false, false, false, false, false] rfl rfl (any_of HT_.out (by kernel_rfl)) (fun _ _ _ h => h) (Or.inl ⟨by rfl, ?_⟩) ?_ ?_
           rotate_left
           ·intro w'
            go_simp
            with_reducible rfl
           rotate_left
           ·simp only [Act.put, List.setIfInBounds_toArray, List.set_cons_zero, List.set_cons_succ, i64_w, i32_w]
            rfl
           refine pure_ (i := 7) (N := some 30) (v := ?_) (a' := ?_) #[false, true, false, true, false, false, false, true, false, false, false, false] rfl rfl (any_of HT_.out (by kernel_rfl)) (fun _ _ _ h => h) (Or.inl ⟨by rfl, ?_⟩) ?_ ?_
           rotate_left
           ·intro w'
            go_simp
            with_reducible rfl
           rotate_left
           ·simp only [Act.put, List.setIfInBounds_toArray, List.set_cons_zero, List.set_cons_succ, i64_w, i32_w]
            rfl
           refine take_ (i := 0) (N := some 23) (v := ?_) (a' := ?_) #[true, true, false, true, false, false, false, true, false, false, false, false] rfl rfl (take_ofW HT_.out HW_.out (by kernel_rfl)) (fun _ _ _ h => h) (Or.inl ⟨by rfl, ?_⟩) hHeld ?_ ?_
           rotate_left
           ·rintro w' ⟨s0, s1, s2, s3, s4, s5, s6⟩
            go_simp
            with_reducible rfl
           rotate_left
           ·simp only [Act.put, List.setIfInBounds_toArray, List.set_cons_zero, List.set_cons_succ, i64_w, i32_w]
            rfl
           refine take_ (i := 2) (N := some 25) (v := ?_) (a' := ?_) #[true, true, true, true, false, false, false, true, false, false, false, false] rfl rfl (take_ofW HT_.out HW_.out (by kernel_rfl)) (fun _ _ _ h => h) (Or.inl ⟨by rfl, ?_⟩) hHeld ?_ ?_
           rotate_left
           ·rintro w' ⟨s0, s1, s2, s3, s4, s5, s6⟩
            go_simp
            with_reducible rfl
           rotate_left
           ·simp only [Act.put, List.setIfInBounds_toArray, List.set_cons_zero, List.set_cons_succ, i64_w, i32_w]
            rfl
           refine pure_ (i := 4) (N := some 27) (v := ?_) (a' := ?_) #[true, true, true, true, true, false, false, true, false, false, false, false] rfl rfl (any_of HT_.out (by kernel_rfl)) (fun _ _ _ h => h) (Or.inl ⟨by rfl, ?_⟩) ?_ ?_
           rotate_left
           ·intro w'
            go_simp
            with_reducible rfl
           rotate_left
           ·simp only [Act.put, List.setIfInBounds_toArray, List.set_cons_zero, List.set_cons_succ, i64_w, i32_w]
            rfl
           refine pure_ (i := 5) (N := some 28) (v := ?_) (a' := ?_) #[true, true, true, true, true, true, false, true, false, false, false, false] rfl rfl (any_of HT_.out (by kernel_rfl)) (fun _ _ _ h => h) (Or.inl ⟨by rfl, ?_⟩) ?_ ?_
           rotate_left
           ·intro w'
            go_simp
            with_reducible rfl
           rotate_left
           ·simp only [Act.put, List.setIfInBounds_toArray, List.set_cons_zero, List.set_cons_succ, i64_w, i32_w]
            rfl
           refine take_ (i := 6) (N := some 29) (v := ?_) (a' := ?_) #[true, true, true, true, true, true, true, true, false, false, false, false] rfl rfl (take_ofW HT_.out HW_.out (by kernel_rfl)) (fun _ _ _ h => h) (Or.inl ⟨by rfl, ?_⟩) hHeld ?_ ?_
           rotate_left
           ·rintro w' ⟨s0, s1, s2, s3, s4, s5, s6⟩
            go_simp
            with_reducible rfl
           rotate_left
           ·simp only [Act.put, List.setIfInBounds_toArray, List.set_cons_zero, List.set_cons_succ, i64_w, i32_w]
            rfl
           refine pure_ (i := 8) (N := some 31) (v := ?_) (a' := ?_) #[true, true, true, true, true, true, true, true, true, false, false, false] rfl rfl (any_of HT_.out (by kernel_rfl)) (fun _ _ _ h => h) (Or.inl ⟨by rfl, ?_⟩) ?_ ?_
           rotate_left
           ·intro w'
            go_simp
            with_reducible rfl
           rotate_left
           ·simp only [Act.put, List.setIfInBounds_toArray, List.set_cons_zero, List.set_cons_succ, i64_w, i32_w]
            rfl
           refine take_ (i := 9) (N := some 32) (v := ?_) (a' := ?_) #[true, true, true, true, true, true, true, true, true, true, false, false] rfl rfl (take_ofW HT_.out HW_.out (by kernel_rfl)) (fun _ _ _ h => h) (Or.inl ⟨by rfl, ?_⟩) hHeld ?_ ?_
           rotate_left
           ·rintro w' ⟨s0, s1, s2, s3, s4, s5, s6⟩
            go_simp
            with_reducible rfl
           rotate_left
           ·simp only [Act.put, List.setIfInBounds_toArray, List.set_cons_zero, List.set_cons_succ, i64_w, i32_w]
            rfl
           refine one_ (i := 10) (N := some 33) #[true, true, true, true, true, true, true, true, true, true, true, false] rfl rfl (one_of HT_.out (by kernel_rfl)) (by decide) (fun K hK => ?_)
           refine goes_ Try.func27 (by kernel_rfl) rfl #[.agg #[.slice (some ad181) l0_0.length c0_0, .int .i64 a0_1], .int .i64 (rd ((rd_T40 l0_0 x3_1).f3) x4_2)] (by rfl) rfl rfl (by (try simp only [List.map_toArray, List.map_cons, List.map_nil]); first | done | rfl | (simp only [List.length_drop, List.length_take]; rfl)) ?_
           with_reducible refine (dioramaref09_Place.calls _ _ l0_0 a0_1 (rd ((rd_T40 l0_0 x3_1).f3) x4_2) false _ ?side1 ?side2 A9.out).mono ?_
           (case side1 => repeat (first | exact (Kd.C_below HR0_0.out HB.out) | (with_reducible refine Kd.C_alloc ?_ _) | (with_reducible refine Kd.C_drewN ?_ _) | (with_reducible refine Kd.C_drew ?_)))
           (case side2 => exact HC0_0.out)
           rintro e w16 ⟨rfl, hb⟩
           refine ⟨_, rfl, ?_⟩
           have n0_ := BE BK180 hb
           have n1_ := Aside0.mk (below_step (BB HB) hb)
           clear BK180
           clear HB
           have BK180 := n0_
           have HB := n1_
           clear n0_ n1_
           (try clear hb)
           (try clear hb2)
           (try clear hk)
           (try clear hi)
           refine hK.out _ _ ⟨(blk_cell BK180.out 0).trans rfl, (blk_cell BK180.out 1).trans rfl, ((HB.out.cell (World.block_lt_of_cell? w _ hw182_0)).trans hw182_0), ((HB.out.cell (World.block_lt_of_cell? w _ hw182_1)).trans hw182_1), ((HB.out.cell (World.block_lt_of_cell? w _ hw182_2)).trans hw182_2), ((HB.out.cell (World.block_lt_of_cell? w _ hw182_3)).trans hw182_3), ((HB.out.cell (World.block_lt_of_cell? w _ hw183_0)).trans hw183_0)⟩ (fun hHeld => ?_)
           clear hK K
           refine norm_ (a' := ?_) ?_ ?_
           rotate_left
           ·show Act.put _ (some 33) _ = _
            simp only [Act.put, List.setIfInBounds_toArray, List.set_cons_zero, List.set_cons_succ, i64_w, i32_w]
            rfl
           refine pure_ (i := 11) (N := some 34) (v := ?_) (a' := ?_) #[true, true, true, true, true, true, true, true, true, true, true, true] rfl rfl (any_of HT_.out (by kernel_rfl)) (fun _ _ _ h => h) (Or.inl ⟨by rfl, ?_⟩) ?_ ?_
           rotate_left
           ·intro w'
            go_simp
            with_reducible rfl
           rotate_left
           ·simp only [Act.put, List.setIfInBounds_toArray, List.set_cons_zero, List.set_cons_succ, i64_w, i32_w]
            rfl
           refine done_ (done_of HT_.out (by kernel_rfl)) ?_
           try go_wp2
           go_ret
           exact ⟨by first | rfl | (simp [errW_none, errW_some] <;> rfl) | (simp [*, errW_none, errW_some] <;> rfl), BB HB⟩
         ·rw [if_neg c8] at H
          exact absurd H (by simp)
        ·rw [if_neg c7] at H
         have c7b0 : decide (x4_2 < (((rd_T40 l0_0 x3_1).f3).length : Int)) = false := decide_eq_false c7
         clear c7
         have H' := Aside0.mk H
         clear H
         have hcz17_0 : wr.cell? ⟨gb180, 0, none⟩ = some (.slice A0_0 l0_0.length c0_0) := (blk_cell BK180.out 0).trans rfl
         have hcz17_1 : wr.cell? ⟨gb180, 1, none⟩ = some (.int .i64 a0_1) := (blk_cell BK180.out 1).trans rfl
         have hfz17_0 := blk_frozen BK180.out 0
         have hfz17_1 := blk_frozen BK180.out 1
         have p181 : 0 ≤ (x3_1 : Int) := of_decide_eq_true (by first | (with_reducible assumption) | assumption)
         have q181 : x3_1 < (l0_0.length : Int) := of_decide_eq_true (by first | (with_reducible assumption) | assumption)
         obtain ⟨ad181, A181_1, c181_1, A181_2, c181_2, A181_3, c181_3, e181, hx181_0, hx181_1, hx181_2, hx181_3, hl181_1, hi181_1, hl181_2, hi181_2, hl181_3, hi181_3⟩ := at_T40 HR0_0.out x3_1 p181 q181
         cases e181
         replace hx181_0 := (HB.out.cell (World.block_lt_of_cell? w _ hx181_0)).trans hx181_0
         replace hx181_1 := (HB.out.cell (World.block_lt_of_cell? w _ hx181_1)).trans hx181_1
         replace hx181_2 := (HB.out.cell (World.block_lt_of_cell? w _ hx181_2)).trans hx181_2
         replace hx181_3 := (HB.out.cell (World.block_lt_of_cell? w _ hx181_3)).trans hx181_3
         have HR181_1 := Aside0.mk hi181_1
         have HC181_1 := Aside0.mk hl181_1
         clear hi181_1 hl181_1
         have HR181_2 := Aside0.mk hi181_2
         have HC181_2 := Aside0.mk hl181_2
         clear hi181_2 hl181_2
         have HR181_3 := Aside0.mk hi181_3
         have HC181_3 := Aside0.mk hl181_3
         clear hi181_3 hl181_3
         replace p181 := eq_true p181
         replace q181 := eq_true q181
         go_wp2
         go_roundg k2
         case measure => have := HK1.out; have := HK2.out; omega
         case rel => exact ⟨(wrap64 (x3_1 + 1)), (by first | rfl | (simp; done) | (simp [*]; done)), H', ⟨by have := HK1.out; have := HK2.out; omega⟩, ⟨BL BK180⟩, ⟨BB HB⟩⟩
       ·rw [if_neg c6] at H
        exact absurd H (by simp)
      ·rw [if_neg c5] at H
       exact absurd H (by simp)
   ·rw [if_neg c3] at H
    have c3b0 : decide (x3_1 < (l0_0.length : Int)) = false := decide_eq_false c3
    clear c3
    obtain rfl := Option.some.inj H
    have hcz18_0 : wr.cell? ⟨gb180, 0, none⟩ = some (.slice A0_0 l0_0.length c0_0) := (blk_cell BK180.out 0).trans rfl
    have hcz18_1 : wr.cell? ⟨gb180, 1, none⟩ = some (.int .i64 a0_1) := (blk_cell BK180.out 1).trans rfl
    have hfz18_0 := blk_frozen BK180.out 0
    have hfz18_1 := blk_frozen BK180.out 1
    go_wp2
    go_ret
    exact ⟨by first | rfl | (simp [errW_none, errW_some] <;> rfl) | (simp [*, errW_none, errW_some] <;> rfl), BB HB⟩

end Go.Proofs.Ytlfjjapndlkamaa.GA
