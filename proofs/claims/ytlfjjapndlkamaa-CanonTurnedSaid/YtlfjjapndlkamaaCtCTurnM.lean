/- CanonTurned: the walk of the long road. -/
import Derived.Test.YtlfjjapndlkamaaCtCTurnL
namespace Go.Proofs.Ytlfjjapndlkamaa.GH
open Go.RowKit Go.Lib Go.Proofs.YtlfjjapndlkamaaW.PrintWords Go.Proofs.YtlfjjapndlkamaaW.PrintLast Go.Proofs.YtlfjjapndlkamaaW.PrintMore
set_option linter.unusedVariables false
set_option linter.unusedSimpArgs false
section
variable (A0 : Option Addr) (c0 : Nat) (l0 : List (S40)) (rt : Int) (a b : Nat) (w : World)
set_option maxHeartbeats 8000000 in
set_option maxRecDepth 100000 in
theorem cturn_walk (k : Nat) (hr0 : Kd.C k40 w A0 l0.length l0) (hc0 : l0.length ≤ c0) (hgr : dioramaref09_Great.f k l0 rt = some false) (hrg : dioramaref09_Right.f k l0 rt = some true)
    (hpa : dioramaref09_Place.f l0 rt (a : Int) = some true) (hpb : dioramaref09_Place.f l0 rt (b : Int) = some true) (haw : dioramalaw10_awake.f k = some true) (ha : a < l0.length) (hb : b < l0.length) (hn : l0.length ≤ 1000000)
    (hkl : ∀ y ∈ l0, y.f3.length ≤ 1000000) (hcp : dioramaref09_Copy.f k l0 rt = some (l0, rt)) (C1 C2 C3 T : List (S40)) (s1 s2 s3 tr : Int)
    (hC1 : canon_Canon.f k l0 rt = some (C1, s1, 0)) (hC2 : canon_Canon.f k (swS l0 a b) (swI a b rt) = some (C2, s2, 0)) (hT : dioramaref09_Turn.f k l0 rt = some (T, tr)) (hC3 : canon_Canon.f k T tr = some (C3, s3, 0))
    (hs1 : dioramaref09_Same.f k C1 s1 C2 s2 = some true) (hs2 : dioramaref09_Same.f k C1 s1 C3 s3 = some true) :
    Calls Try.prog 6 #[.agg #[.slice A0 l0.length c0, .int .i64 rt], .int .i64 (a : Int), .int .i64 (b : Int)] w fun e w' => e = .returned (.bool true) ∧ Below w.heap.size w w' := by
  have HR := Lib.hid hr0
  have HCP := Lib.hid hcp
  have HC1 := Lib.hid hC1
  have HC2 := Lib.hid hC2
  have HT := Lib.hid hT
  have HC3 := Lib.hid hC3
  have HS1 := Lib.hid hs1
  have HS2 := Lib.hid hs2
  have HKL := Lib.hid hkl
  clear hr0 hcp hC1 hC2 hT hC3 hs1 hs2 hkl
  go_enter Try.func6, Try.ntmps6
  go_wp2_with (fail)
  have hX0 : TBox (w.alloc (.cells #[.slice A0 l0.length c0, .int .i64 rt] 24)) w.heap.size A0 l0.length c0 rt := heap_alloc_new w _
  have hD0 : Below w.heap.size w (w.alloc (.cells #[.slice A0 l0.length c0, .int .i64 rt] 24)) := (Below.refl _ w).alloc (Nat.le_refl _) _
  generalize (w.alloc (.cells #[.slice A0 l0.length c0, .int .i64 rt] 24)) = w1 at hX0 hD0 ⊢
  have X1 := Lib.hid hX0
  have D1 := Lib.hid hD0
  clear hX0 hD0
  refine (dioramalaw10_awake.calls k true _ haw).mono ?_
  rintro e w2 ⟨rfl, hb2⟩
  have X2 := Lib.hid (X1.out.below hb2)
  have D2 := Lib.hid (below_step D1.out hb2)
  obtain ⟨x0, x1⟩ := X2.out.cells
  clear hb2 X1 D1
  go_wp2_with (fail)
  refine (dioramaref09_Great.calls k A0 c0 l0 rt false w2 (Kd.C_below HR.out D2.out) hc0 hgr).mono ?_
  rintro e w3 ⟨rfl, hb3⟩
  have X3 := Lib.hid (X2.out.below hb3)
  have D3 := Lib.hid (below_step D2.out hb3)
  obtain ⟨y0, y1⟩ := X3.out.cells
  clear hb3 X2 D2 x0 x1
  go_wp2_with (fail)
  refine (dioramaref09_Right.calls k A0 c0 l0 rt true w3 (Kd.C_below HR.out D3.out) hc0 hrg).mono ?_
  rintro e w4 ⟨rfl, hb4⟩
  have X4 := Lib.hid (X3.out.below hb4)
  have D4 := Lib.hid (below_step D3.out hb4)
  obtain ⟨x0, x1⟩ := X4.out.cells
  clear hb4 X3 D3 y0 y1
  go_wp2_with (fail)
  refine (dioramaref09_Place.calls A0 c0 l0 rt (a : Int) true w4 (Kd.C_below HR.out D4.out) hc0 hpa).mono ?_
  rintro e w5 ⟨rfl, hb5⟩
  have X5 := Lib.hid (X4.out.below hb5)
  have D5 := Lib.hid (below_step D4.out hb5)
  obtain ⟨y0, y1⟩ := X5.out.cells
  clear hb5 X4 D4 x0 x1
  go_wp2_with (fail)
  refine (dioramaref09_Place.calls A0 c0 l0 rt (b : Int) true w5 (Kd.C_below HR.out D5.out) hc0 hpb).mono ?_
  rintro e w6 ⟨rfl, hb6⟩
  have X6 := Lib.hid (X5.out.below hb6)
  have D6 := Lib.hid (below_step D5.out hb6)
  obtain ⟨x0, x1⟩ := X6.out.cells
  clear hb6 X5 D5 y0 y1
  go_wp2_with (fail)
  refine (dioramaref09_Copy.calls k A0 c0 l0 rt l0 rt w6 (Kd.C_below HR.out D6.out) hc0 HCP.out).mono ?_
  rintro e w7 ⟨v7, rfl, hS7, hb7⟩
  obtain ⟨A7, c7, rfl⟩ := Kd.S_slice hS7
  have X7 := Lib.hid (X6.out.below hb7)
  have D7 := Lib.hid (below_step D6.out hb7)
  have S7 := Lib.hid hS7
  have Z7 := below_size D7.out
  have Z6 := below_size hb7
  have L7 := blk_lt X7.out
  have L6 := blk_lt X6.out
  clear hb7 hS7 X6 D6 x0 x1
  go_upto_region 4 with (fail)
  have hn8 : TBox (w7.alloc (.cells #[.slice A7 l0.length c7, .int .i64 rt] 24)) w7.heap.size A7 l0.length c7 rt := heap_alloc_new w7 _
  have hb8 : Below w7.heap.size w7 (w7.alloc (.cells #[.slice A7 l0.length c7, .int .i64 rt] 24)) := (Below.refl _ w7).alloc (Nat.le_refl _) _
  generalize w7.alloc (.cells #[.slice A7 l0.length c7, .int .i64 rt] 24) = w8 at hn8 hb8 ⊢
  obtain ⟨g1, cap1, hg1, hgb, hglt, _⟩ := Kd.S_form S7.out (by omega)
  cases hg1
  have hS8 : Kd.S k40 40 w8 w6.heap.size (fun k => k < w7.heap.size) (.slice (some ⟨g1, 0, none⟩) l0.length c7) l0 := Kd.S_mono (Kd.S_move (Kd.S_bound S7.out) (fun k hk => hb8.block k hk.2.2.1)) (fun _ hk => hk.2.2.1)
  obtain ⟨_, f, inner, hSI⟩ := SI_of hS8
  have I8 := Lib.hid hSI
  have N8 := Lib.hid hn8
  have D8 := Lib.hid (below_step D7.out hb8)
  have X8 := Lib.hid (X7.out.below hb8)
  have q0 : w8.cell? ⟨w7.heap.size, 0, none⟩ = some (.slice (some ⟨g1, 0, none⟩) l0.length c7) := hn8.cells.1
  obtain ⟨u1, u2, u3, ea, ra1, ra2, ra3, hca⟩ := SI_at hSI (List.getElem?_eq_getElem ha)
  obtain ⟨v1, v2, v3, eb, rb1, rb2, rb3, hcb⟩ := SI_at hSI (List.getElem?_eq_getElem hb)
  obtain ⟨ca0, ea0⟩ : ∃ z : Int, z = l0[a].f0 := ⟨_, rfl⟩
  obtain ⟨cb0, eb0⟩ : ∃ z : Int, z = l0[b].f0 := ⟨_, rfl⟩
  rw [← ea0] at ea hca
  rw [← eb0] at eb hcb
  obtain ⟨U1, e1, hu1⟩ := Kd.R_slice ra1
  obtain ⟨m1, hm1⟩ : ∃ m, m = l0[a].f1.length := ⟨_, rfl⟩
  rw [← hm1] at hu1
  subst hu1
  clear hm1 ra1
  obtain ⟨U2, e2, hu2⟩ := Kd.R_slice ra2
  obtain ⟨m2, hm2⟩ : ∃ m, m = l0[a].f2.length := ⟨_, rfl⟩
  rw [← hm2] at hu2
  subst hu2
  clear hm2 ra2
  obtain ⟨U3, e3, hu3⟩ := Kd.R_slice ra3
  obtain ⟨m3, hm3⟩ : ∃ m, m = l0[a].f3.length := ⟨_, rfl⟩
  rw [← hm3] at hu3
  subst hu3
  clear hm3 ra3
  obtain ⟨U4, e4, hu4⟩ := Kd.R_slice rb1
  obtain ⟨m4, hm4⟩ : ∃ m, m = l0[b].f1.length := ⟨_, rfl⟩
  rw [← hm4] at hu4
  subst hu4
  clear hm4 rb1
  obtain ⟨U5, e5, hu5⟩ := Kd.R_slice rb2
  obtain ⟨m5, hm5⟩ : ∃ m, m = l0[b].f2.length := ⟨_, rfl⟩
  rw [← hm5] at hu5
  subst hu5
  clear hm5 rb2
  obtain ⟨U6, e6, hu6⟩ := Kd.R_slice rb3
  obtain ⟨m6, hm6⟩ : ∃ m, m = l0[b].f3.length := ⟨_, rfl⟩
  rw [← hm6] at hu6
  subst hu6
  clear hm6 rb3
  have p0 : w8.cell? ⟨g1, a * 4, none⟩ = some (.int .i64 ca0) := hca 0 (by decide)
  have p1 : w8.cell? ⟨g1, a * 4 + 1, none⟩ = some (.slice U1 m1 e1) := hca 1 (by decide)
  have p2 : w8.cell? ⟨g1, a * 4 + 2, none⟩ = some (.slice U2 m2 e2) := hca 2 (by decide)
  have p3 : w8.cell? ⟨g1, a * 4 + 3, none⟩ = some (.slice U3 m3 e3) := hca 3 (by decide)
  have r0 : w8.cell? ⟨g1, b * 4, none⟩ = some (.int .i64 cb0) := hcb 0 (by decide)
  have r1 : w8.cell? ⟨g1, b * 4 + 1, none⟩ = some (.slice U4 m4 e4) := hcb 1 (by decide)
  have r2 : w8.cell? ⟨g1, b * 4 + 2, none⟩ = some (.slice U5 m5 e5) := hcb 2 (by decide)
  have r3 : w8.cell? ⟨g1, b * 4 + 3, none⟩ = some (.slice U6 m6 e6) := hcb 3 (by decide)
  have EA := Lib.hid ea
  have EB := Lib.hid eb
  clear hca hcb ea eb hS8 hSI hn8 hb8 X7 D7 S7 ea0 eb0
  have i1 : (0 : Int) ≤ (a : Int) := by omega
  have i2 : (a : Int) < (l0.length : Int) := by omega
  have i3 : (0 : Int) ≤ (b : Int) := by omega
  have i4 : (b : Int) < (l0.length : Int) := by omega
  -- region 4
  refine start_ (n := 20) (S := fun w' => w'.cell? ⟨w7.heap.size, 0, none⟩ = some (.slice (some ⟨g1, 0, none⟩) l0.length c7) ∧ w'.cell? ⟨g1, a * 4, none⟩ = some (.int .i64 ca0) ∧ w'.cell? ⟨g1, a * 4 + 1, none⟩ = some (.slice U1 m1 e1) ∧ w'.cell? ⟨g1, a * 4 + 2, none⟩ = some (.slice U2 m2 e2) ∧ w'.cell? ⟨g1, a * 4 + 3, none⟩ = some (.slice U3 m3 e3) ∧ w'.cell? ⟨g1, b * 4, none⟩ = some (.int .i64 cb0) ∧ w'.cell? ⟨g1, b * 4 + 1, none⟩ = some (.slice U4 m4 e4) ∧ w'.cell? ⟨g1, b * 4 + 2, none⟩ = some (.slice U5 m5 e5) ∧ w'.cell? ⟨g1, b * 4 + 3, none⟩ = some (.slice U6 m6 e6)) (ds := [17, 19]) #[false, false, false, false, false, false, false, false, false, false, false, false, false, false, false, false, false, false, false, false] (by kernel_rfl) rfl rfl ⟨q0, p0, p1, p2, p3, r0, r1, r2, r3⟩ (fun hHeld => ?_)
  have I9 := Lib.hid (SI_step I8.out (w1 := w8.drew) (fun k _ _ => rfl))
  have D9 := Lib.hid (below_step D8.out (below_drew1 (Below.refl _ w8)))
  have N9 := Lib.hid (N8.out.below (below_drew1 (Below.refl _ w8)))
  have X9 := Lib.hid (X8.out.below (below_drew1 (Below.refl _ w8)))
  have Z9 : w7.heap.size < w8.drew.heap.size := blk_lt N9.out
  generalize w8.drew = w9 at I9 D9 N9 X9 Z9 hHeld ⊢
  clear I8 D8 N8 X8 q0 p0 p1 p2 p3 r0 r1 r2 r3
  refine pure_ (i := 0) (N := some 44) (v := ?_) (a' := ?_) #[true, false, false, false, false, false, false, false, false, false, false, false, false, false, false, false, false, false, false, false] rfl rfl (by kernel_rfl) (fun _ _ _ h => h) (Or.inl ⟨by rfl, ?_⟩) ?_ ?_
  rotate_left
  · intro w'
    go_simp
    with_reducible rfl
  rotate_left
  · simp only [Act.put, List.setIfInBounds_toArray, List.set_cons_zero, List.set_cons_succ, i64_w, i32_w]
    rfl
  refine pure_ (i := 2) (N := some 46) (v := ?_) (a' := ?_) #[true, false, true, false, false, false, false, false, false, false, false, false, false, false, false, false, false, false, false, false] rfl rfl (by kernel_rfl) (fun _ _ _ h => h) (Or.inl ⟨by rfl, ?_⟩) ?_ ?_
  rotate_left
  · intro w'
    go_simp
    with_reducible rfl
  rotate_left
  · simp only [Act.put, List.setIfInBounds_toArray, List.set_cons_zero, List.set_cons_succ, i64_w, i32_w]
    rfl
  refine pure_ (i := 3) (N := some 47) (v := ?_) (a' := ?_) #[true, false, true, true, false, false, false, false, false, false, false, false, false, false, false, false, false, false, false, false] rfl rfl (by kernel_rfl) (fun _ _ _ h => h) (Or.inl ⟨by rfl, ?_⟩) ?_ ?_
  rotate_left
  · intro w'
    go_simp
    with_reducible rfl
  rotate_left
  · simp only [Act.put, List.setIfInBounds_toArray, List.set_cons_zero, List.set_cons_succ, i64_w, i32_w]
    rfl
  refine pure_ (i := 5) (N := some 49) (v := ?_) (a' := ?_) #[true, false, true, true, false, true, false, false, false, false, false, false, false, false, false, false, false, false, false, false] rfl rfl (by kernel_rfl) (fun _ _ _ h => h) (Or.inl ⟨by rfl, ?_⟩) ?_ ?_
  rotate_left
  · intro w'
    go_simp
    with_reducible rfl
  rotate_left
  · simp only [Act.put, List.setIfInBounds_toArray, List.set_cons_zero, List.set_cons_succ, i64_w, i32_w]
    rfl
  refine pure_ (i := 6) (N := some 50) (v := ?_) (a' := ?_) #[true, false, true, true, false, true, true, false, false, false, false, false, false, false, false, false, false, false, false, false] rfl rfl (by kernel_rfl) (fun _ _ _ h => h) (Or.inl ⟨by rfl, ?_⟩) ?_ ?_
  rotate_left
  · intro w'
    go_simp
    with_reducible rfl
  rotate_left
  · simp only [Act.put, List.setIfInBounds_toArray, List.set_cons_zero, List.set_cons_succ, i64_w, i32_w]
    rfl
  refine pure_ (i := 8) (N := some 52) (v := ?_) (a' := ?_) #[true, false, true, true, false, true, true, false, true, false, false, false, false, false, false, false, false, false, false, false] rfl rfl (by kernel_rfl) (fun _ _ _ h => h) (Or.inl ⟨by rfl, ?_⟩) ?_ ?_
  rotate_left
  · intro w'
    go_simp
    with_reducible rfl
  rotate_left
  · simp only [Act.put, List.setIfInBounds_toArray, List.set_cons_zero, List.set_cons_succ, i64_w, i32_w]
    rfl
  refine pure_ (i := 11) (N := some 55) (v := ?_) (a' := ?_) #[true, false, true, true, false, true, true, false, true, false, false, true, false, false, false, false, false, false, false, false] rfl rfl (by kernel_rfl) (fun _ _ _ h => h) (Or.inl ⟨by rfl, ?_⟩) ?_ ?_
  rotate_left
  · intro w'
    go_simp
    with_reducible rfl
  rotate_left
  · simp only [Act.put, List.setIfInBounds_toArray, List.set_cons_zero, List.set_cons_succ, i64_w, i32_w]
    rfl
  refine pure_ (i := 13) (N := some 57) (v := ?_) (a' := ?_) #[true, false, true, true, false, true, true, false, true, false, false, true, false, true, false, false, false, false, false, false] rfl rfl (by kernel_rfl) (fun _ _ _ h => h) (Or.inl ⟨by rfl, ?_⟩) ?_ ?_
  rotate_left
  · intro w'
    go_simp
    with_reducible rfl
  rotate_left
  · simp only [Act.put, List.setIfInBounds_toArray, List.set_cons_zero, List.set_cons_succ, i64_w, i32_w]
    rfl
  refine take_ (i := 1) (N := some 45) (v := ?_) (a' := ?_) #[true, true, true, true, false, true, true, false, true, false, false, true, false, true, false, false, false, false, false, false] rfl rfl (by kernel_rfl) (fun _ _ _ h => h) (Or.inl ⟨by rfl, ?_⟩) hHeld ?_ ?_
  rotate_left
  · rintro w' ⟨s0, s1, s2, s3, s4, s5, s6, s7, s8⟩
    go_simp
    with_reducible rfl
  rotate_left
  · simp only [Act.put, List.setIfInBounds_toArray, List.set_cons_zero, List.set_cons_succ, i64_w, i32_w]
    rfl
  refine take_ (i := 7) (N := some 51) (v := ?_) (a' := ?_) #[true, true, true, true, false, true, true, true, true, false, false, true, false, true, false, false, false, false, false, false] rfl rfl (by kernel_rfl) (fun _ _ _ h => h) (Or.inl ⟨by rfl, ?_⟩) hHeld ?_ ?_
  rotate_left
  · rintro w' ⟨s0, s1, s2, s3, s4, s5, s6, s7, s8⟩
    go_simp
    with_reducible rfl
  rotate_left
  · simp only [Act.put, List.setIfInBounds_toArray, List.set_cons_zero, List.set_cons_succ, i64_w, i32_w]
    rfl
  refine take_ (i := 12) (N := some 56) (v := ?_) (a' := ?_) #[true, true, true, true, false, true, true, true, true, false, false, true, true, true, false, false, false, false, false, false] rfl rfl (by kernel_rfl) (fun _ _ _ h => h) (Or.inl ⟨by rfl, ?_⟩) hHeld ?_ ?_
  rotate_left
  · rintro w' ⟨s0, s1, s2, s3, s4, s5, s6, s7, s8⟩
    go_simp
    with_reducible rfl
  rotate_left
  · simp only [Act.put, List.setIfInBounds_toArray, List.set_cons_zero, List.set_cons_succ, i64_w, i32_w]
    rfl
  refine pure_ (i := 9) (N := some 53) (v := ?_) (a' := ?_) #[true, true, true, true, false, true, true, true, true, true, false, true, true, true, false, false, false, false, false, false] rfl rfl (by kernel_rfl) (fun _ _ _ h => h) (Or.inl ⟨by rfl, ?_⟩) ?_ ?_
  rotate_left
  · intro w'
    go_simp
    with_reducible rfl
  rotate_left
  · simp only [Act.put, List.setIfInBounds_toArray, List.set_cons_zero, List.set_cons_succ, i64_w, i32_w]
    rfl
  refine pure_ (i := 14) (N := some 58) (v := ?_) (a' := ?_) #[true, true, true, true, false, true, true, true, true, true, false, true, true, true, true, false, false, false, false, false] rfl rfl (by kernel_rfl) (fun _ _ _ h => h) (Or.inl ⟨by rfl, ?_⟩) ?_ ?_
  rotate_left
  · intro w'
    go_simp
    with_reducible rfl
  rotate_left
  · simp only [Act.put, List.setIfInBounds_toArray, List.set_cons_zero, List.set_cons_succ, i64_w, i32_w]
    rfl
  refine take_ (i := 10) (N := some 54) (v := ?_) (a' := ?_) #[true, true, true, true, false, true, true, true, true, true, true, true, true, true, true, false, false, false, false, false] rfl rfl (by kernel_rfl) (fun _ _ _ h => h) (Or.inl ⟨by rfl, ?_⟩) hHeld ?_ ?_
  rotate_left
  · rintro w' ⟨s0, s1, s2, s3, s4, s5, s6, s7, s8⟩
    go_simp
    with_reducible rfl
  rotate_left
  · simp only [Act.put, List.setIfInBounds_toArray, List.set_cons_zero, List.set_cons_succ, i64_w, i32_w]
    rfl
  refine take_ (i := 15) (N := some 59) (v := ?_) (a' := ?_) #[true, true, true, true, false, true, true, true, true, true, true, true, true, true, true, true, false, false, false, false] rfl rfl (by kernel_rfl) (fun _ _ _ h => h) (Or.inl ⟨by rfl, ?_⟩) hHeld ?_ ?_
  rotate_left
  · rintro w' ⟨s0, s1, s2, s3, s4, s5, s6, s7, s8⟩
    go_simp
    with_reducible rfl
  rotate_left
  · simp only [Act.put, List.setIfInBounds_toArray, List.set_cons_zero, List.set_cons_succ, i64_w, i32_w]
    rfl
  refine pure_ (i := 16) (N := some 60) (v := ?_) (a' := ?_) #[true, true, true, true, false, true, true, true, true, true, true, true, true, true, true, true, true, false, false, false] rfl rfl (by kernel_rfl) (fun _ _ _ h => h) (Or.inl ⟨by rfl, ?_⟩) ?_ ?_
  rotate_left
  · intro w'
    go_simp
    with_reducible rfl
  rotate_left
  · simp only [Act.put, List.setIfInBounds_toArray, List.set_cons_zero, List.set_cons_succ, i64_w, i32_w]
    rfl
  obtain ⟨t0, t1, t2, t3, t4, t5, t6, t7, t8⟩ := id hHeld
  have HM9 := Lib.hid (SI_raw I9.out)
  obtain ⟨cs9, cl9, _, cc9, cf9⟩ := Kd.R_elem HM9.out [] (a : Int) i1 i2
  have z0 : w9.frozen? ⟨g1, a * 4, none⟩ = false := cf9 0
  have z1 : w9.frozen? ⟨g1, a * 4 + 1, none⟩ = false := cf9 1
  have z2 : w9.frozen? ⟨g1, a * 4 + 2, none⟩ = false := cf9 2
  have z3 : w9.frozen? ⟨g1, a * 4 + 3, none⟩ = false := cf9 3
  clear cl9 cc9 cf9
  have hne7 : w7.heap.size ≠ g1 := by omega
  have far7 : ∀ x0 x1 x2 x3 : Value, ((((w9.setCell ⟨g1, a * 4, none⟩ x0).setCell ⟨g1, a * 4 + 1, none⟩ x1).setCell ⟨g1, a * 4 + 2, none⟩ x2).setCell ⟨g1, a * 4 + 3, none⟩ x3).cell? ⟨w7.heap.size, 0, none⟩ = some (.slice (some ⟨g1, 0, none⟩) l0.length c7) := fun x0 x1 x2 x3 => (cell_far (p := ⟨g1, _, none⟩) hne7 x3).trans ((cell_far (p := ⟨g1, _, none⟩) hne7 x2).trans ((cell_far (p := ⟨g1, _, none⟩) hne7 x1).trans ((cell_far (p := ⟨g1, _, none⟩) hne7 x0).trans t0)))
  -- the world behind the first store
  have hst1 : ∃ W1 : World, W1 = World.setCells w9 g1 (a * 4) [.int .i64 cb0, (.slice U4 m4 e4), (.slice U5 m5 e5), (.slice U6 m6 e6)] := ⟨_, rfl⟩
  obtain ⟨W1, hW1⟩ := hst1
  have HW1 := Lib.hid hW1
  clear hW1
  refine join_ (σ := Unit) 2 #[true, true, true, true, true, true, true, true, true, true, true, true, true, true, true, true, true, true, false, false] (fun _ => [(48, .slice (some ⟨g1, 0, none⟩) l0.length c7)]) (fun _ w' => w' = W1) ?_ ?_
  rotate_left
  · intro hCont
    refine two_last_ (i := 4) (j := 17) (Ni := some 48) (Nj := none) #[true, true, true, true, true, true, true, true, true, true, true, true, true, true, true, true, true, false, false, false] #[true, true, true, true, false, true, true, true, true, true, true, true, true, true, true, true, true, true, false, false] rfl rfl rfl rfl (by kernel_rfl) (by decide) (by decide) (fun K hK => ?_) (fun K hK => ?_)
    · skip
      refine value_ (w1 := ?_) (v := ?_) (by rfl) rfl ?_ ?_
      rotate_left 2
      · go_simp
        constructor
        · rfl
        · rfl
      refine hK.out _ _ hHeld (fun hHeld => ?_)
      clear hK K
      refine norm_ (a' := ?_) ?_ ?_
      rotate_left
      · show Act.put _ (some 48) _ = _
        simp only [Act.put, List.setIfInBounds_toArray, List.set_cons_zero, List.set_cons_succ, i64_w, i32_w]; rfl
      refine last_ (i := 17) (N := none) #[true, true, true, true, true, true, true, true, true, true, true, true, true, true, true, true, true, true, false, false] rfl rfl (by kernel_rfl) (by decide) (fun K hK => ?_)
      refine skip_ (w1 := ?_) (by rfl) rfl ?_ ?_
      rotate_left
      · go_simp
        rfl
      refine hK.out _ _ ?_
      clear hK K
      exact norm_ (by first | (simp only [putAll, Act.put, List.setIfInBounds_toArray, List.set_cons_zero, List.set_cons_succ]; done) | (simp only [putAll, Act.put, List.setIfInBounds_toArray, List.set_cons_zero, List.set_cons_succ]; rfl)) (hCont () _ HW1.out.symm)
    · skip
      refine skip_ (w1 := ?_) (by rfl) rfl ?_ ?_
      rotate_left
      · go_simp
        rfl
      refine hK.out _ _ ?_
      clear hK K
      refine still_ (i := 4) (N := some 48) #[true, true, true, true, true, true, true, true, true, true, true, true, true, true, true, true, true, true, false, false] rfl rfl (by kernel_rfl) (fun K hK => ?_)
      refine value_ (w1 := ?_) (v := ?_) (by rfl) rfl ?_ ?_
      rotate_left 2
      · go_simp
        constructor
        · rfl
        · rfl
      refine hK.out _ _ (fun h => h) ?_
      clear hK K
      refine norm_ (a' := ?_) ?_ ?_
      rotate_left
      · show Act.put _ (some 48) _ = _
        simp only [Act.put, List.setIfInBounds_toArray, List.set_cons_zero, List.set_cons_succ, i64_w, i32_w]; rfl
      exact norm_ (by first | (simp only [putAll, Act.put, List.setIfInBounds_toArray, List.set_cons_zero, List.set_cons_succ]; done) | (simp only [putAll, Act.put, List.setIfInBounds_toArray, List.set_cons_zero, List.set_cons_succ]; rfl)) (hCont () _ HW1.out.symm)
  rintro ⟨⟩ W1 rfl
  refine norm_ (a' := ?_) ?_ ?_
  rotate_left
  · simp only [putAll, Act.put, List.setIfInBounds_toArray, List.set_cons_zero, List.set_cons_succ]
    rfl
  have hone : ∀ u ∈ ([.int .i64 cb0, .slice U4 m4 e4, .slice U5 m5 e5, .slice U6 m6 e6] : List Value), u.oneCell' = true := fun u hu => by
    simp only [List.mem_cons, List.not_mem_nil, or_false] at hu
    rcases hu with rfl | rfl | rfl | rfl <;> rfl
  obtain ⟨hR10, hg10⟩ := Kd.R_seg HM9.out (a : Int) i1 i2 (c := [.int .i64 ca0, .slice U1 m1 e1, .slice U2 m2 e2, .slice U3 m3 e3]) (seg := [.int .i64 cb0, .slice U4 m4 e4, .slice U5 m5 e5, .slice U6 m6 e6]) (j := 0) (x' := [.int .i64 cb0, .slice U4 m4 e4, .slice U5 m5 e5, .slice U6 m6 e6]) (okp := fun _ => False) rfl (fun j u h => by
    match j, h with
    | 0, h => cases h; exact t1
    | 1, h => cases h; exact t2
    | 2, h => cases h; exact t3
    | 3, h => cases h; exact t4
    | j + 4, h => simp at h) (Nat.le_refl 4) ⟨rfl, rfl, hone⟩ (fun _ h => h.elim)
  rw [show World.setCells w9 g1 ((a : Int).toNat * (Kd.raw 4).sz + 0) [.int .i64 cb0, .slice U4 m4 e4, .slice U5 m5 e5, .slice U6 m6 e6] = _ from HW1.out.symm] at hR10 hg10
  have HR10 := Lib.hid hR10
  have HG10 := Lib.hid hg10
  obtain ⟨cs, hl4, _, hcc, hcf⟩ := Kd.R_elem hR10 [] (b : Int) i3 i4
  have hl5 : cs.length = 4 := hl4
  match cs, hl5, hl4, hcc with
  | [ka, kb, kc, kd], _, hl4, hcc =>
  have o0 : W1.cell? ⟨g1, b * 4, none⟩ = some ka := hcc 0 ka rfl
  have o1 : W1.cell? ⟨g1, b * 4 + 1, none⟩ = some kb := hcc 1 kb rfl
  have o2 : W1.cell? ⟨g1, b * 4 + 2, none⟩ = some kc := hcc 2 kc rfl
  have o3 : W1.cell? ⟨g1, b * 4 + 3, none⟩ = some kd := hcc 3 kd rfl
  have z4 : W1.frozen? ⟨g1, b * 4, none⟩ = false := hcf 0
  have z5 : W1.frozen? ⟨g1, b * 4 + 1, none⟩ = false := hcf 1
  have z6 : W1.frozen? ⟨g1, b * 4 + 2, none⟩ = false := hcf 2
  have z7 : W1.frozen? ⟨g1, b * 4 + 3, none⟩ = false := hcf 3
  have HCC := Lib.hid hcc
  clear hR10 hg10 hcc hcf t0 t1 t2 t3 t4 t5 t6 t7 t8 z0 z1 z2 z3 hone far7
  refine pure_ (i := 18) (N := some 61) (v := ?_) (a' := ?_) #[true, true, true, true, true, true, true, true, true, true, true, true, true, true, true, true, true, true, true, false] rfl rfl (by kernel_rfl) (fun _ _ _ h => h) (Or.inl ⟨by rfl, ?_⟩) ?_ ?_
  rotate_left
  · intro w'
    go_simp
    with_reducible rfl
  rotate_left
  · simp only [Act.put, List.setIfInBounds_toArray, List.set_cons_zero, List.set_cons_succ, i64_w, i32_w]
    rfl
  refine last_ (i := 19) (N := none) #[true, true, true, true, true, true, true, true, true, true, true, true, true, true, true, true, true, true, true, true] rfl rfl (by kernel_rfl) (by decide) (fun K hK => ?_)
  refine skip_ (w1 := ?_) (by rfl) rfl ?_ ?_
  rotate_left
  · go_simp
    rfl
  refine hK.out _ _ ?_
  clear hK K
  have hone : ∀ u ∈ ([.int .i64 ca0, .slice U1 m1 e1, .slice U2 m2 e2, .slice U3 m3 e3] : List Value), u.oneCell' = true := fun u hu => by
    simp only [List.mem_cons, List.not_mem_nil, or_false] at hu
    rcases hu with rfl | rfl | rfl | rfl <;> rfl
  obtain ⟨hR11, hg11⟩ := Kd.R_seg HR10.out (b : Int) i3 i4 (c := [ka, kb, kc, kd]) (seg := [.int .i64 ca0, .slice U1 m1 e1, .slice U2 m2 e2, .slice U3 m3 e3]) (j := 0) (x' := [.int .i64 ca0, .slice U1 m1 e1, .slice U2 m2 e2, .slice U3 m3 e3]) (okp := fun _ => False) hl4 HCC.out (Nat.le_refl 4) ⟨rfl, rfl, hone⟩ (fun _ h => h.elim)
  have hgk : ∀ k, k ≠ g1 → k < w9.heap.size → (World.setCells W1 g1 ((b : Int).toNat * (Kd.raw 4).sz + 0) [.int .i64 ca0, .slice U1 m1 e1, .slice U2 m2 e2, .slice U3 m3 e3]).heap[k]? = w9.heap[k]? := fun k hk hl => (hg11.block k (Nat.lt_of_lt_of_le hl HG10.out.size) (fun e => hk (by injection e))).trans (HG10.out.block k hl (fun e => hk (by injection e)))
  have hsw := SI_swap I9.out ha hb (fun k _ hk hl => hgk k hk hl) (by rw [EA.out, EB.out]; exact hR11)
  refine done_ (by kernel_rfl) ?_
  -- end of region 4
  obtain ⟨inner2, hSI2⟩ := hsw
  have I10 : Hid (SI (fun k => sw a b (f k)) ((((W1.setCell ⟨g1, b * 4, none⟩ (.int .i64 ca0)).setCell ⟨g1, b * 4 + 1, none⟩ (.slice U1 m1 e1)).setCell ⟨g1, b * 4 + 2, none⟩ (.slice U2 m2 e2)).setCell ⟨g1, b * 4 + 3, none⟩ (.slice U3 m3 e3)) w6.heap.size (fun k => k < w7.heap.size) g1 c7 (swL l0 a b) inner2) := Lib.hid hSI2
  have N10 : Hid (TBox ((((W1.setCell ⟨g1, b * 4, none⟩ (.int .i64 ca0)).setCell ⟨g1, b * 4 + 1, none⟩ (.slice U1 m1 e1)).setCell ⟨g1, b * 4 + 2, none⟩ (.slice U2 m2 e2)).setCell ⟨g1, b * 4 + 3, none⟩ (.slice U3 m3 e3)) w7.heap.size (some ⟨g1, 0, none⟩) l0.length c7 rt) := Lib.hid ((hgk w7.heap.size (by omega) (by omega)).trans N9.out)
  have X10 : Hid (TBox ((((W1.setCell ⟨g1, b * 4, none⟩ (.int .i64 ca0)).setCell ⟨g1, b * 4 + 1, none⟩ (.slice U1 m1 e1)).setCell ⟨g1, b * 4 + 2, none⟩ (.slice U2 m2 e2)).setCell ⟨g1, b * 4 + 3, none⟩ (.slice U3 m3 e3)) w.heap.size A0 l0.length c0 rt) := Lib.hid ((hgk w.heap.size (by omega) (blk_lt X9.out)).trans X9.out)
  have Z10 : w9.heap.size ≤ (((((W1.setCell ⟨g1, b * 4, none⟩ (.int .i64 ca0)).setCell ⟨g1, b * 4 + 1, none⟩ (.slice U1 m1 e1)).setCell ⟨g1, b * 4 + 2, none⟩ (.slice U2 m2 e2)).setCell ⟨g1, b * 4 + 3, none⟩ (.slice U3 m3 e3)) : World).heap.size := Nat.le_trans HG10.out.size hg11.size
  have D10 : Hid (Below w.heap.size w ((((W1.setCell ⟨g1, b * 4, none⟩ (.int .i64 ca0)).setCell ⟨g1, b * 4 + 1, none⟩ (.slice U1 m1 e1)).setCell ⟨g1, b * 4 + 2, none⟩ (.slice U2 m2 e2)).setCell ⟨g1, b * 4 + 3, none⟩ (.slice U3 m3 e3))) := Lib.hid (by
    have hg0 : w.heap.size ≤ g1 := by omega
    have h1 : Below w.heap.size w W1 := by rw [HW1.out]; exact ((D9.out.setCell (p := ⟨g1, _, none⟩) hg0 _).setCell (p := ⟨g1, _, none⟩) hg0 _).setCell (p := ⟨g1, _, none⟩) hg0 _ |>.setCell (p := ⟨g1, _, none⟩) hg0 _
    exact (((h1.setCell (p := ⟨g1, _, none⟩) hg0 _).setCell (p := ⟨g1, _, none⟩) hg0 _).setCell (p := ⟨g1, _, none⟩) hg0 _).setCell (p := ⟨g1, _, none⟩) hg0 _)
  clear hSI2 hgk hg11 hR11 hone o0 o1 o2 o3 z4 z5 z6 z7 HCC HG10 HR10 HM9 EA EB I9 N9 X9
  generalize ((((W1.setCell ⟨g1, b * 4, none⟩ (.int .i64 ca0)).setCell ⟨g1, b * 4 + 1, none⟩ (.slice U1 m1 e1)).setCell ⟨g1, b * 4 + 2, none⟩ (.slice U2 m2 e2)).setCell ⟨g1, b * 4 + 3, none⟩ (.slice U3 m3 e3)) = w10 at I10 N10 X10 Z10 D10 ⊢
  have q0 : w10.cell? ⟨w7.heap.size, 0, none⟩ = some (.slice (some ⟨g1, 0, none⟩) l0.length c7) := N10.out.cells.1
  clear D9
  have hC0 : ∀ y ∈ swL l0 a b, y.f3.length ≤ 1000000 := fun y hy => by
    obtain ⟨i, hi, rfl⟩ := List.getElem_of_mem hy
    rw [swL_len] at hi
    have h := swL_get ha hb hi
    rw [rdT_get (by rw [swL_len]; exact hi)] at h
    rw [h, rdT_get (sw_lt ha hb hi)]
    exact HKL.out _ (List.getElem_mem _)
  have HKC := Lib.hid hC0
  have hCl : (swL l0 a b).length = l0.length := swL_len l0 a b
  have HS := Lib.hid (show (swL l0 a b).map (swN a b) = swS l0 a b from rfl)
  clear hC0 HKL
  generalize swL l0 a b = C at *
  generalize hf2 : (fun k => sw a b (f k)) = f2 at *
  clear hf2
  go_wp2_with (fail)
  clear q0
  go_loopg [9, 10, 11, 65] l0.length (fun kq v9 v10 v11 v65 wr => ∃ (i : Nat) (x y z : Value), v9 = x ∧ v10 = y ∧ v11 = z ∧ v65 = .int .i64 (i : Int) ∧ i + kq = l0.length ∧ Aside0 (SI f2 wr w6.heap.size (fun k => k < w7.heap.size) g1 c7 (mapAt (swN a b) C i) inner2) ∧ Aside0 (TBox wr w7.heap.size (some ⟨g1, 0, none⟩) l0.length c7 rt) ∧ Aside0 (TBox wr w.heap.size A0 l0.length c0 rt) ∧ Aside0 (Below w.heap.size w wr))
  case atStart => exact ⟨0, _, _, _, rfl, rfl, rfl, rfl, by omega, ⟨by rw [mapAt_zero]; exact I10.out⟩, ⟨N10.out⟩, ⟨X10.out⟩, ⟨D10.out⟩⟩
  case round =>
    clear I10 N10 X10 D10
    obtain ⟨i, x, y, z, rfl, rfl, rfl, rfl, hik, hSI, hN, hX, hB⟩ := hrel
    obtain ⟨wo, hwo⟩ : ∃ z, z = wr := ⟨_, rfl⟩
    subst hwo
    by_cases hlt : (i : Int) < (l0.length : Int)
    · have t4 : decide ((i : Int) < (l0.length : Int)) = true := decide_eq_true hlt
      obtain ⟨ko, rfl⟩ : ∃ g, gk = g + 1 := ⟨gk - 1, by omega⟩
      have hin : i < C.length := by omega
      obtain ⟨y, hy⟩ : ∃ y, y = C[i] := ⟨_, rfl⟩
      have hym : y ∈ C := by rw [hy]; exact List.getElem_mem _
      have hy1 := HKC.out y hym
      have hget : (mapAt (swN a b) C i)[i]? = some y := by rw [mapAt_get _ _ _ hin, List.getElem?_eq_getElem hin, hy]
      obtain ⟨v1, v2, v3, hch, r1, r2, r3, hcell⟩ := SI_at hSI.out hget
      obtain ⟨B1, d1, rfl⟩ := Kd.R_slice r1
      obtain ⟨B2, d2, rfl⟩ := Kd.R_slice r2
      obtain ⟨B3, d3, rfl⟩ := Kd.R_slice r3
      have x0 : wo.cell? ⟨g1, i * 4, none⟩ = some (.int .i64 y.f0) := hcell 0 (by decide)
      have x1 : wo.cell? ⟨g1, i * 4 + 1, none⟩ = some (.slice B1 y.f1.length d1) := hcell 1 (by decide)
      have x2 : wo.cell? ⟨g1, i * 4 + 2, none⟩ = some (.slice B2 y.f2.length d2) := hcell 2 (by decide)
      have x3 : wo.cell? ⟨g1, i * 4 + 3, none⟩ = some (.slice B3 y.f3.length d3) := hcell 3 (by decide)
      have HO3 := Lib.hid (Kw.own_of_R r3)
      have HL3 := Lib.hid (fun k (hk : (Value.slice B3 y.f3.length d3).ownBlock = some k) => (r3.1 k hk).1.1)
      have HCH := Lib.hid hch
      have HY := Lib.hid hy
      have HGT := Lib.hid hget
      clear hcell r1 r2 r3 hch hy hym hget
      go_upto_region 8 with (fail)
      have hn7 := heap_alloc_new wo (.cells #[.int .i64 y.f0, .slice B1 y.f1.length d1, .slice B2 y.f2.length d2, .slice B3 y.f3.length d3] 40)
      have hb7 : Below wo.heap.size wo (wo.alloc (.cells #[.int .i64 y.f0, .slice B1 y.f1.length d1, .slice B2 y.f2.length d2, .slice B3 y.f3.length d3] 40)) := (Below.refl _ _).alloc (Nat.le_refl _) _
      clear x0 x1 x2 x3
      generalize wo.alloc (.cells #[.int .i64 y.f0, .slice B1 y.f1.length d1, .slice B2 y.f2.length d2, .slice B3 y.f3.length d3] 40) = wn at hn7 hb7 ⊢
      have HN7 := Lib.hid hn7
      have HB7 := Lib.hid hb7
      have HZ7 := Lib.hid (blk_lt hn7)
      have HO7 := Lib.hid (row_below HO3.out hb7)
      have q3 : wn.cell? ⟨wo.heap.size, 3, none⟩ = some (.slice B3 y.f3.length d3) := (blk_cell hn7 3).trans rfl
      have HLT3 := Lib.hid (fun k (hk : (Value.slice B3 y.f3.length d3).ownBlock = some k) => (HO3.out.lt k hk).2)
      clear hn7 hb7
      go_wp2_with (fail)
      clear q3
      go_loopg [10, 11, 72] y.f3.length (fun kq v10 v11 v72 wq => ∃ (j : Nat) (x z : Value), v10 = x ∧ v11 = z ∧ v72 = .int .i64 (j : Int) ∧ j + kq = y.f3.length ∧ Aside0 (wq.ownsRow w6.heap.size 3 1 (.slice B3 y.f3.length d3) y.f3.length ((mapAt (swI a b) y.f3 j).map (Value.int .i64))) ∧ Aside0 (wn.grownBy wq (Value.slice B3 y.f3.length d3).ownBlock))
      case atStart => exact ⟨0, _, _, rfl, rfl, rfl, by omega, ⟨by rw [mapAt_zero]; exact HO7.out⟩, ⟨⟨rfl, rfl, rfl, Nat.le_refl _, fun _ _ _ => rfl⟩⟩⟩
      case round =>
        obtain ⟨j, x, z, rfl, rfl, rfl, hjk, hrow, hgr⟩ := hrel
        obtain ⟨wi, hwi⟩ : ∃ z, z = wr := ⟨_, rfl⟩
        subst hwi
        have hne9 : some wo.heap.size ≠ (Value.slice B3 y.f3.length d3).ownBlock := fun h => by have := HLT3.out _ h.symm; omega
        have h9r := (hgr.out.block wo.heap.size HZ7.out hne9).trans HN7.out
        have H9R := Lib.hid h9r
        by_cases hjl : (j : Int) < (y.f3.length : Int)
        · have t5 : decide ((j : Int) < (y.f3.length : Int)) = true := decide_eq_true hjl
          obtain ⟨g3, cap3, hv3, hg3, hg3l⟩ := hrow.out.form (by omega)
          cases hv3
          obtain ⟨kq, rfl⟩ : ∃ g, gk = g + 1 := ⟨gk - 1, by omega⟩
          have hj : j < y.f3.length := by omega
          obtain ⟨kk, hkk⟩ : ∃ kk, kk = y.f3[j] := ⟨_, rfl⟩
          have c1 : wi.cell? ⟨g3, j, none⟩ = some (.int .i64 kk) := by
            have h := hrow.out.cellAt j (by omega)
            rw [List.getElem?_map, mapAt_get _ _ _ hj, List.getElem?_eq_getElem hj, ← hkk] at h
            exact h
          have c3 : wi.cell? ⟨wo.heap.size, 3, none⟩ = some (.slice (some ⟨g3, 0, none⟩) y.f3.length d3) := (blk_cell h9r 3).trans rfl
          have fr := hrow.out.frozenAt j
          have hne1 : wo.heap.size ≠ g3 := fun e => hne9 (by rw [e]; rfl)
          have HKK := Lib.hid hkk
          have HNE := Lib.hid hne9
          have hself : (mapAt (swI a b) y.f3 j).set j kk = mapAt (swI a b) y.f3 j := by rw [hkk]; exact mapAt_keep _ _ _ hj
          have hsel2 : ∀ u : Int, (mapAt (swI a b) y.f3 j).set j (swI a b kk) = mapAt (swI a b) y.f3 (j + 1) := fun u => by rw [hkk]; exact mapAt_set _ _ _ hj
          have HSELF := Lib.hid hself
          have HSEL2 := Lib.hid (hsel2 0)
          clear hkk hne9 h9r hself hsel2
          go_upto_if 79 with (fail)
          clear c1
          obtain ⟨u1, hu1⟩ : ∃ u1 : Int, u1 = if kk = (a : Int) then (b : Int) else kk := ⟨_, rfl⟩
          have HU1 := Lib.hid hu1
          clear hu1
          go_cut [] (fun wx => Aside0 (wx.ownsRow w6.heap.size 3 1 (.slice (some ⟨g3, 0, none⟩) y.f3.length d3) y.f3.length (((mapAt (swI a b) y.f3 j).set j u1).map (Value.int .i64))) ∧ Aside0 (wn.grownBy wx (Value.slice (some ⟨g3, 0, none⟩) y.f3.length d3).ownBlock))
          case first =>
            by_cases e1 : kk = (a : Int)
            · have t7 : (kk == (a : Int)) = true := by simpa using e1
              have HE := Lib.hid e1
              have c1 : wi.cell? ⟨g3, j, none⟩ = some (.int .i64 kk) := by
                have h := hrow.out.cellAt j (by omega)
                rw [← HSELF.out, List.getElem?_map, List.getElem?_set_self (by rw [mapAt_len]; exact hj)] at h
                exact h
              clear e1
              go_wp2_with (fail)
              go_meet
              obtain ⟨hs1, hs2⟩ := hrow.out.stored j (.int .i64 (b : Int))
              refine ⟨⟨?_⟩, ⟨grow_on hgr.out hs2⟩⟩
              rw [HU1.out, if_pos HE.out, List.map_set]
              exact hs1
            · have t7 : (kk == (a : Int)) = false := by simpa using e1
              have HE := Lib.hid e1
              clear e1
              go_wp2_with (fail)
              go_meet
              refine ⟨⟨?_⟩, ⟨hgr.out⟩⟩
              rw [HU1.out, if_neg HE.out, HSELF.out]
              exact hrow.out
          case rest =>
          obtain ⟨hrow2, hgr2⟩ := hcut
          obtain ⟨wp, hwp⟩ : ∃ z, z = wc := ⟨_, rfl⟩
          subst hwp
          clear hrow hgr c3 fr
          have h9p := (hgr2.out.block wo.heap.size HZ7.out HNE.out).trans HN7.out
          have H9P := Lib.hid h9p
          have c3 : wp.cell? ⟨wo.heap.size, 3, none⟩ = some (.slice (some ⟨g3, 0, none⟩) y.f3.length d3) := (blk_cell h9p 3).trans rfl
          have fr := hrow2.out.frozenAt j
          have HSW := Lib.hid (show swI a b kk = if kk = (b : Int) then (a : Int) else u1 by
            rw [HU1.out]
            unfold swI
            by_cases e1 : kk = (a : Int)
            · by_cases e2 : kk = (b : Int)
              · rw [if_pos e1, if_pos e2]; omega
              · rw [if_pos e1, if_neg e2, if_pos e1]
            · rw [if_neg e1, if_neg e1])
          clear h9p
          by_cases e1 : kk = (b : Int)
          · have t7 : (kk == (b : Int)) = true := by simpa using e1
            have HE := Lib.hid e1
            have c1 : wp.cell? ⟨g3, j, none⟩ = some (.int .i64 u1) := by
              have h := hrow2.out.cellAt j (by omega)
              rw [List.getElem?_map, List.getElem?_set_self (by rw [mapAt_len]; exact hj)] at h
              exact h
            clear e1
            go_wp2_with (fail)
            go_roundg kq
            case measure => omega
            case rel =>
              obtain ⟨hs1, hs2⟩ := hrow2.out.stored j (.int .i64 (a : Int))
              refine ⟨j + 1, _, _, rfl, rfl, by first | rfl | (congr 1; omega), by omega, ⟨?_⟩, ⟨grow_on hgr2.out hs2⟩⟩
              rw [← HSEL2.out, HSW.out, if_pos HE.out, List.map_set]
              rw [List.map_set, List.set_set] at hs1
              exact hs1
          · have t7 : (kk == (b : Int)) = false := by simpa using e1
            have HE := Lib.hid e1
            clear e1
            go_wp2_with (fail)
            go_roundg kq
            case measure => omega
            case rel =>
              refine ⟨j + 1, _, _, rfl, rfl, by first | rfl | (congr 1; omega), by omega, ⟨?_⟩, ⟨hgr2.out⟩⟩
              rw [← HSEL2.out, HSW.out, if_neg HE.out]
              exact hrow2.out
        · have t5 : decide ((j : Int) < (y.f3.length : Int)) = false := decide_eq_false hjl
          have hje : j = y.f3.length := by omega
          have hkr := hrow.out
          rw [hje, mapAt_all] at hkr
          have hset : (mapAt (swN a b) C i).set i ⟨y.f0, y.f1, y.f2, y.f3.map (swI a b)⟩ = mapAt (swN a b) C (i + 1) := by
            rw [← mapAt_set _ _ _ hin, ← HY.out]
            rfl
          have hSI7 := SI_step hSI.out (w1 := wn) (fun k _ hk => HB7.out.block k hk)
          have hSIq := SI_kids hSI7 HGT.out HCH.out hgr.out (K := y.f3.map (swI a b)) (by rw [List.length_map]; exact hkr)
          rw [hset] at hSIq
          have HSIQ := Lib.hid hSIq
          have hkeep : ∀ k, w7.heap.size ≤ k ∨ k < w6.heap.size → k < wo.heap.size → wi.heap[k]? = wo.heap[k]? := fun k hk hk2 => (hgr.out.block k (by have := HZ7.out; omega) (fun e => by
            have h1 := HL3.out k e.symm
            have h2 := (HO3.out.lt k e.symm).1
            omega)).trans (HB7.out.block k hk2)
          have HN2 : Hid (TBox wi w7.heap.size (some ⟨g1, 0, none⟩) l0.length c7 rt) := Lib.hid ((hkeep w7.heap.size (by omega) (blk_lt hN.out)).trans hN.out)
          have HX2 : Hid (TBox wi w.heap.size A0 l0.length c0 rt) := Lib.hid ((hkeep w.heap.size (by omega) (blk_lt hX.out)).trans hX.out)
          have HB2 : Hid (Below w.heap.size w wi) := Lib.hid (Kw.grown_below (below_step hB.out HB7.out) hgr.out (fun g hg => by have := (HO3.out.lt g hg).1; omega))
          clear hje hkr hset hSI7 hSIq hkeep h9r hne9
          go_wp2_with (fail)
          go_roundg ko
          case measure => omega
          case rel => exact ⟨i + 1, _, _, _, rfl, rfl, rfl, by first | rfl | (congr 1; omega), by omega, ⟨HSIQ.out⟩, ⟨HN2.out⟩, ⟨HX2.out⟩, ⟨HB2.out⟩⟩
    · have t4 : decide ((i : Int) < (l0.length : Int)) = false := decide_eq_false hlt
      have hie : i = l0.length := by omega
      have hSIe := hSI.out
      rw [hie, ← hCl, mapAt_all, HS.out] at hSIe
      have I11 := Lib.hid hSIe
      have HML := Lib.hid (swS_len l0 a b)
      have HSI2 := Lib.hid (show swI a b rt = if rt = (b : Int) then (a : Int) else (if rt = (a : Int) then (b : Int) else rt) by
        unfold swI
        by_cases e1 : rt = (a : Int)
        · by_cases e2 : rt = (b : Int)
          · rw [if_pos e1, if_pos e2]; omega
          · rw [if_pos e1, if_neg e2, if_pos e1]
        · rw [if_neg e1, if_neg e1])
      clear hSIe hSI HKC HS hCl hie
      obtain ⟨x0, x1⟩ := hX.out.cells
      obtain ⟨n0, n1⟩ := hN.out.cells
      have fn := blk_frozen hN.out 1
      go_upto_if 98 with (fail)
      obtain ⟨u1, hu1⟩ : ∃ u1 : Int, u1 = if rt = (a : Int) then (b : Int) else rt := ⟨_, rfl⟩
      rw [← hu1] at HSI2
      have HU1 := Lib.hid hu1
      clear hu1
      go_cut [] (fun wx => Aside0 (SI f2 wx w6.heap.size (fun k => k < w7.heap.size) g1 c7 (swS l0 a b) inner2) ∧ Aside0 (TBox wx w7.heap.size (some ⟨g1, 0, none⟩) l0.length c7 u1) ∧ Aside0 (TBox wx w.heap.size A0 l0.length c0 rt) ∧ Aside0 (Below w.heap.size w wx))
      case first =>
        by_cases e1 : rt = (a : Int)
        · have t7 : (rt == (a : Int)) = true := by simpa using e1
          have HE := Lib.hid e1
          clear e1
          go_wp2_with (fail)
          go_meet
          have hst := blk_put hN.out 1 (.int .i64 (b : Int)) rfl
          refine ⟨⟨SI_step I11.out (fun k hk _ => Below.heap_setCell _ _ _ _ (by show k ≠ w7.heap.size; omega))⟩, ⟨by rw [HU1.out, if_pos HE.out]; exact hst⟩, ⟨(Below.heap_setCell _ _ _ _ (by show w.heap.size ≠ w7.heap.size; omega)).trans hX.out⟩, ⟨hB.out.setCell (p := ⟨w7.heap.size, 1, none⟩) (by show w.heap.size ≤ w7.heap.size; omega) _⟩⟩
        · have t7 : (rt == (a : Int)) = false := by simpa using e1
          have HE := Lib.hid e1
          clear e1
          go_wp2_with (fail)
          go_meet
          exact ⟨⟨I11.out⟩, ⟨by rw [HU1.out, if_neg HE.out]; exact hN.out⟩, ⟨hX.out⟩, ⟨hB.out⟩⟩
      case rest =>
      obtain ⟨hSI1, hN1, hX1, hB1⟩ := hcut
      obtain ⟨wp, hwp⟩ : ∃ z, z = wc := ⟨_, rfl⟩
      subst hwp
      clear I11 hN hX hB x0 x1 n0 n1 fn
      obtain ⟨x0, x1⟩ := hX1.out.cells
      obtain ⟨n0, n1⟩ := hN1.out.cells
      have fn := blk_frozen hN1.out 1
      go_upto_if 104 with (fail)
      go_cut [] (fun wx => Aside0 (SI f2 wx w6.heap.size (fun k => k < w7.heap.size) g1 c7 (swS l0 a b) inner2) ∧ Aside0 (TBox wx w7.heap.size (some ⟨g1, 0, none⟩) l0.length c7 (swI a b rt)) ∧ Aside0 (TBox wx w.heap.size A0 l0.length c0 rt) ∧ Aside0 (Below w.heap.size w wx))
      case first =>
        by_cases e1 : rt = (b : Int)
        · have t7 : (rt == (b : Int)) = true := by simpa using e1
          have HE := Lib.hid e1
          clear e1
          go_wp2_with (fail)
          go_meet
          have hst := blk_put hN1.out 1 (.int .i64 (a : Int)) rfl
          refine ⟨⟨SI_step hSI1.out (fun k hk _ => Below.heap_setCell _ _ _ _ (by show k ≠ w7.heap.size; omega))⟩, ⟨by rw [HSI2.out, if_pos HE.out]; exact hst⟩, ⟨(Below.heap_setCell _ _ _ _ (by show w.heap.size ≠ w7.heap.size; omega)).trans hX1.out⟩, ⟨hB1.out.setCell (p := ⟨w7.heap.size, 1, none⟩) (by show w.heap.size ≤ w7.heap.size; omega) _⟩⟩
        · have t7 : (rt == (b : Int)) = false := by simpa using e1
          have HE := Lib.hid e1
          clear e1
          go_wp2_with (fail)
          go_meet
          exact ⟨⟨hSI1.out⟩, ⟨by rw [HSI2.out, if_neg HE.out]; exact hN1.out⟩, ⟨hX1.out⟩, ⟨hB1.out⟩⟩
      case rest =>
      obtain ⟨hSI2, hN2, hX2, hB2⟩ := hcut
      obtain ⟨wt, hwt⟩ : ∃ z, z = wc := ⟨_, rfl⟩
      subst hwt
      clear hSI1 hN1 hX1 hB1 x0 x1 n0 n1 fn HSI2 HU1
      obtain ⟨_, _, hMe, hMc, hMC⟩ := Kd.R_reads (Kd.S_R (SI_S hSI2.out))
      cases hMe
      have HMC := Lib.hid hMC
      have hN3 : TBox wt w7.heap.size (some ⟨g1, 0, none⟩) (swS l0 a b).length c7 (swI a b rt) := by rw [HML.out]; exact hN2.out
      have HN3 := Lib.hid hN3
      have HMc := Lib.hid hMc
      clear hMC hMc hN3 hSI2 hN2 HML
      generalize swS l0 a b = M at *
      generalize swI a b rt = rm at *
      obtain ⟨x0, x1⟩ := hX2.out.cells
      go_wp2_with (fail)
      refine (canon_Canon.calls k A0 c0 l0 rt C1 s1 0 wt (Kd.C_below HR.out hB2.out) hc0 HC1.out).mono ?_
      rintro e w11 ⟨v11, rfl, hR11, hb11⟩
      obtain ⟨A11, c11, rfl, hc11, hC11⟩ := Kd.R_reads hR11
      have HMC1 := Lib.hid (Kd.C_below HMC.out hb11)
      have HN4 := Lib.hid (HN3.out.below hb11)
      have HX4 := Lib.hid (hX2.out.below hb11)
      have HB4 := Lib.hid (below_step hB2.out hb11)
      have HC11 := Lib.hid hC11
      clear hb11 hR11 hC11 hX2 hB2 HMC HN3 x0 x1
      go_upto_region 22 with (fail)
      have hn := heap_alloc_new w11 (.cells #[.slice A11 C1.length c11, .int .i64 s1] 24)
      have hb12 : Below w11.heap.size w11 (w11.alloc (.cells #[.slice A11 C1.length c11, .int .i64 s1] 24)) := (Below.refl _ _).alloc (Nat.le_refl _) _
      generalize w11.alloc (.cells #[.slice A11 C1.length c11, .int .i64 s1] 24) = w12 at hn hb12 ⊢
      have HY1 : Hid (TBox w12 w11.heap.size A11 C1.length c11 s1) := Lib.hid hn
      have HMC2 := Lib.hid (Kd.C_below HMC1.out hb12)
      have HN5 := Lib.hid (HN4.out.below hb12)
      have HX5 := Lib.hid (HX4.out.below hb12)
      have HB5 := Lib.hid (below_step HB4.out hb12)
      have HC12 := Lib.hid (Kd.C_below HC11.out hb12)
      obtain ⟨n0, n1⟩ := HN5.out.cells
      clear hn hb12 HMC1 HN4 HX4 HB4 HC11
      go_wp2_with (fail)
      refine (canon_Canon.calls k (some ⟨g1, 0, none⟩) c7 M rm C2 s2 0 w12 HMC2.out HMc.out HC2.out).mono ?_
      rintro e w13 ⟨v13, rfl, hR13, hb13⟩
      obtain ⟨A13, c13, rfl, hc13, hC13⟩ := Kd.R_reads hR13
      have HX6 := Lib.hid (HX5.out.below hb13)
      have HB6 := Lib.hid (below_step HB5.out hb13)
      have HC13 := Lib.hid (Kd.C_below HC12.out hb13)
      have HD13 := Lib.hid hC13
      have HY2 := Lib.hid (HY1.out.below hb13)
      clear hb13 hR13 hC13 HX5 HB5 HC12 HY1 n0 n1 HN5 HMC2
      go_upto_region 23 with (fail)
      have hn := heap_alloc_new w13 (.cells #[.slice A13 C2.length c13, .int .i64 s2] 24)
      have hb14 : Below w13.heap.size w13 (w13.alloc (.cells #[.slice A13 C2.length c13, .int .i64 s2] 24)) := (Below.refl _ _).alloc (Nat.le_refl _) _
      generalize w13.alloc (.cells #[.slice A13 C2.length c13, .int .i64 s2] 24) = w14 at hn hb14 ⊢
      have HZ3 : Hid (TBox w14 w13.heap.size A13 C2.length c13 s2) := Lib.hid hn
      have HX7 := Lib.hid (HX6.out.below hb14)
      have HB7 := Lib.hid (below_step HB6.out hb14)
      have HC14 := Lib.hid (Kd.C_below HC13.out hb14)
      have HD14 := Lib.hid (Kd.C_below HD13.out hb14)
      have HY3 := Lib.hid (HY2.out.below hb14)
      obtain ⟨x0, x1⟩ := HX7.out.cells
      clear hn hb14 HX6 HB6 HC13 HD13 HY2
      go_wp2_with (fail)
      refine (dioramaref09_Turn.calls k A0 c0 l0 rt T tr w14 (Kd.C_below HR.out HB7.out) hc0 HT.out).mono ?_
      rintro e w15 ⟨v15, rfl, hS15, hb15⟩
      obtain ⟨A15, c15, rfl, hc15, hC15⟩ := Kd.R_reads (Kd.S_R hS15)
      have HB8 := Lib.hid (below_step HB7.out hb15)
      have HC15 := Lib.hid (Kd.C_below HC14.out hb15)
      have HD15 := Lib.hid (Kd.C_below HD14.out hb15)
      have HY4 := Lib.hid (HY3.out.below hb15)
      have HZ4 := Lib.hid (HZ3.out.below hb15)
      have HE15 := Lib.hid hC15
      clear hb15 hS15 hC15 HX7 HB7 HC14 HD14 HY3 HZ3 x0 x1
      go_wp2_with (fail)
      refine (canon_Canon.calls k A15 c15 T tr C3 s3 0 w15 HE15.out hc15 HC3.out).mono ?_
      rintro e w16 ⟨v16, rfl, hR16, hb16⟩
      obtain ⟨A16, c16, rfl, hc16, hC16⟩ := Kd.R_reads hR16
      have HB9 := Lib.hid (below_step HB8.out hb16)
      have HC16 := Lib.hid (Kd.C_below HC15.out hb16)
      have HD16 := Lib.hid (Kd.C_below HD15.out hb16)
      have HY5 := Lib.hid (HY4.out.below hb16)
      have HZ5 := Lib.hid (HZ4.out.below hb16)
      have HE16 := Lib.hid hC16
      clear hb16 hR16 hC16 HB8 HC15 HD15 HY4 HZ4 HE15
      go_upto_region 24 with (fail)
      have hn := heap_alloc_new w16 (.cells #[.slice A16 C3.length c16, .int .i64 s3] 24)
      have hb17 : Below w16.heap.size w16 (w16.alloc (.cells #[.slice A16 C3.length c16, .int .i64 s3] 24)) := (Below.refl _ _).alloc (Nat.le_refl _) _
      generalize w16.alloc (.cells #[.slice A16 C3.length c16, .int .i64 s3] 24) = w17 at hn hb17 ⊢
      have HV1 : Hid (TBox w17 w16.heap.size A16 C3.length c16 s3) := Lib.hid hn
      have HB10 := Lib.hid (below_step HB9.out hb17)
      have HC17 := Lib.hid (Kd.C_below HC16.out hb17)
      have HD17 := Lib.hid (Kd.C_below HD16.out hb17)
      have HE17 := Lib.hid (Kd.C_below HE16.out hb17)
      have HY6 := Lib.hid (HY5.out.below hb17)
      have HZ6 := Lib.hid (HZ5.out.below hb17)
      obtain ⟨y0, y1⟩ := HY6.out.cells
      obtain ⟨z0, z1⟩ := HZ6.out.cells
      clear hn hb17 HB9 HC16 HD16 HE16 HY5 HZ5
      go_wp2_with (fail)
      refine (dioramaref09_Same.calls k A11 c11 C1 s1 A13 c13 C2 s2 true w17 HC17.out hc11 HD17.out hc13 HS1.out).mono ?_
      rintro e w18 ⟨rfl, hb18⟩
      have HB11 := Lib.hid (below_step HB10.out hb18)
      have HC18 := Lib.hid (Kd.C_below HC17.out hb18)
      have HE18 := Lib.hid (Kd.C_below HE17.out hb18)
      have HY7 := Lib.hid (HY6.out.below hb18)
      have HV2 := Lib.hid (HV1.out.below hb18)
      clear y0 y1 z0 z1 hb18 HB10 HC17 HD17 HE17 HY6 HZ6 HV1
      obtain ⟨y0, y1⟩ := HY7.out.cells
      obtain ⟨z0, z1⟩ := HV2.out.cells
      go_wp2_with (fail)
      refine (dioramaref09_Same.calls k A11 c11 C1 s1 A16 c16 C3 s3 true w18 HC18.out hc11 HE18.out hc16 HS2.out).mono ?_
      rintro e w19 ⟨rfl, hb19⟩
      have HB12 := Lib.hid (below_step HB11.out hb19)
      clear hb19
      go_wp2_with (fail)
      go_ret
      exact ⟨rfl, HB12.out⟩
end
end Go.Proofs.Ytlfjjapndlkamaa.GH
