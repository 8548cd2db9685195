/- FieldLeast: the walk. -/
import Derived.Test.YtmglknchklgokaaDoorFLeast
import Derived.Test.YtmglknchklgokaaDoorGYx5
import Derived.Test.YtmglknchklgokaaDoorGYx9
namespace Go.Proofs.YtmglknchklgokaaDoor.GY
open Go.RowKit Go.Lib Go.Proofs.YtmglknchklgokaaDoorW.PrintWords Go.Proofs.YtmglknchklgokaaDoorW.PrintLast Go.Proofs.YtmglknchklgokaaDoorW.PrintMore
set_option linter.unusedVariables false
set_option linter.unusedSimpArgs false
section
variable (a0 : Int) (A1 : Option Addr) (c1 : Nat) (l1 : List Int) (A2 : Option Addr) (c2 : Nat) (l2 : List ByteArray) (A3 : Option Addr) (c3 : Nat) (l3 : List Int)
variable (b0 : Int) (B1 : Option Addr) (d1 : Nat) (m1 : List Int) (B2 : Option Addr) (d2 : Nat) (m2 : List ByteArray) (B3 : Option Addr) (d3 : Nat) (m3 : List Int) (q : Int) (w : World)
theorem asize (w : World) (o : Obj) : (w.alloc o).heap.size = w.heap.size + 1 := by simp
/-- A node's box. -/
def NBox (w : World) (g : Nat) (a0 : Int) (A1 : Option Addr) (n1 c1 : Nat) (A2 : Option Addr) (n2 c2 : Nat) (A3 : Option Addr) (n3 c3 : Nat) : Prop :=
  w.heap[g]? = some (.cells #[.int .i64 a0, .slice A1 n1 c1, .slice A2 n2 c2, .slice A3 n3 c3] 26 (0, 0))
/-- A node that came in. -/
structure In (w : World) (A1 : Option Addr) (c1 : Nat) (l1 : List Int) (A2 : Option Addr) (c2 : Nat) (l2 : List ByteArray) (A3 : Option Addr) (c3 : Nat) (l3 : List Int) : Prop where
  r1 : Kd.C (Kd.int .i64) w A1 l1.length l1
  e1 : l1.length ≤ c1
  r2 : Kd.C Kd.string w A2 l2.length l2
  e2 : l2.length ≤ c2
  r3 : Kd.C (Kd.int .i64) w A3 l3.length l3
  e3 : l3.length ≤ c3
/-- A node that was made. -/
structure OutN (b : Nat) (w : World) (A1 : Option Addr) (c1 : Nat) (l1 : List Int) (A2 : Option Addr) (c2 : Nat) (l2 : List ByteArray) (A3 : Option Addr) (c3 : Nat) (l3 : List Int) : Prop where
  r1 : Kd.R (Kd.int .i64) 2 w b (fun _ => True) (.slice A1 l1.length c1) l1
  r2 : Kd.R Kd.string 9 w b (fun _ => True) (.slice A2 l2.length c2) l2
  r3 : Kd.R (Kd.int .i64) 3 w b (fun _ => True) (.slice A3 l3.length c3) l3
theorem OutN.below {b : Nat} {w w' : World} {A1 : Option Addr} {c1 : Nat} {l1 : List Int} {A2 : Option Addr} {c2 : Nat} {l2 : List ByteArray} {A3 : Option Addr} {c3 : Nat} {l3 : List Int} (h : OutN b w A1 c1 l1 A2 c2 l2 A3 c3 l3) (hb : Below w.heap.size w w') : OutN b w' A1 c1 l1 A2 c2 l2 A3 c3 l3 :=
  ⟨Kd.R_below h.r1 hb, Kd.R_below h.r2 hb, Kd.R_below h.r3 hb⟩
theorem OutN.set {b : Nat} {w : World} {A1 : Option Addr} {c1 : Nat} {l1 : List Int} {A2 : Option Addr} {c2 : Nat} {l2 : List ByteArray} {A3 : Option Addr} {c3 : Nat} {l3 : List Int} (h : OutN b w A1 c1 l1 A2 c2 l2 A3 c3 l3) {g : Nat} {cells : Array Value} (hb : w.heap[g]? = some (.cells cells 26 (0, 0))) (j : Nat) (u : Value) : OutN b (w.setCell ⟨g, j, none⟩ u) A1 c1 l1 A2 c2 l2 A3 c3 l3 :=
  ⟨Kd.R_set h.r1 hb (by decide) j u, Kd.R_set h.r2 hb (by decide) j u, Kd.R_set h.r3 hb (by decide) j u⟩
theorem OutN.in {b : Nat} {w : World} {A1 : Option Addr} {c1 : Nat} {l1 : List Int} {A2 : Option Addr} {c2 : Nat} {l2 : List ByteArray} {A3 : Option Addr} {c3 : Nat} {l3 : List Int} (h : OutN b w A1 c1 l1 A2 c2 l2 A3 c3 l3) : In w A1 c1 l1 A2 c2 l2 A3 c3 l3 :=
  ⟨(Kd.R_reads' h.r1).2.2, (Kd.R_reads' h.r1).2.1, (Kd.R_reads' h.r2).2.2, (Kd.R_reads' h.r2).2.1, (Kd.R_reads' h.r3).2.2, (Kd.R_reads' h.r3).2.1⟩
theorem In.below {w w' : World} {A1 : Option Addr} {c1 : Nat} {l1 : List Int} {A2 : Option Addr} {c2 : Nat} {l2 : List ByteArray} {A3 : Option Addr} {c3 : Nat} {l3 : List Int} (h : In w A1 c1 l1 A2 c2 l2 A3 c3 l3) (hb : Below w.heap.size w w') : In w' A1 c1 l1 A2 c2 l2 A3 c3 l3 :=
  ⟨Kd.C_below h.r1 hb, h.e1, Kd.C_below h.r2 hb, h.e2, Kd.C_below h.r3 hb, h.e3⟩
theorem NBox.below {w w' : World} {g : Nat} {a0 : Int} {A1 : Option Addr} {n1 c1 : Nat} {A2 : Option Addr} {n2 c2 : Nat} {A3 : Option Addr} {n3 c3 : Nat} (h : NBox w g a0 A1 n1 c1 A2 n2 c2 A3 n3 c3) (hb : Below w.heap.size w w') : NBox w' g a0 A1 n1 c1 A2 n2 c2 A3 n3 c3 :=
  (hb.block g (blk_lt h)).trans h
theorem NBox.cells {w : World} {g : Nat} {a0 : Int} {A1 : Option Addr} {n1 c1 : Nat} {A2 : Option Addr} {n2 c2 : Nat} {A3 : Option Addr} {n3 c3 : Nat} (h : NBox w g a0 A1 n1 c1 A2 n2 c2 A3 n3 c3) :
    w.cell? ⟨g, 0, none⟩ = some (.int .i64 a0) ∧ w.cell? ⟨g, 1, none⟩ = some (.slice A1 n1 c1) ∧ w.cell? ⟨g, 2, none⟩ = some (.slice A2 n2 c2) ∧ w.cell? ⟨g, 3, none⟩ = some (.slice A3 n3 c3) :=
  ⟨(blk_cell h 0).trans rfl, (blk_cell h 1).trans rfl, (blk_cell h 2).trans rfl, (blk_cell h 3).trans rfl⟩
theorem pureV {P : Program} {ops : Array Oper} {Q : Exit → Act → World → Prop} {md : Region.Mode} {S : World → Prop} {ds : List Nat} {i : Nat} {N : Option Tmp} {oi : Oper} {v : Value} {fuel : Nat} {l : Array Bool} {a a' : Act} {w : World} (l' : Array Bool) (hi : ops[i]? = some oi) (hN : oi.dst = N)
    (hv : ∀ w, (execOp a.eval oi).run P w = .ok (.value v) w) (h : wpAnyLast P md ops Q S ds fuel l' a' w) (hc : anyB md ops l l' i = true := by kernel_rfl)
    (hQ : ∀ c a w, Q (.panic c) (a.put oi.dst v) w → Q (.panic c) a w := by exact fun _ _ _ h => h) (hw : Region.wanted oi (yielded ops a.tmps) = true := by rfl)
    (ha : a.put N v = a' := by simp only [Act.put, List.setIfInBounds_toArray, List.set_cons_zero, List.set_cons_succ, i64_w, i32_w]; rfl) : wpAnyLast P md ops Q S ds (fuel + 1) l a w := pure_ l' hi hN hc hQ (Or.inl ⟨hw, hv⟩) ha h
set_option maxHeartbeats 8000000 in
set_option maxRecDepth 100000 in
theorem least_walk (k : Nat) (ht : ∀ w', Below w.heap.size w w' → Go.Lib.Utf8Tabs 0 1 w') (ha : In w A1 c1 l1 A2 c2 l2 A3 c3 l3) (hb : In w B1 d1 m1 B2 d2 m2 B3 d3 m3)
    (hga : dioramaref08_Great.f k a0 l1 l2 l3 = some false) (hgb : dioramaref08_Great.f k b0 m1 m2 m3 = some false) (haw : dioramalaw08_awake.f k = some true)
    (L : Sets) (o : Bool) (hd : field_Diff.f k a0 l1 l2 l3 b0 m1 m2 m3 = some (L, o)) (hL : L.length ≤ 200)
    (hset : ∀ n : Nat, q = (n : Int) → n < L.length → o = true → ∃ I T, field_Set.f k a0 l1 l2 l3 (List.take n L ++ List.drop (n + 1) L) = some (a0, I, T, l3, 0) ∧ dioramaref08_Own.f k a0 I T l3 b0 m1 m2 m3 = some false) :
    Calls Tryd.prog 6 #[.agg #[.int .i64 a0, .slice A1 l1.length c1, .slice A2 l2.length c2, .slice A3 l3.length c3], .agg #[.int .i64 b0, .slice B1 m1.length d1, .slice B2 m2.length d2, .slice B3 m3.length d3], .int .i64 q] w fun e w' => e = .returned (.bool true) ∧ Below w.heap.size w w' := by
  have HT := Lib.hid ht
  have HA := Lib.hid ha
  have HB := Lib.hid hb
  clear ht ha hb
  go_enter Tryd.func6, Tryd.ntmps6
  go_wp2_with (fail)
  generalize hw1 : (w.alloc (.cells #[.int .i64 a0, .slice A1 l1.length c1, .slice A2 l2.length c2, .slice A3 l3.length c3] 26)).alloc (.cells #[.int .i64 b0, .slice B1 m1.length d1, .slice B2 m2.length d2, .slice B3 m3.length d3] 26) = w1
  have X1 : Hid (NBox w1 w.heap.size a0 A1 l1.length c1 A2 l2.length c2 A3 l3.length c3) := Lib.hid (by rw [← hw1]; exact blk_alloc (heap_alloc_new w _) _)
  have Y1 : Hid (NBox w1 (w.heap.size + 1) b0 B1 m1.length d1 B2 m2.length d2 B3 m3.length d3) := Lib.hid (by
    have := heap_alloc_new (w.alloc (.cells #[.int .i64 a0, .slice A1 l1.length c1, .slice A2 l2.length c2, .slice A3 l3.length c3] 26)) (.cells #[.int .i64 b0, .slice B1 m1.length d1, .slice B2 m2.length d2, .slice B3 m3.length d3] 26)
    rw [hw1, asize] at this
    exact this)
  have D1 : Hid (Below w.heap.size w w1) := Lib.hid (by rw [← hw1]; exact ((Below.refl _ w).alloc (Nat.le_refl _) _).alloc (by rw [asize]; omega) _)
  clear hw1
  generalize w.heap.size + 1 = g4 at Y1 ⊢
  refine (dioramalaw08_awake.calls k true _ (fun w' hb => HT.out w' (below_step D1.out hb)) haw).mono ?_
  rintro e w2 ⟨rfl, hb2⟩
  have X2 := Lib.hid (X1.out.below hb2)
  have Y2 := Lib.hid (Y1.out.below hb2)
  have D2 := Lib.hid (below_step D1.out hb2)
  obtain ⟨x0, x1, x2, x3⟩ := X2.out.cells
  clear hb2 X1 Y1 D1
  go_wp2_with (fail)
  have HA2 := HA.out.below D2.out
  refine (dioramaref08_Great.calls k a0 A1 c1 l1 A2 c2 l2 A3 c3 l3 false w2 HA2.r1 HA2.e1 HA2.r2 HA2.e2 HA2.r3 HA2.e3 hga).mono ?_
  rintro e w3 ⟨rfl, hb3⟩
  have X3 := Lib.hid (X2.out.below hb3)
  have Y3 := Lib.hid (Y2.out.below hb3)
  have D3 := Lib.hid (below_step D2.out hb3)
  obtain ⟨y0, y1, y2, y3⟩ := Y3.out.cells
  clear hb3 X2 Y2 D2 HA2 x0 x1 x2 x3
  go_wp2_with (fail)
  have HB3 := HB.out.below D3.out
  refine (dioramaref08_Great.calls k b0 B1 d1 m1 B2 d2 m2 B3 d3 m3 false w3 HB3.r1 HB3.e1 HB3.r2 HB3.e2 HB3.r3 HB3.e3 hgb).mono ?_
  rintro e w4 ⟨rfl, hb4⟩
  have X4 := Lib.hid (X3.out.below hb4)
  have Y4 := Lib.hid (Y3.out.below hb4)
  have D4 := Lib.hid (below_step D3.out hb4)
  obtain ⟨x0, x1, x2, x3⟩ := X4.out.cells
  obtain ⟨u0, u1, u2, u3⟩ := Y4.out.cells
  clear hb4 X3 Y3 D3 HB3 y0 y1 y2 y3
  go_wp2_with (fail)
  have HA4 := HA.out.below D4.out
  have HB4 := HB.out.below D4.out
  refine (field_Diff.calls k a0 A1 c1 l1 A2 c2 l2 A3 c3 l3 b0 B1 d1 m1 B2 d2 m2 B3 d3 m3 L o w4 HA4.r1 HA4.e1 HA4.r2 HA4.e2 HA4.r3 HA4.e3 HB4.r1 HB4.e1 HB4.r2 HB4.e2 HB4.r3 HB4.e3 hd).mono ?_
  rintro e w5 ⟨v5, rfl, hR5, hb5⟩
  have D5 := Lib.hid (below_step D4.out hb5)
  have HA5 := Lib.hid (HA4.below hb5)
  have HB5 := Lib.hid (HB4.below hb5)
  have X5 := Lib.hid (X4.out.below hb5)
  have Y5 := Lib.hid (Y4.out.below hb5)
  obtain ⟨A5, c5, rfl, hc5, hC5⟩ := Kd.R_reads hR5
  have C5 := Lib.hid hC5
  clear hb5 hR5 hC5 X4 Y4 D4 HA4 HB4 x0 x1 x2 x3 u0 u1 u2 u3
  by_cases hs : o = false ∨ q < 0 ∨ (L.length : Int) ≤ q
  · have hend : ∀ b : Bool, o = b → (b = false ∨ q < 0 ∨ (L.length : Int) ≤ q) := fun b h => h ▸ hs
    cases o with
    | false =>
      go_wp2_with (fail)
      go_ret
      exact ⟨rfl, D5.out⟩
    | true =>
      rcases hs with h | h | h
      · cases h
      · have hd1 : decide (q < 0) = true := decide_eq_true h
        go_wp2_with (fail)
        go_ret
        exact ⟨rfl, D5.out⟩
      · by_cases h0 : q < 0
        · have hd1 : decide (q < 0) = true := decide_eq_true h0
          go_wp2_with (fail)
          go_ret
          exact ⟨rfl, D5.out⟩
        · have hd1 : decide (q < 0) = false := decide_eq_false h0
          have hd2 : decide ((L.length : Int) ≤ q) = true := decide_eq_true h
          go_wp2_with (fail)
          go_ret
          exact ⟨rfl, D5.out⟩
  obtain ⟨ho, h0, h1⟩ : o = true ∧ 0 ≤ q ∧ q < (L.length : Int) := by cases o <;> simp at hs <;> (first | exact ⟨rfl, by omega, by omega⟩ | (exfalso; simp_all))
  subst ho
  have hd1 : decide (q < 0) = false := decide_eq_false (by omega)
  have hd2 : decide ((L.length : Int) ≤ q) = false := decide_eq_false (by omega)
  clear hs
  go_upto_region 6 with (fail)
  obtain ⟨n, rfl⟩ : ∃ n : Nat, q = (n : Int) := ⟨q.toNat, by omega⟩
  obtain ⟨I, T, hset, hown⟩ := hset n rfl (by omega) (by trivial)
  obtain ⟨r1, r2, r3, r4, r5, hr1, hr2, hr3, hr4, hr5⟩ : ∃ r1 r2 r3 r4 r5, r1 = a0 ∧ r2 = I ∧ r3 = T ∧ r4 = l3 ∧ r5 = (0 : Int) := ⟨_, _, _, _, _, rfl, rfl, rfl, rfl, rfl⟩
  have HSET : Hid (field_Set.f k a0 l1 l2 l3 ([] ++ List.take n L ++ List.drop (n + 1) L) = some (r1, r2, r3, r4, r5)) := Lib.hid (by rw [List.nil_append, hset, hr1, hr2, hr3, hr4, hr5])
  rw [← hr1, ← hr2, ← hr3, ← hr4] at hown
  have HOWN := Lib.hid hown
  have HR5 := Lib.hid hr5
  clear hown hset hr1 hr2 hr3 hr4 hr5
  have hnL : n + 1 ≤ L.length := by omega
  obtain ⟨A7, hA7⟩ : ∃ x, x = (if c5 = n + 1 then A5 else A5.map (·.add ((n + 1) * 4))) := ⟨_, rfl⟩
  have CT : Hid (∀ w', Below w5.heap.size w5 w' → Kd.C k75 w' A5 n (List.take n L)) := Lib.hid (fun w' hb => by
    have := Kd.C_take (m := n) (Kd.C_below C5.out hb) (by omega)
    rw [List.length_take, Nat.min_eq_left (by omega)] at this
    exact this)
  have CD : Hid (∀ w', Below w5.heap.size w5 w' → Kd.C k75 w' A7 (L.length - (n + 1)) (List.drop (n + 1) L)) := Lib.hid (fun w' hb => by
    have := Kd.C_drop (m := n + 1) (Kd.C_below C5.out hb) (by omega) hc5
    rw [List.length_drop] at this
    rw [hA7]
    exact this)
  have HCT : Hid (∀ W : World, (Instr.slice 36 (.slice A5 L.length c5) none (some (.int .i64 (n : Int))) none).run Tryd.prog W = .ok (.slice A5 n c5) W) := Lib.hid (by
    have := cut_to (P := Tryd.prog) 36 75 .i64 Tryd.underlying36 rfl A5 L.length c5 (n : Int) (by omega) (by omega) hc5
    rw [Int.toNat_natCast] at this
    exact this)
  have HCF : Hid (∀ W : World, (Instr.slice 36 (.slice A5 L.length c5) (some (.int .i64 ((n : Int) + 1))) none none).run Tryd.prog W = .ok (.slice A7 (L.length - (n + 1)) (c5 - (n + 1))) W) := Lib.hid (by
    have := cut_from (P := Tryd.prog) 36 75 .i64 Tryd.underlying36 rfl 4 rfl A5 L.length c5 ((n : Int) + 1) (by omega) (by omega)
    rw [show ((n : Int) + 1).toNat = n + 1 by omega, ← hA7] at this
    exact this)
  have WR : Hid (wrap64 ((n : Int) + 1) = (n : Int) + 1) := Lib.hid (w64 (by omega) (by omega))
  have ML1 : Hid ((([] : Sets).length + n) * 40 ≤ 140737488355328) := Lib.hid (by simp only [List.length_nil]; omega)
  have ML2 : Hid ((([] ++ List.take n L : Sets).length + (L.length - (n + 1))) * 40 ≤ 140737488355328) := Lib.hid (by rw [List.nil_append, List.length_take]; omega)
  have D : Hid (Below w5.heap.size w5 w5.drew) := Lib.hid (below_drew1 (Below.refl _ w5))
  clear hL hA7
  -- region 6
  refine start_ (n := 18) (S := fun w' => w'.cell? ⟨w.heap.size, 0, none⟩ = some (.int .i64 a0) ∧ w'.cell? ⟨w.heap.size, 1, none⟩ = some (.slice A1 l1.length c1) ∧ w'.cell? ⟨w.heap.size, 2, none⟩ = some (.slice A2 l2.length c2) ∧ w'.cell? ⟨w.heap.size, 3, none⟩ = some (.slice A3 l3.length c3)) (ds := []) #[false, false, false, false, false, false, false, false, false, false, false, false, false, false, false, false, false, false] (by kernel_rfl) rfl rfl (X5.out.below D.out).cells (fun hHeld => ?_)
  generalize w5.drew = w6 at D hHeld ⊢
  refine pureV (i := 2) (N := some 43) #[false, false, true, false, false, false, false, false, false, false, false, false, false, false, false, false, false, false] rfl rfl (by intro w'; (go_simp; try (with_reducible rfl))) ?_
  refine pureV (i := 3) (N := some 44) #[false, false, true, true, false, false, false, false, false, false, false, false, false, false, false, false, false, false] rfl rfl (by intro w'; (go_simp; try (with_reducible rfl))) ?_
  refine pureV (i := 6) (N := some 47) #[false, false, true, true, false, false, true, false, false, false, false, false, false, false, false, false, false, false] rfl rfl (by intro w'; (go_simp; try (with_reducible rfl))) ?_
  refine pureV (i := 7) (N := some 48) #[false, false, true, true, false, false, true, true, false, false, false, false, false, false, false, false, false, false] rfl rfl (by intro w'; (go_simp; try (with_reducible rfl))) ?_
  refine pureV (i := 4) (N := some 45) (v := .slice A5 n c5) #[false, false, true, true, true, false, true, true, false, false, false, false, false, false, false, false, false, false] rfl rfl (by intro w'; have hcut := HCT.out; (go_simp; try (with_reducible rfl))) ?_
  refine pureV (i := 8) (N := some 49) (v := .int .i64 ((n : Int) + 1)) #[false, false, true, true, true, false, true, true, true, false, false, false, false, false, false, false, false, false] rfl rfl (by intro w'; go_simp; simp only [i64_w]; exact WR.out) ?_
  refine pureV (i := 9) (N := some 50) (v := .slice A7 (L.length - (n + 1)) (c5 - (n + 1))) #[false, false, true, true, true, false, true, true, true, true, false, false, false, false, false, false, false, false] rfl rfl (by intro w'; have hcut := HCF.out; (go_simp; try (with_reducible rfl))) ?_
  refine take_ (i := 0) (N := some 41) (v := ?_) (a' := ?_) #[true, false, true, true, true, false, true, true, true, true, false, false, false, false, false, false, false, false] rfl rfl (by kernel_rfl) (fun _ _ _ h => h) (Or.inl ⟨by rfl, ?_⟩) hHeld ?_ ?_
  rotate_left
  · rintro w' ⟨s0, s1, s2, s3⟩; go_simp; with_reducible rfl
  rotate_left
  · simp only [Act.put, List.setIfInBounds_toArray, List.set_cons_zero, List.set_cons_succ, i64_w, i32_w]; rfl
  refine join_ (σ := Value × Value × Value × (Option Addr × Nat) × (Option Addr × Nat) × (Option Addr × Nat) × Nat) 2 #[true, true, true, true, true, true, true, true, true, true, true, true, true, true, true, true, false, false] (fun s_ => [(42, s_.1), (46, s_.2.1), (51, s_.2.2.1), (52, .tuple #[.agg #[.int .i64 r1, .slice s_.2.2.2.1.1 r2.length s_.2.2.2.1.2, .slice s_.2.2.2.2.1.1 r3.length s_.2.2.2.2.1.2, .slice s_.2.2.2.2.2.1.1 r4.length s_.2.2.2.2.2.1.2], .int .i64 r5]), (9, .pointer (some ⟨s_.2.2.2.2.2.2, 0, none⟩)), (40, .tuple #[.agg #[.int .i64 r1, .slice s_.2.2.2.1.1 r2.length s_.2.2.2.1.2, .slice s_.2.2.2.2.1.1 r3.length s_.2.2.2.2.1.2, .slice s_.2.2.2.2.2.1.1 r4.length s_.2.2.2.2.2.1.2], .int .i64 r5]), (53, .agg #[.int .i64 r1, .slice s_.2.2.2.1.1 r2.length s_.2.2.2.1.2, .slice s_.2.2.2.2.1.1 r3.length s_.2.2.2.2.1.2, .slice s_.2.2.2.2.2.1.1 r4.length s_.2.2.2.2.2.1.2]), (54, .int .i64 r5)]) (fun s_ w' => (w'.cell? ⟨w.heap.size, 0, none⟩ = some (.int .i64 a0) ∧ w'.cell? ⟨w.heap.size, 1, none⟩ = some (.slice A1 l1.length c1) ∧ w'.cell? ⟨w.heap.size, 2, none⟩ = some (.slice A2 l2.length c2) ∧ w'.cell? ⟨w.heap.size, 3, none⟩ = some (.slice A3 l3.length c3)) ∧ Below w5.heap.size w5 w' ∧ OutN w5.heap.size w' s_.2.2.2.1.1 s_.2.2.2.1.2 r2 s_.2.2.2.2.1.1 s_.2.2.2.2.1.2 r3 s_.2.2.2.2.2.1.1 s_.2.2.2.2.2.1.2 r4 ∧ NBox w' s_.2.2.2.2.2.2 0 none 0 0 none 0 0 none 0 0 ∧ w5.heap.size ≤ s_.2.2.2.2.2.2) ?_ ?_
  rotate_left
  · intro hCont
    refine two_ (i := 1) (j := 15) (Ni := some 42) (Nj := some 9) #[true, true, true, true, true, false, true, true, true, true, false, false, false, false, false, false, false, false] #[true, false, true, true, true, false, true, true, true, true, false, false, false, false, false, true, false, false] rfl rfl rfl rfl (by kernel_rfl) (by decide) (by decide) (fun K hK => ?_) (fun K hK => ?_)
    · skip
      refine Kd.R_lit_step k75 _ 75 ?hg1 (N := 42) ?hd1 (xs := ([] : Sets)) (inner := []) (ok := fun _ => True) (okp := fun _ => True) ?hr1 ?hp1 (fun _ hk => hk) trivial (Below.refl _ _) (Nat.le_refl _) (by simp) ?_; (case hd1 => rfl); (case hg1 => rfl); (case hr1 => first | (go_simp; done) | (go_simp; rfl)); (case hp1 => exact (Reps.none _ _))
      intro v42 wn ho hb hg_ hnew_
      have HV := Lib.hid (Kd.R_lower ho (below_size D.out))
      replace D := Lib.hid (below_step D.out hb)
      clear ho hb hg_ hnew_
      refine hK.out _ _ (X5.out.below D.out).cells (fun hHeld => ?_)
      clear hK K
      refine norm_ (a' := ?_) ?_ ?_
      rotate_left
      · show Act.put _ (some 42) _ = _
        simp only [Act.put, List.setIfInBounds_toArray, List.set_cons_zero, List.set_cons_succ, i64_w, i32_w]; rfl
      refine two_ (i := 5) (j := 15) (Ni := some 46) (Nj := some 9) #[true, true, true, true, true, true, true, true, true, true, false, false, false, false, false, false, false, false] #[true, true, true, true, true, false, true, true, true, true, false, false, false, false, false, true, false, false] rfl rfl rfl rfl (by kernel_rfl) (by decide) (by decide) (fun K hK => ?_) (fun K hK => ?_)
      · skip
        refine Kd.R_append_rows_step k75 (w0 := w5) w5.heap.size (by rfl) (.tmp 42) (.tmp 45) 36 75 (.agg #[(.bool false), (.int .i64 0), (.int .i64 0), (.string ⟨#[]⟩)]) 40 rfl Tryd.underlying36 info75 rfl (by decide) (by omega) v42 ([] : Sets) (List.take n L) A5 n _ (fun _ => True) (fun _ => False) rfl rfl ?aO2 ?aR2 (fun _ _ h => h) (fun _ h => h.elim) ?aF2 ?aB2 ?aS2 ?aL2 ?_
        (case aR2 => exact CT.out _ D.out)
        (case aB2 => exact D.out)
        (case aF2 => exact (fun _ _ => trivial))
        (case aO2 => exact HV.out)
        (case aS2 => exact below_size D.out)
        (case aL2 => exact ML1.out)
        intro v46 wn ho hb hg hat
        replace HV := Lib.hid ho
        replace D := Lib.hid hb
        clear hb ho hg hat
        refine hK.out _ _ (X5.out.below D.out).cells (fun hHeld => ?_)
        clear hK K
        refine norm_ (a' := ?_) ?_ ?_
        rotate_left
        · show Act.put _ (some 46) _ = _
          simp only [Act.put, List.setIfInBounds_toArray, List.set_cons_zero, List.set_cons_succ, i64_w, i32_w]; rfl
        refine two_ (i := 10) (j := 15) (Ni := some 51) (Nj := some 9) #[true, true, true, true, true, true, true, true, true, true, true, false, false, false, false, false, false, false] #[true, true, true, true, true, true, true, true, true, true, false, false, false, false, false, true, false, false] rfl rfl rfl rfl (by kernel_rfl) (by decide) (by decide) (fun K hK => ?_) (fun K hK => ?_)
        · skip
          refine Kd.R_append_rows_step k75 (w0 := w5) w5.heap.size (by rfl) (.tmp 46) (.tmp 50) 36 75 (.agg #[(.bool false), (.int .i64 0), (.int .i64 0), (.string ⟨#[]⟩)]) 40 rfl Tryd.underlying36 info75 rfl (by decide) (by omega) v46 ([] ++ List.take n L) (List.drop (n + 1) L) A7 (L.length - (n + 1)) _ (fun _ => True) (fun _ => False) rfl rfl ?aO3 ?aR3 (fun _ _ h => h) (fun _ h => h.elim) ?aF3 ?aB3 ?aS3 ?aL3 ?_
          (case aR3 => exact CD.out _ D.out)
          (case aB3 => exact D.out)
          (case aF3 => exact (fun _ _ => trivial))
          (case aO3 => exact HV.out)
          (case aS3 => exact below_size D.out)
          (case aL3 => exact ML2.out)
          intro v51 wn ho hb hg hat
          replace HV := Lib.hid ho
          replace D := Lib.hid hb
          clear hb ho hg hat
          obtain ⟨A51, c51, e51⟩ := Kd.R_slice HV.out
          subst e51
          refine hK.out _ _ (X5.out.below D.out).cells (fun hHeld => ?_)
          clear hK K
          refine norm_ (a' := ?_) ?_ ?_
          rotate_left
          · show Act.put _ (some 51) _ = _
            simp only [Act.put, List.setIfInBounds_toArray, List.set_cons_zero, List.set_cons_succ, i64_w, i32_w]; rfl
          refine two_ (i := 11) (j := 15) (Ni := some 52) (Nj := some 9) #[true, true, true, true, true, true, true, true, true, true, true, true, false, false, false, false, false, false] #[true, true, true, true, true, true, true, true, true, true, true, false, false, false, false, true, false, false] rfl rfl rfl rfl (by kernel_rfl) (by decide) (by decide) (fun K hK => ?_) (fun K hK => ?_)
          · skip
            refine goes_ Tryd.func18 (by kernel_rfl) rfl #[.agg #[.int .i64 a0, .slice A1 l1.length c1, .slice A2 l2.length c2, .slice A3 l3.length c3], .slice A51 ([] ++ List.take n L ++ List.drop (n + 1) L).length c51] (by rfl) rfl rfl (by (try simp only [List.map_toArray, List.map_cons, List.map_nil]); first | done | rfl) ?_
            have HI := HA5.out.below D.out
            refine (field_Set.calls k a0 A1 c1 l1 A2 c2 l2 A3 c3 l3 A51 c51 ([] ++ List.take n L ++ List.drop (n + 1) L) r1 r2 r3 r4 r5 _ HI.r1 HI.e1 HI.r2 HI.e2 HI.r3 HI.e3 (Kd.R_reads' HV.out).2.2 (Kd.R_reads' HV.out).2.1 HSET.out).mono ?_
            clear HI
            rintro e wn ⟨v1, v2, v3, rfl, ho1, ho2, ho3, hb⟩
            obtain ⟨E1, f1, rfl, hf1, hE1⟩ := Kd.R_reads ho1
            obtain ⟨E2, f2, rfl, hf2, hE2⟩ := Kd.R_reads ho2
            obtain ⟨E3, f3, rfl, hf3, hE3⟩ := Kd.R_reads ho3
            have HE := Lib.hid (show OutN w5.heap.size wn E1 f1 r2 E2 f2 r3 E3 f3 r4 from ⟨Kd.R_lower ho1 (below_size D.out), Kd.R_lower ho2 (below_size D.out), Kd.R_lower ho3 (below_size D.out)⟩)
            refine ⟨_, rfl, ?_⟩
            replace D := Lib.hid (below_step D.out hb)
            clear HV hb ho1 ho2 ho3 hf1 hE1 hf2 hE2 hf3 hE3
            refine hK.out _ _ (X5.out.below D.out).cells (fun hHeld => ?_)
            clear hK K
            refine norm_ (a' := ?_) ?_ ?_
            rotate_left
            · show Act.put _ (some 52) _ = _
              simp only [Act.put, List.setIfInBounds_toArray, List.set_cons_zero, List.set_cons_succ, i64_w, i32_w]; rfl
            refine pureV (i := 12) (N := some 40) #[true, true, true, true, true, true, true, true, true, true, true, true, true, false, false, false, false, false] rfl rfl (by intro w'; (go_simp; try (with_reducible rfl))) ?_
            refine pureV (i := 13) (N := some 53) #[true, true, true, true, true, true, true, true, true, true, true, true, true, true, false, false, false, false] rfl rfl (by intro w'; (go_simp; try (with_reducible rfl))) ?_
            refine pureV (i := 14) (N := some 54) #[true, true, true, true, true, true, true, true, true, true, true, true, true, true, true, false, false, false] rfl rfl (by intro w'; (go_simp; try (with_reducible rfl))) ?_
            refine one_ (i := 15) (N := some 9) #[true, true, true, true, true, true, true, true, true, true, true, true, true, true, true, true, false, false] rfl rfl (by kernel_rfl) (by decide) (fun K hK => ?_)
            refine box_step ?hg4 (N := 9) ?hd4 (cs := #[.int .i64 0, .slice none 0 0, .slice none 0 0, .slice none 0 0]) (t := 26) ?hr4 ?_; (case hd4 => rfl); (case hg4 => rfl); (case hr4 => first | (go_simp; done) | (go_simp; rfl))
            intro g9 hg wn hbox hb
            have BK := Lib.hid (show NBox wn g9 0 none 0 0 none 0 0 none 0 0 from hbox)
            have GE := Lib.hid (show w5.heap.size ≤ g9 by rw [hg]; exact below_size D.out)
            replace HE := Lib.hid (HE.out.below hb)
            replace D := Lib.hid (below_step D.out hb)
            clear hbox hb hg
            refine hK.out _ _ (X5.out.below D.out).cells (fun hHeld => ?_)
            clear hK K
            refine norm_ (a' := ?_) ?_ ?_
            rotate_left
            · show Act.put _ (some 9) _ = _
              simp only [Act.put, List.setIfInBounds_toArray, List.set_cons_zero, List.set_cons_succ, i64_w, i32_w]; rfl
            exact norm_ (by first | (simp only [putAll, Act.put, List.setIfInBounds_toArray, List.set_cons_zero, List.set_cons_succ]; done) | (simp only [putAll, Act.put, List.setIfInBounds_toArray, List.set_cons_zero, List.set_cons_succ]; rfl)) (hCont (v42, v46, .slice A51 ([] ++ List.take n L ++ List.drop (n + 1) L).length c51, (E1, f1), (E2, f2), (E3, f3), g9) _ ⟨hHeld, D.out, HE.out, BK.out, GE.out⟩)
          · skip
            refine box_step ?hg5 (N := 9) ?hd5 (cs := #[.int .i64 0, .slice none 0 0, .slice none 0 0, .slice none 0 0]) (t := 26) ?hr5 ?_; (case hd5 => rfl); (case hg5 => rfl); (case hr5 => first | (go_simp; done) | (go_simp; rfl))
            intro g9 hg wn hbox hb
            have BK := Lib.hid (show NBox wn g9 0 none 0 0 none 0 0 none 0 0 from hbox)
            have GE := Lib.hid (show w5.heap.size ≤ g9 by rw [hg]; exact below_size D.out)
            replace HV := Lib.hid (Kd.R_below HV.out hb)
            replace D := Lib.hid (below_step D.out hb)
            clear hbox hb hg
            refine hK.out _ _ (X5.out.below D.out).cells (fun hHeld => ?_)
            clear hK K
            refine norm_ (a' := ?_) ?_ ?_
            rotate_left
            · show Act.put _ (some 9) _ = _
              simp only [Act.put, List.setIfInBounds_toArray, List.set_cons_zero, List.set_cons_succ, i64_w, i32_w]; rfl
            refine one_ (i := 11) (N := some 52) #[true, true, true, true, true, true, true, true, true, true, true, true, false, false, false, true, false, false] rfl rfl (by kernel_rfl) (by decide) (fun K hK => ?_)
            refine goes_ Tryd.func18 (by kernel_rfl) rfl #[.agg #[.int .i64 a0, .slice A1 l1.length c1, .slice A2 l2.length c2, .slice A3 l3.length c3], .slice A51 ([] ++ List.take n L ++ List.drop (n + 1) L).length c51] (by rfl) rfl rfl (by (try simp only [List.map_toArray, List.map_cons, List.map_nil]); first | done | rfl) ?_
            have HI := HA5.out.below D.out
            refine (field_Set.calls k a0 A1 c1 l1 A2 c2 l2 A3 c3 l3 A51 c51 ([] ++ List.take n L ++ List.drop (n + 1) L) r1 r2 r3 r4 r5 _ HI.r1 HI.e1 HI.r2 HI.e2 HI.r3 HI.e3 (Kd.R_reads' HV.out).2.2 (Kd.R_reads' HV.out).2.1 HSET.out).mono ?_
            clear HI
            rintro e wn ⟨v1, v2, v3, rfl, ho1, ho2, ho3, hb⟩
            obtain ⟨E1, f1, rfl, hf1, hE1⟩ := Kd.R_reads ho1
            obtain ⟨E2, f2, rfl, hf2, hE2⟩ := Kd.R_reads ho2
            obtain ⟨E3, f3, rfl, hf3, hE3⟩ := Kd.R_reads ho3
            have HE := Lib.hid (show OutN w5.heap.size wn E1 f1 r2 E2 f2 r3 E3 f3 r4 from ⟨Kd.R_lower ho1 (below_size D.out), Kd.R_lower ho2 (below_size D.out), Kd.R_lower ho3 (below_size D.out)⟩)
            refine ⟨_, rfl, ?_⟩
            replace BK := Lib.hid (BK.out.below hb)
            replace D := Lib.hid (below_step D.out hb)
            clear HV hb ho1 ho2 ho3 hf1 hE1 hf2 hE2 hf3 hE3
            refine hK.out _ _ (X5.out.below D.out).cells (fun hHeld => ?_)
            clear hK K
            refine norm_ (a' := ?_) ?_ ?_
            rotate_left
            · show Act.put _ (some 52) _ = _
              simp only [Act.put, List.setIfInBounds_toArray, List.set_cons_zero, List.set_cons_succ, i64_w, i32_w]; rfl
            refine pureV (i := 12) (N := some 40) #[true, true, true, true, true, true, true, true, true, true, true, true, true, false, false, true, false, false] rfl rfl (by intro w'; (go_simp; try (with_reducible rfl))) ?_
            refine pureV (i := 13) (N := some 53) #[true, true, true, true, true, true, true, true, true, true, true, true, true, true, false, true, false, false] rfl rfl (by intro w'; (go_simp; try (with_reducible rfl))) ?_
            refine pureV (i := 14) (N := some 54) #[true, true, true, true, true, true, true, true, true, true, true, true, true, true, true, true, false, false] rfl rfl (by intro w'; (go_simp; try (with_reducible rfl))) ?_
            exact norm_ (by first | (simp only [putAll, Act.put, List.setIfInBounds_toArray, List.set_cons_zero, List.set_cons_succ]; done) | (simp only [putAll, Act.put, List.setIfInBounds_toArray, List.set_cons_zero, List.set_cons_succ]; rfl)) (hCont (v42, v46, .slice A51 ([] ++ List.take n L ++ List.drop (n + 1) L).length c51, (E1, f1), (E2, f2), (E3, f3), g9) _ ⟨hHeld, D.out, HE.out, BK.out, GE.out⟩)
        · skip
          refine box_step ?hg6 (N := 9) ?hd6 (cs := #[.int .i64 0, .slice none 0 0, .slice none 0 0, .slice none 0 0]) (t := 26) ?hr6 ?_; (case hd6 => rfl); (case hg6 => rfl); (case hr6 => first | (go_simp; done) | (go_simp; rfl))
          intro g9 hg wn hbox hb
          have BK := Lib.hid (show NBox wn g9 0 none 0 0 none 0 0 none 0 0 from hbox)
          have GE := Lib.hid (show w5.heap.size ≤ g9 by rw [hg]; exact below_size D.out)
          replace HV := Lib.hid (Kd.R_below HV.out hb)
          replace D := Lib.hid (below_step D.out hb)
          clear hbox hb hg
          refine hK.out _ _ (X5.out.below D.out).cells (fun hHeld => ?_)
          clear hK K
          refine norm_ (a' := ?_) ?_ ?_
          rotate_left
          · show Act.put _ (some 9) _ = _
            simp only [Act.put, List.setIfInBounds_toArray, List.set_cons_zero, List.set_cons_succ, i64_w, i32_w]; rfl
          refine one_ (i := 10) (N := some 51) #[true, true, true, true, true, true, true, true, true, true, true, false, false, false, false, true, false, false] rfl rfl (by kernel_rfl) (by decide) (fun K hK => ?_)
          refine Kd.R_append_rows_step k75 (w0 := w5) w5.heap.size (by rfl) (.tmp 46) (.tmp 50) 36 75 (.agg #[(.bool false), (.int .i64 0), (.int .i64 0), (.string ⟨#[]⟩)]) 40 rfl Tryd.underlying36 info75 rfl (by decide) (by omega) v46 ([] ++ List.take n L) (List.drop (n + 1) L) A7 (L.length - (n + 1)) _ (fun _ => True) (fun _ => False) rfl rfl ?aO7 ?aR7 (fun _ _ h => h) (fun _ h => h.elim) ?aF7 ?aB7 ?aS7 ?aL7 ?_
          (case aR7 => exact CD.out _ D.out)
          (case aB7 => exact D.out)
          (case aF7 => exact (fun _ _ => trivial))
          (case aO7 => exact HV.out)
          (case aS7 => exact below_size D.out)
          (case aL7 => exact ML2.out)
          intro v51 wn ho hb hg hat
          replace BK := Lib.hid (show NBox wn g9 0 none 0 0 none 0 0 none 0 0 from blk_grown BK.out hg (Kd.R_ne HV.out BK.out (by decide)))
          replace HV := Lib.hid ho
          replace D := Lib.hid hb
          clear hb ho hg hat
          obtain ⟨A51, c51, e51⟩ := Kd.R_slice HV.out
          subst e51
          refine hK.out _ _ (X5.out.below D.out).cells (fun hHeld => ?_)
          clear hK K
          refine norm_ (a' := ?_) ?_ ?_
          rotate_left
          · show Act.put _ (some 51) _ = _
            simp only [Act.put, List.setIfInBounds_toArray, List.set_cons_zero, List.set_cons_succ, i64_w, i32_w]; rfl
          refine one_ (i := 11) (N := some 52) #[true, true, true, true, true, true, true, true, true, true, true, true, false, false, false, true, false, false] rfl rfl (by kernel_rfl) (by decide) (fun K hK => ?_)
          refine goes_ Tryd.func18 (by kernel_rfl) rfl #[.agg #[.int .i64 a0, .slice A1 l1.length c1, .slice A2 l2.length c2, .slice A3 l3.length c3], .slice A51 ([] ++ List.take n L ++ List.drop (n + 1) L).length c51] (by rfl) rfl rfl (by (try simp only [List.map_toArray, List.map_cons, List.map_nil]); first | done | rfl) ?_
          have HI := HA5.out.below D.out
          refine (field_Set.calls k a0 A1 c1 l1 A2 c2 l2 A3 c3 l3 A51 c51 ([] ++ List.take n L ++ List.drop (n + 1) L) r1 r2 r3 r4 r5 _ HI.r1 HI.e1 HI.r2 HI.e2 HI.r3 HI.e3 (Kd.R_reads' HV.out).2.2 (Kd.R_reads' HV.out).2.1 HSET.out).mono ?_
          clear HI
          rintro e wn ⟨v1, v2, v3, rfl, ho1, ho2, ho3, hb⟩
          obtain ⟨E1, f1, rfl, hf1, hE1⟩ := Kd.R_reads ho1
          obtain ⟨E2, f2, rfl, hf2, hE2⟩ := Kd.R_reads ho2
          obtain ⟨E3, f3, rfl, hf3, hE3⟩ := Kd.R_reads ho3
          have HE := Lib.hid (show OutN w5.heap.size wn E1 f1 r2 E2 f2 r3 E3 f3 r4 from ⟨Kd.R_lower ho1 (below_size D.out), Kd.R_lower ho2 (below_size D.out), Kd.R_lower ho3 (below_size D.out)⟩)
          refine ⟨_, rfl, ?_⟩
          replace BK := Lib.hid (BK.out.below hb)
          replace D := Lib.hid (below_step D.out hb)
          clear HV hb ho1 ho2 ho3 hf1 hE1 hf2 hE2 hf3 hE3
          refine hK.out _ _ (X5.out.below D.out).cells (fun hHeld => ?_)
          clear hK K
          refine norm_ (a' := ?_) ?_ ?_
          rotate_left
          · show Act.put _ (some 52) _ = _
            simp only [Act.put, List.setIfInBounds_toArray, List.set_cons_zero, List.set_cons_succ, i64_w, i32_w]; rfl
          refine pureV (i := 12) (N := some 40) #[true, true, true, true, true, true, true, true, true, true, true, true, true, false, false, true, false, false] rfl rfl (by intro w'; (go_simp; try (with_reducible rfl))) ?_
          refine pureV (i := 13) (N := some 53) #[true, true, true, true, true, true, true, true, true, true, true, true, true, true, false, true, false, false] rfl rfl (by intro w'; (go_simp; try (with_reducible rfl))) ?_
          refine pureV (i := 14) (N := some 54) #[true, true, true, true, true, true, true, true, true, true, true, true, true, true, true, true, false, false] rfl rfl (by intro w'; (go_simp; try (with_reducible rfl))) ?_
          exact norm_ (by first | (simp only [putAll, Act.put, List.setIfInBounds_toArray, List.set_cons_zero, List.set_cons_succ]; done) | (simp only [putAll, Act.put, List.setIfInBounds_toArray, List.set_cons_zero, List.set_cons_succ]; rfl)) (hCont (v42, v46, .slice A51 ([] ++ List.take n L ++ List.drop (n + 1) L).length c51, (E1, f1), (E2, f2), (E3, f3), g9) _ ⟨hHeld, D.out, HE.out, BK.out, GE.out⟩)
      · skip
        refine box_step ?hg8 (N := 9) ?hd8 (cs := #[.int .i64 0, .slice none 0 0, .slice none 0 0, .slice none 0 0]) (t := 26) ?hr8 ?_; (case hd8 => rfl); (case hg8 => rfl); (case hr8 => first | (go_simp; done) | (go_simp; rfl))
        intro g9 hg wn hbox hb
        have BK := Lib.hid (show NBox wn g9 0 none 0 0 none 0 0 none 0 0 from hbox)
        have GE := Lib.hid (show w5.heap.size ≤ g9 by rw [hg]; exact below_size D.out)
        replace HV := Lib.hid (Kd.R_below HV.out hb)
        replace D := Lib.hid (below_step D.out hb)
        clear hbox hb hg
        refine hK.out _ _ (X5.out.below D.out).cells (fun hHeld => ?_)
        clear hK K
        refine norm_ (a' := ?_) ?_ ?_
        rotate_left
        · show Act.put _ (some 9) _ = _
          simp only [Act.put, List.setIfInBounds_toArray, List.set_cons_zero, List.set_cons_succ, i64_w, i32_w]; rfl
        refine one_ (i := 5) (N := some 46) #[true, true, true, true, true, true, true, true, true, true, false, false, false, false, false, true, false, false] rfl rfl (by kernel_rfl) (by decide) (fun K hK => ?_)
        refine Kd.R_append_rows_step k75 (w0 := w5) w5.heap.size (by rfl) (.tmp 42) (.tmp 45) 36 75 (.agg #[(.bool false), (.int .i64 0), (.int .i64 0), (.string ⟨#[]⟩)]) 40 rfl Tryd.underlying36 info75 rfl (by decide) (by omega) v42 ([] : Sets) (List.take n L) A5 n _ (fun _ => True) (fun _ => False) rfl rfl ?aO9 ?aR9 (fun _ _ h => h) (fun _ h => h.elim) ?aF9 ?aB9 ?aS9 ?aL9 ?_
        (case aR9 => exact CT.out _ D.out)
        (case aB9 => exact D.out)
        (case aF9 => exact (fun _ _ => trivial))
        (case aO9 => exact HV.out)
        (case aS9 => exact below_size D.out)
        (case aL9 => exact ML1.out)
        intro v46 wn ho hb hg hat
        replace BK := Lib.hid (show NBox wn g9 0 none 0 0 none 0 0 none 0 0 from blk_grown BK.out hg (Kd.R_ne HV.out BK.out (by decide)))
        replace HV := Lib.hid ho
        replace D := Lib.hid hb
        clear hb ho hg hat
        refine hK.out _ _ (X5.out.below D.out).cells (fun hHeld => ?_)
        clear hK K
        refine norm_ (a' := ?_) ?_ ?_
        rotate_left
        · show Act.put _ (some 46) _ = _
          simp only [Act.put, List.setIfInBounds_toArray, List.set_cons_zero, List.set_cons_succ, i64_w, i32_w]; rfl
        refine one_ (i := 10) (N := some 51) #[true, true, true, true, true, true, true, true, true, true, true, false, false, false, false, true, false, false] rfl rfl (by kernel_rfl) (by decide) (fun K hK => ?_)
        refine Kd.R_append_rows_step k75 (w0 := w5) w5.heap.size (by rfl) (.tmp 46) (.tmp 50) 36 75 (.agg #[(.bool false), (.int .i64 0), (.int .i64 0), (.string ⟨#[]⟩)]) 40 rfl Tryd.underlying36 info75 rfl (by decide) (by omega) v46 ([] ++ List.take n L) (List.drop (n + 1) L) A7 (L.length - (n + 1)) _ (fun _ => True) (fun _ => False) rfl rfl ?aO10 ?aR10 (fun _ _ h => h) (fun _ h => h.elim) ?aF10 ?aB10 ?aS10 ?aL10 ?_
        (case aR10 => exact CD.out _ D.out)
        (case aB10 => exact D.out)
        (case aF10 => exact (fun _ _ => trivial))
        (case aO10 => exact HV.out)
        (case aS10 => exact below_size D.out)
        (case aL10 => exact ML2.out)
        intro v51 wn ho hb hg hat
        replace BK := Lib.hid (show NBox wn g9 0 none 0 0 none 0 0 none 0 0 from blk_grown BK.out hg (Kd.R_ne HV.out BK.out (by decide)))
        replace HV := Lib.hid ho
        replace D := Lib.hid hb
        clear hb ho hg hat
        obtain ⟨A51, c51, e51⟩ := Kd.R_slice HV.out
        subst e51
        refine hK.out _ _ (X5.out.below D.out).cells (fun hHeld => ?_)
        clear hK K
        refine norm_ (a' := ?_) ?_ ?_
        rotate_left
        · show Act.put _ (some 51) _ = _
          simp only [Act.put, List.setIfInBounds_toArray, List.set_cons_zero, List.set_cons_succ, i64_w, i32_w]; rfl
        refine one_ (i := 11) (N := some 52) #[true, true, true, true, true, true, true, true, true, true, true, true, false, false, false, true, false, false] rfl rfl (by kernel_rfl) (by decide) (fun K hK => ?_)
        refine goes_ Tryd.func18 (by kernel_rfl) rfl #[.agg #[.int .i64 a0, .slice A1 l1.length c1, .slice A2 l2.length c2, .slice A3 l3.length c3], .slice A51 ([] ++ List.take n L ++ List.drop (n + 1) L).length c51] (by rfl) rfl rfl (by (try simp only [List.map_toArray, List.map_cons, List.map_nil]); first | done | rfl) ?_
        have HI := HA5.out.below D.out
        refine (field_Set.calls k a0 A1 c1 l1 A2 c2 l2 A3 c3 l3 A51 c51 ([] ++ List.take n L ++ List.drop (n + 1) L) r1 r2 r3 r4 r5 _ HI.r1 HI.e1 HI.r2 HI.e2 HI.r3 HI.e3 (Kd.R_reads' HV.out).2.2 (Kd.R_reads' HV.out).2.1 HSET.out).mono ?_
        clear HI
        rintro e wn ⟨v1, v2, v3, rfl, ho1, ho2, ho3, hb⟩
        obtain ⟨E1, f1, rfl, hf1, hE1⟩ := Kd.R_reads ho1
        obtain ⟨E2, f2, rfl, hf2, hE2⟩ := Kd.R_reads ho2
        obtain ⟨E3, f3, rfl, hf3, hE3⟩ := Kd.R_reads ho3
        have HE := Lib.hid (show OutN w5.heap.size wn E1 f1 r2 E2 f2 r3 E3 f3 r4 from ⟨Kd.R_lower ho1 (below_size D.out), Kd.R_lower ho2 (below_size D.out), Kd.R_lower ho3 (below_size D.out)⟩)
        refine ⟨_, rfl, ?_⟩
        replace BK := Lib.hid (BK.out.below hb)
        replace D := Lib.hid (below_step D.out hb)
        clear HV hb ho1 ho2 ho3 hf1 hE1 hf2 hE2 hf3 hE3
        refine hK.out _ _ (X5.out.below D.out).cells (fun hHeld => ?_)
        clear hK K
        refine norm_ (a' := ?_) ?_ ?_
        rotate_left
        · show Act.put _ (some 52) _ = _
          simp only [Act.put, List.setIfInBounds_toArray, List.set_cons_zero, List.set_cons_succ, i64_w, i32_w]; rfl
        refine pureV (i := 12) (N := some 40) #[true, true, true, true, true, true, true, true, true, true, true, true, true, false, false, true, false, false] rfl rfl (by intro w'; (go_simp; try (with_reducible rfl))) ?_
        refine pureV (i := 13) (N := some 53) #[true, true, true, true, true, true, true, true, true, true, true, true, true, true, false, true, false, false] rfl rfl (by intro w'; (go_simp; try (with_reducible rfl))) ?_
        refine pureV (i := 14) (N := some 54) #[true, true, true, true, true, true, true, true, true, true, true, true, true, true, true, true, false, false] rfl rfl (by intro w'; (go_simp; try (with_reducible rfl))) ?_
        exact norm_ (by first | (simp only [putAll, Act.put, List.setIfInBounds_toArray, List.set_cons_zero, List.set_cons_succ]; done) | (simp only [putAll, Act.put, List.setIfInBounds_toArray, List.set_cons_zero, List.set_cons_succ]; rfl)) (hCont (v42, v46, .slice A51 ([] ++ List.take n L ++ List.drop (n + 1) L).length c51, (E1, f1), (E2, f2), (E3, f3), g9) _ ⟨hHeld, D.out, HE.out, BK.out, GE.out⟩)
    · skip
      refine box_step ?hg11 (N := 9) ?hd11 (cs := #[.int .i64 0, .slice none 0 0, .slice none 0 0, .slice none 0 0]) (t := 26) ?hr11 ?_; (case hd11 => rfl); (case hg11 => rfl); (case hr11 => first | (go_simp; done) | (go_simp; rfl))
      intro g9 hg wn hbox hb
      have BK := Lib.hid (show NBox wn g9 0 none 0 0 none 0 0 none 0 0 from hbox)
      have GE := Lib.hid (show w5.heap.size ≤ g9 by rw [hg]; exact below_size D.out)
      replace D := Lib.hid (below_step D.out hb)
      clear hbox hb hg
      refine hK.out _ _ (X5.out.below D.out).cells (fun hHeld => ?_)
      clear hK K
      refine norm_ (a' := ?_) ?_ ?_
      rotate_left
      · show Act.put _ (some 9) _ = _
        simp only [Act.put, List.setIfInBounds_toArray, List.set_cons_zero, List.set_cons_succ, i64_w, i32_w]; rfl
      refine one_ (i := 1) (N := some 42) #[true, true, true, true, true, false, true, true, true, true, false, false, false, false, false, true, false, false] rfl rfl (by kernel_rfl) (by decide) (fun K hK => ?_)
      refine Kd.R_lit_step k75 _ 75 ?hg12 (N := 42) ?hd12 (xs := ([] : Sets)) (inner := []) (ok := fun _ => True) (okp := fun _ => True) ?hr12 ?hp12 (fun _ hk => hk) trivial (Below.refl _ _) (Nat.le_refl _) (by simp) ?_; (case hd12 => rfl); (case hg12 => rfl); (case hr12 => first | (go_simp; done) | (go_simp; rfl)); (case hp12 => exact (Reps.none _ _))
      intro v42 wn ho hb hg_ hnew_
      have HV := Lib.hid (Kd.R_lower ho (below_size D.out))
      replace BK := Lib.hid (BK.out.below hb)
      replace D := Lib.hid (below_step D.out hb)
      clear ho hb hg_ hnew_
      refine hK.out _ _ (X5.out.below D.out).cells (fun hHeld => ?_)
      clear hK K
      refine norm_ (a' := ?_) ?_ ?_
      rotate_left
      · show Act.put _ (some 42) _ = _
        simp only [Act.put, List.setIfInBounds_toArray, List.set_cons_zero, List.set_cons_succ, i64_w, i32_w]; rfl
      refine one_ (i := 5) (N := some 46) #[true, true, true, true, true, true, true, true, true, true, false, false, false, false, false, true, false, false] rfl rfl (by kernel_rfl) (by decide) (fun K hK => ?_)
      refine Kd.R_append_rows_step k75 (w0 := w5) w5.heap.size (by rfl) (.tmp 42) (.tmp 45) 36 75 (.agg #[(.bool false), (.int .i64 0), (.int .i64 0), (.string ⟨#[]⟩)]) 40 rfl Tryd.underlying36 info75 rfl (by decide) (by omega) v42 ([] : Sets) (List.take n L) A5 n _ (fun _ => True) (fun _ => False) rfl rfl ?aO13 ?aR13 (fun _ _ h => h) (fun _ h => h.elim) ?aF13 ?aB13 ?aS13 ?aL13 ?_
      (case aR13 => exact CT.out _ D.out)
      (case aB13 => exact D.out)
      (case aF13 => exact (fun _ _ => trivial))
      (case aO13 => exact HV.out)
      (case aS13 => exact below_size D.out)
      (case aL13 => exact ML1.out)
      intro v46 wn ho hb hg hat
      replace BK := Lib.hid (show NBox wn g9 0 none 0 0 none 0 0 none 0 0 from blk_grown BK.out hg (Kd.R_ne HV.out BK.out (by decide)))
      replace HV := Lib.hid ho
      replace D := Lib.hid hb
      clear hb ho hg hat
      refine hK.out _ _ (X5.out.below D.out).cells (fun hHeld => ?_)
      clear hK K
      refine norm_ (a' := ?_) ?_ ?_
      rotate_left
      · show Act.put _ (some 46) _ = _
        simp only [Act.put, List.setIfInBounds_toArray, List.set_cons_zero, List.set_cons_succ, i64_w, i32_w]; rfl
      refine one_ (i := 10) (N := some 51) #[true, true, true, true, true, true, true, true, true, true, true, false, false, false, false, true, false, false] rfl rfl (by kernel_rfl) (by decide) (fun K hK => ?_)
      refine Kd.R_append_rows_step k75 (w0 := w5) w5.heap.size (by rfl) (.tmp 46) (.tmp 50) 36 75 (.agg #[(.bool false), (.int .i64 0), (.int .i64 0), (.string ⟨#[]⟩)]) 40 rfl Tryd.underlying36 info75 rfl (by decide) (by omega) v46 ([] ++ List.take n L) (List.drop (n + 1) L) A7 (L.length - (n + 1)) _ (fun _ => True) (fun _ => False) rfl rfl ?aO14 ?aR14 (fun _ _ h => h) (fun _ h => h.elim) ?aF14 ?aB14 ?aS14 ?aL14 ?_
      (case aR14 => exact CD.out _ D.out)
      (case aB14 => exact D.out)
      (case aF14 => exact (fun _ _ => trivial))
      (case aO14 => exact HV.out)
      (case aS14 => exact below_size D.out)
      (case aL14 => exact ML2.out)
      intro v51 wn ho hb hg hat
      replace BK := Lib.hid (show NBox wn g9 0 none 0 0 none 0 0 none 0 0 from blk_grown BK.out hg (Kd.R_ne HV.out BK.out (by decide)))
      replace HV := Lib.hid ho
      replace D := Lib.hid hb
      clear hb ho hg hat
      obtain ⟨A51, c51, e51⟩ := Kd.R_slice HV.out
      subst e51
      refine hK.out _ _ (X5.out.below D.out).cells (fun hHeld => ?_)
      clear hK K
      refine norm_ (a' := ?_) ?_ ?_
      rotate_left
      · show Act.put _ (some 51) _ = _
        simp only [Act.put, List.setIfInBounds_toArray, List.set_cons_zero, List.set_cons_succ, i64_w, i32_w]; rfl
      refine one_ (i := 11) (N := some 52) #[true, true, true, true, true, true, true, true, true, true, true, true, false, false, false, true, false, false] rfl rfl (by kernel_rfl) (by decide) (fun K hK => ?_)
      refine goes_ Tryd.func18 (by kernel_rfl) rfl #[.agg #[.int .i64 a0, .slice A1 l1.length c1, .slice A2 l2.length c2, .slice A3 l3.length c3], .slice A51 ([] ++ List.take n L ++ List.drop (n + 1) L).length c51] (by rfl) rfl rfl (by (try simp only [List.map_toArray, List.map_cons, List.map_nil]); first | done | rfl) ?_
      have HI := HA5.out.below D.out
      refine (field_Set.calls k a0 A1 c1 l1 A2 c2 l2 A3 c3 l3 A51 c51 ([] ++ List.take n L ++ List.drop (n + 1) L) r1 r2 r3 r4 r5 _ HI.r1 HI.e1 HI.r2 HI.e2 HI.r3 HI.e3 (Kd.R_reads' HV.out).2.2 (Kd.R_reads' HV.out).2.1 HSET.out).mono ?_
      clear HI
      rintro e wn ⟨v1, v2, v3, rfl, ho1, ho2, ho3, hb⟩
      obtain ⟨E1, f1, rfl, hf1, hE1⟩ := Kd.R_reads ho1
      obtain ⟨E2, f2, rfl, hf2, hE2⟩ := Kd.R_reads ho2
      obtain ⟨E3, f3, rfl, hf3, hE3⟩ := Kd.R_reads ho3
      have HE := Lib.hid (show OutN w5.heap.size wn E1 f1 r2 E2 f2 r3 E3 f3 r4 from ⟨Kd.R_lower ho1 (below_size D.out), Kd.R_lower ho2 (below_size D.out), Kd.R_lower ho3 (below_size D.out)⟩)
      refine ⟨_, rfl, ?_⟩
      replace BK := Lib.hid (BK.out.below hb)
      replace D := Lib.hid (below_step D.out hb)
      clear HV hb ho1 ho2 ho3 hf1 hE1 hf2 hE2 hf3 hE3
      refine hK.out _ _ (X5.out.below D.out).cells (fun hHeld => ?_)
      clear hK K
      refine norm_ (a' := ?_) ?_ ?_
      rotate_left
      · show Act.put _ (some 52) _ = _
        simp only [Act.put, List.setIfInBounds_toArray, List.set_cons_zero, List.set_cons_succ, i64_w, i32_w]; rfl
      refine pureV (i := 12) (N := some 40) #[true, true, true, true, true, true, true, true, true, true, true, true, true, false, false, true, false, false] rfl rfl (by intro w'; (go_simp; try (with_reducible rfl))) ?_
      refine pureV (i := 13) (N := some 53) #[true, true, true, true, true, true, true, true, true, true, true, true, true, true, false, true, false, false] rfl rfl (by intro w'; (go_simp; try (with_reducible rfl))) ?_
      refine pureV (i := 14) (N := some 54) #[true, true, true, true, true, true, true, true, true, true, true, true, true, true, true, true, false, false] rfl rfl (by intro w'; (go_simp; try (with_reducible rfl))) ?_
      exact norm_ (by first | (simp only [putAll, Act.put, List.setIfInBounds_toArray, List.set_cons_zero, List.set_cons_succ]; done) | (simp only [putAll, Act.put, List.setIfInBounds_toArray, List.set_cons_zero, List.set_cons_succ]; rfl)) (hCont (v42, v46, .slice A51 ([] ++ List.take n L ++ List.drop (n + 1) L).length c51, (E1, f1), (E2, f2), (E3, f3), g9) _ ⟨hHeld, D.out, HE.out, BK.out, GE.out⟩)
  -- end of region 6
  rintro ⟨v42, v46, v51, ⟨E1, f1⟩, ⟨E2, f2⟩, ⟨E3, f3⟩, g9⟩ W ⟨hHeld, hD, hE, hB, hG⟩
  have DW := Lib.hid (show Below w5.heap.size w5 W from hD)
  have HE := Lib.hid (show OutN w5.heap.size W E1 f1 r2 E2 f2 r3 E3 f3 r4 from hE)
  have BK := Lib.hid (show NBox W g9 0 none 0 0 none 0 0 none 0 0 from hB)
  have GE := Lib.hid (show w5.heap.size ≤ g9 from hG)
  clear hD hE hB hG D
  refine norm_ (a' := ?_) ?_ ?_
  rotate_left
  · simp only [putAll, Act.put, List.setIfInBounds_toArray, List.set_cons_zero, List.set_cons_succ]
    rfl
  refine one_ (i := 16) (N := none) #[true, true, true, true, true, true, true, true, true, true, true, true, true, true, true, true, true, false] rfl rfl (by kernel_rfl) (by decide) (fun K hK => ?_)
  have hs0 : W.cell? ⟨g9, 0, none⟩ = some (.int .i64 0) := (blk_cell BK.out 0).trans rfl
  have hs1 : W.cell? ⟨g9, 1, none⟩ = some (.slice none 0 0) := (blk_cell BK.out 1).trans rfl
  have hs2 : W.cell? ⟨g9, 2, none⟩ = some (.slice none 0 0) := (blk_cell BK.out 2).trans rfl
  have hs3 : W.cell? ⟨g9, 3, none⟩ = some (.slice none 0 0) := (blk_cell BK.out 3).trans rfl
  have hf0 := blk_frozen BK.out 0
  have hf1 := blk_frozen BK.out 1
  have hf2 := blk_frozen BK.out 2
  have hf3 := blk_frozen BK.out 3
  have hne : w.heap.size ≠ g9 := by have h1 := GE.out; have h2 := below_size D5.out; have h3 := blk_lt X5.out; omega
  refine skip_ (w1 := ?_) (by rfl) rfl ?_ ?_
  rotate_left
  · go_simp; rfl
  have far : ∀ (V : World) (j i : Nat) (u x : Value), V.cell? ⟨w.heap.size, j, none⟩ = some x → (V.setCell ⟨g9, i, none⟩ u).cell? ⟨w.heap.size, j, none⟩ = some x := fun V j i u x h => (cell_far (p := ⟨g9, i, none⟩) hne u).trans h
  refine hK.out _ _ ⟨far _ _ _ _ _ (far _ _ _ _ _ (far _ _ _ _ _ (far _ _ _ _ _ hHeld.1))), far _ _ _ _ _ (far _ _ _ _ _ (far _ _ _ _ _ (far _ _ _ _ _ hHeld.2.1))), far _ _ _ _ _ (far _ _ _ _ _ (far _ _ _ _ _ (far _ _ _ _ _ hHeld.2.2.1))), far _ _ _ _ _ (far _ _ _ _ _ (far _ _ _ _ _ (far _ _ _ _ _ hHeld.2.2.2)))⟩ (fun hHeld => ?_)
  clear hK K
  refine pureV (i := 17) (N := some 10) #[true, true, true, true, true, true, true, true, true, true, true, true, true, true, true, true, true, true] rfl rfl (by intro w'; go_simp; with_reducible rfl) ?_
  refine done_ (by kernel_rfl) ?_
  have hp0 := blk_put BK.out 0 (.int .i64 r1) rfl
  have hp1 := blk_put hp0 1 (.slice E1 r2.length f1) rfl
  have hp2 := blk_put hp1 2 (.slice E2 r3.length f2) rfl
  have hp3 := blk_put hp2 3 (.slice E3 r4.length f3) rfl
  have D8 := Lib.hid ((((DW.out.setCell (p := ⟨g9, 0, none⟩) GE.out (.int .i64 r1)).setCell (p := ⟨g9, 1, none⟩) GE.out (.slice E1 r2.length f1)).setCell (p := ⟨g9, 2, none⟩) GE.out (.slice E2 r3.length f2)).setCell (p := ⟨g9, 3, none⟩) GE.out (.slice E3 r4.length f3))
  have HE2 := Lib.hid ((((HE.out.set BK.out 0 (.int .i64 r1)).set hp0 1 (.slice E1 r2.length f1)).set hp1 2 (.slice E2 r3.length f2)).set hp2 3 (.slice E3 r4.length f3))
  have BK2 := Lib.hid (show NBox _ g9 r1 E1 r2.length f1 E2 r3.length f2 E3 r4.length f3 from hp3)
  clear hp0 hp1 hp2 hp3 hs0 hs1 hs2 hs3 hf0 hf1 hf2 hf3 hHeld far HE BK DW
  generalize (((W.setCell ⟨g9, 0, none⟩ (.int .i64 r1)).setCell ⟨g9, 1, none⟩ (.slice E1 r2.length f1)).setCell ⟨g9, 2, none⟩ (.slice E2 r3.length f2)).setCell ⟨g9, 3, none⟩ (.slice E3 r4.length f3) = w8 at HE2 BK2 D8 ⊢
  have Y8 := Lib.hid (Y5.out.below D8.out)
  obtain ⟨x0, x1, x2, x3⟩ := BK2.out.cells
  obtain ⟨y0, y1, y2, y3⟩ := Y8.out.cells
  have e5 := HR5.out
  subst e5
  go_wp2_with (fail)
  have HI := HE2.out.in
  have HB8 := HB5.out.below D8.out
  refine (dioramaref08_Own.calls k r1 E1 f1 r2 E2 f2 r3 E3 f3 r4 b0 B1 d1 m1 B2 d2 m2 B3 d3 m3 false w8 HI.r1 HI.e1 HI.r2 HI.e2 HI.r3 HI.e3 HB8.r1 HB8.e1 HB8.r2 HB8.e2 HB8.r3 HB8.e3 HOWN.out).mono ?_
  rintro e w9 ⟨rfl, hb9⟩
  have D9 := Lib.hid (below_step D5.out (below_step D8.out hb9))
  clear hb9
  go_wp2_with (fail)
  go_ret
  exact ⟨rfl, D9.out⟩
end
end Go.Proofs.YtmglknchklgokaaDoor.GY
