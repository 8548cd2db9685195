/- CanonOnce: true of any scene. -/
import Derived.Test.YtlfjjapndlkamaaGrI
import Derived.Test.YtlfjjapndlkamaaGFx5
import Derived.Deep.LoopGhost
namespace Go.Proofs.Ytlfjjapndlkamaa.GF
open Go.RowKit Go.Lib Go.Proofs.YtlfjjapndlkamaaW.PrintWords Go.Proofs.YtlfjjapndlkamaaW.PrintLast Go.Proofs.YtlfjjapndlkamaaW.PrintMore
set_option linter.unusedVariables false
set_option linter.unusedSimpArgs false
section
variable (A0 : Option Addr) (c0 : Nat) (l0 : List (S40)) (a1 : Int) (w : World)
set_option maxHeartbeats 8000000 in
set_option maxRecDepth 100000 in
theorem once_great (k : Nat) (hr0 : Kd.C k40 w A0 l0.length l0) (hc0 : l0.length ≤ c0) (hg1 : dioramaref09_Great.f k l0 a1 = some true) :
    Calls Try.prog 5 #[.agg #[.slice A0 l0.length c0, .int .i64 a1]] w fun e w' => e = .returned (.bool true) ∧ Below w.heap.size w w' := by
  have HR := Lib.hid hr0
  clear hr0
  go_enter Try.func5, Try.ntmps5
  go_wp2_with (fail)
  refine (dioramalaw10_awake.calls k true _ rfl).mono ?_
  rintro e w1 ⟨rfl, hb1⟩
  have HX1 : Hid (SBox w1 w.heap.size A0 l0.length c0 a1) := Lib.hid ((hb1.block w.heap.size (blk_lt (heap_alloc_new w _))).trans (heap_alloc_new w _))
  have HB1 := Lib.hid (below_step ((Below.refl _ w).alloc (Nat.le_refl _) _) hb1)
  have q0 : w1.cell? ⟨w.heap.size, 0, none⟩ = some (.slice A0 l0.length c0) := (blk_cell HX1.out 0).trans rfl
  have q1 : w1.cell? ⟨w.heap.size, 1, none⟩ = some (.int .i64 a1) := (blk_cell HX1.out 1).trans rfl
  clear hb1
  go_wp2_with (fail)
  refine (dioramaref09_Great.calls k A0 c0 l0 a1 true w1 (Kd.C_below HR.out HB1.out) hc0 hg1).mono ?_
  rintro e w2 ⟨rfl, hb2⟩
  have HB2 := Lib.hid (below_step HB1.out hb2)
  clear hb2 q0 q1
  go_wp2_with (fail)
  refine (dioramalaw10_awake.calls k true _ rfl).mono ?_
  rintro e w3 ⟨rfl, hb3⟩
  have HB3 := Lib.hid (below_step HB2.out hb3)
  clear hb3
  go_wp2_with (fail)
  go_ret
  exact ⟨rfl, HB3.out⟩
set_option maxHeartbeats 8000000 in
set_option maxRecDepth 100000 in
theorem once_wrong (k : Nat) (hr0 : Kd.C k40 w A0 l0.length l0) (hc0 : l0.length ≤ c0) (hg1 : dioramaref09_Great.f k l0 a1 = some false) (q : Int) (hq : ¬ q = 0) (hcn : canon_Canon.f k l0 a1 = some ([], 0, q)) (his : canon_Is.f k l0 a1 = some false) :
    Calls Try.prog 5 #[.agg #[.slice A0 l0.length c0, .int .i64 a1]] w fun e w' => e = .returned (.bool true) ∧ Below w.heap.size w w' := by
  have HR := Lib.hid hr0
  have HC := Lib.hid hcn
  have HI := Lib.hid his
  clear hr0 hcn his
  have hqb : (q == 0) = false := by simpa using hq
  go_enter Try.func5, Try.ntmps5
  go_wp2_with (fail)
  refine (dioramalaw10_awake.calls k true _ rfl).mono ?_
  rintro e w1 ⟨rfl, hb1⟩
  have HX1 : Hid (SBox w1 w.heap.size A0 l0.length c0 a1) := Lib.hid ((hb1.block w.heap.size (blk_lt (heap_alloc_new w _))).trans (heap_alloc_new w _))
  have HB1 := Lib.hid (below_step ((Below.refl _ w).alloc (Nat.le_refl _) _) hb1)
  have q0 : w1.cell? ⟨w.heap.size, 0, none⟩ = some (.slice A0 l0.length c0) := (blk_cell HX1.out 0).trans rfl
  have q1 : w1.cell? ⟨w.heap.size, 1, none⟩ = some (.int .i64 a1) := (blk_cell HX1.out 1).trans rfl
  clear hb1
  go_wp2_with (fail)
  refine (dioramaref09_Great.calls k A0 c0 l0 a1 false w1 (Kd.C_below HR.out HB1.out) hc0 hg1).mono ?_
  rintro e w2 ⟨rfl, hb2⟩
  have HX2 : Hid (SBox w2 w.heap.size A0 l0.length c0 a1) := Lib.hid ((hb2.block w.heap.size (blk_lt HX1.out)).trans HX1.out)
  have HB2 := Lib.hid (below_step HB1.out hb2)
  have p0 : w2.cell? ⟨w.heap.size, 0, none⟩ = some (.slice A0 l0.length c0) := (blk_cell HX2.out 0).trans rfl
  have p1 : w2.cell? ⟨w.heap.size, 1, none⟩ = some (.int .i64 a1) := (blk_cell HX2.out 1).trans rfl
  clear hb2 q0 q1
  go_wp2_with (fail)
  refine (canon_Canon.calls k A0 c0 l0 a1 [] 0 q w2 (Kd.C_below HR.out HB2.out) hc0 HC.out).mono ?_
  rintro e w3 ⟨v3, rfl, hR3, hb3⟩
  obtain ⟨A3, c3, hv3⟩ := Kd.R_slice hR3
  have hv3' : v3 = .slice A3 0 c3 := hv3
  subst hv3'
  clear hv3
  have hX3 : SBox w3 w.heap.size A0 l0.length c0 a1 := (hb3.block w.heap.size (blk_lt HX2.out)).trans HX2.out
  have HB3 := Lib.hid (below_step HB2.out hb3)
  have hX4 : SBox (w3.alloc (.cells #[.slice A3 0 c3, .int .i64 0] 24)) w.heap.size A0 l0.length c0 a1 := blk_alloc hX3 _
  have q0 : (w3.alloc (.cells #[.slice A3 0 c3, .int .i64 0] 24)).cell? ⟨w.heap.size, 0, none⟩ = some (.slice A0 l0.length c0) := (blk_cell hX4 0).trans rfl
  have q1 : (w3.alloc (.cells #[.slice A3 0 c3, .int .i64 0] 24)).cell? ⟨w.heap.size, 1, none⟩ = some (.int .i64 a1) := (blk_cell hX4 1).trans rfl
  have HB4 := Lib.hid (HB3.out.alloc HB3.out.size (.cells #[.slice A3 0 c3, .int .i64 0] 24))
  clear hb3 p0 p1 hX3 hX4 hR3
  go_wp2_with (fail)
  refine (canon_Is.calls k A0 c0 l0 a1 false _ (Kd.C_below HR.out HB4.out) hc0 HI.out).mono ?_
  rintro e w5 ⟨rfl, hb5⟩
  have HB5 := Lib.hid (below_step HB4.out hb5)
  clear hb5
  go_wp2_with (fail)
  go_ret
  exact ⟨rfl, HB5.out⟩
set_option maxHeartbeats 8000000 in
set_option maxRecDepth 100000 in
theorem once_calls (k : Nat) (hr0 : Kd.C k40 w A0 l0.length l0) (hc0 : l0.length ≤ c0) (hg1 : dioramaref09_Great.f k l0 a1 = some false) (C : List (S40)) (rt : Int) (hrt : rt = (C.length : Int) - 1) (hCl : C.length ≤ 1000000) (hCs : ((kidsI C).map List.length).sum ≤ 1000000)
    (hcn : canon_Canon.f k l0 a1 = some (C, rt, 0)) (hcc : canon_Canon.f k C rt = some (C, rt, 0)) (his : canon_Is.f k C rt = some true) (hsm : dioramaref09_Same.f k C rt C rt = some true) (hkd : ∀ i : Nat, i < C.length → ∀ x ∈ (rd_T40 C (i : Int)).f3, 0 ≤ x ∧ x < (i : Int)) :
    Calls Try.prog 5 #[.agg #[.slice A0 l0.length c0, .int .i64 a1]] w fun e w' => e = .returned (.bool true) ∧ Below w.heap.size w w' := by
  have HR := Lib.hid hr0
  have HC := Lib.hid hcn
  have HCC := Lib.hid hcc
  have HI := Lib.hid his
  have HSM := Lib.hid hsm
  have HKD := Lib.hid hkd
  have HRT := Lib.hid hrt
  have HCS := Lib.hid hCs
  clear hr0 hcn hcc his hsm hkd hrt hCs
  go_enter Try.func5, Try.ntmps5
  go_wp2_with (fail)
  refine (dioramalaw10_awake.calls k true _ rfl).mono ?_
  rintro e w1 ⟨rfl, hb1⟩
  have HX1 : Hid (SBox w1 w.heap.size A0 l0.length c0 a1) := Lib.hid ((hb1.block w.heap.size (blk_lt (heap_alloc_new w _))).trans (heap_alloc_new w _))
  have HB1 := Lib.hid (below_step ((Below.refl _ w).alloc (Nat.le_refl _) _) hb1)
  have q0 : w1.cell? ⟨w.heap.size, 0, none⟩ = some (.slice A0 l0.length c0) := (blk_cell HX1.out 0).trans rfl
  have q1 : w1.cell? ⟨w.heap.size, 1, none⟩ = some (.int .i64 a1) := (blk_cell HX1.out 1).trans rfl
  clear hb1
  go_wp2_with (fail)
  refine (dioramaref09_Great.calls k A0 c0 l0 a1 false w1 (Kd.C_below HR.out HB1.out) hc0 hg1).mono ?_
  rintro e w2 ⟨rfl, hb2⟩
  have HX2 : Hid (SBox w2 w.heap.size A0 l0.length c0 a1) := Lib.hid ((hb2.block w.heap.size (blk_lt HX1.out)).trans HX1.out)
  have HB2 := Lib.hid (below_step HB1.out hb2)
  have p0 : w2.cell? ⟨w.heap.size, 0, none⟩ = some (.slice A0 l0.length c0) := (blk_cell HX2.out 0).trans rfl
  have p1 : w2.cell? ⟨w.heap.size, 1, none⟩ = some (.int .i64 a1) := (blk_cell HX2.out 1).trans rfl
  clear hb2 q0 q1
  go_wp2_with (fail)
  refine (canon_Canon.calls k A0 c0 l0 a1 C rt 0 w2 (Kd.C_below HR.out HB2.out) hc0 HC.out).mono ?_
  rintro e w3 ⟨v3, rfl, hR3, hb3⟩
  obtain ⟨A3, c3, rfl, hc3, hC3⟩ := Kd.R_reads hR3
  have HB3 := Lib.hid (below_step HB2.out hb3)
  have HC3 := Lib.hid hC3
  clear hb3 p0 p1 hR3 hC3
  go_upto_region 6 with (fail)
  have hn4 := heap_alloc_new w3 (.cells #[.slice A3 C.length c3, .int .i64 rt] 24)
  have hb4 : Below w3.heap.size w3 (w3.alloc (.cells #[.slice A3 C.length c3, .int .i64 rt] 24)) := (Below.refl _ _).alloc (Nat.le_refl _) _
  generalize w3.alloc (.cells #[.slice A3 C.length c3, .int .i64 rt] 24) = w4 at hn4 hb4 ⊢
  have HN4 := Lib.hid hn4
  have HB4 := Lib.hid (below_step HB3.out hb4)
  have HC4 := Lib.hid (Kd.C_below HC3.out hb4)
  have q0 : w4.cell? ⟨w3.heap.size, 0, none⟩ = some (.slice A3 C.length c3) := (blk_cell hn4 0).trans rfl
  have q1 : w4.cell? ⟨w3.heap.size, 1, none⟩ = some (.int .i64 rt) := (blk_cell hn4 1).trans rfl
  clear hn4 hb4
  go_wp2_with (fail)
  refine (canon_Canon.calls k A3 c3 C rt C rt 0 w4 HC4.out hc3 HCC.out).mono ?_
  rintro e w5 ⟨v5, rfl, hR5, hb5⟩
  obtain ⟨A5, c5, rfl, hc5, hC5⟩ := Kd.R_reads hR5
  have HB5 := Lib.hid (below_step HB4.out hb5)
  have HN5 := Lib.hid ((hb5.block w3.heap.size (blk_lt HN4.out)).trans HN4.out)
  have HC5 := Lib.hid (Kd.C_below HC4.out hb5)
  have HD5 := Lib.hid hC5
  clear hb5 q0 q1 hR5 hC5
  go_upto_region 7 with (fail)
  have hn6 := heap_alloc_new w5 (.cells #[.slice A5 C.length c5, .int .i64 rt] 24)
  have hb6 : Below w5.heap.size w5 (w5.alloc (.cells #[.slice A5 C.length c5, .int .i64 rt] 24)) := (Below.refl _ _).alloc (Nat.le_refl _) _
  generalize w5.alloc (.cells #[.slice A5 C.length c5, .int .i64 rt] 24) = w6 at hn6 hb6 ⊢
  have HN6 := Lib.hid ((hb6.block w3.heap.size (blk_lt HN5.out)).trans HN5.out)
  have HM6 := Lib.hid hn6
  have HB6 := Lib.hid (below_step HB5.out hb6)
  have HC6 := Lib.hid (Kd.C_below HC5.out hb6)
  have HD6 := Lib.hid (Kd.C_below HD5.out hb6)
  have q0 : w6.cell? ⟨w3.heap.size, 0, none⟩ = some (.slice A3 C.length c3) := (blk_cell HN6.out 0).trans rfl
  clear hn6 hb6
  go_wp2_with (fail)
  clear q0
  go_loopg [36] C.length (fun kq v36 wr => ∃ i : Int, v36 = .int .i64 i ∧ 0 ≤ i ∧ i + kq = C.length ∧ Aside0 (Below w6.heap.size w6 wr))
  case atStart => exact ⟨0, rfl, by omega, by omega, ⟨Below.refl _ _⟩⟩
  case round =>
    obtain ⟨i, rfl, hi0, hik, hbw⟩ := hrel
    obtain ⟨wo, hwo⟩ : ∃ z, z = wr := ⟨_, rfl⟩
    subst hwo
    by_cases hlt : i < (C.length : Int)
    · have t4 : decide (i < (C.length : Int)) = true := decide_eq_true hlt
      obtain ⟨ko, rfl⟩ : ∃ g, gk = g + 1 := ⟨gk - 1, by omega⟩
      obtain ⟨ad, B1, d1, B2, d2, B3, d3, e, hx0, hx1, hx2, hx3, hl1, hi1, hl2, hi2, hl3, hi3⟩ := at_T40 (Kd.C_below HC6.out hbw.out) i hi0 hlt
      cases e
      have hkl : ((rd_T40 C i).f3).length ≤ 1000000 := kid_len C HCS.out i
      have hkd := HKD.out i.toNat (by omega)
      rw [show ((i.toNat : Nat) : Int) = i by omega] at hkd
      have HKI := Lib.hid hkd
      have HI3 := Lib.hid hi3
      clear hi1 hi2 hi3 hl1 hl2 hl3 hkd
      go_upto_region 10 with (fail)
      have hn7 := heap_alloc_new wo (.cells #[.int .i64 (rd_T40 C i).f0, .slice B1 (rd_T40 C i).f1.length d1, .slice B2 (rd_T40 C i).f2.length d2, .slice B3 (rd_T40 C i).f3.length d3] 40)
      have hb7 : Below wo.heap.size wo (wo.alloc (.cells #[.int .i64 (rd_T40 C i).f0, .slice B1 (rd_T40 C i).f1.length d1, .slice B2 (rd_T40 C i).f2.length d2, .slice B3 (rd_T40 C i).f3.length d3] 40)) := (Below.refl _ _).alloc (Nat.le_refl _) _
      clear hx0 hx1 hx2 hx3
      generalize wo.alloc (.cells #[.int .i64 (rd_T40 C i).f0, .slice B1 (rd_T40 C i).f1.length d1, .slice B2 (rd_T40 C i).f2.length d2, .slice B3 (rd_T40 C i).f3.length d3] 40) = w7 at hn7 hb7 ⊢
      have HB7 := Lib.hid (below_step hbw.out hb7)
      have HI7 := Lib.hid (Kd.C_below HI3.out hb7)
      have q3 : w7.cell? ⟨wo.heap.size, 3, none⟩ = some (.slice B3 (rd_T40 C i).f3.length d3) := (blk_cell hn7 3).trans rfl
      clear hn7 hb7
      go_wp2_with (fail)
      clear q3
      go_loopg [44] ((rd_T40 C i).f3).length (fun kq v44 wq => ∃ j : Int, v44 = .int .i64 j ∧ 0 ≤ j ∧ j + kq = ((rd_T40 C i).f3).length ∧ Aside0 (wq = w7))
      case atStart => exact ⟨0, rfl, by omega, by omega, ⟨rfl⟩⟩
      case round =>
        obtain ⟨j, rfl, hj0, hjk, hw⟩ := hrel
        have hw' := hw.out
        subst hw'
        by_cases hjl : j < (((rd_T40 C i).f3).length : Int)
        · have t5 : decide (j < (((rd_T40 C i).f3).length : Int)) = true := decide_eq_true hjl
          obtain ⟨kq, rfl⟩ : ∃ g, gk = g + 1 := ⟨gk - 1, by omega⟩
          obtain ⟨ad3, e3, hx4⟩ := Kd.at_int HI7.out j hj0 hjl
          cases e3
          have hm : rd ((rd_T40 C i).f3) j ∈ (rd_T40 C i).f3 := by
            unfold rd
            rw [List.getD_eq_getElem?_getD, List.getElem?_eq_getElem (by omega)]
            exact List.getElem_mem _
          obtain ⟨x0, x1⟩ := HKI.out _ hm
          generalize rd ((rd_T40 C i).f3) j = x at hx4 x0 x1
          have t6 : decide (x < 0) = false := decide_eq_false (by omega)
          have t7 : decide (i ≤ x) = false := decide_eq_false (by omega)
          clear hm
          go_wp2_with (fail)
          go_roundg kq
          case measure => omega
          case rel => exact ⟨j + 1, rfl, by omega, by omega, ⟨rfl⟩⟩
        · have t5 : decide (j < (((rd_T40 C i).f3).length : Int)) = false := decide_eq_false hjl
          go_wp2_with (fail)
          go_roundg ko
          case measure => omega
          case rel => exact ⟨i + 1, rfl, by omega, by omega, ⟨HB7.out⟩⟩
    · have t4 : decide (i < (C.length : Int)) = false := decide_eq_false hlt
      have HN7 := Lib.hid ((hbw.out.block w3.heap.size (blk_lt HN6.out)).trans HN6.out)
      have HM7 := Lib.hid ((hbw.out.block w5.heap.size (blk_lt HM6.out)).trans HM6.out)
      have HC7 := Lib.hid (Kd.C_below HC6.out hbw.out)
      have HD7 := Lib.hid (Kd.C_below HD6.out hbw.out)
      have HB7 := Lib.hid (below_step HB6.out hbw.out)
      have q0 : wo.cell? ⟨w3.heap.size, 0, none⟩ = some (.slice A3 C.length c3) := (blk_cell HN7.out 0).trans rfl
      have q1 : wo.cell? ⟨w3.heap.size, 1, none⟩ = some (.int .i64 rt) := (blk_cell HN7.out 1).trans rfl
      clear hbw
      go_wp2_with (fail)
      refine (canon_Is.calls k A3 c3 C rt true wo HC7.out hc3 HI.out).mono ?_
      rintro e w8 ⟨rfl, hb8⟩
      have HN8 := Lib.hid ((hb8.block w3.heap.size (blk_lt HN7.out)).trans HN7.out)
      have HM8 := Lib.hid ((hb8.block w5.heap.size (blk_lt HM7.out)).trans HM7.out)
      have HC8 := Lib.hid (Kd.C_below HC7.out hb8)
      have HD8 := Lib.hid (Kd.C_below HD7.out hb8)
      have HB8 := Lib.hid (below_step HB7.out hb8)
      have p0 : w8.cell? ⟨w3.heap.size, 0, none⟩ = some (.slice A3 C.length c3) := (blk_cell HN8.out 0).trans rfl
      have p1 : w8.cell? ⟨w3.heap.size, 1, none⟩ = some (.int .i64 rt) := (blk_cell HN8.out 1).trans rfl
      have p2 : w8.cell? ⟨w5.heap.size, 0, none⟩ = some (.slice A5 C.length c5) := (blk_cell HM8.out 0).trans rfl
      have p3 : w8.cell? ⟨w5.heap.size, 1, none⟩ = some (.int .i64 rt) := (blk_cell HM8.out 1).trans rfl
      clear hb8 q0 q1
      go_wp2_with (fail)
      refine (dioramaref09_Same.calls k A3 c3 C rt A5 c5 C rt true w8 HC8.out hc3 HD8.out hc5 HSM.out).mono ?_
      rintro e w9 ⟨rfl, hb9⟩
      have HN9 := Lib.hid ((hb9.block w3.heap.size (blk_lt HN8.out)).trans HN8.out)
      have HB9 := Lib.hid (below_step HB8.out hb9)
      have q0 : w9.cell? ⟨w3.heap.size, 0, none⟩ = some (.slice A3 C.length c3) := (blk_cell HN9.out 0).trans rfl
      have q1 : w9.cell? ⟨w3.heap.size, 1, none⟩ = some (.int .i64 rt) := (blk_cell HN9.out 1).trans rfl
      have e1 : IntKind.i64.wrap ((C.length : Int) - 1) = rt := (IntWalk.i64_in _ (by omega)).trans HRT.out.symm
      clear hb9 p0 p1 p2 p3
      go_wp2_with (fail)
      go_ret
      exact ⟨rfl, HB9.out⟩
end
theorem once_all (A0 : Option Addr) (c0 : Nat) (l0 : List (S40)) (a1 : Int) (w : World) (hr0 : Kd.C k40 w A0 l0.length l0) (hc0 : l0.length ≤ c0) :
    Calls Try.prog 5 #[.agg #[.slice A0 l0.length c0, .int .i64 a1]] w fun e w' => e = .returned (.bool true) ∧ Below w.heap.size w w' := by
  obtain ⟨K, b, h1, h2⟩ := great9 l0 a1
  cases b with
  | true => exact once_great A0 c0 l0 a1 w (0 + K) hr0 hc0 (h1 0)
  | false =>
    have hS := h2 rfl
    have hM := mod_of hS
    obtain ⟨K2, h3⟩ := gcanon (a1 := a1) hM
    by_cases hc : (checkP l0 a1).1 = 0
    · obtain ⟨h5, _⟩ := cn_of hM.len hM.sum hc
      obtain ⟨g0, g1, hgood, hacy, hall⟩ := checkP_zero hM.sum hc
      have hMC := mod_canon hM hc
      have hcl := cNodes_len h5
      have hcc := check_canon hM hc
      have hclC := cl_canon hM hc
      have hid := cNodes_id (good_canon hgood h5) (b1 := (l0.length : Int) - 1) (by rw [hclC, hcl])
      obtain ⟨K3, h6⟩ := gcanon (a1 := (l0.length : Int) - 1) hMC
      obtain ⟨K4, h7⟩ := gis (a1 := (l0.length : Int) - 1) hMC.len hMC.sum
      obtain ⟨K5, h8⟩ := same9_refl ((l0.length : Int) - 1) hMC
      refine once_calls A0 c0 l0 a1 w (K + K2 + K3 + K4 + K5) hr0 hc0 ?_ (cNodes l0 a1) ((l0.length : Int) - 1) (by rw [hcl]) hMC.len hMC.sum ?_ ?_ ?_ ?_ ?_
      · have := h1 (K2 + K3 + K4 + K5); rwa [show K2 + K3 + K4 + K5 + K = K + K2 + K3 + K4 + K5 by omega] at this
      · have := h3 (K + K3 + K4 + K5); rw [show K + K3 + K4 + K5 + K2 = K + K2 + K3 + K4 + K5 by omega, if_pos hc] at this; exact this
      · have := h6 (K + K2 + K4 + K5); rw [show K + K2 + K4 + K5 + K3 = K + K2 + K3 + K4 + K5 by omega, if_pos (by rw [hcc]), hid, hcl] at this; exact this
      · have := h7 (K + K2 + K3 + K5); rw [show K + K2 + K3 + K5 + K4 = K + K2 + K3 + K4 + K5 by omega, decide_eq_true ⟨by rw [hcc], by rw [hclC, hcl]⟩] at this; exact this
      · have := h8 (K + K2 + K3 + K4); exact this
      · intro i hi x hx
        rw [hcl] at hi
        have h9 := good_canon hgood h5
        rw [kids_get h9, toG_canon hgood] at hx
        unfold intsOf at hx
        obtain ⟨y, hy, rfl⟩ := List.mem_map.1 hx
        have := h5.ahead hy
        refine ⟨?_, ?_⟩
        · show (0 : Int) ≤ (y : Int)
          omega
        · show (y : Int) < (i : Int)
          omega
    · obtain ⟨K4, h7⟩ := gis (a1 := a1) hM.len hM.sum
      refine once_wrong A0 c0 l0 a1 w (K + K2 + K4) hr0 hc0 ?_ (checkP l0 a1).1 hc ?_ ?_
      · have := h1 (K2 + K4); rwa [show K2 + K4 + K = K + K2 + K4 by omega] at this
      · have := h3 (K + K4); rw [show K + K4 + K2 = K + K2 + K4 by omega, if_neg hc] at this; exact this
      · have := h7 (K + K2); rw [decide_eq_false (fun h => hc h.1)] at this; exact this
end Go.Proofs.Ytlfjjapndlkamaa.GF
