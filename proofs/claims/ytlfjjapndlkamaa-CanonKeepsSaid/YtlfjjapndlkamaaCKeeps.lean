/- CanonKeeps: true of any scene. -/
import Derived.Test.YtlfjjapndlkamaaGrI
import Derived.Test.YtlfjjapndlkamaaGrD
import Derived.Test.YtlfjjapndlkamaaGrV
import Derived.Test.YtlfjjapndlkamaaSet
import Derived.Test.YtlfjjapndlkamaaGJx5
import Derived.Test.YtlfjjapndlkamaaGJx8
import Derived.Test.YtlfjjapndlkamaaGJx9
import Derived.Test.YtlfjjapndlkamaaGJx10
import Derived.Test.YtlfjjapndlkamaaGJx10
import Derived.Deep.LoopGhost
namespace Go.Proofs.Ytlfjjapndlkamaa.GJ
open Go.RowKit Go.Lib Go.Proofs.YtlfjjapndlkamaaW.PrintWords Go.Proofs.YtlfjjapndlkamaaW.PrintLast Go.Proofs.YtlfjjapndlkamaaW.PrintMore
set_option linter.unusedVariables false
set_option linter.unusedSimpArgs false
theorem cell_tr {W0 W : World} (hB : Below W0.heap.size W0 W) {a : Addr} {v : Value} (h : W0.cell? a = some v) : W.cell? a = some v := (hB.cell (World.block_lt_of_cell? W0 _ h)).trans h
section
variable (A0 : Option Addr) (c0 : Nat) (l0 : List (S40)) (a1 : Int) (w : World)
set_option maxHeartbeats 8000000 in
set_option maxRecDepth 100000 in
theorem keeps_great (k : Nat) (hr0 : Kd.C k40 w A0 l0.length l0) (hc0 : l0.length ≤ c0) (hg1 : dioramaref09_Great.f k l0 a1 = some true) :
    Calls Try.prog 8 #[.agg #[.slice A0 l0.length c0, .int .i64 a1]] w fun e w' => e = .returned (.bool true) ∧ Below w.heap.size w w' := by
  have HR := Lib.hid hr0
  clear hr0
  go_enter Try.func8, Try.ntmps8
  go_wp2_with (fail)
  refine (dioramalaw10_awake.calls k true _ rfl).mono ?_
  rintro e w1 ⟨rfl, hb1⟩
  have HX1 : Hid (SBox w1 w.heap.size A0 l0.length c0 a1) := Lib.hid ((hb1.block w.heap.size (blk_lt (heap_alloc_new w _))).trans (heap_alloc_new w _))
  have HB1 := Lib.hid (below_step ((Below.refl _ w).alloc (Nat.le_refl _) _) hb1)
  have q0 : w1.cell? ⟨w.heap.size, 0, none⟩ = some (.slice A0 l0.length c0) := (blk_cell HX1.out 0).trans rfl
  have q1 : w1.cell? ⟨w.heap.size, 1, none⟩ = some (.int .i64 a1) := (blk_cell HX1.out 1).trans rfl
  clear hb1
  go_wp2_with (fail)
  refine (dioramaref09_Great.calls k A0 c0 l0 a1 true w1 (Kd.C_below HR.out HB1.out) hc0 hg1).mono ?_
  rintro e w2 ⟨rfl, hb2⟩
  have HB2 := Lib.hid (below_step HB1.out hb2)
  clear hb2 q0 q1
  go_wp2_with (fail)
  refine (dioramalaw10_awake.calls k true _ rfl).mono ?_
  rintro e w3 ⟨rfl, hb3⟩
  have HB3 := Lib.hid (below_step HB2.out hb3)
  clear hb3
  go_wp2_with (fail)
  go_ret
  exact ⟨rfl, HB3.out⟩
set_option maxHeartbeats 8000000 in
set_option maxRecDepth 100000 in
theorem keeps_wrong (k : Nat) (hr0 : Kd.C k40 w A0 l0.length l0) (hc0 : l0.length ≤ c0) (hg1 : dioramaref09_Great.f k l0 a1 = some false) (hr1 : dioramaref09_Right.f k l0 a1 = some false) :
    Calls Try.prog 8 #[.agg #[.slice A0 l0.length c0, .int .i64 a1]] w fun e w' => e = .returned (.bool true) ∧ Below w.heap.size w w' := by
  have HR := Lib.hid hr0
  clear hr0
  go_enter Try.func8, Try.ntmps8
  go_wp2_with (fail)
  refine (dioramalaw10_awake.calls k true _ rfl).mono ?_
  rintro e w1 ⟨rfl, hb1⟩
  have HX1 : Hid (SBox w1 w.heap.size A0 l0.length c0 a1) := Lib.hid ((hb1.block w.heap.size (blk_lt (heap_alloc_new w _))).trans (heap_alloc_new w _))
  have HB1 := Lib.hid (below_step ((Below.refl _ w).alloc (Nat.le_refl _) _) hb1)
  have q0 : w1.cell? ⟨w.heap.size, 0, none⟩ = some (.slice A0 l0.length c0) := (blk_cell HX1.out 0).trans rfl
  have q1 : w1.cell? ⟨w.heap.size, 1, none⟩ = some (.int .i64 a1) := (blk_cell HX1.out 1).trans rfl
  clear hb1
  go_wp2_with (fail)
  refine (dioramaref09_Great.calls k A0 c0 l0 a1 false w1 (Kd.C_below HR.out HB1.out) hc0 hg1).mono ?_
  rintro e w2 ⟨rfl, hb2⟩
  have HX2 : Hid (SBox w2 w.heap.size A0 l0.length c0 a1) := Lib.hid ((hb2.block w.heap.size (blk_lt HX1.out)).trans HX1.out)
  have HB2 := Lib.hid (below_step HB1.out hb2)
  have p0 : w2.cell? ⟨w.heap.size, 0, none⟩ = some (.slice A0 l0.length c0) := (blk_cell HX2.out 0).trans rfl
  have p1 : w2.cell? ⟨w.heap.size, 1, none⟩ = some (.int .i64 a1) := (blk_cell HX2.out 1).trans rfl
  clear hb2 q0 q1
  go_wp2_with (fail)
  refine (dioramaref09_Right.calls k A0 c0 l0 a1 false w2 (Kd.C_below HR.out HB2.out) hc0 hr1).mono ?_
  rintro e w3 ⟨rfl, hb3⟩
  have HB3 := Lib.hid (below_step HB2.out hb3)
  clear hb3 p0 p1
  go_wp2_with (fail)
  refine (dioramalaw10_awake.calls k true _ rfl).mono ?_
  rintro e w4 ⟨rfl, hb4⟩
  have HB4 := Lib.hid (below_step HB3.out hb4)
  clear hb4
  go_wp2_with (fail)
  go_ret
  exact ⟨rfl, HB4.out⟩
set_option maxHeartbeats 8000000 in
set_option maxRecDepth 100000 in
theorem keeps_calls (k : Nat) (hr0 : Kd.C k40 w A0 l0.length l0) (hc0 : l0.length ≤ c0) (hg1 : dioramaref09_Great.f k l0 a1 = some false) (hr1 : dioramaref09_Right.f k l0 a1 = some true) (C : List (S40)) (rt : Int) (tl : List Int) (sg : Nat → Nat) (D E : Int) (hn : l0.length ≤ 1000000) (hE : ((kidsI l0).map List.length).sum ≤ 1000000) (hgood : GT.firstBad (kidsI l0) = none)
    (hCl : C.length = l0.length) (htl : tl.length = l0.length) (hcn : canon_Canon.f k l0 a1 = some (C, rt, 0)) (hnm : canon_Numbers.f k l0 a1 = some tl) (hsg : ∀ i : Nat, i < l0.length → tl.getD i 0 = (sg i : Int) ∧ sg i < l0.length) (hinj : ∀ i j : Nat, i < l0.length → j < l0.length → sg i = sg j → i = j)
    (hpl : ∀ i : Nat, i < l0.length → dioramaref09_Place.f C rt (sg i : Int) = some true)
    (how : ∀ i : Nat, i < l0.length → dioramaref08_Own.f k (rd_T40 l0 (i : Int)).f0 (rd_T40 l0 (i : Int)).f1 (rd_T40 l0 (i : Int)).f2 (rd_T40 l0 (i : Int)).f3 (rd_T40 C (sg i : Int)).f0 (rd_T40 C (sg i : Int)).f1 (rd_T40 C (sg i : Int)).f2 (rd_T40 C (sg i : Int)).f3 = some true)
    (hkd : ∀ i : Nat, i < l0.length → (rd_T40 C (sg i : Int)).f3 = (rd_T40 l0 (i : Int)).f3.map fun x => tl.getD x.toNat 0)
    (hd1 : graph_Depth.f k C rt = some D) (hd2 : graph_Depth.f k l0 a1 = some D) (he1 : graph_Edges.f k C rt = some E) (he2 : graph_Edges.f k l0 a1 = some E) :
    Calls Try.prog 8 #[.agg #[.slice A0 l0.length c0, .int .i64 a1]] w fun e w' => e = .returned (.bool true) ∧ Below w.heap.size w w' := by
  have HR := Lib.hid hr0
  have HC := Lib.hid hcn
  have HNM := Lib.hid hnm
  have HSG := Lib.hid hsg
  have HIN := Lib.hid hinj
  have HPL := Lib.hid hpl
  have HOW := Lib.hid how
  have HKD := Lib.hid hkd
  have HD1 := Lib.hid hd1
  have HD2 := Lib.hid hd2
  have HE1 := Lib.hid he1
  have HE2 := Lib.hid he2
  have HCL := Lib.hid hCl
  have HTL := Lib.hid htl
  have HGO := Lib.hid hgood
  have HS := Lib.hid hE
  clear hr0 hcn hnm hsg hinj hpl how hkd hd1 hd2 he1 he2 hCl htl hgood hE
  have hmm := @run_makeMap Try.prog
  go_enter Try.func8, Try.ntmps8
  go_wp2_with (fail)
  refine (dioramalaw10_awake.calls k true _ rfl).mono ?_
  rintro e w1 ⟨rfl, hb1⟩
  have HX1 : Hid (SBox w1 w.heap.size A0 l0.length c0 a1) := Lib.hid ((hb1.block w.heap.size (blk_lt (heap_alloc_new w _))).trans (heap_alloc_new w _))
  have HB1 := Lib.hid (below_step ((Below.refl _ w).alloc (Nat.le_refl _) _) hb1)
  have q0 : w1.cell? ⟨w.heap.size, 0, none⟩ = some (.slice A0 l0.length c0) := (blk_cell HX1.out 0).trans rfl
  have q1 : w1.cell? ⟨w.heap.size, 1, none⟩ = some (.int .i64 a1) := (blk_cell HX1.out 1).trans rfl
  clear hb1
  go_wp2_with (fail)
  refine (dioramaref09_Great.calls k A0 c0 l0 a1 false w1 (Kd.C_below HR.out HB1.out) hc0 hg1).mono ?_
  rintro e w2 ⟨rfl, hb2⟩
  have HX2 : Hid (SBox w2 w.heap.size A0 l0.length c0 a1) := Lib.hid ((hb2.block w.heap.size (blk_lt HX1.out)).trans HX1.out)
  have HB2 := Lib.hid (below_step HB1.out hb2)
  have p0 : w2.cell? ⟨w.heap.size, 0, none⟩ = some (.slice A0 l0.length c0) := (blk_cell HX2.out 0).trans rfl
  have p1 : w2.cell? ⟨w.heap.size, 1, none⟩ = some (.int .i64 a1) := (blk_cell HX2.out 1).trans rfl
  clear hb2 q0 q1
  go_wp2_with (fail)
  refine (dioramaref09_Right.calls k A0 c0 l0 a1 true w2 (Kd.C_below HR.out HB2.out) hc0 hr1).mono ?_
  rintro e w3 ⟨rfl, hb3⟩
  have HX3 : Hid (SBox w3 w.heap.size A0 l0.length c0 a1) := Lib.hid ((hb3.block w.heap.size (blk_lt HX2.out)).trans HX2.out)
  have HB3 := Lib.hid (below_step HB2.out hb3)
  have q0 : w3.cell? ⟨w.heap.size, 0, none⟩ = some (.slice A0 l0.length c0) := (blk_cell HX3.out 0).trans rfl
  have q1 : w3.cell? ⟨w.heap.size, 1, none⟩ = some (.int .i64 a1) := (blk_cell HX3.out 1).trans rfl
  clear hb3 p0 p1
  go_wp2_with (fail)
  refine (canon_Canon.calls k A0 c0 l0 a1 C rt 0 w3 (Kd.C_below HR.out HB3.out) hc0 HC.out).mono ?_
  rintro e w4 ⟨v4, rfl, hR4, hb4⟩
  obtain ⟨A4, c4, hv4, hc4, hC4⟩ := Kd.R_reads hR4
  rw [HCL.out] at hv4 hc4 hC4
  subst hv4
  have hX4 : SBox w4 w.heap.size A0 l0.length c0 a1 := (hb4.block w.heap.size (blk_lt HX3.out)).trans HX3.out
  have HB4 := Lib.hid (below_step HB3.out hb4)
  have hn5 := heap_alloc_new w4 (.cells #[.slice A4 l0.length c4, .int .i64 rt] 24)
  have hb5 : Below w4.heap.size w4 (w4.alloc (.cells #[.slice A4 l0.length c4, .int .i64 rt] 24)) := (Below.refl _ _).alloc (Nat.le_refl _) _
  have hX5 : SBox (w4.alloc (.cells #[.slice A4 l0.length c4, .int .i64 rt] 24)) w.heap.size A0 l0.length c0 a1 := blk_alloc hX4 _
  clear hb4 q0 q1 hR4
  go_upto_region 4 with (fail)
  generalize w4.alloc (.cells #[.slice A4 l0.length c4, .int .i64 rt] 24) = w5 at hn5 hb5 hX5 ⊢
  have HN5 := Lib.hid hn5
  have HX5 := Lib.hid hX5
  have HB5 := Lib.hid (below_step HB4.out hb5)
  have HC5 := Lib.hid (Kd.C_below hC4 hb5)
  have q0 : w5.cell? ⟨w.heap.size, 0, none⟩ = some (.slice A0 l0.length c0) := (blk_cell hX5 0).trans rfl
  have q1 : w5.cell? ⟨w.heap.size, 1, none⟩ = some (.int .i64 a1) := (blk_cell hX5 1).trans rfl
  clear hn5 hb5 hX4 hX5 hC4
  go_wp2_with (fail)
  refine (canon_Numbers.calls k A0 c0 l0 a1 tl w5 (Kd.C_below HR.out HB5.out) hc0 HNM.out).mono ?_
  rintro e w6 ⟨v6, rfl, hR6, hb6⟩
  obtain ⟨A6, c6, hv6, hc6, hC6⟩ := Kd.R_reads hR6
  rw [HTL.out] at hv6 hc6 hC6
  subst hv6
  have HX6 : Hid (SBox w6 w.heap.size A0 l0.length c0 a1) := Lib.hid ((hb6.block w.heap.size (blk_lt HX5.out)).trans HX5.out)
  have HN6 := Lib.hid ((hb6.block w4.heap.size (blk_lt HN5.out)).trans HN5.out)
  have HB6 := Lib.hid (below_step HB5.out hb6)
  have HC6 := Lib.hid (Kd.C_below HC5.out hb6)
  have HT6 := Lib.hid hC6
  have q0 : w6.cell? ⟨w.heap.size, 0, none⟩ = some (.slice A0 l0.length c0) := (blk_cell HX6.out 0).trans rfl
  have p0 : w6.cell? ⟨w4.heap.size, 0, none⟩ = some (.slice A4 l0.length c4) := (blk_cell HN6.out 0).trans rfl
  clear hb6 q1 hR6 hC6
  have q0m : (w6.alloc (.map #[] 0)).cell? ⟨w.heap.size, 0, none⟩ = some (.slice A0 l0.length c0) := Lib.cell?_alloc_some _ q0
  go_wp2_with (fail)
  clear q0 p0 q0m
  go_loopg [54] l0.length (fun kq v54 wr => ∃ (i : Int) (met : List Nat) (m : Nat), v54 = .int .i64 i ∧ 0 ≤ i ∧ i + kq = l0.length ∧ Aside0 (Set.IsSet wr w6.heap.size m met ∧ m ≤ i.toNat) ∧ Aside0 (∀ x, x ∈ met → ∃ j, j < i.toNat ∧ x = sg j) ∧ Aside0 (Below w6.heap.size w6 wr) ∧ Aside0 (w6.heap.size < wr.heap.size))
  case atStart => exact ⟨0, [], 0, rfl, by omega, by omega, ⟨Set.made w6, by omega⟩, ⟨fun x h => by cases h⟩, ⟨(Below.refl _ _).alloc (Nat.le_refl _) _⟩, ⟨by simp⟩⟩
  case round =>
    obtain ⟨i, met, m, rfl, hi0, hik, hset, hmem, hbw, hsz⟩ := hrel
    obtain ⟨wo, hwo⟩ : ∃ z, z = wr := ⟨_, rfl⟩
    subst hwo
    have HX7 : Hid (SBox wo w.heap.size A0 l0.length c0 a1) := Lib.hid ((hbw.out.block w.heap.size (blk_lt HX6.out)).trans HX6.out)
    have HN7 := Lib.hid ((hbw.out.block w4.heap.size (blk_lt HN6.out)).trans HN6.out)
    have HB7 := Lib.hid (below_step HB6.out hbw.out)
    have HC7 := Lib.hid (Kd.C_below HC6.out hbw.out)
    have HT7 := Lib.hid (Kd.C_below HT6.out hbw.out)
    by_cases hlt : i < (l0.length : Int)
    · have t4 : decide (i < (l0.length : Int)) = true := decide_eq_true hlt
      obtain ⟨ko, rfl⟩ : ∃ g, gk = g + 1 := ⟨gk - 1, by omega⟩
      obtain ⟨ad, B1, d1, B2, d2, B3, d3, e, ux0, ux1, ux2, ux3, hl1, hi1, hl2, hi2, hl3, hi3⟩ := at_T40 HR.out i hi0 hlt
      cases e
      obtain ⟨y, hy⟩ : ∃ y, y = rd_T40 l0 i := ⟨_, rfl⟩
      rw [← hy] at ux0 ux1 ux2 ux3 hl1 hi1 hl2 hi2 hl3 hi3
      have hin : i.toNat < l0.length := by omega
      have hint : ((i.toNat : Nat) : Int) = i := by omega
      obtain ⟨hs1, hs2⟩ := HSG.out i.toNat hin
      obtain ⟨t, ht⟩ : ∃ t : Int, t = (sg i.toNat : Int) := ⟨_, rfl⟩
      have ht0 : 0 ≤ t := by omega
      have ht1 : t < (l0.length : Int) := by omega
      obtain ⟨adt, et, uxt⟩ := Kd.at_int HT6.out i hi0 hlt
      cases et
      have hrdt : rd tl i = t := by rw [ht, ← hs1]; rfl
      rw [hrdt] at uxt
      obtain ⟨adc, E1, f1, E2, f2, E3, f3, ec, uy0, uy1, uy2, uy3, gl1, gi1, gl2, gi2, gl3, gi3⟩ := at_T40 HC6.out t ht0 ht1
      cases ec
      have hpl := HPL.out i.toNat hin
      have how := HOW.out i.toNat hin
      have hkd := HKD.out i.toNat hin
      rw [← ht] at hpl how hkd
      rw [hint, ← hy] at how hkd
      obtain ⟨z, hz⟩ : ∃ z, z = rd_T40 C t := ⟨_, rfl⟩
      rw [← hz] at uy0 uy1 uy2 uy3 gl1 gi1 gl2 gi2 gl3 gi3 how hkd
      have hzl : z.f3.length = y.f3.length := by rw [hkd, List.length_map]
      have hyl : y.f3.length ≤ 1000000 := by rw [hy]; exact kid_len l0 HS.out i
      have hgy : ∀ q ∈ y.f3, 0 ≤ q ∧ q < (l0.length : Int) := fun q hq => by
        have h := GT.good_of_firstBad (K := kidsI l0) HGO.out (i := i.toNat) (k := q) (by rw [kidsI_at, ← hy]; exact hq)
        rwa [kids_len] at h
      have HGY := Lib.hid hgy
      have HOI := Lib.hid how
      have HKI := Lib.hid hkd
      have HZL := Lib.hid hzl
      have HTD := Lib.hid ht
      have HI1 := Lib.hid hi1
      have HI2 := Lib.hid hi2
      have HI3 := Lib.hid hi3
      have HJ1 := Lib.hid gi1
      have HJ2 := Lib.hid gi2
      have HJ3 := Lib.hid gi3
      have HL1 := Lib.hid hl1
      have HL2 := Lib.hid hl2
      have HL3 := Lib.hid hl3
      have HM1 := Lib.hid gl1
      have HM2 := Lib.hid gl2
      have HM3 := Lib.hid gl3
      have hin2 : sg i.toNat ∉ met := fun h => by
        obtain ⟨j, hj, he⟩ := hmem.out _ h
        have := HIN.out _ _ hin (by omega) he
        omega
      have HNM2 := Lib.hid hin2
      have hxw : sg i.toNat ≤ 9223372036854775807 := by omega
      have hmx : m < maxLen := by have := hset.out.2; unfold maxLen; omega
      have HX0 := Lib.hid ux0
      have HX1' := Lib.hid ux1
      have HX2' := Lib.hid ux2
      have HX3' := Lib.hid ux3
      have HY0 := Lib.hid uy0
      have HY1 := Lib.hid uy1
      have HY2 := Lib.hid uy2
      have HY3 := Lib.hid uy3
      have HUT := Lib.hid uxt
      have hx0 := cell_tr HB7.out ux0
      have hx1 := cell_tr HB7.out ux1
      have hx2 := cell_tr HB7.out ux2
      have hx3 := cell_tr HB7.out ux3
      have PL : Hid (∀ W, Kd.C k40 W (some adc) l0.length C → Calls Try.prog 27 #[.agg #[.slice (some adc) l0.length c4, .int .i64 rt], .int .i64 t] W (fun e w' => e = .returned (.bool true) ∧ Below W.heap.size W w')) := Lib.hid (fun W h => by
        have h2 := dioramaref09_Place.calls (some adc) c4 C rt t true W (by rw [HCL.out]; exact h) (by rw [HCL.out]; exact hc4) hpl
        rw [HCL.out] at h2
        exact h2)
      clear hpl how hkd hzl hy ht hi1 hi2 hi3 gi1 gi2 gi3 hl1 hl2 hl3 gl1 gl2 gl3 hrdt hz hs1 hin2 ux0 ux1 ux2 ux3 uy0 uy1 uy2 uy3 uxt hgy
      go_upto_region 11 with (fail)
      have hnA := heap_alloc_new wo (.cells #[.int .i64 y.f0, .slice B1 y.f1.length d1, .slice B2 y.f2.length d2, .slice B3 y.f3.length d3] 40)
      have hbA : Below wo.heap.size wo (wo.alloc (.cells #[.int .i64 y.f0, .slice B1 y.f1.length d1, .slice B2 y.f2.length d2, .slice B3 y.f3.length d3] 40)) := (Below.refl _ _).alloc (Nat.le_refl _) _
      clear hx0 hx1 hx2 hx3
      generalize wo.alloc (.cells #[.int .i64 y.f0, .slice B1 y.f1.length d1, .slice B2 y.f2.length d2, .slice B3 y.f3.length d3] 40) = wa at hnA hbA ⊢
      have HNA := Lib.hid hnA
      have HSA := Lib.hid (hset.out.1.below hbA)
      have HBA := Lib.hid (below_step hbw.out hbA)
      have HCB := Lib.hid (hbA.block _ (blk_lt HN7.out) |>.trans HN7.out)
      have p0 : wa.cell? ⟨w4.heap.size, 0, none⟩ = some (.slice (some adc) l0.length c4) := (blk_cell HCB.out 0).trans rfl
      have p1 : wa.cell? ⟨w4.heap.size, 1, none⟩ = some (.int .i64 rt) := (blk_cell HCB.out 1).trans rfl
      have pt := cell_tr HBA.out HUT.out
      have HZA := Lib.hid (Nat.le_trans hsz.out hbA.size)
      clear hnA hbA
      go_region_held3 (fun w' => w'.cell? ⟨w4.heap.size, 0, none⟩ = some (.slice (some adc) l0.length c4) ∧ w'.cell? ⟨w4.heap.size, 1, none⟩ = some (.int .i64 rt) ∧ w'.cell? (adt.add i.toNat) = some (.int .i64 t)) (go_keep)
        ((go_at_call 27; refine (PL.out _ (by repeat (first | exact (Kd.C_below HC6.out HBA.out) | (with_reducible refine Kd.C_drewN ?_ _) | (with_reducible refine Kd.C_drew ?_)))).mono ?_; rintro e wb ⟨rfl, hb_⟩; have hk_ : Below wa.heap.size wa wb := below_step (by repeat (first | exact Below.refl _ _ | apply pw_below_drewN | apply below_drew1)) hb_; have HNB := Lib.hid ((hk_.block _ (blk_lt HNA.out)).trans HNA.out); have HSB := Lib.hid (HSA.out.below hk_); have HBB := Lib.hid (below_step HBA.out hk_); have HCB2 := Lib.hid ((hk_.block _ (blk_lt HCB.out)).trans HCB.out); have HZB := Lib.hid (Nat.le_trans HZA.out hk_.size); have r0 : wb.cell? ⟨w4.heap.size, 0, none⟩ = some (.slice (some adc) l0.length c4) := (blk_cell HCB2.out 0).trans rfl; have r1 : wb.cell? ⟨w4.heap.size, 1, none⟩ = some (.int .i64 rt) := (blk_cell HCB2.out 1).trans rfl; have r2 := cell_tr HBB.out HUT.out; have hlk0 : (Instr.lookup 44 (.map (some w6.heap.size)) (.int .i64 t) false).run Try.prog wb = .ok (.bool false) wb := (by have h_ := HSB.out.look hxw; rw [← HTD.out, decide_eq_false HNM2.out] at h_; exact h_); have hlk1 : (Instr.lookup 44 (.map (some w6.heap.size)) (.int .i64 t) false).run Try.prog wb.drew = .ok (.bool false) wb.drew := (by have h_ := HSB.out.drew.look hxw; rw [← HTD.out, decide_eq_false HNM2.out] at h_; exact h_); have hlk2 : ∀ kk, (Instr.lookup 44 (.map (some w6.heap.size)) (.int .i64 t) false).run Try.prog (wb.drewN kk) = .ok (.bool false) (wb.drewN kk) := (fun kk => by have h_ := (HSB.out.drewN kk).look hxw; rw [← HTD.out, decide_eq_false HNM2.out] at h_; exact h_); clear hk_ hb_))
      rename_i hS9
      obtain ⟨hS0, hS1, hS2⟩ := hS9
      clear hS0 hS1 hS2 p0 p1 pt hlk0 hlk1 hlk2
      go_wp2_with (first
        | (at_mapUpdate; refine Set.wpList_store _ rfl _ _ _ rfl w6.heap.size m met HSB.out (sg i.toNat) hxw t HTD.out hmx rfl rfl rfl ?_; intro wd hset1 hg1; have HSD := Lib.hid hset1; have HBD := Lib.hid (Kw.grown_below HBB.out hg1 (fun g h => by cases h; exact Nat.le_refl _)); have HND := Lib.hid ((hg1.block wo.heap.size (by have := blk_lt HNB.out; omega) (by have := hsz.out; simp; omega)).trans HNB.out); have HCB3 := Lib.hid ((hg1.block w4.heap.size (by have := blk_lt HCB2.out; omega) (by have := blk_lt HN6.out; simp; omega)).trans HCB2.out); have HZD := Lib.hid (Nat.le_trans HZB.out hg1.size); have v0 : wd.cell? ⟨w4.heap.size, 0, none⟩ = some (.slice (some adc) l0.length c4) := (blk_cell HCB3.out 0).trans rfl; have vt := cell_tr HBD.out HUT.out; have vy0 := cell_tr HBD.out HY0.out; have vy1 := cell_tr HBD.out HY1.out; have vy2 := cell_tr HBD.out HY2.out; have vy3 := cell_tr HBD.out HY3.out; clear hset1 hg1))
      clear r0 r1 r2
      go_region_held3 (fun w' => w'.cell? ⟨w4.heap.size, 0, none⟩ = some (.slice (some adc) l0.length c4) ∧ w'.cell? (adt.add i.toNat) = some (.int .i64 t) ∧ w'.cell? (adc.add (t.toNat * 4)) = some (.int .i64 z.f0) ∧ w'.cell? ⟨(adc.add (t.toNat * 4)).block, (adc.add (t.toNat * 4)).off + 1, none⟩ = some (.slice E1 z.f1.length f1) ∧ w'.cell? ⟨(adc.add (t.toNat * 4)).block, (adc.add (t.toNat * 4)).off + 2, none⟩ = some (.slice E2 z.f2.length f2) ∧ w'.cell? ⟨(adc.add (t.toNat * 4)).block, (adc.add (t.toNat * 4)).off + 3, none⟩ = some (.slice E3 z.f3.length f3)) (go_keep) (fail)
      rename_i hS9
      clear hS9
      have hnE := heap_alloc_new wd (.cells #[.int .i64 z.f0, .slice E1 z.f1.length f1, .slice E2 z.f2.length f2, .slice E3 z.f3.length f3] 40)
      have hbE : Below wd.heap.size wd (wd.alloc (.cells #[.int .i64 z.f0, .slice E1 z.f1.length f1, .slice E2 z.f2.length f2, .slice E3 z.f3.length f3] 40)).drew := ((Below.refl _ _).alloc (Nat.le_refl _) _).drew
      have HNE := Lib.hid (blk_drew hnE)
      clear hnE
      generalize (wd.alloc (.cells #[.int .i64 z.f0, .slice E1 z.f1.length f1, .slice E2 z.f2.length f2, .slice E3 z.f3.length f3] 40)).drew = we at hbE HNE ⊢
      have HBE := Lib.hid (below_step HBD.out hbE)
      have HSE := Lib.hid (HSD.out.below hbE)
      have HNF := Lib.hid ((hbE.block _ (blk_lt HND.out)).trans HND.out)
      have HZE := Lib.hid (Nat.le_trans HZD.out hbE.size)
      have HBW := Lib.hid (below_step HB6.out HBE.out)
      have s0 : we.cell? ⟨wo.heap.size, 0, none⟩ = some (.int .i64 y.f0) := (blk_cell HNF.out 0).trans rfl
      have s1 : we.cell? ⟨wo.heap.size, 1, none⟩ = some (.slice B1 y.f1.length d1) := (blk_cell HNF.out 1).trans rfl
      have s2 : we.cell? ⟨wo.heap.size, 2, none⟩ = some (.slice B2 y.f2.length d2) := (blk_cell HNF.out 2).trans rfl
      have s3 : we.cell? ⟨wo.heap.size, 3, none⟩ = some (.slice B3 y.f3.length d3) := (blk_cell HNF.out 3).trans rfl
      have u0 : we.cell? ⟨wd.heap.size, 0, none⟩ = some (.int .i64 z.f0) := (blk_cell HNE.out 0).trans rfl
      have u1 : we.cell? ⟨wd.heap.size, 1, none⟩ = some (.slice E1 z.f1.length f1) := (blk_cell HNE.out 1).trans rfl
      have u2 : we.cell? ⟨wd.heap.size, 2, none⟩ = some (.slice E2 z.f2.length f2) := (blk_cell HNE.out 2).trans rfl
      have u3 : we.cell? ⟨wd.heap.size, 3, none⟩ = some (.slice E3 z.f3.length f3) := (blk_cell HNE.out 3).trans rfl
      clear hbE v0 vt vy0 vy1 vy2 vy3
      go_wp2_with (fail)
      refine (dioramaref08_Own.calls k y.f0 B1 d1 y.f1 B2 d2 y.f2 B3 d3 y.f3 z.f0 E1 f1 z.f1 E2 f2 z.f2 E3 f3 z.f3 true we (Kd.C_below HI1.out HBW.out) HL1.out (Kd.C_below HI2.out HBW.out) HL2.out (Kd.C_below HI3.out HBW.out) HL3.out (Kd.C_below HJ1.out HBE.out) HM1.out (Kd.C_below HJ2.out HBE.out) HM2.out (Kd.C_below HJ3.out HBE.out) HM3.out HOI.out).mono ?_
      rintro e wf ⟨rfl, hbf⟩
      have HNG := Lib.hid ((hbf.block _ (blk_lt HNF.out)).trans HNF.out)
      have HNH := Lib.hid ((hbf.block _ (blk_lt HNE.out)).trans HNE.out)
      have HBF := Lib.hid (below_step HBE.out hbf)
      have HSF := Lib.hid (HSE.out.below hbf)
      have HZF := Lib.hid (Nat.le_trans HZE.out hbf.size)
      have s3' : wf.cell? ⟨wo.heap.size, 3, none⟩ = some (.slice B3 y.f3.length d3) := (blk_cell HNG.out 3).trans rfl
      have u3' : wf.cell? ⟨wd.heap.size, 3, none⟩ = some (.slice E3 z.f3.length f3) := (blk_cell HNH.out 3).trans rfl
      have tz : decide ((z.f3.length : Int) = (y.f3.length : Int)) = true := decide_eq_true (by have := HZL.out; omega)
      have tzb : ((z.f3.length : Int) == (y.f3.length : Int)) = true := by simpa using tz
      clear hbf s0 s1 s2 s3 u0 u1 u2 u3
      go_wp2_with (fail)
      clear s3' u3' tz tzb
      go_loopg [103] (y.f3.length) (fun kq v103 wq => ∃ j : Int, v103 = .int .i64 j ∧ 0 ≤ j ∧ j + kq = y.f3.length ∧ Aside0 (Below wf.heap.size wf wq))
      case atStart => exact ⟨0, rfl, by omega, by omega, ⟨Below.refl _ _⟩⟩
      case round =>
        obtain ⟨j, rfl, hj0, hjk, hbq⟩ := hrel
        have HBQ := Lib.hid (below_step HBF.out hbq.out)
        by_cases hjl : j < (y.f3.length : Int)
        · have t5 : decide (j < (y.f3.length : Int)) = true := decide_eq_true hjl
          obtain ⟨kq, rfl⟩ : ∃ g, gk = g + 1 := ⟨gk - 1, by omega⟩
          have hjz : j < (z.f3.length : Int) := by have := HZL.out; omega
          obtain ⟨ady, ey, uq⟩ := Kd.at_int (Kd.C_below HI3.out (below_step HB6.out HBQ.out)) j hj0 hjl
          cases ey
          obtain ⟨adz, ez, uz⟩ := Kd.at_int (Kd.C_below HJ3.out HBQ.out) j hj0 hjz
          cases ez
          obtain ⟨q, hq⟩ : ∃ q, q = rd y.f3 j := ⟨_, rfl⟩
          have hqm : q ∈ y.f3 := by
            rw [hq]
            unfold rd
            rw [List.getD_eq_getElem?_getD, List.getElem?_eq_getElem (by omega)]
            exact List.getElem_mem _
          obtain ⟨q0, q1⟩ := HGY.out q hqm
          rw [← hq] at uq
          have hzv : rd z.f3 j = rd tl q := by
            rw [HKI.out, hq]
            unfold rd
            rw [List.getD_eq_getElem?_getD, List.getElem?_map, List.getD_eq_getElem?_getD (l := y.f3), List.getElem?_eq_getElem (by omega)]
            rfl
          rw [hzv] at uz
          obtain ⟨adt2, et2, ut⟩ := Kd.at_int (Kd.C_below HT6.out HBQ.out) q q0 q1
          cases et2
          generalize rd tl q = vv at uz ut
          have u3 : wr.cell? ⟨wd.heap.size, 3, none⟩ = some (.slice (some adz) z.f3.length f3) := (blk_cell ((hbq.out.block _ (blk_lt HNH.out)).trans HNH.out) 3).trans rfl
          clear hq hqm hzv
          go_wp2_with (fail)
          go_region_held3 (fun w' => w'.cell? ⟨wd.heap.size, 3, none⟩ = some (.slice (some adz) z.f3.length f3) ∧ w'.cell? (adz.add j.toNat) = some (.int .i64 vv) ∧ w'.cell? (adt.add q.toNat) = some (.int .i64 vv)) (go_keep) (fail)
          rename_i hS9
          clear hS9
          go_wp2_with (fail)
          go_roundg kq
          case measure => omega
          case rel => exact ⟨j + 1, rfl, by omega, by omega, ⟨hbq.out.drew⟩⟩
        · have t5 : decide (j < (y.f3.length : Int)) = false := decide_eq_false hjl
          go_wp2_with (fail)
          go_roundg ko
          case measure => omega
          case rel =>
            have hi2 : (i + 1).toNat = i.toNat + 1 := by omega
            refine ⟨i + 1, sg i.toNat :: met, m + 1, rfl, by omega, by omega, ⟨HSF.out.below hbq.out, by have := hset.out.2; omega⟩, ⟨fun x hx => ?_⟩, ⟨HBQ.out⟩, ⟨Nat.lt_of_lt_of_le HZF.out hbq.out.size⟩⟩
            rcases List.mem_cons.1 hx with rfl | hx
            · exact ⟨i.toNat, by omega, rfl⟩
            · obtain ⟨q, hq, he⟩ := hmem.out x hx
              exact ⟨q, by omega, he⟩
    · have t4 : decide (i < (l0.length : Int)) = false := decide_eq_false hlt
      have q0 : wo.cell? ⟨w.heap.size, 0, none⟩ = some (.slice A0 l0.length c0) := (blk_cell HX7.out 0).trans rfl
      have q1 : wo.cell? ⟨w.heap.size, 1, none⟩ = some (.int .i64 a1) := (blk_cell HX7.out 1).trans rfl
      have p0 : wo.cell? ⟨w4.heap.size, 0, none⟩ = some (.slice A4 l0.length c4) := (blk_cell HN7.out 0).trans rfl
      have p1 : wo.cell? ⟨w4.heap.size, 1, none⟩ = some (.int .i64 rt) := (blk_cell HN7.out 1).trans rfl
      have DL : Hid (∀ W, Kd.C k40 W A4 l0.length C → Calls Try.prog 31 #[.agg #[.slice A4 l0.length c4, .int .i64 rt]] W (fun e w' => e = .returned (.int .i64 D) ∧ Below W.heap.size W w')) := Lib.hid (fun W h => by
        have h2 := graph_Depth.calls k A4 c4 C rt D W (by rw [HCL.out]; exact h) (by rw [HCL.out]; exact hc4) HD1.out
        rw [HCL.out] at h2
        exact h2)
      have EL : Hid (∀ W, Kd.C k40 W A4 l0.length C → Calls Try.prog 32 #[.agg #[.slice A4 l0.length c4, .int .i64 rt]] W (fun e w' => e = .returned (.int .i64 E) ∧ Below W.heap.size W w')) := Lib.hid (fun W h => by
        have h2 := graph_Edges.calls k A4 c4 C rt E W (by rw [HCL.out]; exact h) (by rw [HCL.out]; exact hc4) HE1.out
        rw [HCL.out] at h2
        exact h2)
      go_wp2_with (fail)
      go_region_held3 (fun w' => w'.cell? ⟨w.heap.size, 0, none⟩ = some (.slice A0 l0.length c0) ∧ w'.cell? ⟨w.heap.size, 1, none⟩ = some (.int .i64 a1) ∧ w'.cell? ⟨w4.heap.size, 0, none⟩ = some (.slice A4 l0.length c4) ∧ w'.cell? ⟨w4.heap.size, 1, none⟩ = some (.int .i64 rt)) (go_keep)
        (first
          | ((go_at_call 31; (with_reducible refine (DL.out _ ?sd).mono ?_); (case sd => repeat (first | exact HC7.out | (with_reducible refine Kd.C_drewN ?_ _) | (with_reducible refine Kd.C_drew ?_))); rintro e wp ⟨rfl, hb_⟩; have hk_ : Below wo.heap.size wo wp := below_step (by repeat (first | exact Below.refl _ _ | apply pw_below_drewN | apply below_drew1)) hb_; have HBp := Lib.hid (below_step HB7.out hk_); have HXp := Lib.hid ((hk_.block _ (blk_lt HX7.out)).trans HX7.out); have HNp := Lib.hid ((hk_.block _ (blk_lt HN7.out)).trans HN7.out); have HCp := Lib.hid (Kd.C_below HC7.out hk_); have q0p : wp.cell? ⟨w.heap.size, 0, none⟩ = some (.slice A0 l0.length c0) := (blk_cell HXp.out 0).trans rfl; have q1p : wp.cell? ⟨w.heap.size, 1, none⟩ = some (.int .i64 a1) := (blk_cell HXp.out 1).trans rfl; have p0p : wp.cell? ⟨w4.heap.size, 0, none⟩ = some (.slice A4 l0.length c4) := (blk_cell HNp.out 0).trans rfl; have p1p : wp.cell? ⟨w4.heap.size, 1, none⟩ = some (.int .i64 rt) := (blk_cell HNp.out 1).trans rfl; clear hk_ hb_))
          | ((go_at_call 31; (with_reducible refine (graph_Depth.calls k A0 c0 l0 a1 D _ ?sd hc0 HD2.out).mono ?_); (case sd => repeat (first | exact Kd.C_below HR.out HBp.out | (with_reducible refine Kd.C_drewN ?_ _) | (with_reducible refine Kd.C_drew ?_))); rintro e wq ⟨rfl, hb_⟩; have hk_ : Below wp.heap.size wp wq := below_step (by repeat (first | exact Below.refl _ _ | apply pw_below_drewN | apply below_drew1)) hb_; have HBq := Lib.hid (below_step HBp.out hk_); have HXq := Lib.hid ((hk_.block _ (blk_lt HXp.out)).trans HXp.out); have HNq := Lib.hid ((hk_.block _ (blk_lt HNp.out)).trans HNp.out); have HCq := Lib.hid (Kd.C_below HCp.out hk_); have q0q : wq.cell? ⟨w.heap.size, 0, none⟩ = some (.slice A0 l0.length c0) := (blk_cell HXq.out 0).trans rfl; have q1q : wq.cell? ⟨w.heap.size, 1, none⟩ = some (.int .i64 a1) := (blk_cell HXq.out 1).trans rfl; have p0q : wq.cell? ⟨w4.heap.size, 0, none⟩ = some (.slice A4 l0.length c4) := (blk_cell HNq.out 0).trans rfl; have p1q : wq.cell? ⟨w4.heap.size, 1, none⟩ = some (.int .i64 rt) := (blk_cell HNq.out 1).trans rfl; clear hk_ hb_))
          | ((go_at_call 32; (with_reducible refine (EL.out _ ?sd).mono ?_); (case sd => repeat (first | exact HCq.out | (with_reducible refine Kd.C_drewN ?_ _) | (with_reducible refine Kd.C_drew ?_))); rintro e wr ⟨rfl, hb_⟩; have hk_ : Below wq.heap.size wq wr := below_step (by repeat (first | exact Below.refl _ _ | apply pw_below_drewN | apply below_drew1)) hb_; have HBr := Lib.hid (below_step HBq.out hk_); have HXr := Lib.hid ((hk_.block _ (blk_lt HXq.out)).trans HXq.out); have HNr := Lib.hid ((hk_.block _ (blk_lt HNq.out)).trans HNq.out); have HCr := Lib.hid (Kd.C_below HCq.out hk_); have q0r : wr.cell? ⟨w.heap.size, 0, none⟩ = some (.slice A0 l0.length c0) := (blk_cell HXr.out 0).trans rfl; have q1r : wr.cell? ⟨w.heap.size, 1, none⟩ = some (.int .i64 a1) := (blk_cell HXr.out 1).trans rfl; have p0r : wr.cell? ⟨w4.heap.size, 0, none⟩ = some (.slice A4 l0.length c4) := (blk_cell HNr.out 0).trans rfl; have p1r : wr.cell? ⟨w4.heap.size, 1, none⟩ = some (.int .i64 rt) := (blk_cell HNr.out 1).trans rfl; clear hk_ hb_))
          | ((go_at_call 32; (with_reducible refine (graph_Edges.calls k A0 c0 l0 a1 E _ ?sd hc0 HE2.out).mono ?_); (case sd => repeat (first | exact Kd.C_below HR.out HBr.out | (with_reducible refine Kd.C_drewN ?_ _) | (with_reducible refine Kd.C_drew ?_))); rintro e ws ⟨rfl, hb_⟩; have hk_ : Below wr.heap.size wr ws := below_step (by repeat (first | exact Below.refl _ _ | apply pw_below_drewN | apply below_drew1)) hb_; have HBs := Lib.hid (below_step HBr.out hk_); have HXs := Lib.hid ((hk_.block _ (blk_lt HXr.out)).trans HXr.out); have HNs := Lib.hid ((hk_.block _ (blk_lt HNr.out)).trans HNr.out); have HCs := Lib.hid (Kd.C_below HCr.out hk_); have q0s : ws.cell? ⟨w.heap.size, 0, none⟩ = some (.slice A0 l0.length c0) := (blk_cell HXs.out 0).trans rfl; have q1s : ws.cell? ⟨w.heap.size, 1, none⟩ = some (.int .i64 a1) := (blk_cell HXs.out 1).trans rfl; have p0s : ws.cell? ⟨w4.heap.size, 0, none⟩ = some (.slice A4 l0.length c4) := (blk_cell HNs.out 0).trans rfl; have p1s : ws.cell? ⟨w4.heap.size, 1, none⟩ = some (.int .i64 rt) := (blk_cell HNs.out 1).trans rfl; clear hk_ hb_)))
      rename_i hS9
      clear hS9
      go_wp2_with (fail)
      go_ret
      exact ⟨rfl, by repeat (first | (with_reducible first | exact HBs.out | apply pw_below_drewN | apply below_drew1) | exact HBs.out)⟩
end
theorem keeps_all (A0 : Option Addr) (c0 : Nat) (l0 : List (S40)) (a1 : Int) (w : World) (hr0 : Kd.C k40 w A0 l0.length l0) (hc0 : l0.length ≤ c0) :
    Calls Try.prog 8 #[.agg #[.slice A0 l0.length c0, .int .i64 a1]] w fun e w' => e = .returned (.bool true) ∧ Below w.heap.size w w' := by
  obtain ⟨K, b, h1, h2⟩ := great9 l0 a1
  cases b with
  | true => exact keeps_great A0 c0 l0 a1 w (0 + K) hr0 hc0 (h1 0)
  | false =>
    have hS := h2 rfl
    have hM := mod_of hS
    obtain ⟨K2, h3⟩ := rcheck l0 a1 hM.len hM.sum
    by_cases hc : (checkP l0 a1).1 = 0
    · obtain ⟨h5, _⟩ := cn_of hM.len hM.sum hc
      obtain ⟨g0, g1, hgood, hacy, hall⟩ := checkP_zero hM.sum hc
      have hMC := mod_canon hM hc
      have hcl := cNodes_len h5
      have hcc := check_canon hM hc
      have hgl := toG_len l0
      obtain ⟨K3, h6⟩ := gcanon (a1 := a1) hM
      obtain ⟨K4, h7⟩ := gnumbers (a1 := a1) hM.len hM.sum
      obtain ⟨K5, h8⟩ := gdepth l0 a1 hM.len hM.sum
      obtain ⟨K6, h9⟩ := gdepth (cNodes l0 a1) ((l0.length : Int) - 1) hMC.len hMC.sum
      have hren : ∀ i : Nat, i < l0.length → rd_T40 (cNodes l0 a1) (GT.find (cl l0 a1) i : Int) = renN (tlOf l0 a1) (rd_T40 l0 (i : Int)) := fun i hi => by
        have := cNodes_get h5 (i := GT.find (cl l0 a1) i) (by have := h5.find_lt (x := i) (by omega); omega)
        rwa [h5.get_find (by omega)] at this
      have hdep : (H (cNodes l0 a1) ((l0.length : Int) - 1).toNat : Int) = (H l0 a1.toNat : Int) := by
        have hr := h5.ren.ht (GT.wf_of_firstBad hgood) l0.length a1.toNat (by omega)
        rw [h5.find_root (by omega)] at hr
        unfold H
        rw [toG_canon hgood, hcl, show ((l0.length : Int) - 1).toNat = (GT.toG (kidsI l0)).length - 1 by omega, hr]
      have hed : (restK (cNodes l0 a1) 0 : Int) = (restK l0 0 : Int) := by
        unfold restK
        rw [List.drop_zero, List.drop_zero, sum_canon hgood h5]
      have key : ∀ F : Nat, F = K + K2 + K3 + K4 + K5 + K6 + l0.length + 1 + 2000 → ∃ k, True := fun F _ => ⟨F, trivial⟩
      have hown : ∀ i : Nat, i < l0.length → ∀ m, dioramaref08_Own.f (m + 2000) (rd_T40 l0 (i : Int)).f0 (rd_T40 l0 (i : Int)).f1 (rd_T40 l0 (i : Int)).f2 (rd_T40 l0 (i : Int)).f3 (rd_T40 (cNodes l0 a1) (GT.find (cl l0 a1) i : Int)).f0 (rd_T40 (cNodes l0 a1) (GT.find (cl l0 a1) i : Int)).f1 (rd_T40 (cNodes l0 a1) (GT.find (cl l0 a1) i : Int)).f2 (rd_T40 (cNodes l0 a1) (GT.find (cl l0 a1) i : Int)).f3 = some true := fun i hi m => by
        rw [hren i hi]
        obtain ⟨b1, b2, b3⟩ := hS.one i hi
        have := own8_refl (rd_T40 l0 (i : Int)).f0 (rd_T40 l0 (i : Int)).f1 (rd_T40 l0 (i : Int)).f2 (rd_T40 l0 (i : Int)).f3 (renN (tlOf l0 a1) (rd_T40 l0 (i : Int))).f3 (by omega) (by omega) (m + 2000 - ((rd_T40 l0 (i : Int)).f2.length + 1 + (rd_T40 l0 (i : Int)).f1.length + 1 + 1))
        rw [show m + 2000 - ((rd_T40 l0 (i : Int)).f2.length + 1 + (rd_T40 l0 (i : Int)).f1.length + 1 + 1) + (rd_T40 l0 (i : Int)).f2.length + 1 + (rd_T40 l0 (i : Int)).f1.length + 1 + 1 = m + 2000 by omega] at this
        exact this
      refine keeps_calls A0 c0 l0 a1 w (K + K2 + K3 + K4 + K5 + K6 + l0.length + 1 + 2000) hr0 hc0 ?_ ?_ (cNodes l0 a1) ((l0.length : Int) - 1) (tlOf l0 a1) (GT.find (cl l0 a1)) (H l0 a1.toNat : Int) (restK l0 0 : Int) hM.len hM.sum hgood hcl (tl_len l0 a1) ?_ ?_ (fun i hi => ⟨tl_get hi, by have := h5.find_lt (x := i) (by omega); omega⟩) (fun i j hi hj e => h5.ren.inj i j (by omega) (by omega) e) (fun i hi => ?_) (fun i hi => hown i hi _) (fun i hi => by rw [hren i hi]; rfl) ?_ ?_ ?_ ?_
      · have := h1 (K2 + K3 + K4 + K5 + K6 + l0.length + 1 + 2000); rwa [show K2 + K3 + K4 + K5 + K6 + l0.length + 1 + 2000 + K = K + K2 + K3 + K4 + K5 + K6 + l0.length + 1 + 2000 by omega] at this
      · have := h3 (K + K3 + K4 + K5 + K6 + l0.length + 1 + 2000); rw [show K + K3 + K4 + K5 + K6 + l0.length + 1 + 2000 + K2 = K + K2 + K3 + K4 + K5 + K6 + l0.length + 1 + 2000 by omega] at this
        rw [dioramaref09_Right.f, this, Option.bind_some]
        simp [hc]
      · have := h6 (K + K2 + K4 + K5 + K6 + l0.length + 1 + 2000); rw [show K + K2 + K4 + K5 + K6 + l0.length + 1 + 2000 + K3 = K + K2 + K3 + K4 + K5 + K6 + l0.length + 1 + 2000 by omega, if_pos hc] at this; exact this
      · have := h7 (K + K2 + K3 + K5 + K6 + l0.length + 1 + 2000); rw [show K + K2 + K3 + K5 + K6 + l0.length + 1 + 2000 + K4 = K + K2 + K3 + K4 + K5 + K6 + l0.length + 1 + 2000 by omega, if_pos hc] at this; exact this
      · have hlt := h5.find_lt (x := i) (by omega)
        rw [place9, hcl]
        unfold GT.badKid
        simp
        omega
      · have := h9 (K + K2 + K3 + K4 + K5 + l0.length + 1 + 2000); rw [show K + K2 + K3 + K4 + K5 + l0.length + 1 + 2000 + K6 = K + K2 + K3 + K4 + K5 + K6 + l0.length + 1 + 2000 by omega, if_pos (by rw [hcc]), hdep] at this; exact this
      · have := h8 (K + K2 + K3 + K4 + K6 + l0.length + 1 + 2000); rw [show K + K2 + K3 + K4 + K6 + l0.length + 1 + 2000 + K5 = K + K2 + K3 + K4 + K5 + K6 + l0.length + 1 + 2000 by omega, if_pos hc] at this; exact this
      · have h := gedges_run (cNodes l0 a1) ((l0.length : Int) - 1) hMC.len (cNodes l0 a1).length 0 0 (by omega) (by omega) (by unfold restK; rw [List.drop_zero]; have := hMC.sum; omega) (K + K2 + K3 + K4 + K5 + K6 + 2000)
        rw [show K + K2 + K3 + K4 + K5 + K6 + 2000 + (cNodes l0 a1).length + 1 = K + K2 + K3 + K4 + K5 + K6 + l0.length + 1 + 2000 by rw [hcl]; omega, hed, Int.zero_add] at h
        exact h
      · have := gedges hS a1 (K + K2 + K3 + K4 + K5 + K6 + 2000)
        rw [show K + K2 + K3 + K4 + K5 + K6 + 2000 + l0.length + 1 = K + K2 + K3 + K4 + K5 + K6 + l0.length + 1 + 2000 by omega] at this
        exact this
    · refine keeps_wrong A0 c0 l0 a1 w (K + K2) hr0 hc0 ?_ ?_
      · have := h1 K2; rwa [show K2 + K = K + K2 by omega] at this
      · have := h3 K
        rw [dioramaref09_Right.f, this, Option.bind_some]
        simp [hc]
end Go.Proofs.Ytlfjjapndlkamaa.GJ
