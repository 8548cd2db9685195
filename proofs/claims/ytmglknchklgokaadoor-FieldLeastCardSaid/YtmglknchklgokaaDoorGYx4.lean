-- Printed by a program of the session (wip/gen/tprint.py, over a turned copy of the kit's print): Lean checks it.
import Derived.Test.YtmglknchklgokaaDoorGYx0
import Derived.Test.YtmglknchklgokaaDoorGYx3
namespace Go.Proofs.YtmglknchklgokaaDoor.GY
open Go.RowKit Go.Proofs.YtmglknchklgokaaDoorW.PrintWords Go.Proofs.YtmglknchklgokaaDoorW.PrintLast Go.Proofs.YtmglknchklgokaaDoorW.PrintMore
attribute [local go_sem] max2_int min2_int max_two min_two max_three min_three max_four min_four   -- for this text's walks alone
set_option linter.unusedVariables false
set_option linter.unusedSimpArgs false

/-! ### field_Set: function 18 -/
mutual
def field_Set.l0 : Nat → List (S75) → Int → Int → Int → List Int → List ByteArray → List Int → Option (Int × List Int × List ByteArray × List Int × Int)
 | 0, _, _, _, _, _, _, _ => none
 | k + 1, x11, x12, x13, x128000, x128001, x128002, x128003 => if x13 < x12 then (if 0 ≤ x13 then (if x13 < (x11.length : Int) then (if (rd_T75 x11 x13).f0 = true then (if ((rd_T75 x11 x13).f2) = 0 then (if ((rd_T75 x11 x13).f1) ≥ 0 then (field_Set.j1 k x11 x12 x13 (decide (((rd_T75 x11 x13).f1) < (x128002.length : Int))) x128000 x128001 x128002 x128003 ((rd_T75 x11 x13).f0) ((rd_T75 x11 x13).f1) ((rd_T75 x11 x13).f2) ((rd_T75 x11 x13).f3)) else (field_Set.j1 k x11 x12 x13 false x128000 x128001 x128002 x128003 ((rd_T75 x11 x13).f0) ((rd_T75 x11 x13).f1) ((rd_T75 x11 x13).f2) ((rd_T75 x11 x13).f3))) else (field_Set.j1 k x11 x12 x13 false x128000 x128001 x128002 x128003 ((rd_T75 x11 x13).f0) ((rd_T75 x11 x13).f1) ((rd_T75 x11 x13).f2) ((rd_T75 x11 x13).f3))) else (field_Set.j1 k x11 x12 x13 false x128000 x128001 x128002 x128003 ((rd_T75 x11 x13).f0) ((rd_T75 x11 x13).f1) ((rd_T75 x11 x13).f2) ((rd_T75 x11 x13).f3))) else (none)) else (none)) else (some (x128000, x128001, x128002, x128003, 0))
def field_Set.j1 : Nat → List (S75) → Int → Int → Bool → Int → List Int → List ByteArray → List Int → Bool → Int → Int → ByteArray → Option (Int × List Int × List ByteArray × List Int × Int)
 | 0, _, _, _, _, _, _, _, _, _, _, _, _ => none
 | k + 1, x11, x12, x13, x18, x128000, x128001, x128002, x128003, x130000, x130001, x130002, x130003 => if x18 = true then (if 0 ≤ x130001 then (if x130001 < (x128002.length : Int) then (field_Set.l0 k x11 x12 (wrap64 (x13 + 1)) x128000 x128001 (x128002.set (x130001 : Int).toNat x130003) x128003) else (none)) else (none)) else (if x130000 = true then (some (0, ([] : List Int), ([] : List ByteArray), ([] : List Int), 21)) else (if x130003.toList = ([] : List UInt8) then (if x130001 ≥ 0 then (if x130001 < (x128001.length : Int) then (if 0 ≤ x130001 then (field_Set.l0 k x11 x12 (wrap64 (x13 + 1)) x128000 (x128001.set (x130001 : Int).toNat x130002) x128002 x128003) else (none)) else (some (0, ([] : List Int), ([] : List ByteArray), ([] : List Int), 21))) else (some (0, ([] : List Int), ([] : List ByteArray), ([] : List Int), 21))) else (some (0, ([] : List Int), ([] : List ByteArray), ([] : List Int), 21))))
end
def field_Set.f (k : Nat) (a0_0 : Int) (l0_1 : List Int) (l0_2 : List ByteArray) (l0_3 : List Int) (l1 : List (S75)) : Option (Int × List Int × List ByteArray × List Int × Int) := (field_Copy.f a0_0 l0_1 l0_2 l0_3).bind fun bt117 => (field_Set.l0 k l1 (l1.length : Int) 0 bt117.1 bt117.2.1 bt117.2.2.1 bt117.2.2.2)
theorem field_Set.mono_l : ∀ k, (∀ y0 y1 y2 y3 y4 y5 y6, LeO (field_Set.l0 k y0 y1 y2 y3 y4 y5 y6) (field_Set.l0 (k + 1) y0 y1 y2 y3 y4 y5 y6)) ∧ (∀ y0 y1 y2 y3 y4 y5 y6 y7 y8 y9 y10 y11, LeO (field_Set.j1 k y0 y1 y2 y3 y4 y5 y6 y7 y8 y9 y10 y11) (field_Set.j1 (k + 1) y0 y1 y2 y3 y4 y5 y6 y7 y8 y9 y10 y11))
 | 0 => ⟨fun _ _ _ _ _ _ _ r h => by simp [field_Set.l0] at h, fun _ _ _ _ _ _ _ _ _ _ _ _ r h => by simp [field_Set.j1] at h⟩
 | k + 1 => by
  obtain ⟨ih0, ih1⟩ := field_Set.mono_l k
  refine ⟨?_, ?_⟩
  ·intro y0 y1 y2 y3 y4 y5 y6
   unfold field_Set.l0
   repeat' first
   | (with_reducible exact ih0 _ _ _ _ _ _ _)
   | (with_reducible exact ih1 _ _ _ _ _ _ _ _ _ _ _ _)
   | (with_reducible exact LeO.refl _)
   | (with_reducible exact LeO.none _)
   | (with_reducible refine LeO.ite ?_ ?_)
   | (with_reducible refine LeO.bind ?_ (fun _ => ?_))
   | exact ih0 _ _ _ _ _ _ _
   | exact ih1 _ _ _ _ _ _ _ _ _ _ _ _
   | exact LeO.none _
   | refine LeO.ite ?_ ?_
   | refine LeO.bind ?_ (fun _ => ?_)
  ·intro y0 y1 y2 y3 y4 y5 y6 y7 y8 y9 y10 y11
   unfold field_Set.j1
   repeat' first
   | (with_reducible exact ih0 _ _ _ _ _ _ _)
   | (with_reducible exact ih1 _ _ _ _ _ _ _ _ _ _ _ _)
   | (with_reducible exact LeO.refl _)
   | (with_reducible exact LeO.none _)
   | (with_reducible refine LeO.ite ?_ ?_)
   | (with_reducible refine LeO.bind ?_ (fun _ => ?_))
   | exact ih0 _ _ _ _ _ _ _
   | exact ih1 _ _ _ _ _ _ _ _ _ _ _ _
   | exact LeO.none _
   | refine LeO.ite ?_ ?_
   | refine LeO.bind ?_ (fun _ => ?_)
theorem field_Set.mono : ∀ a0 a1 a2 a3 a4 k, LeO (field_Set.f k a0 a1 a2 a3 a4) (field_Set.f (k + 1) a0 a1 a2 a3 a4) := by
 intro a0 a1 a2 a3 a4 k
 obtain ⟨ih0, ih1⟩ := field_Set.mono_l k
 unfold field_Set.f
 repeat' first
   | (with_reducible exact ih0 _ _ _ _ _ _ _)
   | (with_reducible exact ih1 _ _ _ _ _ _ _ _ _ _ _ _)
   | (with_reducible exact LeO.refl _)
   | (with_reducible exact LeO.none _)
   | (with_reducible refine LeO.ite ?_ ?_)
   | (with_reducible refine LeO.bind ?_ (fun _ => ?_))
   | exact ih0 _ _ _ _ _ _ _
   | exact ih1 _ _ _ _ _ _ _ _ _ _ _ _
   | exact LeO.none _
   | refine LeO.ite ?_ ?_
   | refine LeO.bind ?_ (fun _ => ?_)
set_option maxHeartbeats 8000000 in
set_option maxRecDepth 100000 in
theorem field_Set.calls (k : Nat) (a0_0 : Int) (A0_1 : Option Addr) (c0_1 : Nat) (l0_1 : List Int) (A0_2 : Option Addr) (c0_2 : Nat) (l0_2 : List ByteArray) (A0_3 : Option Addr) (c0_3 : Nat) (l0_3 : List Int) (A1 : Option Addr) (c1 : Nat) (l1 : List (S75)) (r1 : Int) (r2 : List Int) (r3 : List ByteArray) (r4 : List Int) (r5 : Int) (w : World) (hr0_1 : Kd.C (Kd.int .i64) w A0_1 l0_1.length l0_1) (hc0_1 : l0_1.length ≤ c0_1) (hr0_2 : Kd.C Kd.string w A0_2 l0_2.length l0_2) (hc0_2 : l0_2.length ≤ c0_2) (hr0_3 : Kd.C (Kd.int .i64) w A0_3 l0_3.length l0_3) (hc0_3 : l0_3.length ≤ c0_3) (hr1 : Kd.C k75 w A1 l1.length l1) (hc1 : l1.length ≤ c1) (h : field_Set.f k a0_0 l0_1 l0_2 l0_3 l1 = some (r1, r2, r3, r4, r5)) :
  Calls Tryd.prog 18 #[.agg #[.int .i64 a0_0, .slice A0_1 l0_1.length c0_1, .slice A0_2 l0_2.length c0_2, .slice A0_3 l0_3.length c0_3], .slice A1 l1.length c1] w fun e w' => ∃ v1_ v2_ v3_ : Value, e = .returned (.tuple #[.agg #[.int .i64 r1, v1_, v2_, v3_], .int .i64 r5]) ∧ Kd.R (Kd.int .i64) 2 w' w.heap.size (fun _ => True) v1_ r2 ∧ Kd.R Kd.string 9 w' w.heap.size (fun _ => True) v2_ r3 ∧ Kd.R (Kd.int .i64) 3 w' w.heap.size (fun _ => True) v3_ r4 ∧ Below w.heap.size w w' := by
 have hu26 := Tryd.underlying26
 have hu75 := Tryd.underlying75
 have HR0_1 := Aside0.mk hr0_1
 have HC0_1 := Aside0.mk hc0_1
 clear hr0_1 hc0_1
 have HR0_2 := Aside0.mk hr0_2
 have HC0_2 := Aside0.mk hc0_2
 clear hr0_2 hc0_2
 have HR0_3 := Aside0.mk hr0_3
 have HC0_3 := Aside0.mk hc0_3
 clear hr0_3 hc0_3
 have HR1 := Aside0.mk hr1
 have HC1 := Aside0.mk hc1
 clear hr1 hc1
 have HB := Aside0.mk (Below.refl w.heap.size w)
 have H : ((field_Copy.f a0_0 l0_1 l0_2 l0_3).bind fun bt117 => (field_Set.l0 k l1 (l1.length : Int) 0 bt117.1 bt117.2.1 bt117.2.2.1 bt117.2.2.2)) = some (r1, r2, r3, r4, r5) := h
 clear h
 replace H := Option.bind_eq_some_iff.mp H
 obtain ⟨⟨t117, t118, t121, t124⟩, A30, H⟩ := H
 replace H : (field_Set.l0 k l1 (l1.length : Int) 0 t117 t118 t121 t124) = some (r1, r2, r3, r4, r5) := H
 have A3 := Aside0.mk A30
 clear A30
 have H' := Aside0.mk H
 clear H
 go_enter Tryd.func18, Tryd.ntmps18
 go_wp2_with (first | ((with_reducible refine gate_dst (N := 2) rfl ?_); refine box_event ?hg (N := 2) ?hd (cs := #[.int .i64 a0_0, .slice A0_1 l0_1.length c0_1, .slice A0_2 l0_2.length c0_2, .slice A0_3 l0_3.length c0_3]) (t := 26) ?hr ?_; (case hd => rfl); (case hg => rfl); (case hr => first | (go_simp; done) | (go_simp; rfl)); intro gb115 hg w4 hbox hb; have n0_ := Aside0.mk (below_step (BB HB) hb); have n1_ := Aside0.mk (hbox); have n2_ := Aside0.mk ((by rw [hg]; exact (below_size (BB HB)) : w.heap.size ≤ gb115)); have n3_ := Aside0.mk ((by rw [hg]; exact (below_size (BB HB)) : w.heap.size ≤ gb115)); clear HB; have HB := n0_; have BK115 := n1_; have GW115 := n2_; have GE115 := n3_; clear n0_ n1_ n2_ n3_; clear hb hbox hg) | ((with_reducible refine gate_dst (N := 4) rfl ?_); refine box_event ?hg (N := 4) ?hd (cs := #[.int .i64 0, .slice none 0 0, .slice none 0 0, .slice none 0 0]) (t := 26) ?hr ?_; (case hd => rfl); (case hg => rfl); (case hr => first | (go_simp; done) | (go_simp; rfl)); intro gb116 hg w5 hbox hb; have n0_ := BE BK115 hb; have n1_ := Aside0.mk (below_step (BB HB) hb); have n2_ := Aside0.mk (hbox); have n3_ := Aside0.mk ((by rw [hg]; exact (below_size (BB HB)) : w.heap.size ≤ gb116)); have n4_ := Aside0.mk ((by rw [hg]; exact (below_size (BB HB)) : w.heap.size ≤ gb116)); have n5_ := Aside0.mk ((by rw [hg]; exact Nat.ne_of_lt (blk_lt (g := gb115) (o := .cells #[.int .i64 a0_0, .slice A0_1 l0_1.length c0_1, .slice A0_2 l0_2.length c0_2, .slice A0_3 l0_3.length c0_3] 26 (0, 0)) (BL BK115)) : gb115 ≠ gb116)); have n6_ := Aside0.mk ((by rw [hg]; exact Nat.ne_of_gt (blk_lt (g := gb115) (o := .cells #[.int .i64 a0_0, .slice A0_1 l0_1.length c0_1, .slice A0_2 l0_2.length c0_2, .slice A0_3 l0_3.length c0_3] 26 (0, 0)) (BL BK115)) : gb116 ≠ gb115)); clear BK115; clear HB; have BK115 := n0_; have HB := n1_; have BK116 := n2_; have GW116 := n3_; have GE116 := n4_; have NB115_116 := n5_; have NB116_115 := n6_; clear n0_ n1_ n2_ n3_ n4_ n5_ n6_; clear hb hbox hg; have hnb6 := NB115_116.out; have hnc6 := NB116_115.out; have hcz7_0 : w5.cell? ⟨gb115, 0, none⟩ = some (.int .i64 a0_0) := (blk_cell BK115.out 0).trans rfl; have hcz7_1 : w5.cell? ⟨gb115, 1, none⟩ = some (.slice A0_1 l0_1.length c0_1) := (blk_cell BK115.out 1).trans rfl; have hcz7_2 : w5.cell? ⟨gb115, 2, none⟩ = some (.slice A0_2 l0_2.length c0_2) := (blk_cell BK115.out 2).trans rfl; have hcz7_3 : w5.cell? ⟨gb115, 3, none⟩ = some (.slice A0_3 l0_3.length c0_3) := (blk_cell BK115.out 3).trans rfl; have hfz7_0 := blk_frozen BK115.out 0; have hfz7_1 := blk_frozen BK115.out 1; have hfz7_2 := blk_frozen BK115.out 2; have hfz7_3 := blk_frozen BK115.out 3) | ((with_reducible refine gate_callee (f := 25) rfl ?_); refine goesL_ (some 10) rfl rfl Tryd.func25 (by kernel_rfl) rfl #[.agg #[.int .i64 a0_0, .slice A0_1 l0_1.length c0_1, .slice A0_2 l0_2.length c0_2, .slice A0_3 l0_3.length c0_3]] rfl (by (try simp only [List.map_toArray, List.map_cons, List.map_nil]); first | done | rfl | (simp only [List.length_drop, List.length_take]; rfl)) ?_; (with_reducible refine (field_Copy.calls a0_0 _ _ l0_1 _ _ l0_2 _ _ l0_3 t117 t118 t121 t124 _ ?side1 ?side2 ?side3 ?side4 ?side5 ?side6 A3.out).mono ?_); (case side1 => repeat (first | exact (Kd.C_below HR0_1.out HB.out) | (with_reducible refine Kd.C_alloc ?_ _) | (with_reducible refine Kd.C_drewN ?_ _) | (with_reducible refine Kd.C_drew ?_))); (case side2 => exact HC0_1.out); (case side3 => repeat (first | exact (Kd.C_below HR0_2.out HB.out) | (with_reducible refine Kd.C_alloc ?_ _) | (with_reducible refine Kd.C_drewN ?_ _) | (with_reducible refine Kd.C_drew ?_))); (case side4 => exact HC0_2.out); (case side5 => repeat (first | exact (Kd.C_below HR0_3.out HB.out) | (with_reducible refine Kd.C_alloc ?_ _) | (with_reducible refine Kd.C_drewN ?_ _) | (with_reducible refine Kd.C_drew ?_))); (case side6 => exact HC0_3.out); rintro e w8 ⟨v119, v122, v125, rfl, ho0, ho1, ho2, hb⟩; refine ⟨_, rfl, ?_⟩; have n0_ := Aside0.mk (Kd.R_lower ho0 (below_size (BB HB))); have n1_ := Aside0.mk (Kd.R_lower ho1 (below_size (BB HB))); have n2_ := Aside0.mk (Kd.R_lower ho2 (below_size (BB HB))); have n3_ := BE BK115 hb; have n4_ := BE BK116 hb; have n5_ := Aside0.mk (below_step (BB HB) hb); clear BK115; clear BK116; clear HB; have HO120 := n0_; have HO123 := n1_; have HO126 := n2_; have BK115 := n3_; have BK116 := n4_; have HB := n5_; clear n0_ n1_ n2_ n3_ n4_ n5_; (try clear hb); (try clear hb2); (try clear hk); (try clear hi); (try clear ho0); (try clear ho1); (try clear ho2)) | ((with_reducible refine gate_dst (N := 6) rfl ?_); refine box_event ?hg (N := 6) ?hd (cs := #[.int .i64 0, .slice none 0 0, .slice none 0 0, .slice none 0 0]) (t := 26) ?hr ?_; (case hd => rfl); (case hg => rfl); (case hr => first | (go_simp; done) | (go_simp; rfl)); intro gb127 hg w9 hbox hb; have n0_ := Aside0.mk (Kd.R_below (RL HO120) hb); have n1_ := Aside0.mk (Kd.R_below (RL HO123) hb); have n2_ := Aside0.mk (Kd.R_below (RL HO126) hb); have n3_ := BE BK115 hb; have n4_ := BE BK116 hb; have n5_ := Aside0.mk (below_step (BB HB) hb); have n6_ := Aside0.mk (hbox); have n7_ := Aside0.mk ((by rw [hg]; exact (below_size (BB HB)) : w.heap.size ≤ gb127)); have n8_ := Aside0.mk ((by rw [hg]; exact (below_size (BB HB)) : w.heap.size ≤ gb127)); have n9_ := Aside0.mk ((by rw [hg]; exact Nat.ne_of_lt (blk_lt (g := gb115) (o := .cells #[.int .i64 a0_0, .slice A0_1 l0_1.length c0_1, .slice A0_2 l0_2.length c0_2, .slice A0_3 l0_3.length c0_3] 26 (0, 0)) (BL BK115)) : gb115 ≠ gb127)); have n10_ := Aside0.mk ((by rw [hg]; exact Nat.ne_of_gt (blk_lt (g := gb115) (o := .cells #[.int .i64 a0_0, .slice A0_1 l0_1.length c0_1, .slice A0_2 l0_2.length c0_2, .slice A0_3 l0_3.length c0_3] 26 (0, 0)) (BL BK115)) : gb127 ≠ gb115)); have n11_ := Aside0.mk ((by rw [hg]; exact Nat.ne_of_lt (blk_lt (g := gb116) (o := .cells #[.int .i64 0, .slice none 0 0, .slice none 0 0, .slice none 0 0] 26 (0, 0)) (BL BK116)) : gb116 ≠ gb127)); have n12_ := Aside0.mk ((by rw [hg]; exact Nat.ne_of_gt (blk_lt (g := gb116) (o := .cells #[.int .i64 0, .slice none 0 0, .slice none 0 0, .slice none 0 0] 26 (0, 0)) (BL BK116)) : gb127 ≠ gb116)); clear HO120; clear HO123; clear HO126; clear BK115; clear BK116; clear HB; have HO120 := n0_; have HO123 := n1_; have HO126 := n2_; have BK115 := n3_; have BK116 := n4_; have HB := n5_; have BK127 := n6_; have GW127 := n7_; have GE127 := n8_; have NB115_127 := n9_; have NB127_115 := n10_; have NB116_127 := n11_; have NB127_116 := n12_; clear n0_ n1_ n2_ n3_ n4_ n5_ n6_ n7_ n8_ n9_ n10_ n11_ n12_; clear hb hbox hg; have hnb10 := NB127_115.out; have hnc10 := NB115_127.out; have hnb11 := NB127_116.out; have hnc11 := NB116_127.out; have hcz12_0 : w9.cell? ⟨gb127, 0, none⟩ = some (.int .i64 0) := (blk_cell BK127.out 0).trans rfl; have hcz12_1 : w9.cell? ⟨gb127, 1, none⟩ = some (.slice none 0 0) := (blk_cell BK127.out 1).trans rfl; have hcz12_2 : w9.cell? ⟨gb127, 2, none⟩ = some (.slice none 0 0) := (blk_cell BK127.out 2).trans rfl; have hcz12_3 : w9.cell? ⟨gb127, 3, none⟩ = some (.slice none 0 0) := (blk_cell BK127.out 3).trans rfl; have hfz12_0 := blk_frozen BK127.out 0; have hfz12_1 := blk_frozen BK127.out 1; have hfz12_2 := blk_frozen BK127.out 2; have hfz12_3 := blk_frozen BK127.out 3; obtain ⟨Ao13, co13, eo13⟩ := Kd.R_slice HO120.out; subst eo13; obtain ⟨Ao14, co14, eo14⟩ := Kd.R_slice HO123.out; subst eo14; obtain ⟨Ao15, co15, eo15⟩ := Kd.R_slice HO126.out; subst eo15))
 go_loopg [13] k (fun kq v13 w' => ∃ (x13_1 : Int) (x117000_1 : Int) (x128001_1 : List Int) (x128002_1 : List ByteArray) (u128001 : Value) (u128002 : Value), v13 = .int .i64 x13_1 ∧ Aside0 (field_Set.l0 kq l1 (l1.length : Int) x13_1 t117 x128001_1 x128002_1 t124 = some (r1, r2, r3, r4, r5)) ∧ Aside0 (kq ≤ k) ∧ Aside0 (Kd.R (Kd.int .i64) 2 w' w.heap.size (fun _ => True) u128001 x128001_1) ∧ Aside0 (Kd.R Kd.string 9 w' w.heap.size (fun _ => True) u128002 x128002_1) ∧ Aside0 (Kd.R (Kd.int .i64) 3 w' w.heap.size (fun _ => True) (.slice Ao15 t124.length co15) t124) ∧ Aside0 (w'.heap[gb115]? = some (.cells #[.int .i64 a0_0, (.slice A0_1 l0_1.length c0_1), (.slice A0_2 l0_2.length c0_2), (.slice A0_3 l0_3.length c0_3)] 26 (0, 0))) ∧ Aside0 (w'.heap[gb116]? = some (.cells #[.int .i64 x117000_1, (.slice none 0 0), (.slice none 0 0), (.slice none 0 0)] 26 (0, 0))) ∧ Aside0 (w'.heap[gb127]? = some (.cells #[.int .i64 t117, u128001, u128002, (.slice Ao15 t124.length co15)] 26 (0, 0))) ∧ Aside0 (Below w.heap.size w w'))
 case atStart => exact ⟨(0), (0), (t118), (t121), (.slice Ao13 t118.length co13), (.slice Ao14 t121.length co14), (by first | rfl | (simp; done) | (simp [*]; done)), H', ⟨Nat.le_refl _⟩, ⟨by exact Kd.R_mono (Kd.R_far (p := ⟨gb127, 3, none⟩) (Kd.R_far (p := ⟨gb127, 2, none⟩) (Kd.R_far (p := ⟨gb127, 1, none⟩) (Kd.R_far (p := ⟨gb127, 0, none⟩) (Kd.R_types HO120.out BK127.out (by decide)) (fun _ hk => hk.2) (.int .i64 t117)) (fun _ hk => hk.2) (.slice Ao13 t118.length co13)) (fun _ hk => hk.2) (.slice Ao14 t121.length co14)) (fun _ hk => hk.2) (.slice Ao15 t124.length co15)) (fun _ hk => trivial)⟩, ⟨by exact Kd.R_mono (Kd.R_far (p := ⟨gb127, 3, none⟩) (Kd.R_far (p := ⟨gb127, 2, none⟩) (Kd.R_far (p := ⟨gb127, 1, none⟩) (Kd.R_far (p := ⟨gb127, 0, none⟩) (Kd.R_types HO123.out BK127.out (by decide)) (fun _ hk => hk.2) (.int .i64 t117)) (fun _ hk => hk.2) (.slice Ao13 t118.length co13)) (fun _ hk => hk.2) (.slice Ao14 t121.length co14)) (fun _ hk => hk.2) (.slice Ao15 t124.length co15)) (fun _ hk => trivial)⟩, ⟨by exact Kd.R_mono (Kd.R_far (p := ⟨gb127, 3, none⟩) (Kd.R_far (p := ⟨gb127, 2, none⟩) (Kd.R_far (p := ⟨gb127, 1, none⟩) (Kd.R_far (p := ⟨gb127, 0, none⟩) (Kd.R_types HO126.out BK127.out (by decide)) (fun _ hk => hk.2) (.int .i64 t117)) (fun _ hk => hk.2) (.slice Ao13 t118.length co13)) (fun _ hk => hk.2) (.slice Ao14 t121.length co14)) (fun _ hk => hk.2) (.slice Ao15 t124.length co15)) (fun _ hk => trivial)⟩, ⟨by refine blk_far ?_ NB115_127.out _; refine blk_far ?_ NB115_127.out _; refine blk_far ?_ NB115_127.out _; refine blk_far ?_ NB115_127.out _; (with_reducible repeat (first | refine blk_drewN ?_ _ | refine blk_drew ?_ | refine blk_alloc ?_ _)); exact BK115.out⟩, ⟨by refine blk_far ?_ NB116_127.out _; refine blk_far ?_ NB116_127.out _; refine blk_far ?_ NB116_127.out _; refine blk_far ?_ NB116_127.out _; (with_reducible repeat (first | refine blk_drewN ?_ _ | refine blk_drew ?_ | refine blk_alloc ?_ _)); exact BK116.out⟩, ⟨by refine blk_put (cs := #[.int .i64 t117, .slice Ao13 t118.length co13, .slice Ao14 t121.length co14, .slice none 0 0]) ?_ 3 _ rfl; refine blk_put (cs := #[.int .i64 t117, .slice Ao13 t118.length co13, .slice none 0 0, .slice none 0 0]) ?_ 2 _ rfl; refine blk_put (cs := #[.int .i64 t117, .slice none 0 0, .slice none 0 0, .slice none 0 0]) ?_ 1 _ rfl; refine blk_put (cs := #[.int .i64 0, .slice none 0 0, .slice none 0 0, .slice none 0 0]) ?_ 0 _ rfl; (with_reducible repeat (first | refine blk_drewN ?_ _ | refine blk_drew ?_ | refine blk_alloc ?_ _)); exact BK127.out⟩, ⟨BB HB⟩⟩
 case round =>
  clear H'
  try clear c1
  try clear c2
  try clear p2
  try clear c6
  try clear c10
  try clear c11
  try clear hcz12_0
  try clear hcz12_1
  try clear hcz12_2
  try clear hcz12_3
  try clear hcz7_0
  try clear hcz7_1
  try clear hcz7_2
  try clear hcz7_3
  try clear hfz12_0
  try clear hfz12_1
  try clear hfz12_2
  try clear hfz12_3
  try clear hfz7_0
  try clear hfz7_1
  try clear hfz7_2
  try clear hfz7_3
  obtain ⟨x13_1, x117000_1, x128001_1, x128002_1, u128001, u128002, rfl, HA, HK1, HO_128001, HO_128002, HO_128003, BK115, BK116, BK127, HB⟩ := hrel
  cases gk with
  | zero => exact absurd HA.out (by simp [field_Set.l0])
  | succ k1 =>
   have H := HA.out
   clear HA
   simp only [field_Set.l0] at H
   by_cases c16 : x13_1 < (l1.length : Int)
   ·rw [if_pos c16] at H
    have c16b0 : decide (x13_1 < (l1.length : Int)) = true := decide_eq_true c16
    clear c16
    by_cases c17 : 0 ≤ x13_1
    ·rw [if_pos c17] at H
     have c17b0 : decide (0 ≤ x13_1) = true := decide_eq_true c17
     clear c17
     by_cases c18 : x13_1 < (l1.length : Int)
     ·rw [if_pos c18] at H
      have c18b0 : decide (x13_1 < (l1.length : Int)) = true := decide_eq_true c18
      clear c18
      have HC19 := Aside0.mk H
      clear H
      have p128 : 0 ≤ (x13_1 : Int) := of_decide_eq_true (by first | (with_reducible assumption) | assumption)
      have q128 : x13_1 < (l1.length : Int) := of_decide_eq_true (by first | (with_reducible assumption) | assumption)
      obtain ⟨ad128, e128, hx128_0, hx128_1, hx128_2, hx128_3⟩ := at_T75 HR1.out x13_1 p128 q128
      cases e128
      replace hx128_0 := (HB.out.cell (World.block_lt_of_cell? w _ hx128_0)).trans hx128_0
      replace hx128_1 := (HB.out.cell (World.block_lt_of_cell? w _ hx128_1)).trans hx128_1
      replace hx128_2 := (HB.out.cell (World.block_lt_of_cell? w _ hx128_2)).trans hx128_2
      replace hx128_3 := (HB.out.cell (World.block_lt_of_cell? w _ hx128_3)).trans hx128_3
      replace p128 := eq_true p128
      replace q128 := eq_true q128
      go_upto_region 6 with (first | ((with_reducible refine gate_dst (N := 8) rfl ?_); refine box_event ?hg (N := 8) ?hd (cs := #[.bool false, .int .i64 0, .int .i64 0, .string (⟨#[]⟩ : ByteArray)]) (t := 75) ?hr ?_; (case hd => rfl); (case hg => rfl); (case hr => first | (go_simp; done) | (go_simp; rfl)); intro gb129 hg w20 hbox hb; have n0_ := Aside0.mk (Kd.R_below (RL HO_128001) hb); have n1_ := Aside0.mk (Kd.R_below (RL HO_128002) hb); have n2_ := Aside0.mk (Kd.R_below (RL HO_128003) hb); have n3_ := BE BK115 hb; have n4_ := BE BK116 hb; have n5_ := BE BK127 hb; have n6_ := Aside0.mk (below_step (BB HB) hb); have n7_ := Aside0.mk (hbox); have n8_ := Aside0.mk ((by rw [hg]; exact (below_size (BB HB)) : w.heap.size ≤ gb129)); have n9_ := Aside0.mk ((by rw [hg]; exact (below_size (BB HB)) : w.heap.size ≤ gb129)); have n10_ := Aside0.mk ((by rw [hg]; exact Nat.ne_of_lt (blk_lt (g := gb115) (o := .cells #[.int .i64 a0_0, .slice A0_1 l0_1.length c0_1, .slice A0_2 l0_2.length c0_2, .slice A0_3 l0_3.length c0_3] 26 (0, 0)) (BL BK115)) : gb115 ≠ gb129)); have n11_ := Aside0.mk ((by rw [hg]; exact Nat.ne_of_gt (blk_lt (g := gb115) (o := .cells #[.int .i64 a0_0, .slice A0_1 l0_1.length c0_1, .slice A0_2 l0_2.length c0_2, .slice A0_3 l0_3.length c0_3] 26 (0, 0)) (BL BK115)) : gb129 ≠ gb115)); have n12_ := Aside0.mk ((by rw [hg]; exact Nat.ne_of_lt (blk_lt (g := gb116) (o := .cells #[.int .i64 x117000_1, .slice none 0 0, .slice none 0 0, .slice none 0 0] 26 (0, 0)) (BL BK116)) : gb116 ≠ gb129)); have n13_ := Aside0.mk ((by rw [hg]; exact Nat.ne_of_gt (blk_lt (g := gb116) (o := .cells #[.int .i64 x117000_1, .slice none 0 0, .slice none 0 0, .slice none 0 0] 26 (0, 0)) (BL BK116)) : gb129 ≠ gb116)); have n14_ := Aside0.mk ((by rw [hg]; exact Nat.ne_of_lt (blk_lt (g := gb127) (o := .cells #[.int .i64 t117, u128001, u128002, .slice Ao15 t124.length co15] 26 (0, 0)) (BL BK127)) : gb127 ≠ gb129)); have n15_ := Aside0.mk ((by rw [hg]; exact Nat.ne_of_gt (blk_lt (g := gb127) (o := .cells #[.int .i64 t117, u128001, u128002, .slice Ao15 t124.length co15] 26 (0, 0)) (BL BK127)) : gb129 ≠ gb127)); clear HO_128001; clear HO_128002; clear HO_128003; clear BK115; clear BK116; clear BK127; clear HB; have HO_128001 := n0_; have HO_128002 := n1_; have HO_128003 := n2_; have BK115 := n3_; have BK116 := n4_; have BK127 := n5_; have HB := n6_; have BK129 := n7_; have GW129 := n8_; have GE129 := n9_; have NB115_129 := n10_; have NB129_115 := n11_; have NB116_129 := n12_; have NB129_116 := n13_; have NB127_129 := n14_; have NB129_127 := n15_; clear n0_ n1_ n2_ n3_ n4_ n5_ n6_ n7_ n8_ n9_ n10_ n11_ n12_ n13_ n14_ n15_; clear hb hbox hg; have hnb21 := NB129_115.out; have hnc21 := NB115_129.out; have hnb22 := NB129_116.out; have hnc22 := NB116_129.out; have hnb23 := NB129_127.out; have hnc23 := NB127_129.out; have hcz24_0 : w20.cell? ⟨gb129, 0, none⟩ = some (.bool false) := (blk_cell BK129.out 0).trans rfl; have hcz24_1 : w20.cell? ⟨gb129, 1, none⟩ = some (.int .i64 0) := (blk_cell BK129.out 1).trans rfl; have hcz24_2 : w20.cell? ⟨gb129, 2, none⟩ = some (.int .i64 0) := (blk_cell BK129.out 2).trans rfl; have hcz24_3 : w20.cell? ⟨gb129, 3, none⟩ = some (.string (⟨#[]⟩ : ByteArray)) := (blk_cell BK129.out 3).trans rfl; have hfz24_0 := blk_frozen BK129.out 0; have hfz24_1 := blk_frozen BK129.out 1; have hfz24_2 := blk_frozen BK129.out 2; have hfz24_3 := blk_frozen BK129.out 3))
      (try simp only [Act.put, List.setIfInBounds_toArray, List.set_cons_zero, List.set_cons_succ])
      go_cut [18] (fun v18 wc => ∃ (kq : Nat) (x18_18 : Bool), v18 = .bool x18_18 ∧ Aside0 (field_Set.j1 kq l1 (l1.length : Int) x13_1 x18_18 t117 x128001_1 x128002_1 t124 ((rd_T75 l1 x13_1).f0) ((rd_T75 l1 x13_1).f1) ((rd_T75 l1 x13_1).f2) ((rd_T75 l1 x13_1).f3) = some (r1, r2, r3, r4, r5)) ∧ Aside0 (kq ≤ k1) ∧ Aside0 (Kd.R (Kd.int .i64) 2 wc w.heap.size (fun _ => True) u128001 x128001_1) ∧ Aside0 (Kd.R Kd.string 9 wc w.heap.size (fun _ => True) u128002 x128002_1) ∧ Aside0 (Kd.R (Kd.int .i64) 3 wc w.heap.size (fun _ => True) (.slice Ao15 t124.length co15) t124) ∧ Aside0 (wc.heap[gb115]? = some (.cells #[.int .i64 a0_0, (.slice A0_1 l0_1.length c0_1), (.slice A0_2 l0_2.length c0_2), (.slice A0_3 l0_3.length c0_3)] 26 (0, 0))) ∧ Aside0 (wc.heap[gb116]? = some (.cells #[.int .i64 x117000_1, (.slice none 0 0), (.slice none 0 0), (.slice none 0 0)] 26 (0, 0))) ∧ Aside0 (wc.heap[gb127]? = some (.cells #[.int .i64 t117, u128001, u128002, (.slice Ao15 t124.length co15)] 26 (0, 0))) ∧ Aside0 (wc.heap[gb129]? = some (.cells #[.bool ((rd_T75 l1 x13_1).f0), .int .i64 ((rd_T75 l1 x13_1).f1), .int .i64 ((rd_T75 l1 x13_1).f2), .string ((rd_T75 l1 x13_1).f3)] 75 (0, 0))) ∧ Aside0 (Below w.heap.size w wc))
      case first =>
       have H := HC19.out
       clear HC19
       obtain ⟨bq25, hbq25⟩ : ∃ b_ : Bool, b_ = ((rd_T75 l1 x13_1).f0) := ⟨_, rfl⟩
       replace H : (if bq25 = true then (if ((rd_T75 l1 x13_1).f2) = 0 then (if ((rd_T75 l1 x13_1).f1) ≥ 0 then (field_Set.j1 k1 l1 (l1.length : Int) x13_1 (decide (((rd_T75 l1 x13_1).f1) < (x128002_1.length : Int))) t117 x128001_1 x128002_1 t124 bq25 ((rd_T75 l1 x13_1).f1) ((rd_T75 l1 x13_1).f2) ((rd_T75 l1 x13_1).f3)) else (field_Set.j1 k1 l1 (l1.length : Int) x13_1 false t117 x128001_1 x128002_1 t124 bq25 ((rd_T75 l1 x13_1).f1) ((rd_T75 l1 x13_1).f2) ((rd_T75 l1 x13_1).f3))) else (field_Set.j1 k1 l1 (l1.length : Int) x13_1 false t117 x128001_1 x128002_1 t124 bq25 ((rd_T75 l1 x13_1).f1) ((rd_T75 l1 x13_1).f2) ((rd_T75 l1 x13_1).f3))) else (field_Set.j1 k1 l1 (l1.length : Int) x13_1 false t117 x128001_1 x128002_1 t124 bq25 ((rd_T75 l1 x13_1).f1) ((rd_T75 l1 x13_1).f2) ((rd_T75 l1 x13_1).f3))) = some (r1, r2, r3, r4, r5) := by rw [← hbq25] at H; exact H
       have Nbq25 := Aside0.mk hbq25
       clear hbq25
       (try rw [← Nbq25.out])
       by_cases c26 : bq25 = true
       ·subst c26
        have H1 : (if ((rd_T75 l1 x13_1).f2) = 0 then (if ((rd_T75 l1 x13_1).f1) ≥ 0 then (field_Set.j1 k1 l1 (l1.length : Int) x13_1 (decide (((rd_T75 l1 x13_1).f1) < (x128002_1.length : Int))) t117 x128001_1 x128002_1 t124 true ((rd_T75 l1 x13_1).f1) ((rd_T75 l1 x13_1).f2) ((rd_T75 l1 x13_1).f3)) else (field_Set.j1 k1 l1 (l1.length : Int) x13_1 false t117 x128001_1 x128002_1 t124 true ((rd_T75 l1 x13_1).f1) ((rd_T75 l1 x13_1).f2) ((rd_T75 l1 x13_1).f3))) else (field_Set.j1 k1 l1 (l1.length : Int) x13_1 false t117 x128001_1 x128002_1 t124 true ((rd_T75 l1 x13_1).f1) ((rd_T75 l1 x13_1).f2) ((rd_T75 l1 x13_1).f3))) = some (r1, r2, r3, r4, r5) := by rw [if_pos rfl] at H; exact H
        clear H
        have H := H1
        clear H1
        by_cases c27 : ((rd_T75 l1 x13_1).f2) = 0
        ·rw [if_pos c27] at H
         have c27b0 : (((rd_T75 l1 x13_1).f2) == 0) = true := beq_iff_eq.mpr c27
         have c27b1 : (((rd_T75 l1 x13_1).f2) != 0) = false := bne_eq_false_iff_eq.mpr c27
         clear c27
         by_cases c28 : ((rd_T75 l1 x13_1).f1) ≥ 0
         ·rw [if_pos c28] at H
          have c28b0 : decide (0 ≤ ((rd_T75 l1 x13_1).f1)) = true := decide_eq_true c28
          clear c28
          have H' := Aside0.mk H
          clear H
          have hnb29 := NB129_115.out
          have hnc29 := NB115_129.out
          have hnb30 := NB129_116.out
          have hnc30 := NB116_129.out
          have hnb31 := NB129_127.out
          have hnc31 := NB127_129.out
          have hcz32_0 : w20.cell? ⟨gb129, 0, none⟩ = some (.bool false) := (blk_cell BK129.out 0).trans rfl
          have hcz32_1 : w20.cell? ⟨gb129, 1, none⟩ = some (.int .i64 0) := (blk_cell BK129.out 1).trans rfl
          have hcz32_2 : w20.cell? ⟨gb129, 2, none⟩ = some (.int .i64 0) := (blk_cell BK129.out 2).trans rfl
          have hcz32_3 : w20.cell? ⟨gb129, 3, none⟩ = some (.string (⟨#[]⟩ : ByteArray)) := (blk_cell BK129.out 3).trans rfl
          have hfz32_0 := blk_frozen BK129.out 0
          have hfz32_1 := blk_frozen BK129.out 1
          have hfz32_2 := blk_frozen BK129.out 2
          have hfz32_3 := blk_frozen BK129.out 3
          have hnb33 := NB127_115.out
          have hnc33 := NB115_127.out
          have hnb34 := NB127_116.out
          have hnc34 := NB116_127.out
          have hcz35_0 : w20.cell? ⟨gb127, 0, none⟩ = some (.int .i64 t117) := (blk_cell BK127.out 0).trans rfl
          have hcz35_1 : w20.cell? ⟨gb127, 1, none⟩ = some (u128001) := (blk_cell BK127.out 1).trans rfl
          have hcz35_2 : w20.cell? ⟨gb127, 2, none⟩ = some (u128002) := (blk_cell BK127.out 2).trans rfl
          have hcz35_3 : w20.cell? ⟨gb127, 3, none⟩ = some (.slice Ao15 t124.length co15) := (blk_cell BK127.out 3).trans rfl
          have hfz35_0 := blk_frozen BK127.out 0
          have hfz35_1 := blk_frozen BK127.out 1
          have hfz35_2 := blk_frozen BK127.out 2
          have hfz35_3 := blk_frozen BK127.out 3
          obtain ⟨Ao36, co36, eo36⟩ := Kd.R_slice HO_128002.out
          subst eo36
          go_wp2
          go_meet
          case rel => (try rw [← Nbq25.out]); exact ⟨_, (decide (((rd_T75 l1 x13_1).f1) < (x128002_1.length : Int))), (by first | rfl | (simp; done) | (simp [*]; done)), H', ⟨by have := HK1.out; first | omega | exact Nat.le_refl _⟩, ⟨by exact Kd.R_mono (Kd.R_far (p := ⟨gb129, 3, none⟩) (Kd.R_far (p := ⟨gb129, 2, none⟩) (Kd.R_far (p := ⟨gb129, 1, none⟩) (Kd.R_far (p := ⟨gb129, 0, none⟩) (Kd.R_types HO_128001.out BK129.out (by decide)) (fun _ hk => hk.2) (.bool (true))) (fun _ hk => hk.2) (.int .i64 ((rd_T75 l1 x13_1).f1))) (fun _ hk => hk.2) (.int .i64 ((rd_T75 l1 x13_1).f2))) (fun _ hk => hk.2) (.string ((rd_T75 l1 x13_1).f3))) (fun _ hk => trivial)⟩, ⟨by exact Kd.R_mono (Kd.R_far (p := ⟨gb129, 3, none⟩) (Kd.R_far (p := ⟨gb129, 2, none⟩) (Kd.R_far (p := ⟨gb129, 1, none⟩) (Kd.R_far (p := ⟨gb129, 0, none⟩) (Kd.R_types HO_128002.out BK129.out (by decide)) (fun _ hk => hk.2) (.bool (true))) (fun _ hk => hk.2) (.int .i64 ((rd_T75 l1 x13_1).f1))) (fun _ hk => hk.2) (.int .i64 ((rd_T75 l1 x13_1).f2))) (fun _ hk => hk.2) (.string ((rd_T75 l1 x13_1).f3))) (fun _ hk => trivial)⟩, ⟨by exact Kd.R_mono (Kd.R_far (p := ⟨gb129, 3, none⟩) (Kd.R_far (p := ⟨gb129, 2, none⟩) (Kd.R_far (p := ⟨gb129, 1, none⟩) (Kd.R_far (p := ⟨gb129, 0, none⟩) (Kd.R_types HO_128003.out BK129.out (by decide)) (fun _ hk => hk.2) (.bool (true))) (fun _ hk => hk.2) (.int .i64 ((rd_T75 l1 x13_1).f1))) (fun _ hk => hk.2) (.int .i64 ((rd_T75 l1 x13_1).f2))) (fun _ hk => hk.2) (.string ((rd_T75 l1 x13_1).f3))) (fun _ hk => trivial)⟩, ⟨by refine blk_far ?_ NB115_129.out _; refine blk_far ?_ NB115_129.out _; refine blk_far ?_ NB115_129.out _; refine blk_far ?_ NB115_129.out _; (with_reducible repeat (first | refine blk_drewN ?_ _ | refine blk_drew ?_ | refine blk_alloc ?_ _)); exact BK115.out⟩, ⟨by refine blk_far ?_ NB116_129.out _; refine blk_far ?_ NB116_129.out _; refine blk_far ?_ NB116_129.out _; refine blk_far ?_ NB116_129.out _; (with_reducible repeat (first | refine blk_drewN ?_ _ | refine blk_drew ?_ | refine blk_alloc ?_ _)); exact BK116.out⟩, ⟨by refine blk_far ?_ NB127_129.out _; refine blk_far ?_ NB127_129.out _; refine blk_far ?_ NB127_129.out _; refine blk_far ?_ NB127_129.out _; (with_reducible repeat (first | refine blk_drewN ?_ _ | refine blk_drew ?_ | refine blk_alloc ?_ _)); exact BK127.out⟩, ⟨by refine blk_put (cs := #[.bool (true), .int .i64 ((rd_T75 l1 x13_1).f1), .int .i64 ((rd_T75 l1 x13_1).f2), .string (⟨#[]⟩ : ByteArray)]) ?_ 3 _ rfl; refine blk_put (cs := #[.bool (true), .int .i64 ((rd_T75 l1 x13_1).f1), .int .i64 0, .string (⟨#[]⟩ : ByteArray)]) ?_ 2 _ rfl; refine blk_put (cs := #[.bool (true), .int .i64 0, .int .i64 0, .string (⟨#[]⟩ : ByteArray)]) ?_ 1 _ rfl; refine blk_put (cs := #[.bool false, .int .i64 0, .int .i64 0, .string (⟨#[]⟩ : ByteArray)]) ?_ 0 _ rfl; (with_reducible repeat (first | refine blk_drewN ?_ _ | refine blk_drew ?_ | refine blk_alloc ?_ _)); exact BK129.out⟩, ⟨BB HB⟩⟩
         ·rw [if_neg c28] at H
          have c28b0 : decide (0 ≤ ((rd_T75 l1 x13_1).f1)) = false := decide_eq_false c28
          clear c28
          have H' := Aside0.mk H
          clear H
          have hnb37 := NB129_115.out
          have hnc37 := NB115_129.out
          have hnb38 := NB129_116.out
          have hnc38 := NB116_129.out
          have hnb39 := NB129_127.out
          have hnc39 := NB127_129.out
          have hcz40_0 : w20.cell? ⟨gb129, 0, none⟩ = some (.bool false) := (blk_cell BK129.out 0).trans rfl
          have hcz40_1 : w20.cell? ⟨gb129, 1, none⟩ = some (.int .i64 0) := (blk_cell BK129.out 1).trans rfl
          have hcz40_2 : w20.cell? ⟨gb129, 2, none⟩ = some (.int .i64 0) := (blk_cell BK129.out 2).trans rfl
          have hcz40_3 : w20.cell? ⟨gb129, 3, none⟩ = some (.string (⟨#[]⟩ : ByteArray)) := (blk_cell BK129.out 3).trans rfl
          have hfz40_0 := blk_frozen BK129.out 0
          have hfz40_1 := blk_frozen BK129.out 1
          have hfz40_2 := blk_frozen BK129.out 2
          have hfz40_3 := blk_frozen BK129.out 3
          go_wp2
          go_meet
          case rel => (try rw [← Nbq25.out]); exact ⟨_, (false), (by first | rfl | (simp; done) | (simp [*]; done)), H', ⟨by have := HK1.out; first | omega | exact Nat.le_refl _⟩, ⟨by exact Kd.R_mono (Kd.R_far (p := ⟨gb129, 3, none⟩) (Kd.R_far (p := ⟨gb129, 2, none⟩) (Kd.R_far (p := ⟨gb129, 1, none⟩) (Kd.R_far (p := ⟨gb129, 0, none⟩) (Kd.R_types HO_128001.out BK129.out (by decide)) (fun _ hk => hk.2) (.bool (true))) (fun _ hk => hk.2) (.int .i64 ((rd_T75 l1 x13_1).f1))) (fun _ hk => hk.2) (.int .i64 ((rd_T75 l1 x13_1).f2))) (fun _ hk => hk.2) (.string ((rd_T75 l1 x13_1).f3))) (fun _ hk => trivial)⟩, ⟨by exact Kd.R_mono (Kd.R_far (p := ⟨gb129, 3, none⟩) (Kd.R_far (p := ⟨gb129, 2, none⟩) (Kd.R_far (p := ⟨gb129, 1, none⟩) (Kd.R_far (p := ⟨gb129, 0, none⟩) (Kd.R_types HO_128002.out BK129.out (by decide)) (fun _ hk => hk.2) (.bool (true))) (fun _ hk => hk.2) (.int .i64 ((rd_T75 l1 x13_1).f1))) (fun _ hk => hk.2) (.int .i64 ((rd_T75 l1 x13_1).f2))) (fun _ hk => hk.2) (.string ((rd_T75 l1 x13_1).f3))) (fun _ hk => trivial)⟩, ⟨by exact Kd.R_mono (Kd.R_far (p := ⟨gb129, 3, none⟩) (Kd.R_far (p := ⟨gb129, 2, none⟩) (Kd.R_far (p := ⟨gb129, 1, none⟩) (Kd.R_far (p := ⟨gb129, 0, none⟩) (Kd.R_types HO_128003.out BK129.out (by decide)) (fun _ hk => hk.2) (.bool (true))) (fun _ hk => hk.2) (.int .i64 ((rd_T75 l1 x13_1).f1))) (fun _ hk => hk.2) (.int .i64 ((rd_T75 l1 x13_1).f2))) (fun _ hk => hk.2) (.string ((rd_T75 l1 x13_1).f3))) (fun _ hk => trivial)⟩, ⟨by refine blk_far ?_ NB115_129.out _; refine blk_far ?_ NB115_129.out _; refine blk_far ?_ NB115_129.out _; refine blk_far ?_ NB115_129.out _; (with_reducible repeat (first | refine blk_drewN ?_ _ | refine blk_drew ?_ | refine blk_alloc ?_ _)); exact BK115.out⟩, ⟨by refine blk_far ?_ NB116_129.out _; refine blk_far ?_ NB116_129.out _; refine blk_far ?_ NB116_129.out _; refine blk_far ?_ NB116_129.out _; (with_reducible repeat (first | refine blk_drewN ?_ _ | refine blk_drew ?_ | refine blk_alloc ?_ _)); exact BK116.out⟩, ⟨by refine blk_far ?_ NB127_129.out _; refine blk_far ?_ NB127_129.out _; refine blk_far ?_ NB127_129.out _; refine blk_far ?_ NB127_129.out _; (with_reducible repeat (first | refine blk_drewN ?_ _ | refine blk_drew ?_ | refine blk_alloc ?_ _)); exact BK127.out⟩, ⟨by refine blk_put (cs := #[.bool (true), .int .i64 ((rd_T75 l1 x13_1).f1), .int .i64 ((rd_T75 l1 x13_1).f2), .string (⟨#[]⟩ : ByteArray)]) ?_ 3 _ rfl; refine blk_put (cs := #[.bool (true), .int .i64 ((rd_T75 l1 x13_1).f1), .int .i64 0, .string (⟨#[]⟩ : ByteArray)]) ?_ 2 _ rfl; refine blk_put (cs := #[.bool (true), .int .i64 0, .int .i64 0, .string (⟨#[]⟩ : ByteArray)]) ?_ 1 _ rfl; refine blk_put (cs := #[.bool false, .int .i64 0, .int .i64 0, .string (⟨#[]⟩ : ByteArray)]) ?_ 0 _ rfl; (with_reducible repeat (first | refine blk_drewN ?_ _ | refine blk_drew ?_ | refine blk_alloc ?_ _)); exact BK129.out⟩, ⟨BB HB⟩⟩
        ·rw [if_neg c27] at H
         have c27b0 : (((rd_T75 l1 x13_1).f2) == 0) = false := beq_eq_false_iff_ne.mpr c27
         have c27b1 : (((rd_T75 l1 x13_1).f2) != 0) = true := bne_iff_ne.mpr c27
         have H' := Aside0.mk H
         clear H
         have hnb41 := NB129_115.out
         have hnc41 := NB115_129.out
         have hnb42 := NB129_116.out
         have hnc42 := NB116_129.out
         have hnb43 := NB129_127.out
         have hnc43 := NB127_129.out
         have hcz44_0 : w20.cell? ⟨gb129, 0, none⟩ = some (.bool false) := (blk_cell BK129.out 0).trans rfl
         have hcz44_1 : w20.cell? ⟨gb129, 1, none⟩ = some (.int .i64 0) := (blk_cell BK129.out 1).trans rfl
         have hcz44_2 : w20.cell? ⟨gb129, 2, none⟩ = some (.int .i64 0) := (blk_cell BK129.out 2).trans rfl
         have hcz44_3 : w20.cell? ⟨gb129, 3, none⟩ = some (.string (⟨#[]⟩ : ByteArray)) := (blk_cell BK129.out 3).trans rfl
         have hfz44_0 := blk_frozen BK129.out 0
         have hfz44_1 := blk_frozen BK129.out 1
         have hfz44_2 := blk_frozen BK129.out 2
         have hfz44_3 := blk_frozen BK129.out 3
         go_wp2
         go_meet
         case rel => (try rw [← Nbq25.out]); exact ⟨_, (false), (by first | rfl | (simp; done) | (simp [*]; done)), H', ⟨by have := HK1.out; first | omega | exact Nat.le_refl _⟩, ⟨by exact Kd.R_mono (Kd.R_far (p := ⟨gb129, 3, none⟩) (Kd.R_far (p := ⟨gb129, 2, none⟩) (Kd.R_far (p := ⟨gb129, 1, none⟩) (Kd.R_far (p := ⟨gb129, 0, none⟩) (Kd.R_types HO_128001.out BK129.out (by decide)) (fun _ hk => hk.2) (.bool (true))) (fun _ hk => hk.2) (.int .i64 ((rd_T75 l1 x13_1).f1))) (fun _ hk => hk.2) (.int .i64 ((rd_T75 l1 x13_1).f2))) (fun _ hk => hk.2) (.string ((rd_T75 l1 x13_1).f3))) (fun _ hk => trivial)⟩, ⟨by exact Kd.R_mono (Kd.R_far (p := ⟨gb129, 3, none⟩) (Kd.R_far (p := ⟨gb129, 2, none⟩) (Kd.R_far (p := ⟨gb129, 1, none⟩) (Kd.R_far (p := ⟨gb129, 0, none⟩) (Kd.R_types HO_128002.out BK129.out (by decide)) (fun _ hk => hk.2) (.bool (true))) (fun _ hk => hk.2) (.int .i64 ((rd_T75 l1 x13_1).f1))) (fun _ hk => hk.2) (.int .i64 ((rd_T75 l1 x13_1).f2))) (fun _ hk => hk.2) (.string ((rd_T75 l1 x13_1).f3))) (fun _ hk => trivial)⟩, ⟨by exact Kd.R_mono (Kd.R_far (p := ⟨gb129, 3, none⟩) (Kd.R_far (p := ⟨gb129, 2, none⟩) (Kd.R_far (p := ⟨gb129, 1, none⟩) (Kd.R_far (p := ⟨gb129, 0, none⟩) (Kd.R_types HO_128003.out BK129.out (by decide)) (fun _ hk => hk.2) (.bool (true))) (fun _ hk => hk.2) (.int .i64 ((rd_T75 l1 x13_1).f1))) (fun _ hk => hk.2) (.int .i64 ((rd_T75 l1 x13_1).f2))) (fun _ hk => hk.2) (.string ((rd_T75 l1 x13_1).f3))) (fun _ hk => trivial)⟩, ⟨by refine blk_far ?_ NB115_129.out _; refine blk_far ?_ NB115_129.out _; refine blk_far ?_ NB115_129.out _; refine blk_far ?_ NB115_129.out _; (with_reducible repeat (first | refine blk_drewN ?_ _ | refine blk_drew ?_ | refine blk_alloc ?_ _)); exact BK115.out⟩, ⟨by refine blk_far ?_ NB116_129.out _; refine blk_far ?_ NB116_129.out _; refine blk_far ?_ NB116_129.out _; refine blk_far ?_ NB116_129.out _; (with_reducible repeat (first | refine blk_drewN ?_ _ | refine blk_drew ?_ | refine blk_alloc ?_ _)); exact BK116.out⟩, ⟨by refine blk_far ?_ NB127_129.out _; refine blk_far ?_ NB127_129.out _; refine blk_far ?_ NB127_129.out _; refine blk_far ?_ NB127_129.out _; (with_reducible repeat (first | refine blk_drewN ?_ _ | refine blk_drew ?_ | refine blk_alloc ?_ _)); exact BK127.out⟩, ⟨by refine blk_put (cs := #[.bool (true), .int .i64 ((rd_T75 l1 x13_1).f1), .int .i64 ((rd_T75 l1 x13_1).f2), .string (⟨#[]⟩ : ByteArray)]) ?_ 3 _ rfl; refine blk_put (cs := #[.bool (true), .int .i64 ((rd_T75 l1 x13_1).f1), .int .i64 0, .string (⟨#[]⟩ : ByteArray)]) ?_ 2 _ rfl; refine blk_put (cs := #[.bool (true), .int .i64 0, .int .i64 0, .string (⟨#[]⟩ : ByteArray)]) ?_ 1 _ rfl; refine blk_put (cs := #[.bool false, .int .i64 0, .int .i64 0, .string (⟨#[]⟩ : ByteArray)]) ?_ 0 _ rfl; (with_reducible repeat (first | refine blk_drewN ?_ _ | refine blk_drew ?_ | refine blk_alloc ?_ _)); exact BK129.out⟩, ⟨BB HB⟩⟩
       ·replace c26 := Bool.eq_false_iff.mpr c26
        subst c26
        have H1 : (field_Set.j1 k1 l1 (l1.length : Int) x13_1 false t117 x128001_1 x128002_1 t124 false ((rd_T75 l1 x13_1).f1) ((rd_T75 l1 x13_1).f2) ((rd_T75 l1 x13_1).f3)) = some (r1, r2, r3, r4, r5) := by rw [if_neg (show ¬ (false = true) by decide)] at H; exact H
        clear H
        have H := H1
        clear H1
        have H' := Aside0.mk H
        clear H
        have hnb45 := NB129_115.out
        have hnc45 := NB115_129.out
        have hnb46 := NB129_116.out
        have hnc46 := NB116_129.out
        have hnb47 := NB129_127.out
        have hnc47 := NB127_129.out
        have hcz48_0 : w20.cell? ⟨gb129, 0, none⟩ = some (.bool false) := (blk_cell BK129.out 0).trans rfl
        have hcz48_1 : w20.cell? ⟨gb129, 1, none⟩ = some (.int .i64 0) := (blk_cell BK129.out 1).trans rfl
        have hcz48_2 : w20.cell? ⟨gb129, 2, none⟩ = some (.int .i64 0) := (blk_cell BK129.out 2).trans rfl
        have hcz48_3 : w20.cell? ⟨gb129, 3, none⟩ = some (.string (⟨#[]⟩ : ByteArray)) := (blk_cell BK129.out 3).trans rfl
        have hfz48_0 := blk_frozen BK129.out 0
        have hfz48_1 := blk_frozen BK129.out 1
        have hfz48_2 := blk_frozen BK129.out 2
        have hfz48_3 := blk_frozen BK129.out 3
        go_wp2
        go_meet
        case rel => (try rw [← Nbq25.out]); exact ⟨_, (false), (by first | rfl | (simp; done) | (simp [*]; done)), H', ⟨by have := HK1.out; first | omega | exact Nat.le_refl _⟩, ⟨by exact Kd.R_mono (Kd.R_far (p := ⟨gb129, 3, none⟩) (Kd.R_far (p := ⟨gb129, 2, none⟩) (Kd.R_far (p := ⟨gb129, 1, none⟩) (Kd.R_far (p := ⟨gb129, 0, none⟩) (Kd.R_types HO_128001.out BK129.out (by decide)) (fun _ hk => hk.2) (.bool (false))) (fun _ hk => hk.2) (.int .i64 ((rd_T75 l1 x13_1).f1))) (fun _ hk => hk.2) (.int .i64 ((rd_T75 l1 x13_1).f2))) (fun _ hk => hk.2) (.string ((rd_T75 l1 x13_1).f3))) (fun _ hk => trivial)⟩, ⟨by exact Kd.R_mono (Kd.R_far (p := ⟨gb129, 3, none⟩) (Kd.R_far (p := ⟨gb129, 2, none⟩) (Kd.R_far (p := ⟨gb129, 1, none⟩) (Kd.R_far (p := ⟨gb129, 0, none⟩) (Kd.R_types HO_128002.out BK129.out (by decide)) (fun _ hk => hk.2) (.bool (false))) (fun _ hk => hk.2) (.int .i64 ((rd_T75 l1 x13_1).f1))) (fun _ hk => hk.2) (.int .i64 ((rd_T75 l1 x13_1).f2))) (fun _ hk => hk.2) (.string ((rd_T75 l1 x13_1).f3))) (fun _ hk => trivial)⟩, ⟨by exact Kd.R_mono (Kd.R_far (p := ⟨gb129, 3, none⟩) (Kd.R_far (p := ⟨gb129, 2, none⟩) (Kd.R_far (p := ⟨gb129, 1, none⟩) (Kd.R_far (p := ⟨gb129, 0, none⟩) (Kd.R_types HO_128003.out BK129.out (by decide)) (fun _ hk => hk.2) (.bool (false))) (fun _ hk => hk.2) (.int .i64 ((rd_T75 l1 x13_1).f1))) (fun _ hk => hk.2) (.int .i64 ((rd_T75 l1 x13_1).f2))) (fun _ hk => hk.2) (.string ((rd_T75 l1 x13_1).f3))) (fun _ hk => trivial)⟩, ⟨by refine blk_far ?_ NB115_129.out _; refine blk_far ?_ NB115_129.out _; refine blk_far ?_ NB115_129.out _; refine blk_far ?_ NB115_129.out _; (with_reducible repeat (first | refine blk_drewN ?_ _ | refine blk_drew ?_ | refine blk_alloc ?_ _)); exact BK115.out⟩, ⟨by refine blk_far ?_ NB116_129.out _; refine blk_far ?_ NB116_129.out _; refine blk_far ?_ NB116_129.out _; refine blk_far ?_ NB116_129.out _; (with_reducible repeat (first | refine blk_drewN ?_ _ | refine blk_drew ?_ | refine blk_alloc ?_ _)); exact BK116.out⟩, ⟨by refine blk_far ?_ NB127_129.out _; refine blk_far ?_ NB127_129.out _; refine blk_far ?_ NB127_129.out _; refine blk_far ?_ NB127_129.out _; (with_reducible repeat (first | refine blk_drewN ?_ _ | refine blk_drew ?_ | refine blk_alloc ?_ _)); exact BK127.out⟩, ⟨by refine blk_put (cs := #[.bool (false), .int .i64 ((rd_T75 l1 x13_1).f1), .int .i64 ((rd_T75 l1 x13_1).f2), .string (⟨#[]⟩ : ByteArray)]) ?_ 3 _ rfl; refine blk_put (cs := #[.bool (false), .int .i64 ((rd_T75 l1 x13_1).f1), .int .i64 0, .string (⟨#[]⟩ : ByteArray)]) ?_ 2 _ rfl; refine blk_put (cs := #[.bool (false), .int .i64 0, .int .i64 0, .string (⟨#[]⟩ : ByteArray)]) ?_ 1 _ rfl; refine blk_put (cs := #[.bool false, .int .i64 0, .int .i64 0, .string (⟨#[]⟩ : ByteArray)]) ?_ 0 _ rfl; (with_reducible repeat (first | refine blk_drewN ?_ _ | refine blk_drew ?_ | refine blk_alloc ?_ _)); exact BK129.out⟩, ⟨BB HB⟩⟩
      case rest =>
       clear HC19
       try clear c1
       try clear p1
       try clear q1
       try clear hx1
       try clear c2
       try clear p2
       try clear q2
       try clear c3
       try clear c4
       try clear c6
       try clear c10
       try clear c11
       try clear p12
       try clear q12
       try clear hx12
       try clear c16
       try clear c16b0
       try clear c17
       try clear c17b0
       try clear c18
       try clear c18b0
       try clear c21
       try clear c22
       try clear c23
       try clear c25
       try clear q25
       try clear c26
       try clear c27
       try clear c27b0
       try clear c27b1
       try clear c28
       try clear c28b0
       try clear c29
       try clear c30
       try clear c31
       try clear c33
       try clear c34
       try clear c37
       try clear c38
       try clear c39
       try clear c41
       try clear c42
       try clear c43
       try clear c45
       try clear c46
       try clear c47
       try clear hcz12_0
       try clear hcz12_1
       try clear hcz12_2
       try clear hcz12_3
       try clear hcz24_0
       try clear hcz24_1
       try clear hcz24_2
       try clear hcz24_3
       try clear hcz32_0
       try clear hcz32_1
       try clear hcz32_2
       try clear hcz32_3
       try clear hcz35_0
       try clear hcz35_1
       try clear hcz35_2
       try clear hcz35_3
       try clear hcz40_0
       try clear hcz40_1
       try clear hcz40_2
       try clear hcz40_3
       try clear hcz44_0
       try clear hcz44_1
       try clear hcz44_2
       try clear hcz44_3
       try clear hcz48_0
       try clear hcz48_1
       try clear hcz48_2
       try clear hcz48_3
       try clear hcz7_0
       try clear hcz7_1
       try clear hcz7_2
       try clear hcz7_3
       try clear hfz12_0
       try clear hfz12_1
       try clear hfz12_2
       try clear hfz12_3
       try clear hfz24_0
       try clear hfz24_1
       try clear hfz24_2
       try clear hfz24_3
       try clear hfz32_0
       try clear hfz32_1
       try clear hfz32_2
       try clear hfz32_3
       try clear hfz35_0
       try clear hfz35_1
       try clear hfz35_2
       try clear hfz35_3
       try clear hfz40_0
       try clear hfz40_1
       try clear hfz40_2
       try clear hfz40_3
       try clear hfz44_0
       try clear hfz44_1
       try clear hfz44_2
       try clear hfz44_3
       try clear hfz48_0
       try clear hfz48_1
       try clear hfz48_2
       try clear hfz48_3
       try clear hfz7_0
       try clear hfz7_1
       try clear hfz7_2
       try clear hfz7_3
       try clear hx128_0
       try clear hx128_1
       try clear hx128_2
       try clear hx128_3
       try clear p128
       try clear p2
       try clear q128
       obtain ⟨kq, x18_18, rfl, HA, HJ18, HO_128001, HO_128002, HO_128003, BK115, BK116, BK127, BK129, HB⟩ := hcut
       cases kq with
       | zero => exact absurd HA.out (by simp [field_Set.j1])
       | succ kj18 =>
        have H := HA.out
        clear HA
        simp only [field_Set.j1] at H
        by_cases c49 : x18_18 = true
        ·subst c49
         have H1 : (if 0 ≤ ((rd_T75 l1 x13_1).f1) then (if ((rd_T75 l1 x13_1).f1) < (x128002_1.length : Int) then (field_Set.l0 kj18 l1 (l1.length : Int) (wrap64 (x13_1 + 1)) t117 x128001_1 (x128002_1.set (((rd_T75 l1 x13_1).f1) : Int).toNat ((rd_T75 l1 x13_1).f3)) t124) else (none)) else (none)) = some (r1, r2, r3, r4, r5) := by rw [if_pos rfl] at H; exact H
         clear H
         have H := H1
         clear H1
         by_cases c50 : 0 ≤ ((rd_T75 l1 x13_1).f1)
         ·rw [if_pos c50] at H
          have c50b0 : decide (0 ≤ ((rd_T75 l1 x13_1).f1)) = true := decide_eq_true c50
          clear c50
          by_cases c51 : ((rd_T75 l1 x13_1).f1) < (x128002_1.length : Int)
          ·rw [if_pos c51] at H
           have c51b0 : decide (((rd_T75 l1 x13_1).f1) < (x128002_1.length : Int)) = true := decide_eq_true c51
           clear c51
           obtain ⟨y130, hy130⟩ : ∃ y_ : List ByteArray, y_ = (x128002_1.set (((rd_T75 l1 x13_1).f1) : Int).toNat ((rd_T75 l1 x13_1).f3)) := ⟨_, rfl⟩
           replace H : (field_Set.l0 kj18 l1 (l1.length : Int) (wrap64 (x13_1 + 1)) t117 x128001_1 y130 t124) = some (r1, r2, r3, r4, r5) := by first | (rw [hy130]; with_reducible exact H) | (have H2_ := (Option.bind_some _ _).symm.trans H; rw [hy130]; with_reducible exact H2_) | (have H2_ := (Option.bind_some _ _).symm.trans H; with_reducible exact H2_) | with_reducible exact H | (rw [hy130]; exact H) | exact H
           have Ny130 := Aside0.mk hy130
           clear hy130
           have H' := Aside0.mk H
           clear H
           have hnb53 := NB127_115.out
           have hnc53 := NB115_127.out
           have hnb54 := NB127_116.out
           have hnc54 := NB116_127.out
           have hnb55 := NB127_129.out
           have hnc55 := NB129_127.out
           have hcz56_0 : wc.cell? ⟨gb127, 0, none⟩ = some (.int .i64 t117) := (blk_cell BK127.out 0).trans rfl
           have hcz56_1 : wc.cell? ⟨gb127, 1, none⟩ = some (u128001) := (blk_cell BK127.out 1).trans rfl
           have hcz56_2 : wc.cell? ⟨gb127, 2, none⟩ = some (u128002) := (blk_cell BK127.out 2).trans rfl
           have hcz56_3 : wc.cell? ⟨gb127, 3, none⟩ = some (.slice Ao15 t124.length co15) := (blk_cell BK127.out 3).trans rfl
           have hfz56_0 := blk_frozen BK127.out 0
           have hfz56_1 := blk_frozen BK127.out 1
           have hfz56_2 := blk_frozen BK127.out 2
           have hfz56_3 := blk_frozen BK127.out 3
           have hnb57 := NB129_115.out
           have hnc57 := NB115_129.out
           have hnb58 := NB129_116.out
           have hnc58 := NB116_129.out
           have hcz59_0 : wc.cell? ⟨gb129, 0, none⟩ = some (.bool ((rd_T75 l1 x13_1).f0)) := (blk_cell BK129.out 0).trans rfl
           have hcz59_1 : wc.cell? ⟨gb129, 1, none⟩ = some (.int .i64 ((rd_T75 l1 x13_1).f1)) := (blk_cell BK129.out 1).trans rfl
           have hcz59_2 : wc.cell? ⟨gb129, 2, none⟩ = some (.int .i64 ((rd_T75 l1 x13_1).f2)) := (blk_cell BK129.out 2).trans rfl
           have hcz59_3 : wc.cell? ⟨gb129, 3, none⟩ = some (.string ((rd_T75 l1 x13_1).f3)) := (blk_cell BK129.out 3).trans rfl
           have hfz59_0 := blk_frozen BK129.out 0
           have hfz59_1 := blk_frozen BK129.out 1
           have hfz59_2 := blk_frozen BK129.out 2
           have hfz59_3 := blk_frozen BK129.out 3
           have p52 : 0 ≤ (((rd_T75 l1 x13_1).f1) : Int) := of_decide_eq_true (by first | (with_reducible assumption) | assumption)
           have q52 : (((rd_T75 l1 x13_1).f1) : Int) < ((x128002_1.length : Int) : Int) := of_decide_eq_true (by first | (with_reducible assumption) | assumption)
           obtain ⟨go52, co52, eo52, gb52, gl52, cl52, HG52⟩ := Kd.R_form HO_128002.out (by omega)
           (first | cases eo52 | (injection eo52 with ea_ en_ ec_; (first | subst ea_ | (injection ea_ with ea_; subst ea_)); subst ec_; clear en_))
           have GB52 := Aside0.mk gb52
           have GG52 := Aside0.mk HG52
           clear gb52 gl52 HG52
           obtain ⟨hx52_0, hf52_0⟩ := Kd.R_celln (⟨#[]⟩ : ByteArray) HO_128002.out (((rd_T75 l1 x13_1).f1) : Int) p52 q52
           replace p52 := eq_true p52
           replace q52 := eq_true q52
           have HP60 := Kd.R_putg HO_128002.out (((rd_T75 l1 x13_1).f1) : Int) ((rd_T75 l1 x13_1).f3)
           go_wp2_with (first | ((with_reducible refine gate_store (t := 9) (p := 45) rfl ?_); refine store_event (t := 9) (p := 45) (v := ?vo_w61) (w1 := (wc.setCell ⟨go52, (((rd_T75 l1 x13_1).f1) : Int).toNat, none⟩ (.string ((rd_T75 l1 x13_1).f3)))) ?hg ?ho ?hn ?hr ?_; (case ho => rfl); (case hg => rfl); (case hn => rfl); (case hr => first | (go_simp; done) | (go_simp; rfl)); intro w61 hw; have hg : wc.grownBy w61 (some go52) := (by rw [hw]; exact HP60.2); have hp_ : Kd.R Kd.string 9 w61 w.heap.size (fun _ => True) (.slice (some ⟨go52, 0, none⟩) x128002_1.length co52) y130 := (by rw [hw, Ny130.out]; exact HP60.1); clear HP60; have n0_ := Aside0.mk (Kd.R_over' (v := (.slice (some ⟨go52, 0, none⟩) x128002_1.length co52)) (RL HO_128001) (Kd.R_typed HO_128002.out) (by decide) hg); have n1_ := Aside0.mk (hp_); have n2_ := Aside0.mk (Kd.R_over' (v := (.slice (some ⟨go52, 0, none⟩) x128002_1.length co52)) (RL HO_128003) (Kd.R_typed HO_128002.out) (by decide) hg); have n3_ := Aside0.mk (blk_grown (g := gb115) (o := .cells #[.int .i64 a0_0, .slice A0_1 l0_1.length c0_1, .slice A0_2 l0_2.length c0_2, .slice A0_3 l0_3.length c0_3] 26 (0, 0)) (BL BK115) hg (Kd.R_ne HO_128002.out BK115.out (by decide))); have n4_ := Aside0.mk (blk_grown (g := gb116) (o := .cells #[.int .i64 x117000_1, .slice none 0 0, .slice none 0 0, .slice none 0 0] 26 (0, 0)) (BL BK116) hg (Kd.R_ne HO_128002.out BK116.out (by decide))); have n5_ := Aside0.mk (blk_grown (g := gb127) (o := .cells #[.int .i64 t117, u128001, .slice (some ⟨go52, 0, none⟩) x128002_1.length co52, .slice Ao15 t124.length co15] 26 (0, 0)) (BL BK127) hg (Kd.R_ne HO_128002.out BK127.out (by decide))); have n6_ := Aside0.mk (blk_grown (g := gb129) (o := .cells #[.bool ((rd_T75 l1 x13_1).f0), .int .i64 ((rd_T75 l1 x13_1).f1), .int .i64 ((rd_T75 l1 x13_1).f2), .string ((rd_T75 l1 x13_1).f3)] 75 (0, 0)) (BL BK129) hg (Kd.R_ne HO_128002.out BK129.out (by decide))); have n7_ := Aside0.mk ((by rw [hw]; exact below_set (HB.out) GB52.out : Below w.heap.size w w61)); clear HO_128001; clear HO_128002; clear HO_128003; clear BK115; clear BK116; clear BK127; clear BK129; clear HB; have HO_128001 := n0_; have HO_128002 := n1_; have HO_128003 := n2_; have BK115 := n3_; have BK116 := n4_; have BK127 := n5_; have BK129 := n6_; have HB := n7_; clear n0_ n1_ n2_ n3_ n4_ n5_ n6_ n7_; clear hg hw hp_))
           go_roundg kj18
           case measure => have := HK1.out; have := HJ18.out; omega
           case rel => exact ⟨(wrap64 (x13_1 + 1)), (x117000_1), (x128001_1), (y130), (u128001), (.slice (some ⟨go52, 0, none⟩) x128002_1.length co52), (by first | rfl | (simp; done) | (simp [*]; done)), H', ⟨by have := HK1.out; have := HJ18.out; omega⟩, ⟨by (with_reducible repeat (first | apply Kd.R_alloc | apply Kd.R_drewN | apply Kd.R_drew)); exact HO_128001.out⟩, ⟨by (with_reducible repeat (first | apply Kd.R_alloc | apply Kd.R_drewN | apply Kd.R_drew)); exact HO_128002.out⟩, ⟨by (with_reducible repeat (first | apply Kd.R_alloc | apply Kd.R_drewN | apply Kd.R_drew)); exact HO_128003.out⟩, ⟨BL BK115⟩, ⟨BL BK116⟩, ⟨BL BK127⟩, ⟨BB HB⟩⟩
          ·rw [if_neg c51] at H
           exact absurd H (by simp)
         ·rw [if_neg c50] at H
          exact absurd H (by simp)
        ·replace c49 := Bool.eq_false_iff.mpr c49
         subst c49
         have H1 : (if ((rd_T75 l1 x13_1).f0) = true then (some (0, ([] : List Int), ([] : List ByteArray), ([] : List Int), 21)) else (if ((rd_T75 l1 x13_1).f3).toList = ([] : List UInt8) then (if ((rd_T75 l1 x13_1).f1) ≥ 0 then (if ((rd_T75 l1 x13_1).f1) < (x128001_1.length : Int) then (if 0 ≤ ((rd_T75 l1 x13_1).f1) then (field_Set.l0 kj18 l1 (l1.length : Int) (wrap64 (x13_1 + 1)) t117 (x128001_1.set (((rd_T75 l1 x13_1).f1) : Int).toNat ((rd_T75 l1 x13_1).f2)) x128002_1 t124) else (none)) else (some (0, ([] : List Int), ([] : List ByteArray), ([] : List Int), 21))) else (some (0, ([] : List Int), ([] : List ByteArray), ([] : List Int), 21))) else (some (0, ([] : List Int), ([] : List ByteArray), ([] : List Int), 21)))) = some (r1, r2, r3, r4, r5) := by rw [if_neg (show ¬ (false = true) by decide)] at H; exact H
         clear H
         have H := H1
         clear H1
         by_cases c62 : ((rd_T75 l1 x13_1).f0) = true
         ·rw [if_pos c62] at H
          have c62b0 : ((rd_T75 l1 x13_1).f0) = true := c62
          clear c62
          simp only [Option.some.injEq, Prod.mk.injEq] at H
          obtain ⟨rfl, rfl, rfl, rfl, rfl⟩ := H
          have hnb63 := NB129_115.out
          have hnc63 := NB115_129.out
          have hnb64 := NB129_116.out
          have hnc64 := NB116_129.out
          have hnb65 := NB129_127.out
          have hnc65 := NB127_129.out
          have hcz66_0 : wc.cell? ⟨gb129, 0, none⟩ = some (.bool ((rd_T75 l1 x13_1).f0)) := (blk_cell BK129.out 0).trans rfl
          have hcz66_1 : wc.cell? ⟨gb129, 1, none⟩ = some (.int .i64 ((rd_T75 l1 x13_1).f1)) := (blk_cell BK129.out 1).trans rfl
          have hcz66_2 : wc.cell? ⟨gb129, 2, none⟩ = some (.int .i64 ((rd_T75 l1 x13_1).f2)) := (blk_cell BK129.out 2).trans rfl
          have hcz66_3 : wc.cell? ⟨gb129, 3, none⟩ = some (.string ((rd_T75 l1 x13_1).f3)) := (blk_cell BK129.out 3).trans rfl
          have hfz66_0 := blk_frozen BK129.out 0
          have hfz66_1 := blk_frozen BK129.out 1
          have hfz66_2 := blk_frozen BK129.out 2
          have hfz66_3 := blk_frozen BK129.out 3
          have hnb67 := NB116_115.out
          have hnc67 := NB115_116.out
          have hnb68 := NB116_127.out
          have hnc68 := NB127_116.out
          have hcz69_0 : wc.cell? ⟨gb116, 0, none⟩ = some (.int .i64 x117000_1) := (blk_cell BK116.out 0).trans rfl
          have hcz69_1 : wc.cell? ⟨gb116, 1, none⟩ = some (.slice none 0 0) := (blk_cell BK116.out 1).trans rfl
          have hcz69_2 : wc.cell? ⟨gb116, 2, none⟩ = some (.slice none 0 0) := (blk_cell BK116.out 2).trans rfl
          have hcz69_3 : wc.cell? ⟨gb116, 3, none⟩ = some (.slice none 0 0) := (blk_cell BK116.out 3).trans rfl
          have hfz69_0 := blk_frozen BK116.out 0
          have hfz69_1 := blk_frozen BK116.out 1
          have hfz69_2 := blk_frozen BK116.out 2
          have hfz69_3 := blk_frozen BK116.out 3
          go_wp2
          refine bodyPost_ret (results_ct rfl _ _ gb116 26 #[.int .i64 0, .slice none 0 0, .slice none 0 0, .slice none 0 0] (0, 0) _ rfl (by refine blk_put (cs := #[.int .i64 0, .slice none 0 0, .slice none 0 0, .slice none 0 0]) ?_ 3 _ rfl; refine blk_put (cs := #[.int .i64 0, .slice none 0 0, .slice none 0 0, .slice none 0 0]) ?_ 2 _ rfl; refine blk_put (cs := #[.int .i64 0, .slice none 0 0, .slice none 0 0, .slice none 0 0]) ?_ 1 _ rfl; refine blk_put (cs := #[.int .i64 x117000_1, .slice none 0 0, .slice none 0 0, .slice none 0 0]) ?_ 0 _ rfl; (with_reducible repeat (first | refine blk_drewN ?_ _ | refine blk_drew ?_ | refine blk_alloc ?_ _)); exact BK116.out) Tryd.underlying26 rfl (by kernel_rfl)) rfl ?_
          exact ⟨_, _, _, by first | rfl | (simp [errW_none, errW_some] <;> rfl) | (simp [*, errW_none, errW_some] <;> rfl), by first | exact Kd.R_nil _ _ _ _ _ | exact Kd.N_nil _ _ _ _ _ | exact Kd.V_nil _ _ _ _ _ | exact Kd.Q_nil _ _ _ _ _ | exact Kd.S_nil _ _ _ _ _, by first | exact Kd.R_nil _ _ _ _ _ | exact Kd.N_nil _ _ _ _ _ | exact Kd.V_nil _ _ _ _ _ | exact Kd.Q_nil _ _ _ _ _ | exact Kd.S_nil _ _ _ _ _, by first | exact Kd.R_nil _ _ _ _ _ | exact Kd.N_nil _ _ _ _ _ | exact Kd.V_nil _ _ _ _ _ | exact Kd.Q_nil _ _ _ _ _ | exact Kd.S_nil _ _ _ _ _, BB HB⟩
         ·rw [if_neg c62] at H
          have c62b0 : ((rd_T75 l1 x13_1).f0) = false := by simpa using c62
          clear c62
          by_cases c70 : ((rd_T75 l1 x13_1).f3).toList = ([] : List UInt8)
          ·rw [if_pos c70] at H
           have c70b0 : (((rd_T75 l1 x13_1).f3).toList == ([] : List UInt8)) = true := beq_iff_eq.mpr c70
           have c70b1 : (((rd_T75 l1 x13_1).f3).toList != ([] : List UInt8)) = false := bne_eq_false_iff_eq.mpr c70
           clear c70
           by_cases c71 : ((rd_T75 l1 x13_1).f1) ≥ 0
           ·rw [if_pos c71] at H
            have c71b0 : decide (0 ≤ ((rd_T75 l1 x13_1).f1)) = true := decide_eq_true c71
            clear c71
            by_cases c72 : ((rd_T75 l1 x13_1).f1) < (x128001_1.length : Int)
            ·rw [if_pos c72] at H
             have c72b0 : decide (((rd_T75 l1 x13_1).f1) < (x128001_1.length : Int)) = true := decide_eq_true c72
             clear c72
             by_cases c73 : 0 ≤ ((rd_T75 l1 x13_1).f1)
             ·rw [if_pos c73] at H
              have c73b0 : decide (0 ≤ ((rd_T75 l1 x13_1).f1)) = true := decide_eq_true c73
              clear c73
              obtain ⟨y131, hy131⟩ : ∃ y_ : List Int, y_ = (x128001_1.set (((rd_T75 l1 x13_1).f1) : Int).toNat ((rd_T75 l1 x13_1).f2)) := ⟨_, rfl⟩
              replace H : (field_Set.l0 kj18 l1 (l1.length : Int) (wrap64 (x13_1 + 1)) t117 y131 x128002_1 t124) = some (r1, r2, r3, r4, r5) := by first | (rw [hy131]; with_reducible exact H) | (have H2_ := (Option.bind_some _ _).symm.trans H; rw [hy131]; with_reducible exact H2_) | (have H2_ := (Option.bind_some _ _).symm.trans H; with_reducible exact H2_) | with_reducible exact H | (rw [hy131]; exact H) | exact H
              have Ny131 := Aside0.mk hy131
              clear hy131
              have H' := Aside0.mk H
              clear H
              have hnb75 := NB129_115.out
              have hnc75 := NB115_129.out
              have hnb76 := NB129_116.out
              have hnc76 := NB116_129.out
              have hnb77 := NB129_127.out
              have hnc77 := NB127_129.out
              have hcz78_0 : wc.cell? ⟨gb129, 0, none⟩ = some (.bool ((rd_T75 l1 x13_1).f0)) := (blk_cell BK129.out 0).trans rfl
              have hcz78_1 : wc.cell? ⟨gb129, 1, none⟩ = some (.int .i64 ((rd_T75 l1 x13_1).f1)) := (blk_cell BK129.out 1).trans rfl
              have hcz78_2 : wc.cell? ⟨gb129, 2, none⟩ = some (.int .i64 ((rd_T75 l1 x13_1).f2)) := (blk_cell BK129.out 2).trans rfl
              have hcz78_3 : wc.cell? ⟨gb129, 3, none⟩ = some (.string ((rd_T75 l1 x13_1).f3)) := (blk_cell BK129.out 3).trans rfl
              have hfz78_0 := blk_frozen BK129.out 0
              have hfz78_1 := blk_frozen BK129.out 1
              have hfz78_2 := blk_frozen BK129.out 2
              have hfz78_3 := blk_frozen BK129.out 3
              have hnb79 := NB127_115.out
              have hnc79 := NB115_127.out
              have hnb80 := NB127_116.out
              have hnc80 := NB116_127.out
              have hcz81_0 : wc.cell? ⟨gb127, 0, none⟩ = some (.int .i64 t117) := (blk_cell BK127.out 0).trans rfl
              have hcz81_1 : wc.cell? ⟨gb127, 1, none⟩ = some (u128001) := (blk_cell BK127.out 1).trans rfl
              have hcz81_2 : wc.cell? ⟨gb127, 2, none⟩ = some (u128002) := (blk_cell BK127.out 2).trans rfl
              have hcz81_3 : wc.cell? ⟨gb127, 3, none⟩ = some (.slice Ao15 t124.length co15) := (blk_cell BK127.out 3).trans rfl
              have hfz81_0 := blk_frozen BK127.out 0
              have hfz81_1 := blk_frozen BK127.out 1
              have hfz81_2 := blk_frozen BK127.out 2
              have hfz81_3 := blk_frozen BK127.out 3
              obtain ⟨Ao82, co82, eo82⟩ := Kd.R_slice HO_128001.out
              subst eo82
              have p74 : 0 ≤ (((rd_T75 l1 x13_1).f1) : Int) := of_decide_eq_true (by first | (with_reducible assumption) | assumption)
              have q74 : (((rd_T75 l1 x13_1).f1) : Int) < ((x128001_1.length : Int) : Int) := of_decide_eq_true (by first | (with_reducible assumption) | assumption)
              obtain ⟨go74, co74, eo74, gb74, gl74, cl74, HG74⟩ := Kd.R_form HO_128001.out (by omega)
              (first | cases eo74 | (injection eo74 with ea_ en_ ec_; (first | subst ea_ | (injection ea_ with ea_; subst ea_)); subst ec_; clear en_))
              have GB74 := Aside0.mk gb74
              have GG74 := Aside0.mk HG74
              clear gb74 gl74 HG74
              obtain ⟨hx74_0, hf74_0⟩ := Kd.R_celln 0 HO_128001.out (((rd_T75 l1 x13_1).f1) : Int) p74 q74
              replace p74 := eq_true p74
              replace q74 := eq_true q74
              have HP83 := Kd.R_putg HO_128001.out (((rd_T75 l1 x13_1).f1) : Int) ((rd_T75 l1 x13_1).f2)
              go_wp2_with (first | ((with_reducible refine gate_store (t := 2) (p := 74) rfl ?_); refine store_event (t := 2) (p := 74) (v := ?vo_w84) (w1 := (wc.setCell ⟨go74, (((rd_T75 l1 x13_1).f1) : Int).toNat, none⟩ (.int .i64 ((rd_T75 l1 x13_1).f2)))) ?hg ?ho ?hn ?hr ?_; (case ho => rfl); (case hg => rfl); (case hn => rfl); (case hr => first | (go_simp; done) | (go_simp; rfl)); intro w84 hw; have hg : wc.grownBy w84 (some go74) := (by rw [hw]; exact HP83.2); have hp_ : Kd.R (Kd.int .i64) 2 w84 w.heap.size (fun _ => True) (.slice (some ⟨go74, 0, none⟩) x128001_1.length co82) y131 := (by rw [hw, Ny131.out]; exact HP83.1); clear HP83; have n0_ := Aside0.mk (hp_); have n1_ := Aside0.mk (Kd.R_over' (v := (.slice (some ⟨go74, 0, none⟩) x128001_1.length co82)) (RL HO_128002) (Kd.R_typed HO_128001.out) (by decide) hg); have n2_ := Aside0.mk (Kd.R_over' (v := (.slice (some ⟨go74, 0, none⟩) x128001_1.length co82)) (RL HO_128003) (Kd.R_typed HO_128001.out) (by decide) hg); have n3_ := Aside0.mk (blk_grown (g := gb115) (o := .cells #[.int .i64 a0_0, .slice A0_1 l0_1.length c0_1, .slice A0_2 l0_2.length c0_2, .slice A0_3 l0_3.length c0_3] 26 (0, 0)) (BL BK115) hg (Kd.R_ne HO_128001.out BK115.out (by decide))); have n4_ := Aside0.mk (blk_grown (g := gb116) (o := .cells #[.int .i64 x117000_1, .slice none 0 0, .slice none 0 0, .slice none 0 0] 26 (0, 0)) (BL BK116) hg (Kd.R_ne HO_128001.out BK116.out (by decide))); have n5_ := Aside0.mk (blk_grown (g := gb127) (o := .cells #[.int .i64 t117, .slice (some ⟨go74, 0, none⟩) x128001_1.length co82, u128002, .slice Ao15 t124.length co15] 26 (0, 0)) (BL BK127) hg (Kd.R_ne HO_128001.out BK127.out (by decide))); have n6_ := Aside0.mk (blk_grown (g := gb129) (o := .cells #[.bool ((rd_T75 l1 x13_1).f0), .int .i64 ((rd_T75 l1 x13_1).f1), .int .i64 ((rd_T75 l1 x13_1).f2), .string ((rd_T75 l1 x13_1).f3)] 75 (0, 0)) (BL BK129) hg (Kd.R_ne HO_128001.out BK129.out (by decide))); have n7_ := Aside0.mk ((by rw [hw]; exact below_set (HB.out) GB74.out : Below w.heap.size w w84)); clear HO_128001; clear HO_128002; clear HO_128003; clear BK115; clear BK116; clear BK127; clear BK129; clear HB; have HO_128001 := n0_; have HO_128002 := n1_; have HO_128003 := n2_; have BK115 := n3_; have BK116 := n4_; have BK127 := n5_; have BK129 := n6_; have HB := n7_; clear n0_ n1_ n2_ n3_ n4_ n5_ n6_ n7_; clear hg hw hp_))
              go_roundg kj18
              case measure => have := HK1.out; have := HJ18.out; omega
              case rel => exact ⟨(wrap64 (x13_1 + 1)), (x117000_1), (y131), (x128002_1), (.slice (some ⟨go74, 0, none⟩) x128001_1.length co82), (u128002), (by first | rfl | (simp; done) | (simp [*]; done)), H', ⟨by have := HK1.out; have := HJ18.out; omega⟩, ⟨by (with_reducible repeat (first | apply Kd.R_alloc | apply Kd.R_drewN | apply Kd.R_drew)); exact HO_128001.out⟩, ⟨by (with_reducible repeat (first | apply Kd.R_alloc | apply Kd.R_drewN | apply Kd.R_drew)); exact HO_128002.out⟩, ⟨by (with_reducible repeat (first | apply Kd.R_alloc | apply Kd.R_drewN | apply Kd.R_drew)); exact HO_128003.out⟩, ⟨BL BK115⟩, ⟨BL BK116⟩, ⟨BL BK127⟩, ⟨BB HB⟩⟩
             ·rw [if_neg c73] at H
              exact absurd H (by simp)
            ·rw [if_neg c72] at H
             have c72b0 : decide (((rd_T75 l1 x13_1).f1) < (x128001_1.length : Int)) = false := decide_eq_false c72
             clear c72
             simp only [Option.some.injEq, Prod.mk.injEq] at H
             obtain ⟨rfl, rfl, rfl, rfl, rfl⟩ := H
             have hnb85 := NB129_115.out
             have hnc85 := NB115_129.out
             have hnb86 := NB129_116.out
             have hnc86 := NB116_129.out
             have hnb87 := NB129_127.out
             have hnc87 := NB127_129.out
             have hcz88_0 : wc.cell? ⟨gb129, 0, none⟩ = some (.bool ((rd_T75 l1 x13_1).f0)) := (blk_cell BK129.out 0).trans rfl
             have hcz88_1 : wc.cell? ⟨gb129, 1, none⟩ = some (.int .i64 ((rd_T75 l1 x13_1).f1)) := (blk_cell BK129.out 1).trans rfl
             have hcz88_2 : wc.cell? ⟨gb129, 2, none⟩ = some (.int .i64 ((rd_T75 l1 x13_1).f2)) := (blk_cell BK129.out 2).trans rfl
             have hcz88_3 : wc.cell? ⟨gb129, 3, none⟩ = some (.string ((rd_T75 l1 x13_1).f3)) := (blk_cell BK129.out 3).trans rfl
             have hfz88_0 := blk_frozen BK129.out 0
             have hfz88_1 := blk_frozen BK129.out 1
             have hfz88_2 := blk_frozen BK129.out 2
             have hfz88_3 := blk_frozen BK129.out 3
             have hnb89 := NB127_115.out
             have hnc89 := NB115_127.out
             have hnb90 := NB127_116.out
             have hnc90 := NB116_127.out
             have hcz91_0 : wc.cell? ⟨gb127, 0, none⟩ = some (.int .i64 t117) := (blk_cell BK127.out 0).trans rfl
             have hcz91_1 : wc.cell? ⟨gb127, 1, none⟩ = some (u128001) := (blk_cell BK127.out 1).trans rfl
             have hcz91_2 : wc.cell? ⟨gb127, 2, none⟩ = some (u128002) := (blk_cell BK127.out 2).trans rfl
             have hcz91_3 : wc.cell? ⟨gb127, 3, none⟩ = some (.slice Ao15 t124.length co15) := (blk_cell BK127.out 3).trans rfl
             have hfz91_0 := blk_frozen BK127.out 0
             have hfz91_1 := blk_frozen BK127.out 1
             have hfz91_2 := blk_frozen BK127.out 2
             have hfz91_3 := blk_frozen BK127.out 3
             obtain ⟨Ao92, co92, eo92⟩ := Kd.R_slice HO_128001.out
             subst eo92
             have hnb93 := NB116_115.out
             have hnc93 := NB115_116.out
             have hcz94_0 : wc.cell? ⟨gb116, 0, none⟩ = some (.int .i64 x117000_1) := (blk_cell BK116.out 0).trans rfl
             have hcz94_1 : wc.cell? ⟨gb116, 1, none⟩ = some (.slice none 0 0) := (blk_cell BK116.out 1).trans rfl
             have hcz94_2 : wc.cell? ⟨gb116, 2, none⟩ = some (.slice none 0 0) := (blk_cell BK116.out 2).trans rfl
             have hcz94_3 : wc.cell? ⟨gb116, 3, none⟩ = some (.slice none 0 0) := (blk_cell BK116.out 3).trans rfl
             have hfz94_0 := blk_frozen BK116.out 0
             have hfz94_1 := blk_frozen BK116.out 1
             have hfz94_2 := blk_frozen BK116.out 2
             have hfz94_3 := blk_frozen BK116.out 3
             go_wp2
             refine bodyPost_ret (results_ct rfl _ _ gb116 26 #[.int .i64 0, .slice none 0 0, .slice none 0 0, .slice none 0 0] (0, 0) _ rfl (by refine blk_put (cs := #[.int .i64 0, .slice none 0 0, .slice none 0 0, .slice none 0 0]) ?_ 3 _ rfl; refine blk_put (cs := #[.int .i64 0, .slice none 0 0, .slice none 0 0, .slice none 0 0]) ?_ 2 _ rfl; refine blk_put (cs := #[.int .i64 0, .slice none 0 0, .slice none 0 0, .slice none 0 0]) ?_ 1 _ rfl; refine blk_put (cs := #[.int .i64 x117000_1, .slice none 0 0, .slice none 0 0, .slice none 0 0]) ?_ 0 _ rfl; (with_reducible repeat (first | refine blk_drewN ?_ _ | refine blk_drew ?_ | refine blk_alloc ?_ _)); exact BK116.out) Tryd.underlying26 rfl (by kernel_rfl)) rfl ?_
             exact ⟨_, _, _, by first | rfl | (simp [errW_none, errW_some] <;> rfl) | (simp [*, errW_none, errW_some] <;> rfl), by first | exact Kd.R_nil _ _ _ _ _ | exact Kd.N_nil _ _ _ _ _ | exact Kd.V_nil _ _ _ _ _ | exact Kd.Q_nil _ _ _ _ _ | exact Kd.S_nil _ _ _ _ _, by first | exact Kd.R_nil _ _ _ _ _ | exact Kd.N_nil _ _ _ _ _ | exact Kd.V_nil _ _ _ _ _ | exact Kd.Q_nil _ _ _ _ _ | exact Kd.S_nil _ _ _ _ _, by first | exact Kd.R_nil _ _ _ _ _ | exact Kd.N_nil _ _ _ _ _ | exact Kd.V_nil _ _ _ _ _ | exact Kd.Q_nil _ _ _ _ _ | exact Kd.S_nil _ _ _ _ _, BB HB⟩
           ·rw [if_neg c71] at H
            have c71b0 : decide (0 ≤ ((rd_T75 l1 x13_1).f1)) = false := decide_eq_false c71
            clear c71
            simp only [Option.some.injEq, Prod.mk.injEq] at H
            obtain ⟨rfl, rfl, rfl, rfl, rfl⟩ := H
            have hnb95 := NB129_115.out
            have hnc95 := NB115_129.out
            have hnb96 := NB129_116.out
            have hnc96 := NB116_129.out
            have hnb97 := NB129_127.out
            have hnc97 := NB127_129.out
            have hcz98_0 : wc.cell? ⟨gb129, 0, none⟩ = some (.bool ((rd_T75 l1 x13_1).f0)) := (blk_cell BK129.out 0).trans rfl
            have hcz98_1 : wc.cell? ⟨gb129, 1, none⟩ = some (.int .i64 ((rd_T75 l1 x13_1).f1)) := (blk_cell BK129.out 1).trans rfl
            have hcz98_2 : wc.cell? ⟨gb129, 2, none⟩ = some (.int .i64 ((rd_T75 l1 x13_1).f2)) := (blk_cell BK129.out 2).trans rfl
            have hcz98_3 : wc.cell? ⟨gb129, 3, none⟩ = some (.string ((rd_T75 l1 x13_1).f3)) := (blk_cell BK129.out 3).trans rfl
            have hfz98_0 := blk_frozen BK129.out 0
            have hfz98_1 := blk_frozen BK129.out 1
            have hfz98_2 := blk_frozen BK129.out 2
            have hfz98_3 := blk_frozen BK129.out 3
            have hnb99 := NB116_115.out
            have hnc99 := NB115_116.out
            have hnb100 := NB116_127.out
            have hnc100 := NB127_116.out
            have hcz101_0 : wc.cell? ⟨gb116, 0, none⟩ = some (.int .i64 x117000_1) := (blk_cell BK116.out 0).trans rfl
            have hcz101_1 : wc.cell? ⟨gb116, 1, none⟩ = some (.slice none 0 0) := (blk_cell BK116.out 1).trans rfl
            have hcz101_2 : wc.cell? ⟨gb116, 2, none⟩ = some (.slice none 0 0) := (blk_cell BK116.out 2).trans rfl
            have hcz101_3 : wc.cell? ⟨gb116, 3, none⟩ = some (.slice none 0 0) := (blk_cell BK116.out 3).trans rfl
            have hfz101_0 := blk_frozen BK116.out 0
            have hfz101_1 := blk_frozen BK116.out 1
            have hfz101_2 := blk_frozen BK116.out 2
            have hfz101_3 := blk_frozen BK116.out 3
            go_wp2
            refine bodyPost_ret (results_ct rfl _ _ gb116 26 #[.int .i64 0, .slice none 0 0, .slice none 0 0, .slice none 0 0] (0, 0) _ rfl (by refine blk_put (cs := #[.int .i64 0, .slice none 0 0, .slice none 0 0, .slice none 0 0]) ?_ 3 _ rfl; refine blk_put (cs := #[.int .i64 0, .slice none 0 0, .slice none 0 0, .slice none 0 0]) ?_ 2 _ rfl; refine blk_put (cs := #[.int .i64 0, .slice none 0 0, .slice none 0 0, .slice none 0 0]) ?_ 1 _ rfl; refine blk_put (cs := #[.int .i64 x117000_1, .slice none 0 0, .slice none 0 0, .slice none 0 0]) ?_ 0 _ rfl; (with_reducible repeat (first | refine blk_drewN ?_ _ | refine blk_drew ?_ | refine blk_alloc ?_ _)); exact BK116.out) Tryd.underlying26 rfl (by kernel_rfl)) rfl ?_
            exact ⟨_, _, _, by first | rfl | (simp [errW_none, errW_some] <;> rfl) | (simp [*, errW_none, errW_some] <;> rfl), by first | exact Kd.R_nil _ _ _ _ _ | exact Kd.N_nil _ _ _ _ _ | exact Kd.V_nil _ _ _ _ _ | exact Kd.Q_nil _ _ _ _ _ | exact Kd.S_nil _ _ _ _ _, by first | exact Kd.R_nil _ _ _ _ _ | exact Kd.N_nil _ _ _ _ _ | exact Kd.V_nil _ _ _ _ _ | exact Kd.Q_nil _ _ _ _ _ | exact Kd.S_nil _ _ _ _ _, by first | exact Kd.R_nil _ _ _ _ _ | exact Kd.N_nil _ _ _ _ _ | exact Kd.V_nil _ _ _ _ _ | exact Kd.Q_nil _ _ _ _ _ | exact Kd.S_nil _ _ _ _ _, BB HB⟩
          ·rw [if_neg c70] at H
           have c70b0 : (((rd_T75 l1 x13_1).f3).toList == ([] : List UInt8)) = false := beq_eq_false_iff_ne.mpr c70
           have c70b1 : (((rd_T75 l1 x13_1).f3).toList != ([] : List UInt8)) = true := bne_iff_ne.mpr c70
           simp only [Option.some.injEq, Prod.mk.injEq] at H
           obtain ⟨rfl, rfl, rfl, rfl, rfl⟩ := H
           have hnb102 := NB129_115.out
           have hnc102 := NB115_129.out
           have hnb103 := NB129_116.out
           have hnc103 := NB116_129.out
           have hnb104 := NB129_127.out
           have hnc104 := NB127_129.out
           have hcz105_0 : wc.cell? ⟨gb129, 0, none⟩ = some (.bool ((rd_T75 l1 x13_1).f0)) := (blk_cell BK129.out 0).trans rfl
           have hcz105_1 : wc.cell? ⟨gb129, 1, none⟩ = some (.int .i64 ((rd_T75 l1 x13_1).f1)) := (blk_cell BK129.out 1).trans rfl
           have hcz105_2 : wc.cell? ⟨gb129, 2, none⟩ = some (.int .i64 ((rd_T75 l1 x13_1).f2)) := (blk_cell BK129.out 2).trans rfl
           have hcz105_3 : wc.cell? ⟨gb129, 3, none⟩ = some (.string ((rd_T75 l1 x13_1).f3)) := (blk_cell BK129.out 3).trans rfl
           have hfz105_0 := blk_frozen BK129.out 0
           have hfz105_1 := blk_frozen BK129.out 1
           have hfz105_2 := blk_frozen BK129.out 2
           have hfz105_3 := blk_frozen BK129.out 3
           have hnb106 := NB116_115.out
           have hnc106 := NB115_116.out
           have hnb107 := NB116_127.out
           have hnc107 := NB127_116.out
           have hcz108_0 : wc.cell? ⟨gb116, 0, none⟩ = some (.int .i64 x117000_1) := (blk_cell BK116.out 0).trans rfl
           have hcz108_1 : wc.cell? ⟨gb116, 1, none⟩ = some (.slice none 0 0) := (blk_cell BK116.out 1).trans rfl
           have hcz108_2 : wc.cell? ⟨gb116, 2, none⟩ = some (.slice none 0 0) := (blk_cell BK116.out 2).trans rfl
           have hcz108_3 : wc.cell? ⟨gb116, 3, none⟩ = some (.slice none 0 0) := (blk_cell BK116.out 3).trans rfl
           have hfz108_0 := blk_frozen BK116.out 0
           have hfz108_1 := blk_frozen BK116.out 1
           have hfz108_2 := blk_frozen BK116.out 2
           have hfz108_3 := blk_frozen BK116.out 3
           go_wp2
           refine bodyPost_ret (results_ct rfl _ _ gb116 26 #[.int .i64 0, .slice none 0 0, .slice none 0 0, .slice none 0 0] (0, 0) _ rfl (by refine blk_put (cs := #[.int .i64 0, .slice none 0 0, .slice none 0 0, .slice none 0 0]) ?_ 3 _ rfl; refine blk_put (cs := #[.int .i64 0, .slice none 0 0, .slice none 0 0, .slice none 0 0]) ?_ 2 _ rfl; refine blk_put (cs := #[.int .i64 0, .slice none 0 0, .slice none 0 0, .slice none 0 0]) ?_ 1 _ rfl; refine blk_put (cs := #[.int .i64 x117000_1, .slice none 0 0, .slice none 0 0, .slice none 0 0]) ?_ 0 _ rfl; (with_reducible repeat (first | refine blk_drewN ?_ _ | refine blk_drew ?_ | refine blk_alloc ?_ _)); exact BK116.out) Tryd.underlying26 rfl (by kernel_rfl)) rfl ?_
           exact ⟨_, _, _, by first | rfl | (simp [errW_none, errW_some] <;> rfl) | (simp [*, errW_none, errW_some] <;> rfl), by first | exact Kd.R_nil _ _ _ _ _ | exact Kd.N_nil _ _ _ _ _ | exact Kd.V_nil _ _ _ _ _ | exact Kd.Q_nil _ _ _ _ _ | exact Kd.S_nil _ _ _ _ _, by first | exact Kd.R_nil _ _ _ _ _ | exact Kd.N_nil _ _ _ _ _ | exact Kd.V_nil _ _ _ _ _ | exact Kd.Q_nil _ _ _ _ _ | exact Kd.S_nil _ _ _ _ _, by first | exact Kd.R_nil _ _ _ _ _ | exact Kd.N_nil _ _ _ _ _ | exact Kd.V_nil _ _ _ _ _ | exact Kd.Q_nil _ _ _ _ _ | exact Kd.S_nil _ _ _ _ _, BB HB⟩
     ·rw [if_neg c18] at H
      exact absurd H (by simp)
    ·rw [if_neg c17] at H
     exact absurd H (by simp)
   ·rw [if_neg c16] at H
    have c16b0 : decide (x13_1 < (l1.length : Int)) = false := decide_eq_false c16
    clear c16
    simp only [Option.some.injEq, Prod.mk.injEq] at H
    obtain ⟨rfl, rfl, rfl, rfl, rfl⟩ := H
    have hnb109 := NB127_115.out
    have hnc109 := NB115_127.out
    have hnb110 := NB127_116.out
    have hnc110 := NB116_127.out
    have hcz111_0 : wr.cell? ⟨gb127, 0, none⟩ = some (.int .i64 t117) := (blk_cell BK127.out 0).trans rfl
    have hcz111_1 : wr.cell? ⟨gb127, 1, none⟩ = some (u128001) := (blk_cell BK127.out 1).trans rfl
    have hcz111_2 : wr.cell? ⟨gb127, 2, none⟩ = some (u128002) := (blk_cell BK127.out 2).trans rfl
    have hcz111_3 : wr.cell? ⟨gb127, 3, none⟩ = some (.slice Ao15 t124.length co15) := (blk_cell BK127.out 3).trans rfl
    have hfz111_0 := blk_frozen BK127.out 0
    have hfz111_1 := blk_frozen BK127.out 1
    have hfz111_2 := blk_frozen BK127.out 2
    have hfz111_3 := blk_frozen BK127.out 3
    have hnb112 := NB116_115.out
    have hnc112 := NB115_116.out
    have hcz113_0 : wr.cell? ⟨gb116, 0, none⟩ = some (.int .i64 x117000_1) := (blk_cell BK116.out 0).trans rfl
    have hcz113_1 : wr.cell? ⟨gb116, 1, none⟩ = some (.slice none 0 0) := (blk_cell BK116.out 1).trans rfl
    have hcz113_2 : wr.cell? ⟨gb116, 2, none⟩ = some (.slice none 0 0) := (blk_cell BK116.out 2).trans rfl
    have hcz113_3 : wr.cell? ⟨gb116, 3, none⟩ = some (.slice none 0 0) := (blk_cell BK116.out 3).trans rfl
    have hfz113_0 := blk_frozen BK116.out 0
    have hfz113_1 := blk_frozen BK116.out 1
    have hfz113_2 := blk_frozen BK116.out 2
    have hfz113_3 := blk_frozen BK116.out 3
    obtain ⟨Ao114, co114, eo114⟩ := Kd.R_slice HO_128001.out
    subst eo114
    obtain ⟨Ao115, co115, eo115⟩ := Kd.R_slice HO_128002.out
    subst eo115
    go_wp2
    refine bodyPost_ret (results_ct rfl _ _ gb116 26 #[.int .i64 t117, .slice Ao114 x128001_1.length co114, .slice Ao115 x128002_1.length co115, .slice Ao15 t124.length co15] (0, 0) _ rfl (by refine blk_put (cs := #[.int .i64 t117, .slice Ao114 x128001_1.length co114, .slice Ao115 x128002_1.length co115, .slice none 0 0]) ?_ 3 _ rfl; refine blk_put (cs := #[.int .i64 t117, .slice Ao114 x128001_1.length co114, .slice none 0 0, .slice none 0 0]) ?_ 2 _ rfl; refine blk_put (cs := #[.int .i64 t117, .slice none 0 0, .slice none 0 0, .slice none 0 0]) ?_ 1 _ rfl; refine blk_put (cs := #[.int .i64 x117000_1, .slice none 0 0, .slice none 0 0, .slice none 0 0]) ?_ 0 _ rfl; (with_reducible repeat (first | refine blk_drewN ?_ _ | refine blk_drew ?_ | refine blk_alloc ?_ _)); exact BK116.out) Tryd.underlying26 rfl (by kernel_rfl)) rfl ?_
    exact ⟨_, _, _, by first | rfl | (simp [errW_none, errW_some] <;> rfl) | (simp [*, errW_none, errW_some] <;> rfl), by exact Kd.R_mono (Kd.R_far (p := ⟨gb116, 3, none⟩) (Kd.R_far (p := ⟨gb116, 2, none⟩) (Kd.R_far (p := ⟨gb116, 1, none⟩) (Kd.R_far (p := ⟨gb116, 0, none⟩) (Kd.R_types HO_128001.out BK116.out (by decide)) (fun _ hk => hk.2) (.int .i64 t117)) (fun _ hk => hk.2) (.slice Ao114 x128001_1.length co114)) (fun _ hk => hk.2) (.slice Ao115 x128002_1.length co115)) (fun _ hk => hk.2) (.slice Ao15 t124.length co15)) (fun _ hk => trivial), by exact Kd.R_mono (Kd.R_far (p := ⟨gb116, 3, none⟩) (Kd.R_far (p := ⟨gb116, 2, none⟩) (Kd.R_far (p := ⟨gb116, 1, none⟩) (Kd.R_far (p := ⟨gb116, 0, none⟩) (Kd.R_types HO_128002.out BK116.out (by decide)) (fun _ hk => hk.2) (.int .i64 t117)) (fun _ hk => hk.2) (.slice Ao114 x128001_1.length co114)) (fun _ hk => hk.2) (.slice Ao115 x128002_1.length co115)) (fun _ hk => hk.2) (.slice Ao15 t124.length co15)) (fun _ hk => trivial), by exact Kd.R_mono (Kd.R_far (p := ⟨gb116, 3, none⟩) (Kd.R_far (p := ⟨gb116, 2, none⟩) (Kd.R_far (p := ⟨gb116, 1, none⟩) (Kd.R_far (p := ⟨gb116, 0, none⟩) (Kd.R_types HO_128003.out BK116.out (by decide)) (fun _ hk => hk.2) (.int .i64 t117)) (fun _ hk => hk.2) (.slice Ao114 x128001_1.length co114)) (fun _ hk => hk.2) (.slice Ao115 x128002_1.length co115)) (fun _ hk => hk.2) (.slice Ao15 t124.length co15)) (fun _ hk => trivial), BB HB⟩

end Go.Proofs.YtmglknchklgokaaDoor.GY
