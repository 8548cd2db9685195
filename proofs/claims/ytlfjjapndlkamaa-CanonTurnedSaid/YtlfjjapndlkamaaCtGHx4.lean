-- Printed by a program of the session (wip/gen/tprint.py, over a turned copy of the kit's print): Lean checks it.
import Derived.Test.YtlfjjapndlkamaaCtGHx0
import Derived.Test.YtlfjjapndlkamaaCtGHx2
import Derived.Test.YtlfjjapndlkamaaCtGHx3
namespace Go.Proofs.Ytlfjjapndlkamaa.GH
open Go.RowKit Go.Proofs.YtlfjjapndlkamaaW.PrintWords Go.Proofs.YtlfjjapndlkamaaW.PrintLast Go.Proofs.YtlfjjapndlkamaaW.PrintMore
attribute [local go_sem] max2_int min2_int max_two min_two max_three min_three max_four min_four   -- for this text's walks alone
set_option linter.unusedVariables false
set_option linter.unusedSimpArgs false

/-! ### canon_Canon: function 16 -/
section
open Go.Lib
def renN (tl : List Int) (y : S40) : S40 := ⟨y.f0, y.f1, y.f2, y.f3.map fun k => tl.getD k.toNat 0⟩
/-- The canonical scene's nodes, as they are told one by one. -/
def canonAt (l0 : List (S40)) (tl : List Int) : Nat → List (S40)
 | 0 => List.replicate l0.length z40
 | i + 1 => (canonAt l0 tl i).set (tl.getD i 0).toNat (renN tl (rd_T40 l0 (i : Int)))
theorem canonAt_len (l0 : List (S40)) (tl : List Int) : ∀ i, (canonAt l0 tl i).length = l0.length
 | 0 => by rw [canonAt, List.length_replicate]
 | i + 1 => by rw [canonAt, List.length_set, canonAt_len l0 tl i]
theorem R_keepIn {α : Type} {d : Kd α} {e base : Nat} {ok : Nat → Prop} {W w1 : World} {v : Value} {xs : List α} (h : d.R e W base ok v xs) (hm : ∀ k, base ≤ k → k < W.heap.size → w1.heap[k]? = W.heap[k]?) : d.R e w1 base ok v xs := Kd.R_mono (Kd.R_move (Kd.R_bound h) (fun k hk => hm k hk.2.1 hk.2.2.1)) (fun _ hk => hk.1)
/-- The kids, renamed up to a place. -/
def mixK (tl K : List Int) (j : Nat) : List Int := (K.take j).map (fun k => tl.getD k.toNat 0) ++ K.drop j
theorem mixK_get (tl K : List Int) (j : Nat) (hj : j < K.length) : (mixK tl K j)[j]? = some (K.getD j 0) := by
 unfold mixK
 rw [List.getElem?_append_right (by simp; omega)]
 have h0 : j - ((K.take j).map (fun k => tl.getD k.toNat 0)).length = 0 := by simp; omega
 rw [h0, List.getElem?_drop, List.getD_eq_getElem?_getD, Nat.add_zero, List.getElem?_eq_getElem hj]; rfl
theorem mixK_step (tl K : List Int) (j : Nat) (hj : j < K.length) : (mixK tl K j).set j (tl.getD (K.getD j 0).toNat 0) = mixK tl K (j + 1) := by
 unfold mixK
 have h0 : j - ((K.take j).map (fun k => tl.getD k.toNat 0)).length = 0 := by simp; omega
 rw [List.set_append_right _ _ (by simp; omega), h0, List.drop_eq_getElem_cons hj, List.set_cons_zero, List.take_succ_eq_append_getElem hj, List.map_append, List.append_assoc, List.getD_eq_getElem?_getD (l := K), List.getElem?_eq_getElem hj]
 rfl
theorem mixK_all (tl K : List Int) : mixK tl K K.length = K.map (fun k => tl.getD k.toNat 0) := by unfold mixK; rw [List.take_length, List.drop_length, List.append_nil]
theorem fcopy_of {a : Int} {l1 : List Int} {l2 : List ByteArray} {l3 : List Int} (h1 : l1.length < 8796093022208) (h2 : l2.length < 8796093022208) (h3 : l3.length ≤ 1000000) : field_Copy.f a l1 l2 l3 = some (a, l1, l2, l3) := by
 unfold field_Copy.f slices_Clone_int64_int64.f slices_Clone_string_string.f slices_Clone_int_int.f
 simp [h1, h2, show l3.length < 8796093022208 by omega]
/-- An empty scene's block. -/
def SNil (w : World) (g : Nat) : Prop := w.heap[g]? = some (.cells #[.slice none 0 0, .int .i64 0] 24 (0, 0))
theorem node_info : (Try.prog.info? 40).map (fun i => (i.zero, i.size, i.bytes)) = some (some (.agg #[(.int .i64 0), (.slice none 0 0), (.slice none 0 0), (.slice none 0 0)]), 4, 80) := by kernel_rfl
theorem made_run (n : Nat) (hn : n ≤ 1000000) (W : World) : (Instr.makeSlice 22 (.int .i64 (n : Int)) (.int .i64 (n : Int))).run Try.prog W = .ok (.slice (some ⟨W.heap.size, 0, none⟩) n n) (W.alloc (.cells (madeCells #[.int .i64 0, .slice none 0 0, .slice none 0 0, .slice none 0 0] (n * 4)) 40)) := by
 obtain ⟨i0, hi, hz0, hz1, hz2⟩ := info_parts node_info; have hr := run_make (P := Try.prog) W 22 40 i0 _ Try.underlying22 hi hz0 .i64 .i64 (n : Int) (n : Int) (by omega) (by omega) (by rw [hz2]; omega) (by omega)
 rw [hz1] at hr; rw [Int.toNat_natCast] at hr; exact hr
theorem made_R (n : Nat) (hn : n ≤ 1000000) (W : World) : Kd.R k40 40 (W.alloc (.cells (madeCells #[.int .i64 0, .slice none 0 0, .slice none 0 0, .slice none 0 0] (n * 4)) 40)) W.heap.size (fun _ => True) (.slice (some ⟨W.heap.size, 0, none⟩) n n) (List.replicate n z40) := by
 refine ⟨fun _ _ => trivial, (madeCells #[.int .i64 0, .slice none 0 0, .slice none 0 0, .slice none 0 0] (n * 4)).toList, ?_, ?_⟩
 ·have h2 := World.ownsRow_lit (base := W.heap.size) (e := 40) (size := 4) W (madeCells #[.int .i64 0, .slice none 0 0, .slice none 0 0, .slice none 0 0] (n * 4)) n (Nat.le_refl _) (by unfold maxLen; omega) (size_madeCells _ _)
  rw [List.length_replicate]; exact h2
 ·exact Kd.reps_made (size := 4) (z := .agg #[.int .i64 0, .slice none 0 0, .slice none 0 0, .slice none 0 0]) rfl (by decide) (k40_mkM _ _ _ z40 (Kd.R_nil _ _ _ _ _) (Kd.R_nil _ _ _ _ _) (Kd.R_nil _ _ _ _ _)) n
set_option maxHeartbeats 8000000 in
set_option maxRecDepth 100000 in
theorem ccanon_calls (k : Nat) (A0 : Option Addr) (c0 : Nat) (l0 : List (S40)) (a1 : Int) (w : World) (hr0 : Kd.C k40 w A0 l0.length l0) (hc0 : l0.length ≤ c0) (p : Int) (hck : graph_Check.f k l0 a1 = some (0, p))
  (tl : List Int) (hto : canon_Numbers.f k l0 a1 = some tl) (htl : tl.length = l0.length) (htb : ∀ x ∈ tl, 0 ≤ x ∧ x < (l0.length : Int)) (hby : ∀ y ∈ l0, y.f1.length < 8796093022208 ∧ y.f2.length < 8796093022208) :
  Calls Try.prog 16 #[.agg #[.slice A0 l0.length c0, .int .i64 a1]] w fun e w' => ∃ v0_ : Value, e = .returned (.tuple #[.agg #[v0_, .int .i64 ((l0.length : Int) - 1)], .int .i64 0]) ∧ Kd.R k40 40 w' w.heap.size (fun _ => True) v0_ (canonAt l0 tl l0.length) ∧ Below w.heap.size w w' := by
 obtain ⟨h0, h1, hgood, hlen, hsum⟩ := check_zero hck; have HR := Lib.hid hr0; have HS := Lib.hid hsum; have HG := Lib.hid hgood; have HK := Lib.hid hck; have HT := Lib.hid hto; have HTL := Lib.hid htl; have HTB := Lib.hid htb; have HBY := Lib.hid hby; clear hr0 hsum hgood hck hto htl htb hby; have hn0 : 0 < l0.length := by omega
 go_enter Try.func16, Try.ntmps16
 go_wp2_with (fail)
 have hX0 : SBox ((w.alloc (.cells #[.slice A0 l0.length c0, .int .i64 a1] 24)).alloc (.cells #[.slice none 0 0, .int .i64 0] 24)) w.heap.size A0 l0.length c0 a1 := blk_alloc (heap_alloc_new w _) _; have hZ0 : SNil ((w.alloc (.cells #[.slice A0 l0.length c0, .int .i64 a1] 24)).alloc (.cells #[.slice none 0 0, .int .i64 0] 24)) (w.heap.size + 1) := by
  have := heap_alloc_new (w.alloc (.cells #[.slice A0 l0.length c0, .int .i64 a1] 24)) (.cells #[.slice none 0 0, .int .i64 0] 24); have hz : (w.alloc (.cells #[.slice A0 l0.length c0, .int .i64 a1] 24)).heap.size = w.heap.size + 1 := by simp
  rw [hz] at this; exact this
 have hB0 : Below w.heap.size w ((w.alloc (.cells #[.slice A0 l0.length c0, .int .i64 a1] 24)).alloc (.cells #[.slice none 0 0, .int .i64 0] 24)) := ((Below.refl _ w).alloc (Nat.le_refl _) _).alloc (by simp) _
 generalize ((w.alloc (.cells #[.slice A0 l0.length c0, .int .i64 a1] 24)).alloc (.cells #[.slice none 0 0, .int .i64 0] 24)) = w0 at hX0 hZ0 hB0 ⊢
 have HX0 := Lib.hid hX0; have HZ0 := Lib.hid hZ0; have HB0 := Lib.hid hB0; clear hX0 hZ0 hB0; refine (graph_Check.calls k A0 c0 l0 a1 0 p w0 (Kd.C_below HR.out HB0.out) hc0 HK.out).mono ?_
 rintro e w1 ⟨rfl, hb1⟩
 have HX1 : Hid (SBox w1 w.heap.size A0 l0.length c0 a1) := Lib.hid ((hb1.block w.heap.size (blk_lt HX0.out)).trans HX0.out); have HZ1 : Hid (SNil w1 (w.heap.size + 1)) := Lib.hid ((hb1.block (w.heap.size + 1) (blk_lt HZ0.out)).trans HZ0.out); have HB1 := Lib.hid (below_step HB0.out hb1); have q0 : w1.cell? ⟨w.heap.size, 0, none⟩ = some (.slice A0 l0.length c0) := (blk_cell HX1.out 0).trans rfl; have q1 : w1.cell? ⟨w.heap.size, 1, none⟩ = some (.int .i64 a1) := (blk_cell HX1.out 1).trans rfl; clear hb1; go_wp2_with (fail)
 refine (canon_Numbers.calls k A0 c0 l0 a1 tl w1 (Kd.C_below HR.out HB1.out) hc0 HT.out).mono ?_
 rintro e w2 ⟨v2, rfl, hR2, hb2⟩
 have HX2 : Hid (SBox w2 w.heap.size A0 l0.length c0 a1) := Lib.hid ((hb2.block w.heap.size (blk_lt HX1.out)).trans HX1.out); have HZ2 : Hid (SNil w2 (w.heap.size + 1)) := Lib.hid ((hb2.block (w.heap.size + 1) (blk_lt HZ1.out)).trans HZ1.out); have HB2 := Lib.hid (below_step HB1.out hb2); have hz1 : w.heap.size + 2 ≤ w1.heap.size := blk_lt HZ1.out; have ho2 := Kw.own_of_R (Kd.R_lower hR2 hz1); rw [HTL.out] at ho2; obtain ⟨gt, ct, rfl, hgt, hgt2⟩ := ho2.form hn0; have HO2 := Lib.hid ho2; have q0 : w2.cell? ⟨w.heap.size, 0, none⟩ = some (.slice A0 l0.length c0) := (blk_cell HX2.out 0).trans rfl; have hz2 := hb2.size; clear hb2 hR2 ho2 q1; have hgx2 := blk_lt HX2.out; have hsc : l0.length ≤ 1000000 := hlen; go_upto_region 5 with (fail)
 go_cut [7] (fun v7 wx => ∃ g7 go : Nat, v7 = .pointer (some ⟨g7, 0, none⟩) ∧ Aside0 (wx.heap[g7]? = some (.cells #[.slice (some ⟨go, 0, none⟩) l0.length l0.length, .int .i64 ((l0.length : Int) - 1)] 24 (0, 0))) ∧ Aside0 (Kd.R k40 40 wx w2.heap.size (fun _ => True) (.slice (some ⟨go, 0, none⟩) l0.length l0.length) (List.replicate l0.length z40)) ∧ Aside0 (w2.heap.size ≤ g7 ∧ g7 ≠ go) ∧ Aside0 (Below w2.heap.size w2 wx))
 case first =>
  have hmk : ∀ W : World, (Instr.makeSlice 22 (.int .i64 (l0.length : Int)) (.int .i64 (l0.length : Int))).run Try.prog W = .ok (.slice (some ⟨W.heap.size, 0, none⟩) l0.length l0.length) (W.alloc (.cells (madeCells #[.int .i64 0, .slice none 0 0, .slice none 0 0, .slice none 0 0] (l0.length * 4)) 40)) := made_run l0.length hlen; have e1 : IntKind.i64.wrap ((l0.length : Int) - 1) = (l0.length : Int) - 1 := IntWalk.i64_in _ (by omega)
  have hal0 : ∀ W : World, (W.alloc (.cells #[.slice none 0 0, .int .i64 0] 24)).cell? ⟨W.heap.size, 0, none⟩ = some (.slice none 0 0) := fun W => (blk_cell (heap_alloc_new W _) 0).trans rfl
  have hal1 : ∀ W : World, (W.alloc (.cells #[.slice none 0 0, .int .i64 0] 24)).cell? ⟨W.heap.size, 1, none⟩ = some (.int .i64 0) := fun W => (blk_cell (heap_alloc_new W _) 1).trans rfl
  have hal2 : ∀ (W : World) (j : Nat), (W.alloc (.cells #[.slice none 0 0, .int .i64 0] 24)).frozen? ⟨W.heap.size, j, none⟩ = false := fun W j => blk_frozen (heap_alloc_new W _) j
  go_region_held3 (fun w' => w'.cell? ⟨w.heap.size, 0, none⟩ = some (.slice A0 l0.length c0)) (go_keep) (fail)
  ·go_wp2_with (fail)
   go_meet
   have hn := heap_alloc_new ((w2.alloc (.cells (madeCells #[.int .i64 0, .slice none 0 0, .slice none 0 0, .slice none 0 0] (l0.length * 4)) 40))) (.cells #[.slice (some ⟨w2.heap.size, 0, none⟩) l0.length l0.length, .int .i64 ((l0.length : Int) - 1)] 24); have hz : (w2.alloc (.cells (madeCells #[.int .i64 0, .slice none 0 0, .slice none 0 0, .slice none 0 0] (l0.length * 4)) 40)).heap.size = w2.heap.size + 1 := by simp
   rw [hz] at hn; exact ⟨w2.heap.size + 1, w2.heap.size, rfl, ⟨blk_drew hn⟩, ⟨Kd.R_drew (Kd.R_alloc (made_R l0.length hlen w2) _)⟩, ⟨by omega, by omega⟩, ⟨(((Below.refl _ w2).alloc (Nat.le_refl _) _).alloc (by simp) _).drew⟩⟩
  ·go_wp2_with (fail)
   go_meet
   have hn := blk_alloc (heap_alloc_new w2 (.cells #[.slice (some ⟨w2.heap.size + 1, 0, none⟩) l0.length l0.length, .int .i64 ((l0.length : Int) - 1)] 24)) (.cells (madeCells #[.int .i64 0, .slice none 0 0, .slice none 0 0, .slice none 0 0] (l0.length * 4)) 40); have hm := made_R l0.length hlen (w2.alloc (.cells #[.slice (some ⟨w2.heap.size + 1, 0, none⟩) l0.length l0.length, .int .i64 ((l0.length : Int) - 1)] 24)); have hz : (w2.alloc (.cells #[.slice (some ⟨w2.heap.size + 1, 0, none⟩) l0.length l0.length, .int .i64 ((l0.length : Int) - 1)] 24)).heap.size = w2.heap.size + 1 := by simp
   rw [hz] at hm; exact ⟨w2.heap.size, w2.heap.size + 1, rfl, ⟨blk_drew hn⟩, ⟨Kd.R_drew (Kd.R_lower hm (by omega))⟩, ⟨Nat.le_refl _, by omega⟩, ⟨(((Below.refl _ w2).alloc (Nat.le_refl _) _).alloc (by simp) _).drew⟩⟩
 case rest =>
 obtain ⟨g7, go, rfl, hb7, hrn, hg7, hbc⟩ := hcut; have HX3 : Hid (SBox wc w.heap.size A0 l0.length c0 a1) := Lib.hid ((hbc.out.block w.heap.size hgx2).trans HX2.out); have HZ3 : Hid (SNil wc (w.heap.size + 1)) := Lib.hid ((hbc.out.block (w.heap.size + 1) (blk_lt HZ2.out)).trans HZ2.out); have HO3 := Lib.hid (HO2.out.kept (grown_of_below hbc.out none) (.inr (by simp [Value.ownBlock])))
 have HB3 := Lib.hid (below_step HB2.out hbc.out); have HZW := Lib.hid hz1; have HG7 := Lib.hid hg7.out.1; have hG7z := hg7.out.2; have HGT := Lib.hid hgt2; have q0c : wc.cell? ⟨w.heap.size, 0, none⟩ = some (.slice A0 l0.length c0) := (blk_cell HX3.out 0).trans rfl; clear q0 hgx2 hsc hbc hg7 hgt hgt2 hz1; go_wp2_with (fail)
 clear q0c; go_loopg [35] l0.length (fun kq v35 wr => ∃ i : Int, v35 = .int .i64 i ∧ 0 ≤ i ∧ i + kq = l0.length ∧ Aside0 (Kd.R k40 40 wr w2.heap.size (fun _ => True) (.slice (some ⟨go, 0, none⟩) l0.length l0.length) (canonAt l0 tl i.toNat)) ∧ Aside0 (wr.ownsRow (w.heap.size + 2) 3 1 (.slice (some ⟨gt, 0, none⟩) l0.length ct) l0.length (tl.map (Value.int .i64))) ∧ Aside0 (wr.heap[g7]? = some (.cells #[.slice (some ⟨go, 0, none⟩) l0.length l0.length, .int .i64 ((l0.length : Int) - 1)] 24 (0, 0))) ∧ Aside0 (SBox wr w.heap.size A0 l0.length c0 a1) ∧ Aside0 (SNil wr (w.heap.size + 1)) ∧ Aside0 (Below w.heap.size w wr) ∧ Aside0 (wc.heap.size ≤ wr.heap.size))
 case atStart => exact ⟨0, rfl, by omega, by omega, ⟨hrn.out⟩, ⟨HO3.out⟩, ⟨hb7.out⟩, ⟨HX3.out⟩, ⟨HZ3.out⟩, ⟨HB3.out⟩, ⟨Nat.le_refl _⟩⟩
 case round =>
  obtain ⟨i, rfl, hi0, hik, hR, hT, h7, hX, hZ, hB, hsz⟩ := hrel; obtain ⟨wo, hwo⟩ : ∃ z, z = wr := ⟨_, rfl⟩; subst hwo; by_cases hlt : i < (l0.length : Int)
  ·have t4 : decide (i < (l0.length : Int)) = true := decide_eq_true hlt; obtain ⟨ko, rfl⟩ : ∃ g, gk = g + 1 := ⟨gk - 1, by omega⟩
   obtain ⟨ad, A1, c1, A2, c2, A3, c3, e, hx0, hx1, hx2, hx3, hl1, hi1, hl2, hi2, hl3, hi3⟩ := at_T40 (Kd.C_below HR.out hB.out) i hi0 hlt; cases e
   obtain ⟨y, hy⟩ : ∃ y, y = rd_T40 l0 i := ⟨_, rfl⟩; rw [← hy] at hx0 hx1 hx2 hx3 hl1 hi1 hl2 hi2 hl3 hi3; have hym : y ∈ l0 := by
    rw [hy]; unfold rd_T40
    rw [List.getD_eq_getElem?_getD, List.getElem?_eq_getElem (by omega)]
    exact List.getElem_mem _
   have hyb := HBY.out y hym; have hyk : y.f3.length ≤ 1000000 := by rw [hy]; exact kid_len l0 HS.out i
   have HY := Lib.hid hy; have HI1 := Lib.hid hi1; have HI2 := Lib.hid hi2; have HI3 := Lib.hid hi3; have HL1 := Lib.hid hl1; have HL2 := Lib.hid hl2; have HL3 := Lib.hid hl3; have HFC : Hid (field_Copy.f y.f0 y.f1 y.f2 y.f3 = some (y.f0, y.f1, y.f2, y.f3)) := Lib.hid (fcopy_of hyb.1 hyb.2 hyk); have hgx := blk_lt hX.out; have hgz := blk_lt hZ.out; have hg7l := blk_lt h7.out; have hgtl := (hT.out.lt gt rfl).2; have hgol : go < wo.heap.size := by
    obtain ⟨inner, hon⟩ := Kd.R_own hR.out; exact (hon.lt go rfl).2
   have hgood := fun z hz => GT.good_of_firstBad (K := kidsI l0) HG.out (i := i.toNat) (k := z) (by rw [kidsI_at, ← hy]; exact hz)
   have HGD := Lib.hid hgood; clear hgood hy hym hi1 hi2 hi3 hl1 hl2 hl3; go_wp2_with (fail)
   have hn4 := heap_alloc_new wo (.cells #[.int .i64 y.f0, .slice A1 y.f1.length c1, .slice A2 y.f2.length c2, .slice A3 y.f3.length c3] 40); have hb4 : Below wo.heap.size wo (wo.alloc (.cells #[.int .i64 y.f0, .slice A1 y.f1.length c1, .slice A2 y.f2.length c2, .slice A3 y.f3.length c3] 40)) := (Below.refl _ wo).alloc (Nat.le_refl _) _; have hz4 : (wo.alloc (.cells #[.int .i64 y.f0, .slice A1 y.f1.length c1, .slice A2 y.f2.length c2, .slice A3 y.f3.length c3] 40)).heap.size = wo.heap.size + 1 := by simp
   generalize (wo.alloc (.cells #[.int .i64 y.f0, .slice A1 y.f1.length c1, .slice A2 y.f2.length c2, .slice A3 y.f3.length c3] 40)) = w4 at hn4 hb4 hz4 ⊢
   refine (field_Copy.calls y.f0 A1 c1 y.f1 A2 c2 y.f2 A3 c3 y.f3 y.f0 y.f1 y.f2 y.f3 w4 (Kd.C_below HI1.out hb4) HL1.out (Kd.C_below HI2.out hb4) HL2.out (Kd.C_below HI3.out hb4) HL3.out HFC.out).mono ?_
   rintro e w5 ⟨v1, v2, v3, rfl, hr1, hr2, hr3, hb5⟩
   obtain ⟨B1, d1, rfl⟩ := Kd.R_slice hr1; obtain ⟨B2, d2, rfl⟩ := Kd.R_slice hr2; obtain ⟨B3, d3, rfl⟩ := Kd.R_slice hr3; have h9 := (hb5.block wo.heap.size (by omega)).trans hn4
   have HBW := Lib.hid (below_step hb4 hb5); have HR1 := Lib.hid hr1; have HR2 := Lib.hid hr2; have HR3 := Lib.hid hr3; have H9 := Lib.hid h9; have HZ4 := Lib.hid hz4; have s0 : w5.cell? ⟨wo.heap.size, 0, none⟩ = some (.int .i64 y.f0) := (blk_cell h9 0).trans rfl; have s1 : w5.cell? ⟨wo.heap.size, 1, none⟩ = some (.slice A1 y.f1.length c1) := (blk_cell h9 1).trans rfl; have s2 : w5.cell? ⟨wo.heap.size, 2, none⟩ = some (.slice A2 y.f2.length c2) := (blk_cell h9 2).trans rfl; have s3 : w5.cell? ⟨wo.heap.size, 3, none⟩ = some (.slice A3 y.f3.length c3) := (blk_cell h9 3).trans rfl; have f0 := blk_frozen h9 0; have f1 := blk_frozen h9 1; have f2 := blk_frozen h9 2; have f3 := blk_frozen h9 3; clear hn4 hb4 hz4 hb5 hr1 hr2 hr3 h9 hx0 hx1 hx2 hx3; go_wp2_with ((with_reducible refine gate_store (t := 40) (p := 9) rfl ?_); refine store_event (t := 40) (p := 9) (v := ?vo) (w1 := ((((w5.setCell ⟨wo.heap.size, 0, none⟩ (.int .i64 y.f0)).setCell ⟨wo.heap.size, 1, none⟩ (.slice B1 y.f1.length d1)).setCell ⟨wo.heap.size, 2, none⟩ (.slice B2 y.f2.length d2)).setCell ⟨wo.heap.size, 3, none⟩ (.slice B3 y.f3.length d3))) ?hg ?ho ?hn ?hr ?_; (case ho => rfl); (case hg => rfl); (case hn => rfl); (case hr => first | (go_simp; done) | (go_simp; rfl)); intro w6 hw6; have h96 : w6.heap[wo.heap.size]? = some (.cells #[.int .i64 y.f0, .slice B1 y.f1.length d1, .slice B2 y.f2.length d2, .slice B3 y.f3.length d3] 40 (0, 0)) := (by rw [hw6]; exact blk_put (blk_put (blk_put (blk_put H9.out 0 _ rfl) 1 _ rfl) 2 _ rfl) 3 _ rfl); have hk6 : ∀ k, k ≠ wo.heap.size → w6.heap[k]? = w5.heap[k]? := (fun k hk => by rw [hw6, Below.heap_setCell _ _ _ _ hk, Below.heap_setCell _ _ _ _ hk, Below.heap_setCell _ _ _ _ hk, Below.heap_setCell _ _ _ _ hk]); have hb6 : Below wo.heap.size wo w6 := (by rw [hw6]; exact (((HBW.out.setCell (p := ⟨wo.heap.size, 0, none⟩) (Nat.le_refl _) _).setCell (p := ⟨wo.heap.size, 1, none⟩) (Nat.le_refl _) _).setCell (p := ⟨wo.heap.size, 2, none⟩) (Nat.le_refl _) _).setCell (p := ⟨wo.heap.size, 3, none⟩) (Nat.le_refl _) _); have H96 := Lib.hid h96; have HK6 := Lib.hid hk6; have HB6 := Lib.hid hb6; have p3 : w6.cell? ⟨wo.heap.size, 3, none⟩ = some (.slice B3 y.f3.length d3) := (blk_cell h96 3).trans rfl; clear hw6 h96 hk6 hb6)
   have hz4' := HZ4.out; have o1 := Kd.R_lower (R_keepIn HR1.out (fun k hk _ => HK6.out k (by omega))) (show wo.heap.size ≤ w4.heap.size by omega)
   have o2 := Kd.R_lower (R_keepIn HR2.out (fun k hk _ => HK6.out k (by omega))) (show wo.heap.size ≤ w4.heap.size by omega)
   have o3 := R_keepIn HR3.out (fun k hk _ => HK6.out k (by omega))
   have HO1 := Lib.hid o1; have HO2 := Lib.hid o2; have HO3 := Lib.hid o3; have HO3W := Lib.hid (Kw.own_of_R o3); clear o1 o2 o3 s0 s1 s2 s3 f0 f1 f2 f3 p3; go_loopg [45] y.f3.length (fun kq v45 wq => ∃ j : Int, v45 = .int .i64 j ∧ 0 ≤ j ∧ j + kq = y.f3.length ∧ Aside0 (wq.ownsRow w4.heap.size 3 1 (.slice B3 y.f3.length d3) y.f3.length ((mixK tl y.f3 j.toNat).map (Value.int .i64))) ∧ Aside0 (w6.grownBy wq (Value.slice B3 y.f3.length d3).ownBlock))
   case atStart => exact ⟨0, rfl, by omega, by omega, ⟨by simpa [mixK] using HO3W.out⟩, ⟨⟨rfl, rfl, rfl, Nat.le_refl _, fun _ _ _ => rfl⟩⟩⟩
   case round =>
    obtain ⟨j, rfl, hj0, hjk, hrow, hgr⟩ := hrel; have hown3 := own_base hrow.out; have hz46 : wo.heap.size < w6.heap.size := blk_lt H96.out; have hne9 : some wo.heap.size ≠ (Value.slice B3 y.f3.length d3).ownBlock := fun h => by have := hown3 _ h.symm; omega
    have hlow : ∀ k, k < wo.heap.size → wr.heap[k]? = wo.heap[k]? := fun k hk => (hgr.out.block k (by omega) (fun h => by have := hown3 _ h.symm; omega)).trans (HB6.out.block k hk)
    have h9r := (hgr.out.block wo.heap.size hz46 hne9).trans H96.out; have hTr : wr.ownsRow (w.heap.size + 2) 3 1 (.slice (some ⟨gt, 0, none⟩) l0.length ct) l0.length (tl.map (Value.int .i64)) := (hT.out.kept (grown_of_below HB6.out none) (.inr (by simp [Value.ownBlock]))).kept hgr.out (.inr (fun h => by have := hown3 gt h.symm; omega))
    by_cases hjl : j < (y.f3.length : Int)
    ·have t5 : decide (j < (y.f3.length : Int)) = true := decide_eq_true hjl; obtain ⟨g3, cap3, hv3, hg3, hg3l⟩ := hrow.out.form (by omega)
     cases hv3
     obtain ⟨kq, rfl⟩ : ∃ g, gk = g + 1 := ⟨gk - 1, by omega⟩
     obtain ⟨kk, hkk⟩ : ∃ kk, kk = y.f3.getD j.toNat 0 := ⟨_, rfl⟩; have hkm : kk ∈ y.f3 := by rw [hkk, List.getD_eq_getElem?_getD, List.getElem?_eq_getElem (by omega)]; exact List.getElem_mem _
     obtain ⟨hk0, hk1⟩ := HGD.out kk hkm; rw [kids_len] at hk1; obtain ⟨tk, htk⟩ : ∃ tk, tk = tl.getD kk.toNat 0 := ⟨_, rfl⟩; have c1d : wr.drew.cell? ⟨g3, j.toNat, none⟩ = some (.int .i64 kk) := by
      have h := hrow.out.cellAt j.toNat (by omega)
      rw [List.getElem?_map, mixK_get tl y.f3 j.toNat (by omega), ← hkk] at h
      exact h
     have c1 : wr.cell? ⟨g3, j.toNat, none⟩ = some (.int .i64 kk) := c1d; have frd : wr.drew.frozen? ⟨g3, j.toNat, none⟩ = false := hrow.out.frozenAt _; have ctd : wr.drew.cell? ⟨gt, kk.toNat, none⟩ = some (.int .i64 tk) := by
      have h := hTr.cellAt kk.toNat (by omega)
      have htl := HTL.out; rw [List.getElem?_map, List.getElem?_eq_getElem (by omega)] at h
      rw [htk, List.getD_eq_getElem?_getD, List.getElem?_eq_getElem (by omega)]
      exact h
     have c3d : wr.drew.cell? ⟨wo.heap.size, 3, none⟩ = some (.slice (some ⟨g3, 0, none⟩) y.f3.length d3) := (blk_cell h9r 3).trans rfl; have hne1 : wo.heap.size ≠ g3 := by have := HZ4.out; omega
     have hne2 : gt ≠ g3 := by have := HZ4.out; omega
     have far13 : ∀ (b q : Nat) (x u : Value), b ≠ g3 → wr.cell? ⟨b, q, none⟩ = some x → (wr.setCell ⟨g3, j.toNat, none⟩ u).drew.cell? ⟨b, q, none⟩ = some x := fun b q x u hb h => (cell_far (p := ⟨g3, j.toNat, none⟩) hb u).trans h
     have k1 : ∀ u, (wr.setCell ⟨g3, j.toNat, none⟩ u).drew.cell? ⟨wo.heap.size, 3, none⟩ = some (.slice (some ⟨g3, 0, none⟩) y.f3.length d3) := fun u => far13 _ _ _ u hne1 c3d
     have k2 : ∀ u, (wr.setCell ⟨g3, j.toNat, none⟩ u).drew.cell? ⟨gt, kk.toNat, none⟩ = some (.int .i64 tk) := fun u => far13 _ _ _ u hne2 ctd
     have HKK := Lib.hid hkk; clear far13; have HTK := Lib.hid htk; have HLOW := Lib.hid hlow; have HH9 := Lib.hid h9r; have HTR := Lib.hid hTr; clear hkk htk hkm hown3 hne9 hlow h9r hTr; go_wp2_with (fail)
     go_region_held3 (fun w' => w'.cell? ⟨wo.heap.size, 3, none⟩ = some (.slice (some ⟨g3, 0, none⟩) y.f3.length d3) ∧ w'.cell? ⟨gt, kk.toNat, none⟩ = some (.int .i64 tk)) (go_keep) (fail)
     rename_i hS9; clear hS9; go_wp2_with (fail)
     go_roundg kq
     case measure => omega
     case rel =>
      obtain ⟨hs1, hs2⟩ := hrow.out.drew.stored j.toNat (.int .i64 tk); refine ⟨j + 1, rfl, by omega, by omega, ⟨?_⟩, ⟨⟨hs2.os.trans hgr.out.os, hs2.tape.trans hgr.out.tape, hs2.output.trans hgr.out.output, Nat.le_trans hgr.out.size hs2.size, fun q hq hqn => (hs2.block q (Nat.lt_of_lt_of_le hq hgr.out.size) hqn).trans (hgr.out.block q hq hqn)⟩⟩⟩
      rw [show (j + 1).toNat = j.toNat + 1 by omega, ← mixK_step tl y.f3 j.toNat (by omega), ← HKK.out, ← HTK.out, List.map_set]
      exact hs1
    ·have t5 : decide (j < (y.f3.length : Int)) = false := decide_eq_false hjl; have hje : j.toNat = y.f3.length := by omega
     have hkr := hrow.out; rw [hje, mixK_all] at hkr; have hyy := HY.out; have htl := HTL.out; obtain ⟨tj, htj⟩ : ∃ tj, tj = tl.getD i.toNat 0 := ⟨_, rfl⟩; have htm : tj ∈ tl := by rw [htj, List.getD_eq_getElem?_getD, List.getElem?_eq_getElem (by omega)]; exact List.getElem_mem _
     obtain ⟨ht0, ht1⟩ := HTB.out tj htm; have RV := R_keepIn hR.out (fun k _ hk => hlow k hk)
     have hel := Kd.R_elem (Kd.R_drew RV) z40 tj ht0 ht1; obtain ⟨cs, hcl, _, hcc, hcf⟩ := hel; have hcl4 : cs.length = 4 := hcl; match cs, hcl4, hcl, hcc with
     | [ca, cb, cc, cd], _, hcl, hcc =>
     have o0 : wr.drew.cell? ⟨go, tj.toNat * 4, none⟩ = some ca := hcc 0 ca rfl; have o1 : wr.drew.cell? ⟨go, tj.toNat * 4 + 1, none⟩ = some cb := hcc 1 cb rfl; have o2 : wr.drew.cell? ⟨go, tj.toNat * 4 + 2, none⟩ = some cc := hcc 2 cc rfl; have o3 : wr.drew.cell? ⟨go, tj.toNat * 4 + 3, none⟩ = some cd := hcc 3 cd rfl; have f0 : wr.drew.frozen? ⟨go, tj.toNat * 4, none⟩ = false := hcf 0; have f1 : wr.drew.frozen? ⟨go, tj.toNat * 4 + 1, none⟩ = false := hcf 1; have f2 : wr.drew.frozen? ⟨go, tj.toNat * 4 + 2, none⟩ = false := hcf 2; have f3 : wr.drew.frozen? ⟨go, tj.toNat * 4 + 3, none⟩ = false := hcf 3; have h7r := (hlow g7 hg7l).trans h7.out; have hXr : SBox wr w.heap.size (some ad) l0.length c0 a1 := (hlow _ hgx).trans hX.out; have hZr : SNil wr (w.heap.size + 1) := (hlow _ hgz).trans hZ.out; have m7 : wr.drew.cell? ⟨g7, 0, none⟩ = some (.slice (some ⟨go, 0, none⟩) l0.length l0.length) := (blk_cell h7r 0).trans rfl; have mt : wr.drew.cell? ⟨gt, i.toNat, none⟩ = some (.int .i64 tj) := by
      have h := hTr.cellAt i.toNat (by omega)
      rw [List.getElem?_map, List.getElem?_eq_getElem (by omega)] at h
      rw [htj, List.getD_eq_getElem?_getD, List.getElem?_eq_getElem (by omega)]
      exact h
     have m0 : wr.drew.cell? ⟨wo.heap.size, 0, none⟩ = some (.int .i64 y.f0) := (blk_cell h9r 0).trans rfl; have m1 : wr.drew.cell? ⟨wo.heap.size, 1, none⟩ = some (.slice B1 y.f1.length d1) := (blk_cell h9r 1).trans rfl; have m2 : wr.drew.cell? ⟨wo.heap.size, 2, none⟩ = some (.slice B2 y.f2.length d2) := (blk_cell h9r 2).trans rfl; have m3 : wr.drew.cell? ⟨wo.heap.size, 3, none⟩ = some (.slice B3 y.f3.length d3) := (blk_cell h9r 3).trans rfl; have R1 := Kd.R_over HO1.out HO3.out (by decide) hgr.out
     have R2 := Kd.R_over HO2.out HO3.out (by decide) hgr.out
     have R3 : Kd.R (Kd.int .i64) 3 wr w4.heap.size (fun _ => True) (.slice B3 y.f3.length d3) (y.f3.map (fun k => tl.getD k.toNat 0)) := Kw.R_of_own (by rw [List.length_map]; exact hkr)
     have hgz7 := hG7z; have hne1 : g7 ≠ go := hgz7; have hne2 : gt ≠ go := by have := HGT.out; have := Kd.R_base hR.out go rfl; omega
     have hne3 : wo.heap.size ≠ go := by omega
     have hwgo : w2.heap.size ≤ go := Kd.R_base hR.out go rfl; have HLT := Lib.hid (show w.heap.size ≤ go by have := HZW.out; omega)
     have far15 : ∀ (b q : Nat) (x u0 u1 u2 u3 : Value), b ≠ go → wr.cell? ⟨b, q, none⟩ = some x → ((((wr.setCell ⟨go, tj.toNat * 4, none⟩ u0).setCell ⟨go, tj.toNat * 4 + 1, none⟩ u1).setCell ⟨go, tj.toNat * 4 + 2, none⟩ u2).setCell ⟨go, tj.toNat * 4 + 3, none⟩ u3).drew.cell? ⟨b, q, none⟩ = some x := fun b q x u0 u1 u2 u3 hb h => (cell_far (p := ⟨go, tj.toNat * 4 + 3, none⟩) hb u3).trans ((cell_far (p := ⟨go, tj.toNat * 4 + 2, none⟩) hb u2).trans ((cell_far (p := ⟨go, tj.toNat * 4 + 1, none⟩) hb u1).trans ((cell_far (p := ⟨go, tj.toNat * 4, none⟩) hb u0).trans h)))
     have k7 := fun u0 u1 u2 u3 => far15 _ _ _ u0 u1 u2 u3 hne1 m7
     have kt := fun u0 u1 u2 u3 => far15 _ _ _ u0 u1 u2 u3 hne2 mt
     have k0 := fun u0 u1 u2 u3 => far15 _ _ _ u0 u1 u2 u3 hne3 m0
     have k1 := fun u0 u1 u2 u3 => far15 _ _ _ u0 u1 u2 u3 hne3 m1
     have k2 := fun u0 u1 u2 u3 => far15 _ _ _ u0 u1 u2 u3 hne3 m2
     have k3 := fun u0 u1 u2 u3 => far15 _ _ _ u0 u1 u2 u3 hne3 m3
     have n0 : wr.cell? ⟨go, tj.toNat * 4, none⟩ = some ca := o0; have n1 : wr.cell? ⟨go, tj.toNat * 4 + 1, none⟩ = some cb := o1; have n2 : wr.cell? ⟨go, tj.toNat * 4 + 2, none⟩ = some cc := o2; have n3 : wr.cell? ⟨go, tj.toNat * 4 + 3, none⟩ = some cd := o3; have g0 : wr.frozen? ⟨go, tj.toNat * 4, none⟩ = false := f0; have g1 : wr.frozen? ⟨go, tj.toNat * 4 + 1, none⟩ = false := f1; have g2 : wr.frozen? ⟨go, tj.toNat * 4 + 2, none⟩ = false := f2; have g3 : wr.frozen? ⟨go, tj.toNat * 4 + 3, none⟩ = false := f3; clear far15; have R1H := Lib.hid R1; have R2H := Lib.hid R2; have R3H := Lib.hid R3; have RVH := Lib.hid RV; have H7R := Lib.hid h7r; have HXR := Lib.hid hXr; have HZR := Lib.hid hZr; have HTR := Lib.hid hTr; have HTJ := Lib.hid htj; have HCC := Lib.hid hcc; have HLW := Lib.hid hlow; clear R1 R2 R3 RV h7r hXr hZr hTr htj htm hcc hlow h9r hkr hyy hcf hown3 hne9 htl; go_wp2_with (fail)
     go_region_held3 (fun w' => w'.cell? ⟨g7, 0, none⟩ = some (.slice (some ⟨go, 0, none⟩) l0.length l0.length) ∧ w'.cell? ⟨gt, i.toNat, none⟩ = some (.int .i64 tj) ∧ w'.cell? ⟨wo.heap.size, 0, none⟩ = some (.int .i64 y.f0) ∧ w'.cell? ⟨wo.heap.size, 1, none⟩ = some (.slice B1 y.f1.length d1) ∧ w'.cell? ⟨wo.heap.size, 2, none⟩ = some (.slice B2 y.f2.length d2) ∧ w'.cell? ⟨wo.heap.size, 3, none⟩ = some (.slice B3 y.f3.length d3)) (go_keep) (fail)
     rename_i hS9; clear hS9; go_wp2_with (fail)
     go_roundg ko
     case measure => omega
     case rel =>
      have hM : k40.M wr.drew w2.heap.size (fun k => wo.heap.size ≤ k) (renN tl y) [.int .i64 y.f0, .slice B1 y.f1.length d1, .slice B2 y.f2.length d2, .slice B3 y.f3.length d3] := by
       have hwz := HZ4.out; have hlo : w2.heap.size ≤ wo.heap.size := by omega
       exact k40_mkM wr.drew w2.heap.size _ (renN tl y) (Kd.R_drew (Kd.R_lower (Kd.R_mono (Kd.R_bound R1H.out) (fun k hk => hk.2.1)) hlo)) (Kd.R_drew (Kd.R_lower (Kd.R_mono (Kd.R_bound R2H.out) (fun k hk => hk.2.1)) hlo)) (Kd.R_drew (Kd.R_lower (Kd.R_mono (Kd.R_bound R3H.out) (fun k hk => by have := hk.2.1; omega)) (by omega)))
      obtain ⟨hRn, hgn⟩ := Kd.R_seg (Kd.R_drew RVH.out) tj ht0 ht1 (seg := [.int .i64 y.f0, .slice B1 y.f1.length d1, .slice B2 y.f2.length d2, .slice B3 y.f3.length d3]) (j := 0) hcl HCC.out (Nat.le_refl 4) hM (fun k hk => ⟨trivial, by omega⟩)
      have hkeep : ∀ k, k ≠ go → k < wr.heap.size → (World.setCells wr.drew go (tj.toNat * 4) [.int .i64 y.f0, .slice B1 y.f1.length d1, .slice B2 y.f2.length d2, .slice B3 y.f3.length d3]).heap[k]? = wr.heap[k]? := fun k hk hl => hgn.block k hl (by intro h; cases h; exact hk rfl)
      have hz2w := HZW.out; refine ⟨i + 1, rfl, by omega, by omega, ⟨?_⟩, ⟨HTR.out.drew.kept hgn (.inr (by intro h; cases h; exact hne2 rfl))⟩, ⟨(hkeep g7 hne1 (by have := hgr.out.size; omega)).trans H7R.out⟩, ⟨(hkeep _ (by omega) (by have := hgr.out.size; omega)).trans HXR.out⟩, ⟨(hkeep _ (by omega) (by have := hgr.out.size; omega)).trans HZR.out⟩, ⟨?_⟩, ⟨?_⟩⟩
      ·rw [show (i + 1).toNat = i.toNat + 1 by omega, canonAt, ← HTJ.out, show ((i.toNat : Nat) : Int) = i by omega, ← HY.out]
       exact hRn
      ·exact (hB.out.trans ⟨hgr.out.os.trans HB6.out.os, hgr.out.tape.trans HB6.out.tape, hgr.out.output.trans HB6.out.output, by have := hgr.out.size; omega, fun k hk => HLW.out k (by omega)⟩).drew.grown hgn (by have := hgr.out.size; show _ ≤ wr.heap.size; omega) (fun k hk => by cases hk; have := HLT.out; omega)
      ·have h1 := hgn.size; have h2 := hgr.out.size; have h3 : wr.drew.heap.size = wr.heap.size := rfl; exact Nat.le_trans (by have := hsz.out; have := HB6.out.size; omega) h1
  ·have t4 : decide (i < (l0.length : Int)) = false := decide_eq_false hlt; have m0 : wo.cell? ⟨g7, 0, none⟩ = some (.slice (some ⟨go, 0, none⟩) l0.length l0.length) := (blk_cell h7.out 0).trans rfl; have m1 : wo.cell? ⟨g7, 1, none⟩ = some (.int .i64 ((l0.length : Int) - 1)) := (blk_cell h7.out 1).trans rfl; have s0 : wo.cell? ⟨w.heap.size + 1, 0, none⟩ = some (.slice none 0 0) := (blk_cell hZ.out 0).trans rfl; have s1 : wo.cell? ⟨w.heap.size + 1, 1, none⟩ = some (.int .i64 0) := (blk_cell hZ.out 1).trans rfl; have f0 := blk_frozen hZ.out 0; have f1 := blk_frozen hZ.out 1; go_wp2_with (fail)
   have hie : i.toNat = l0.length := by omega
   have hRf := hR.out; rw [hie] at hRf; have hzw := HZW.out; have hp := blk_put (blk_put hZ.out 0 (.slice (some ⟨go, 0, none⟩) l0.length l0.length) rfl) 1 (.int .i64 ((l0.length : Int) - 1)) rfl; refine bodyPost_ret (results_ct rfl _ _ (w.heap.size + 1) 24 #[.slice (some ⟨go, 0, none⟩) l0.length l0.length, .int .i64 ((l0.length : Int) - 1)] (0, 0) _ rfl hp Try.underlying24 rfl (by kernel_rfl)) rfl ?_
   have hz2w : w.heap.size + 2 ≤ w2.heap.size := by omega
   exact ⟨_, rfl, Kd.R_lower (R_keepIn (R_keepIn hRf (fun k hk _ => Below.heap_setCell _ _ _ _ (by show k ≠ w.heap.size + 1; omega))) (fun k hk _ => Below.heap_setCell _ _ _ _ (by show k ≠ w.heap.size + 1; omega))) (by omega), (hB.out.setCell (p := ⟨w.heap.size + 1, 0, none⟩) (by simp) _).setCell (p := ⟨w.heap.size + 1, 1, none⟩) (by simp) _⟩
set_option maxHeartbeats 8000000 in
set_option maxRecDepth 100000 in
theorem ccanon_none (k : Nat) (A0 : Option Addr) (c0 : Nat) (l0 : List (S40)) (a1 : Int) (w : World) (hr0 : Kd.C k40 w A0 l0.length l0) (hc0 : l0.length ≤ c0) (q p : Int) (hck : graph_Check.f k l0 a1 = some (q, p)) (hq : ¬ q = 0) :
  Calls Try.prog 16 #[.agg #[.slice A0 l0.length c0, .int .i64 a1]] w fun e w' => ∃ v0_ : Value, e = .returned (.tuple #[.agg #[v0_, .int .i64 0], .int .i64 q]) ∧ Kd.R k40 40 w' w.heap.size (fun _ => True) v0_ [] ∧ Below w.heap.size w w' := by
 have HR := Lib.hid hr0; have HK := Lib.hid hck; clear hr0 hck; have hqb : (q == 0) = false := by simpa using hq
 go_enter Try.func16, Try.ntmps16
 go_wp2_with (fail)
 have hZ0 : SNil ((w.alloc (.cells #[.slice A0 l0.length c0, .int .i64 a1] 24)).alloc (.cells #[.slice none 0 0, .int .i64 0] 24)) (w.heap.size + 1) := by
  have := heap_alloc_new (w.alloc (.cells #[.slice A0 l0.length c0, .int .i64 a1] 24)) (.cells #[.slice none 0 0, .int .i64 0] 24); have hz : (w.alloc (.cells #[.slice A0 l0.length c0, .int .i64 a1] 24)).heap.size = w.heap.size + 1 := by simp
  rw [hz] at this; exact this
 have hB0 : Below w.heap.size w ((w.alloc (.cells #[.slice A0 l0.length c0, .int .i64 a1] 24)).alloc (.cells #[.slice none 0 0, .int .i64 0] 24)) := ((Below.refl _ w).alloc (Nat.le_refl _) _).alloc (by simp) _
 generalize ((w.alloc (.cells #[.slice A0 l0.length c0, .int .i64 a1] 24)).alloc (.cells #[.slice none 0 0, .int .i64 0] 24)) = w0 at hZ0 hB0 ⊢
 have HZ0 := Lib.hid hZ0; have HB0 := Lib.hid hB0; clear hZ0 hB0; refine (graph_Check.calls k A0 c0 l0 a1 q p w0 (Kd.C_below HR.out HB0.out) hc0 HK.out).mono ?_
 rintro e w1 ⟨rfl, hb1⟩
 have HZ1 : Hid (SNil w1 (w.heap.size + 1)) := Lib.hid ((hb1.block (w.heap.size + 1) (blk_lt HZ0.out)).trans HZ0.out); have HB1 := Lib.hid (below_step HB0.out hb1); have s0 : w1.cell? ⟨w.heap.size + 1, 0, none⟩ = some (.slice none 0 0) := (blk_cell HZ1.out 0).trans rfl; have s1 : w1.cell? ⟨w.heap.size + 1, 1, none⟩ = some (.int .i64 0) := (blk_cell HZ1.out 1).trans rfl; have f0 := blk_frozen HZ1.out 0; have f1 := blk_frozen HZ1.out 1; clear hb1; go_wp2_with (fail)
 have hp := blk_put (blk_put HZ1.out 0 (.slice none 0 0) rfl) 1 (.int .i64 0) rfl; refine bodyPost_ret (results_ct rfl _ _ (w.heap.size + 1) 24 #[.slice none 0 0, .int .i64 0] (0, 0) _ rfl hp Try.underlying24 rfl (by kernel_rfl)) rfl ?_
 exact ⟨_, rfl, Kd.R_nil _ _ _ _ _, (HB1.out.setCell (p := ⟨w.heap.size + 1, 0, none⟩) (by simp) _).setCell (p := ⟨w.heap.size + 1, 1, none⟩) (by simp) _⟩
end
def canon_Canon.f (k : Nat) (l0_0 : List (S40)) (a0_1 : Int) : Option (List (S40) × Int × Int) :=
 (graph_Check.f k l0_0 a0_1).bind fun c => if c.1 = 0 then (canon_Numbers.f k l0_0 a0_1).bind fun tl => if tl.length = l0_0.length ∧ (tl.all fun x => decide (0 ≤ x ∧ x < (l0_0.length : Int))) = true ∧ (l0_0.all fun y => decide (y.f1.length < 8796093022208 ∧ y.f2.length < 8796093022208)) = true then some (canonAt l0_0 tl l0_0.length, (l0_0.length : Int) - 1, 0) else none
  else some ([], 0, c.1)
theorem canon_Canon.calls (k : Nat) (A0_0 : Option Addr) (c0_0 : Nat) (l0_0 : List (S40)) (a0_1 : Int) (r1 : List (S40)) (r2 : Int) (r3 : Int) (w : World) (hr0_0 : Kd.C k40 w A0_0 l0_0.length l0_0) (hc0_0 : l0_0.length ≤ c0_0) (h : canon_Canon.f k l0_0 a0_1 = some (r1, r2, r3)) :
  Calls Try.prog 16 #[.agg #[.slice A0_0 l0_0.length c0_0, .int .i64 a0_1]] w fun e w' => ∃ v0_ : Value, e = .returned (.tuple #[.agg #[v0_, .int .i64 r2], .int .i64 r3]) ∧ Kd.R k40 40 w' w.heap.size (fun _ => True) v0_ r1 ∧ Below w.heap.size w w' := by
 unfold canon_Canon.f at h
 obtain ⟨⟨q, p⟩, hc, h2⟩ := Option.bind_eq_some_iff.1 h; simp only at h2
 split at h2
 ·rename_i hq; subst hq; obtain ⟨tl, ht, h3⟩ := Option.bind_eq_some_iff.1 h2; split at h3
  ·rename_i hb; simp only [Option.some.injEq, Prod.mk.injEq] at h3
   obtain ⟨rfl, rfl, rfl⟩ := h3; exact ccanon_calls k A0_0 c0_0 l0_0 a0_1 w hr0_0 hc0_0 p hc tl ht hb.1 (fun x hx => by simpa using List.all_eq_true.1 hb.2.1 x hx) (fun y hy => by simpa using List.all_eq_true.1 hb.2.2 y hy)
  ·cases h3
 ·rename_i hq; simp only [Option.some.injEq, Prod.mk.injEq] at h2
  obtain ⟨rfl, rfl, rfl⟩ := h2; exact ccanon_none k A0_0 c0_0 l0_0 a0_1 w hr0_0 hc0_0 _ p hc hq

/-! ### dioramaref09_Ints: function 22 -/
def dioramaref09_Ints.l0 : Nat → List Int → List Int → Int → Option (Bool)
 | 0, _, _, _ => none
 | k + 1, x0, x1, x5 => if x5 < (x0.length : Int) then (if 0 ≤ x5 then (if x5 < (x1.length : Int) then (if (rd x0 x5) = (rd x1 x5) then (dioramaref09_Ints.l0 k x0 x1 (wrap64 (x5 + 1))) else (some false)) else (none)) else (none)) else (some true)
def dioramaref09_Ints.f (k : Nat) (l0 : List Int) (l1 : List Int) : Option (Bool) := if (l0.length : Int) = (l1.length : Int) then (dioramaref09_Ints.l0 k l0 l1 0) else (some false)
set_option maxHeartbeats 8000000 in
set_option maxRecDepth 100000 in
theorem dioramaref09_Ints.calls (k : Nat) (A0 : Option Addr) (c0 : Nat) (l0 : List Int) (A1 : Option Addr) (c1 : Nat) (l1 : List Int) (r : Bool) (w : World) (hr0 : Kd.C (Kd.int .i64) w A0 l0.length l0) (hc0 : l0.length ≤ c0) (hr1 : Kd.C (Kd.int .i64) w A1 l1.length l1) (hc1 : l1.length ≤ c1) (h : dioramaref09_Ints.f k l0 l1 = some r) :
  Calls Try.prog 22 #[.slice A0 l0.length c0, .slice A1 l1.length c1] w fun e w' => e = .returned (.bool r) ∧ Drawn0 w w' := by
 have HR0 := AM hr0; have HC0 := AM hc0; clear hr0 hc0; have HR1 := AM hr1; have HC1 := AM hc1; clear hr1 hc1; have H : (if (l0.length : Int) = (l1.length : Int) then (dioramaref09_Ints.l0 k l0 l1 0) else (some false)) = some r := h; clear h; by_cases c3 : (l0.length : Int) = (l1.length : Int)
 ·rw [if_pos c3] at H; have c3b0 : ((l0.length : Int) == (l1.length : Int)) = true := beq_iff_eq.mpr c3; have c3b1 : ((l0.length : Int) != (l1.length : Int)) = false := bne_eq_false_iff_eq.mpr c3; have c3b2 : (l0.length == l1.length) = true := by first | simpa using c3 | (simp at c3 ⊢; omega)
  clear c3; have H' := AM H; clear H; go_enter Try.func22, Try.ntmps22
  go_wp2
  repeat (go_quiet (fail); try go_wp2)
  go_loopg [5] k (fun kq v5 w' => ∃ (x5_1 : Int), v5 = .int .i64 x5_1 ∧ Aside0 (dioramaref09_Ints.l0 kq l0 l1 x5_1 = some r) ∧ Aside0 (kq ≤ k) ∧ Drawn0 w w')
  case atStart => exact ⟨(0), (by first | rfl | (simp; done) | (simp [*]; done)), H', ⟨Nat.le_refl _⟩, by repeat (first | exact Drawn0.refl _ | apply Drawn0.step)⟩
  case round =>
   clear H'; try clear c1
   try clear c2
   try clear p2
   try clear c3
   try clear c3b0
   try clear c3b1
   try clear c3b2
   obtain ⟨x5_1, rfl, HA, HK1, ⟨m1, rfl⟩⟩ := hrel; cases gk with
   | zero => exact absurd HA.out (by simp [dioramaref09_Ints.l0])
   | succ k1 =>
    have H := HA.out; clear HA; simp only [dioramaref09_Ints.l0] at H
    by_cases c4 : x5_1 < (l0.length : Int)
    ·rw [if_pos c4] at H; have c4b0 : decide (x5_1 < (l0.length : Int)) = true := decide_eq_true c4; clear c4; by_cases c5 : 0 ≤ x5_1
     ·rw [if_pos c5] at H; have c5b0 : decide (0 ≤ x5_1) = true := decide_eq_true c5; clear c5; by_cases c6 : x5_1 < (l1.length : Int)
      ·rw [if_pos c6] at H; have c6b0 : decide (x5_1 < (l1.length : Int)) = true := decide_eq_true c6; clear c6; by_cases c7 : (rd l0 x5_1) = (rd l1 x5_1)
       ·rw [if_pos c7] at H; have c7b0 : ((rd l0 x5_1) == (rd l1 x5_1)) = true := beq_iff_eq.mpr c7; have c7b1 : ((rd l0 x5_1) != (rd l1 x5_1)) = false := bne_eq_false_iff_eq.mpr c7; clear c7; have H' := AM H; clear H; have p141 : 0 ≤ (x5_1 : Int) := of_decide_eq_true (by first | (with_reducible assumption) | assumption)
        have q141 : x5_1 < (l0.length : Int) := of_decide_eq_true (by first | (with_reducible assumption) | assumption)
        obtain ⟨ad141, e141, hx141_0⟩ := Kd.at_int HR0.out x5_1 p141 q141; cases e141
        replace p141 := eq_true p141; replace q141 := eq_true q141; have p142 : 0 ≤ (x5_1 : Int) := of_decide_eq_true (by first | (with_reducible assumption) | assumption)
        have q142 : x5_1 < (l1.length : Int) := of_decide_eq_true (by first | (with_reducible assumption) | assumption)
        obtain ⟨ad142, e142, hx142_0⟩ := Kd.at_int HR1.out x5_1 p142 q142; cases e142
        replace p142 := eq_true p142; replace q142 := eq_true q142; go_wp2
        repeat (go_quiet (fail); try go_wp2)
        go_roundg k1
        case measure => have := HK1.out; omega
        case rel => exact ⟨(wrap64 (x5_1 + 1)), (by first | rfl | (simp; done) | (simp [*]; done)), H', ⟨by have := HK1.out; omega⟩, by repeat (first | exact Drawn0.refl _ | apply Drawn0.step)⟩
       ·rw [if_neg c7] at H; have c7b0 : ((rd l0 x5_1) == (rd l1 x5_1)) = false := beq_eq_false_iff_ne.mpr c7; have c7b1 : ((rd l0 x5_1) != (rd l1 x5_1)) = true := bne_iff_ne.mpr c7; obtain rfl := Option.some.inj H; have p141 : 0 ≤ (x5_1 : Int) := of_decide_eq_true (by first | (with_reducible assumption) | assumption)
        have q141 : x5_1 < (l0.length : Int) := of_decide_eq_true (by first | (with_reducible assumption) | assumption)
        obtain ⟨ad141, e141, hx141_0⟩ := Kd.at_int HR0.out x5_1 p141 q141; cases e141
        replace p141 := eq_true p141; replace q141 := eq_true q141; have p142 : 0 ≤ (x5_1 : Int) := of_decide_eq_true (by first | (with_reducible assumption) | assumption)
        have q142 : x5_1 < (l1.length : Int) := of_decide_eq_true (by first | (with_reducible assumption) | assumption)
        obtain ⟨ad142, e142, hx142_0⟩ := Kd.at_int HR1.out x5_1 p142 q142; cases e142
        replace p142 := eq_true p142; replace q142 := eq_true q142; go_wp2
        repeat (go_quiet (fail); try go_wp2)
        go_ret
        exact ⟨by first | rfl | (simp; done) | (simp [*]; done), by repeat (first | exact Drawn0.refl _ | apply Drawn0.step)⟩
      ·rw [if_neg c6] at H; exact absurd H (by simp)
     ·rw [if_neg c5] at H; exact absurd H (by simp)
    ·rw [if_neg c4] at H; have c4b0 : decide (x5_1 < (l0.length : Int)) = false := decide_eq_false c4; clear c4; obtain rfl := Option.some.inj H; go_wp2
     repeat (go_quiet (fail); try go_wp2)
     go_ret
     exact ⟨by first | rfl | (simp; done) | (simp [*]; done), by repeat (first | exact Drawn0.refl _ | apply Drawn0.step)⟩
 ·rw [if_neg c3] at H; have c3b0 : ((l0.length : Int) == (l1.length : Int)) = false := beq_eq_false_iff_ne.mpr c3; have c3b1 : ((l0.length : Int) != (l1.length : Int)) = true := bne_iff_ne.mpr c3; have c3b2 : (l0.length == l1.length) = false := by first | simpa using c3 | (simp at c3 ⊢; omega)
  obtain rfl := Option.some.inj H; go_enter Try.func22, Try.ntmps22
  go_wp2
  repeat (go_quiet (fail); try go_wp2)
  go_ret
  exact ⟨by first | rfl | (simp; done) | (simp [*]; done), by repeat (first | exact Drawn0.refl _ | apply Drawn0.step)⟩

/-! ### cmp_isNaN_int: function 65 -/
def cmp_isNaN_int.f (a0 : Int) : Option (Bool) := some (a0 != a0)
set_option maxHeartbeats 8000000 in
set_option maxRecDepth 100000 in
theorem cmp_isNaN_int.calls (a0 : Int) (r : Bool) (w : World) (h : cmp_isNaN_int.f a0 = some r) :
  Calls Try.prog 65 #[.int .i64 a0] w fun e w' => e = .returned (.bool r) ∧ Drawn0 w w' := by
 have H : (some (a0 != a0)) = some r := h; clear h; obtain rfl := Option.some.inj H; go_enter Try.func65, Try.ntmps65
 go_wp2
 go_ret
 exact ⟨by first | rfl | (simp; done) | (simp [*]; done), by repeat (first | exact Drawn0.refl _ | apply Drawn0.step)⟩

/-! ### cmp_Less_int: function 57 -/
def cmp_Less_int.f (a0 : Int) (a1 : Int) : Option (Bool) := (cmp_isNaN_int.f a0).bind fun t143 => (if t143 = true then ((cmp_isNaN_int.f a1).bind fun t144 => (if t144 = true then (some (decide (a0 < a1))) else (some true))) else (some (decide (a0 < a1))))
set_option maxHeartbeats 8000000 in
set_option maxRecDepth 100000 in
theorem cmp_Less_int.calls (a0 : Int) (a1 : Int) (r : Bool) (w : World) (h : cmp_Less_int.f a0 a1 = some r) :
  Calls Try.prog 57 #[.int .i64 a0, .int .i64 a1] w fun e w' => e = .returned (.bool r) ∧ Drawn0 w w' := by
 have H : ((cmp_isNaN_int.f a0).bind fun t143 => (if t143 = true then ((cmp_isNaN_int.f a1).bind fun t144 => (if t144 = true then (some (decide (a0 < a1))) else (some true))) else (some (decide (a0 < a1))))) = some r := h
 clear h; replace H := Option.bind_eq_some_iff.mp H; obtain ⟨t143, A30, H⟩ := H; replace H : (if t143 = true then ((cmp_isNaN_int.f a1).bind fun t144 => (if t144 = true then (some (decide (a0 < a1))) else (some true))) else (some (decide (a0 < a1)))) = some r := H
 have A3 := AM A30; clear A30; by_cases c4 : t143 = true
 ·subst c4; have H1 : ((cmp_isNaN_int.f a1).bind fun t144 => (if t144 = true then (some (decide (a0 < a1))) else (some true))) = some r := by rw [if_pos rfl] at H; exact H
  clear H; have H := H1; clear H1; replace H := Option.bind_eq_some_iff.mp H; obtain ⟨t144, A50, H⟩ := H; replace H : (if t144 = true then (some (decide (a0 < a1))) else (some true)) = some r := H; have A5 := AM A50; clear A50; by_cases c6 : t144 = true
  ·subst c6; have H1 : (some (decide (a0 < a1))) = some r := by rw [if_pos rfl] at H; exact H
   clear H; have H := H1; clear H1; obtain rfl := Option.some.inj H; go_enter Try.func57, Try.ntmps57
   go_wp2_with (first | ((with_reducible refine gate_callee (f := 65) rfl ?_); refine goesM_ (some 6) rfl rfl Try.func65 #[.int .i64 a0] rfl ?_; (with_reducible refine (cmp_isNaN_int.calls a0 true _ A3.out).mono ?_); rintro e w' ⟨rfl, ⟨nd, rfl⟩⟩; refine ⟨_, rfl, ?_⟩) | (go_at_call 65; (with_reducible refine (cmp_isNaN_int.calls a1 true _ A5.out).mono ?_); rintro e w' ⟨rfl, ⟨nd, rfl⟩⟩))
   go_ret
   exact ⟨by first | rfl | (simp; done) | (simp [*]; done), by repeat (first | exact Drawn0.refl _ | apply Drawn0.step)⟩
  ·replace c6 := Bool.eq_false_iff.mpr c6; subst c6; have H1 : (some true) = some r := by rw [if_neg (show ¬ (false = true) by decide)] at H; exact H
   clear H; have H := H1; clear H1; obtain rfl := Option.some.inj H; go_enter Try.func57, Try.ntmps57
   go_wp2_with (first | ((with_reducible refine gate_callee (f := 65) rfl ?_); refine goesM_ (some 6) rfl rfl Try.func65 #[.int .i64 a0] rfl ?_; (with_reducible refine (cmp_isNaN_int.calls a0 true _ A3.out).mono ?_); rintro e w' ⟨rfl, ⟨nd, rfl⟩⟩; refine ⟨_, rfl, ?_⟩) | (go_at_call 65; (with_reducible refine (cmp_isNaN_int.calls a1 false _ A5.out).mono ?_); rintro e w' ⟨rfl, ⟨nd, rfl⟩⟩))
   go_ret
   exact ⟨by first | rfl | (simp; done) | (simp [*]; done), by repeat (first | exact Drawn0.refl _ | apply Drawn0.step)⟩
 ·replace c4 := Bool.eq_false_iff.mpr c4; subst c4; have H1 : (some (decide (a0 < a1))) = some r := by rw [if_neg (show ¬ (false = true) by decide)] at H; exact H
  clear H; have H := H1; clear H1; obtain rfl := Option.some.inj H; go_enter Try.func57, Try.ntmps57
  go_wp2_with (first | ((with_reducible refine gate_callee (f := 65) rfl ?_); refine goesM_ (some 6) rfl rfl Try.func65 #[.int .i64 a0] rfl ?_; (with_reducible refine (cmp_isNaN_int.calls a0 false _ A3.out).mono ?_); rintro e w' ⟨rfl, ⟨nd, rfl⟩⟩; refine ⟨_, rfl, ?_⟩))
  go_ret
  exact ⟨by first | rfl | (simp; done) | (simp [*]; done), by repeat (first | exact Drawn0.refl _ | apply Drawn0.step)⟩

/-! ### slices_IsSorted_int_int: function 46 -/
def slices_IsSorted_int_int.l0 : Nat → List Int → Int → Option (Bool)
 | 0, _, _ => none
 | k + 1, x0, x3 => if x3 > 0 then (if 0 ≤ x3 then (if x3 < (x0.length : Int) then (if 0 ≤ (wrap64 (x3 - 1)) then (if (wrap64 (x3 - 1)) < (x0.length : Int) then ((cmp_Less_int.f (rd x0 x3) (rd x0 (wrap64 (x3 - 1)))).bind fun t147 => (if t147 = true then (some false) else (slices_IsSorted_int_int.l0 k x0 (wrap64 (x3 - 1))))) else (none)) else (none)) else (none)) else (none)) else (some true)
def slices_IsSorted_int_int.f (k : Nat) (l0 : List Int) : Option (Bool) := slices_IsSorted_int_int.l0 k l0 (wrap64 ((l0.length : Int) - 1))
set_option maxHeartbeats 8000000 in
set_option maxRecDepth 100000 in
theorem slices_IsSorted_int_int.calls (k : Nat) (A0 : Option Addr) (c0 : Nat) (l0 : List Int) (r : Bool) (w : World) (hr0 : Kd.C (Kd.int .i64) w A0 l0.length l0) (hc0 : l0.length ≤ c0) (h : slices_IsSorted_int_int.f k l0 = some r) :
  Calls Try.prog 46 #[.slice A0 l0.length c0] w fun e w' => e = .returned (.bool r) ∧ Drawn0 w w' := by
 have HR0 := AM hr0; have HC0 := AM hc0; clear hr0 hc0; have H : (slices_IsSorted_int_int.l0 k l0 (wrap64 ((l0.length : Int) - 1))) = some r := h; clear h; have H' := AM H; clear H; go_enter Try.func46, Try.ntmps46
 go_wp2
 repeat (go_quiet (fail); try go_wp2)
 go_loopg [3] k (fun kq v3 w' => ∃ (x3_1 : Int), v3 = .int .i64 x3_1 ∧ Aside0 (slices_IsSorted_int_int.l0 kq l0 x3_1 = some r) ∧ Aside0 (kq ≤ k) ∧ Drawn0 w w')
 case atStart => exact ⟨(wrap64 ((l0.length : Int) - 1)), (by first | rfl | (simp; done) | (simp [*]; done)), H', ⟨Nat.le_refl _⟩, by repeat (first | exact Drawn0.refl _ | apply Drawn0.step)⟩
 case round =>
  clear H'; obtain ⟨x3_1, rfl, HA, HK1, ⟨m1, rfl⟩⟩ := hrel; cases gk with
  | zero => exact absurd HA.out (by simp [slices_IsSorted_int_int.l0])
  | succ k1 =>
   have H := HA.out; clear HA; simp only [slices_IsSorted_int_int.l0] at H
   by_cases c2 : x3_1 > 0
   ·rw [if_pos c2] at H; have c2b0 : decide (0 < x3_1) = true := decide_eq_true c2; clear c2; by_cases c3 : 0 ≤ x3_1
    ·rw [if_pos c3] at H; have c3b0 : decide (0 ≤ x3_1) = true := decide_eq_true c3; clear c3; by_cases c4 : x3_1 < (l0.length : Int)
     ·rw [if_pos c4] at H; have c4b0 : decide (x3_1 < (l0.length : Int)) = true := decide_eq_true c4; clear c4; obtain ⟨ji5, hji5⟩ : ∃ j_ : Int, (wrap64 (x3_1 - 1)) = j_ := ⟨_, rfl⟩; replace H : (if 0 ≤ (ji5) then (if (ji5) < (l0.length : Int) then ((cmp_Less_int.f (rd l0 x3_1) (rd l0 (ji5))).bind fun t147 => (if t147 = true then (some false) else (slices_IsSorted_int_int.l0 k1 l0 ji5))) else (none)) else (none)) = some r := by first | (rw [hji5] at H; exact H) | (simp only [hji5] at H ⊢; exact H)
      have hji5w : (IntKind.i64.wrap (x3_1 - 1)) = ji5 := (i64_w _).trans hji5; by_cases c6 : 0 ≤ (ji5)
      ·rw [if_pos c6] at H; have c6b0 : decide (0 ≤ (ji5)) = true := decide_eq_true c6; clear c6; by_cases c7 : (ji5) < (l0.length : Int)
       ·rw [if_pos c7] at H; have c7b0 : decide ((ji5) < (l0.length : Int)) = true := decide_eq_true c7; clear c7; replace H := Option.bind_eq_some_iff.mp H; obtain ⟨t147, A80, H⟩ := H; replace H : (if t147 = true then (some false) else (slices_IsSorted_int_int.l0 k1 l0 ji5)) = some r := H; have A8 := AM A80; clear A80; by_cases c9 : t147 = true
        ·subst c9; have H1 : (some false) = some r := by rw [if_pos rfl] at H; exact H
         clear H; have H := H1; clear H1; obtain rfl := Option.some.inj H; have p145 : 0 ≤ (x3_1 : Int) := of_decide_eq_true (by first | (with_reducible assumption) | assumption)
         have q145 : x3_1 < (l0.length : Int) := of_decide_eq_true (by first | (with_reducible assumption) | assumption)
         obtain ⟨ad145, e145, hx145_0⟩ := Kd.at_int HR0.out x3_1 p145 q145; cases e145
         replace p145 := eq_true p145; replace q145 := eq_true q145; have p146 : 0 ≤ ((ji5) : Int) := of_decide_eq_true (by first | (with_reducible assumption) | assumption)
         have q146 : (ji5) < (l0.length : Int) := of_decide_eq_true (by first | (with_reducible assumption) | assumption)
         obtain ⟨ad146, e146, hx146_0⟩ := Kd.at_int HR0.out (ji5) p146 q146; obtain rfl : ad145 = ad146 := (by injection e146)
         replace p146 := eq_true p146; replace q146 := eq_true q146; go_wp2_with (first | (go_at_call 57; (with_reducible refine (cmp_Less_int.calls (rd l0 x3_1) (rd l0 (ji5)) true _ A8.out).mono ?_); rintro e w' ⟨rfl, ⟨nd, rfl⟩⟩; (try first | exact ⟨rfl, _, World.drewN_drewN _ _ _⟩ | exact ⟨rfl, _, Eq.trans (World.drewN_drewN _ _ _) (congrArg (World.drewN _) (Nat.add_assoc _ _ _))⟩)))
         repeat (go_quiet (first | (go_at_call 57; (with_reducible refine (cmp_Less_int.calls (rd l0 x3_1) (rd l0 (ji5)) true _ A8.out).mono ?_); rintro e w' ⟨rfl, ⟨nd, rfl⟩⟩; (try first | exact ⟨rfl, _, World.drewN_drewN _ _ _⟩ | exact ⟨rfl, _, Eq.trans (World.drewN_drewN _ _ _) (congrArg (World.drewN _) (Nat.add_assoc _ _ _))⟩))); try go_wp2_with (first | (go_at_call 57; (with_reducible refine (cmp_Less_int.calls (rd l0 x3_1) (rd l0 (ji5)) true _ A8.out).mono ?_); rintro e w' ⟨rfl, ⟨nd, rfl⟩⟩; (try first | exact ⟨rfl, _, World.drewN_drewN _ _ _⟩ | exact ⟨rfl, _, Eq.trans (World.drewN_drewN _ _ _) (congrArg (World.drewN _) (Nat.add_assoc _ _ _))⟩))))
         go_ret
         exact ⟨by first | rfl | (simp; done) | (simp only [← hji5] <;> (first | rfl | simp)) | (simp [*]; done), by repeat (first | exact Drawn0.refl _ | apply Drawn0.step)⟩
        ·replace c9 := Bool.eq_false_iff.mpr c9; subst c9; have H1 : (slices_IsSorted_int_int.l0 k1 l0 ji5) = some r := by rw [if_neg (show ¬ (false = true) by decide)] at H; exact H
         clear H; have H := H1; clear H1; have H' := AM H; clear H; have p145 : 0 ≤ (x3_1 : Int) := of_decide_eq_true (by first | (with_reducible assumption) | assumption)
         have q145 : x3_1 < (l0.length : Int) := of_decide_eq_true (by first | (with_reducible assumption) | assumption)
         obtain ⟨ad145, e145, hx145_0⟩ := Kd.at_int HR0.out x3_1 p145 q145; cases e145
         replace p145 := eq_true p145; replace q145 := eq_true q145; have p146 : 0 ≤ ((ji5) : Int) := of_decide_eq_true (by first | (with_reducible assumption) | assumption)
         have q146 : (ji5) < (l0.length : Int) := of_decide_eq_true (by first | (with_reducible assumption) | assumption)
         obtain ⟨ad146, e146, hx146_0⟩ := Kd.at_int HR0.out (ji5) p146 q146; obtain rfl : ad145 = ad146 := (by injection e146)
         replace p146 := eq_true p146; replace q146 := eq_true q146; go_wp2_with (first | (go_at_call 57; (with_reducible refine (cmp_Less_int.calls (rd l0 x3_1) (rd l0 (ji5)) false _ A8.out).mono ?_); rintro e w' ⟨rfl, ⟨nd, rfl⟩⟩; (try first | exact ⟨rfl, _, World.drewN_drewN _ _ _⟩ | exact ⟨rfl, _, Eq.trans (World.drewN_drewN _ _ _) (congrArg (World.drewN _) (Nat.add_assoc _ _ _))⟩)))
         repeat (go_quiet (first | (go_at_call 57; (with_reducible refine (cmp_Less_int.calls (rd l0 x3_1) (rd l0 (ji5)) false _ A8.out).mono ?_); rintro e w' ⟨rfl, ⟨nd, rfl⟩⟩; (try first | exact ⟨rfl, _, World.drewN_drewN _ _ _⟩ | exact ⟨rfl, _, Eq.trans (World.drewN_drewN _ _ _) (congrArg (World.drewN _) (Nat.add_assoc _ _ _))⟩))); try go_wp2_with (first | (go_at_call 57; (with_reducible refine (cmp_Less_int.calls (rd l0 x3_1) (rd l0 (ji5)) false _ A8.out).mono ?_); rintro e w' ⟨rfl, ⟨nd, rfl⟩⟩; (try first | exact ⟨rfl, _, World.drewN_drewN _ _ _⟩ | exact ⟨rfl, _, Eq.trans (World.drewN_drewN _ _ _) (congrArg (World.drewN _) (Nat.add_assoc _ _ _))⟩))))
         go_roundg k1
         case measure => have := HK1.out; omega
         case rel => exact ⟨(ji5), (by first | rfl | (simp; done) | (simp only [← hji5] <;> (first | rfl | simp)) | (simp [*]; done)), H', ⟨by have := HK1.out; omega⟩, by repeat (first | exact Drawn0.refl _ | apply Drawn0.step)⟩
       ·rw [if_neg c7] at H; exact absurd H (by simp)
      ·rw [if_neg c6] at H; exact absurd H (by simp)
     ·rw [if_neg c4] at H; exact absurd H (by simp)
    ·rw [if_neg c3] at H; exact absurd H (by simp)
   ·rw [if_neg c2] at H; have c2b0 : decide (0 < x3_1) = false := decide_eq_false c2; clear c2; obtain rfl := Option.some.inj H; go_wp2
    repeat (go_quiet (fail); try go_wp2)
    go_ret
    exact ⟨by first | rfl | (simp; done) | (simp [*]; done), by repeat (first | exact Drawn0.refl _ | apply Drawn0.step)⟩

end Go.Proofs.Ytlfjjapndlkamaa.GH
