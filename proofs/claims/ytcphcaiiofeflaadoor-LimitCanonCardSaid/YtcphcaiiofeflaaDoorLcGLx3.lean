-- Printed by a program of the session (wip/gen/tprint.py, over a turned copy of the kit's print): Lean checks it.
import Derived.Test.YtcphcaiiofeflaaDoorLcGLx0
import Derived.Test.YtcphcaiiofeflaaDoorLcGLx2
namespace Go.Proofs.YtcphcaiiofeflaaDoor.GL
open Go.RowKit Go.Proofs.YtcphcaiiofeflaaDoorW.PrintWords Go.Proofs.YtcphcaiiofeflaaDoorW.PrintLast Go.Proofs.YtcphcaiiofeflaaDoorW.PrintMore
attribute [local go_sem] max2_int min2_int max_two min_two max_three min_three max_four min_four   -- for this text's walks alone
set_option linter.unusedVariables false
set_option linter.unusedSimpArgs false

/-! ### field_Check: function 45 -/
section
open Go.Lib
/-- Is a text not UTF-8? -/
def badT (s : ByteArray) : Bool := decide (0 ≤ U.first s (s.size + 1) 0)
def TabsOn (w : World) : Prop := ∀ w', Below w.heap.size w w' → Utf8Tabs 0 1 w'
theorem TabsOn.below {w w1 : World} (h : TabsOn w) (hb : Below w.heap.size w w1) : TabsOn w1 := fun w' h2 => h w' (below_step hb h2)
set_option maxRecDepth 100000 in
theorem check1_calls (s : ByteArray) (w : World) (ht : TabsOn w) (hs : s.size ≤ 140737488351232) :
  Calls Tryd.prog 74 #[.string s] w fun e w' => e = .returned (.bool (badT s)) ∧ Below w.heap.size w w' := by
 have HT := Lib.hid ht; clear ht; go_enter Tryd.func74, Tryd.ntmps74
 go_wp2_with (fail)
 refine (U.First_calls s w HT.out hs).mono ?_
 rintro e w1 ⟨rfl, hb1⟩
 have HB := Lib.hid hb1; clear hb1; obtain ⟨z, hz⟩ : ∃ z, z = U.first s (s.size + 1) 0 := ⟨_, rfl⟩
 rw [← hz]; have HZ := Lib.hid hz; clear hz; go_wp2_with (fail)
 go_ret
 exact ⟨by show Ending.returned (.bool (decide (0 ≤ z))) = _; rw [badT, ← HZ.out], HB.out⟩
def idxT : List ByteArray → Int → Int
 | [], _ => -1
 | k :: l, i => if badT k = true then i else idxT l (i + 1)
theorem idxT_any : ∀ (l : List ByteArray) (i : Int), 0 ≤ i → (0 ≤ idxT l i ↔ l.any badT = true)
 | [], i, _ => by simp [idxT]
 | k :: l, i, hi => by
  rw [idxT, List.any_cons]; by_cases hb : badT k = true
  ·rw [if_pos hb, hb]; simp [hi]
  ·rw [if_neg hb, idxT_any l (i + 1) (by omega)]
   simp [hb]
set_option maxHeartbeats 4000000 in
set_option maxRecDepth 100000 in
theorem idx_texts (A : Option Addr) (c : Nat) (l : List ByteArray) (w : World) (ht : TabsOn w) (hr : Kd.C Kd.string w A l.length l) (hl : l.length ≤ 8796093022208) (hs : ∀ s ∈ l, s.size ≤ 140737488351232) :
  Calls Tryd.prog 90 #[.slice A l.length c, .func (.func 74) #[] #[]] w fun e w' => e = .returned (.int .i64 (idxT l 0)) ∧ Below w.heap.size w w' := by
 have HT := Lib.hid ht; have HR := Lib.hid hr; have HS := Lib.hid hs; clear ht hr hs; go_enter Tryd.func90, Tryd.ntmps90
 go_wp2_with (fail)
 go_loopg [8] l.length (fun kq v8 wr => ∃ i : Int, v8 = .int .i64 i ∧ 0 ≤ i ∧ i + kq = l.length ∧ Aside0 (idxT (l.drop i.toNat) i = idxT l 0) ∧ Aside0 (Below w.heap.size w wr))
 case atStart => exact ⟨0, rfl, by omega, by omega, ⟨rfl⟩, ⟨Below.refl _ _⟩⟩
 case round =>
  obtain ⟨i, rfl, hi0, hik, hidx, hbel⟩ := hrel; by_cases hlt : i < (l.length : Int)
  ·have t0 : decide (i < (l.length : Int)) = true := decide_eq_true hlt; obtain ⟨ad, cs, e, _, hK, hcell⟩ := Kd.C_get (Kd.C_below HR.out hbel.out) ByteArray.empty i hi0 hlt; cases e
   obtain ⟨s, hsd⟩ : ∃ s, s = l.getD i.toNat ByteArray.empty := ⟨_, rfl⟩; rw [← hsd] at hK; have hx : wr.cell? (ad.add i.toNat) = some (.string s) := by
    have h : cs = [.string s] := hK; subst h; have h2 := hcell 0 (.string s) rfl; rwa [Nat.add_zero, show Kd.string.sz = 1 from rfl, Nat.mul_one] at h2
   have hsm : s ∈ l := by rw [hsd, List.getD_eq_getElem?_getD, List.getElem?_eq_getElem (by omega)]; exact List.getElem_mem _
   have hd : l.drop i.toNat = s :: l.drop (i.toNat + 1) := by
    rw [List.drop_eq_getElem_cons (by omega), hsd, List.getD_eq_getElem?_getD, List.getElem?_eq_getElem (by omega)]
    rfl
   have hi2 := hidx.out; rw [hd, idxT] at hi2; have HI := Lib.hid hi2; have HM := Lib.hid hsm; clear hi2 hd hcell hK hsd hsm; obtain ⟨gk, rfl⟩ : ∃ g, gk = g + 1 := ⟨gk - 1, by omega⟩
   go_wp2_with (fail)
   refine (check1_calls s wr (HT.out.below hbel.out) (HS.out s HM.out)).mono ?_
   rintro e w1 ⟨rfl, hb1⟩
   have HB1 := Lib.hid (below_step hbel.out hb1); clear hb1 hx; cases hbk : badT s with
   | true =>
    have HK := Lib.hid hbk; clear hbk; go_wp2_with (fail)
    go_ret
    exact ⟨by show Ending.returned (.int .i64 i) = _; rw [← HI.out, if_pos HK.out], HB1.out⟩
   | false =>
    have HK := Lib.hid hbk; clear hbk; go_wp2_with (fail)
    go_roundg gk
    case measure => omega
    case rel => exact ⟨i + 1, rfl, by omega, by omega, ⟨by rw [show (i + 1).toNat = i.toNat + 1 by omega, ← HI.out, if_neg (by rw [HK.out]; simp)]⟩, ⟨HB1.out⟩⟩
  ·have t0 : decide (i < (l.length : Int)) = false := decide_eq_false hlt; go_wp2_with (fail)
   go_ret
   exact ⟨by rw [← hidx.out, List.drop_of_length_le (by omega)]; rfl, hbel.out⟩
set_option maxRecDepth 100000 in
theorem contains_texts (A : Option Addr) (c : Nat) (l : List ByteArray) (w : World) (ht : TabsOn w) (hr : Kd.C Kd.string w A l.length l) (hl : l.length ≤ 8796093022208) (hs : ∀ s ∈ l, s.size ≤ 140737488351232) :
  Calls Tryd.prog 73 #[.slice A l.length c, .func (.func 74) #[] #[]] w fun e w' => e = .returned (.bool (l.any badT)) ∧ Below w.heap.size w w' := by
 have HT := Lib.hid ht; have HR := Lib.hid hr; have HS := Lib.hid hs; clear ht hr hs; go_enter Tryd.func73, Tryd.ntmps73
 go_wp2_with (fail)
 refine (idx_texts A c l w HT.out HR.out hl HS.out).mono ?_
 rintro e w1 ⟨rfl, hb1⟩
 have HB := Lib.hid hb1; have he : decide (0 ≤ idxT l 0) = l.any badT := by
  rw [Bool.eq_iff_iff, decide_eq_true_eq]; exact idxT_any l 0 (by omega)
 have HE := Lib.hid he; clear hb1 he; obtain ⟨z, hz⟩ : ∃ z, z = idxT l 0 := ⟨_, rfl⟩; rw [← hz]; have HZ := Lib.hid hz; clear hz; go_wp2_with (fail)
 go_ret
 exact ⟨by show Ending.returned (.bool (decide (0 ≤ z))) = _; rw [← HE.out, ← HZ.out], HB.out⟩
/-- What field.Check tells. -/
def checkV (l0_1 : List Int) (l0_2 : List ByteArray) (l0_3 : List Int) (l1_0 : List Int) (a1_1 a1_2 a1_3 : Int) (b : Bool) : Int :=
 if b = false then 10 else if (l0_2.length : Int) ≠ a1_1 ∨ l0_2.any badT = true then 11 else if (l0_3.length : Int) < a1_2 ∨ (0 ≤ a1_3 ∧ a1_3 < (l0_3.length : Int)) then 12 else 0
set_option maxHeartbeats 8000000 in
set_option maxRecDepth 100000 in
theorem fcheck_calls (k : Nat) (a0_0 : Int) (A1 : Option Addr) (c1 : Nat) (l1 : List Int) (A2 : Option Addr) (c2 : Nat) (l2 : List ByteArray) (A3 : Option Addr) (c3 : Nat) (l3 : List Int) (B0 : Option Addr) (d0 : Nat) (m0 : List Int) (n1 n2 n3 : Int) (b : Bool) (w : World) (ht : TabsOn w)
  (h1 : Kd.C (Kd.int .i64) w A1 l1.length l1) (g1 : l1.length ≤ c1) (h2 : Kd.C Kd.string w A2 l2.length l2) (h3 : Kd.C (Kd.int .i64) w A3 l3.length l3) (hm : Kd.C (Kd.int .i64) w B0 m0.length m0) (gm : m0.length ≤ d0) (hn : field_numbers.f k l1 m0 = some b) (hl : l2.length ≤ 8796093022208) (hs : ∀ s ∈ l2, s.size ≤ 140737488351232) :
  Calls Tryd.prog 45 #[.agg #[.int .i64 a0_0, .slice A1 l1.length c1, .slice A2 l2.length c2, .slice A3 l3.length c3], .agg #[.slice B0 m0.length d0, .int .i64 n1, .int .i64 n2, .int .i64 n3]] w fun e w' => e = .returned (.int .i64 (checkV l1 l2 l3 m0 n1 n2 n3 b)) ∧ Below w.heap.size w w' := by
 have HT := Lib.hid ht; have H1 := Lib.hid h1; have H2 := Lib.hid h2; have H3 := Lib.hid h3; have HM := Lib.hid hm; have HN := Lib.hid hn; have HS := Lib.hid hs; clear ht h1 h2 h3 hm hn hs; go_enter Tryd.func45, Tryd.ntmps45
 go_upto_region 1 with (fail)
 have hA := blk_alloc (heap_alloc_new w (.cells #[.int .i64 a0_0, .slice A1 l1.length c1, .slice A2 l2.length c2, .slice A3 l3.length c3] 53)) (.cells #[.slice B0 m0.length d0, .int .i64 n1, .int .i64 n2, .int .i64 n3] 57); have hS := heap_alloc_new (w.alloc (.cells #[.int .i64 a0_0, .slice A1 l1.length c1, .slice A2 l2.length c2, .slice A3 l3.length c3] 53)) (.cells #[.slice B0 m0.length d0, .int .i64 n1, .int .i64 n2, .int .i64 n3] 57); rw [show (w.alloc (.cells #[.int .i64 a0_0, .slice A1 l1.length c1, .slice A2 l2.length c2, .slice A3 l3.length c3] 53)).heap.size = w.heap.size + 1 by simp] at hS
 have hB : Below w.heap.size w ((w.alloc (.cells #[.int .i64 a0_0, .slice A1 l1.length c1, .slice A2 l2.length c2, .slice A3 l3.length c3] 53)).alloc (.cells #[.slice B0 m0.length d0, .int .i64 n1, .int .i64 n2, .int .i64 n3] 57)) := ((Below.refl _ w).alloc (Nat.le_refl _) _).alloc (by simp) _
 generalize ((w.alloc (.cells #[.int .i64 a0_0, .slice A1 l1.length c1, .slice A2 l2.length c2, .slice A3 l3.length c3] 53)).alloc (.cells #[.slice B0 m0.length d0, .int .i64 n1, .int .i64 n2, .int .i64 n3] 57)) = w1 at hA hS hB ⊢
 have HA := Lib.hid hA; have HSp := Lib.hid hS; have HB := Lib.hid hB; have p1 : w1.cell? ⟨w.heap.size, 1, none⟩ = some (.slice A1 l1.length c1) := (blk_cell hA 1).trans rfl; have p2 : w1.cell? ⟨w.heap.size + 1, 0, none⟩ = some (.slice B0 m0.length d0) := (blk_cell hS 0).trans rfl; clear hA hS hB; go_wp2_with (fail)
 refine (field_numbers.calls k A1 c1 l1 B0 d0 m0 b w1 (Kd.C_below H1.out HB.out) g1 (Kd.C_below HM.out HB.out) gm HN.out).mono ?_
 rintro e w2 ⟨rfl, hd2⟩
 have hb2 : Below w1.heap.size w1 w2 := hd2.below; have HA2 := Lib.hid ((hb2.block _ (blk_lt HA.out)).trans HA.out); have HS2 := Lib.hid ((hb2.block _ (blk_lt HSp.out)).trans HSp.out); have HB2 := Lib.hid (below_step HB.out hb2); clear hb2 hd2 p1 p2; have q2 : w2.cell? ⟨w.heap.size, 2, none⟩ = some (.slice A2 l2.length c2) := (blk_cell HA2.out 2).trans rfl; have q3 : w2.cell? ⟨w.heap.size, 3, none⟩ = some (.slice A3 l3.length c3) := (blk_cell HA2.out 3).trans rfl; have s1 : w2.cell? ⟨w.heap.size + 1, 1, none⟩ = some (.int .i64 n1) := (blk_cell HS2.out 1).trans rfl; have s2 : w2.cell? ⟨w.heap.size + 1, 2, none⟩ = some (.int .i64 n2) := (blk_cell HS2.out 2).trans rfl; have s3 : w2.cell? ⟨w.heap.size + 1, 3, none⟩ = some (.int .i64 n3) := (blk_cell HS2.out 3).trans rfl; cases b with
 | false =>
  go_wp2_with (fail)
  go_ret
  exact ⟨by show Ending.returned (.int .i64 10) = _; unfold checkV; rw [if_pos rfl], HB2.out⟩
 | true =>
  by_cases hne : (l2.length : Int) = n1
  ·have u1 : decide ((l2.length : Int) = n1) = true := decide_eq_true hne; have u1b : ((l2.length : Int) == n1) = true := by simpa using hne
   have HNE := Lib.hid hne; clear hne; go_wp2_with (fail)
   refine (contains_texts A2 c2 l2 w2 (HT.out.below HB2.out) (Kd.C_below H2.out HB2.out) hl HS.out).mono ?_
   rintro e w3 ⟨rfl, hb3⟩
   have HA3 := Lib.hid ((hb3.block _ (blk_lt HA2.out)).trans HA2.out); have HS3 := Lib.hid ((hb3.block _ (blk_lt HS2.out)).trans HS2.out); have HB3 := Lib.hid (below_step HB2.out hb3); clear hb3 q2 q3 s1 s2 s3; have q3 : w3.cell? ⟨w.heap.size, 3, none⟩ = some (.slice A3 l3.length c3) := (blk_cell HA3.out 3).trans rfl; have s2 : w3.cell? ⟨w.heap.size + 1, 2, none⟩ = some (.int .i64 n2) := (blk_cell HS3.out 2).trans rfl; have s3 : w3.cell? ⟨w.heap.size + 1, 3, none⟩ = some (.int .i64 n3) := (blk_cell HS3.out 3).trans rfl; cases hbt : l2.any badT with
   | true =>
    have HBT := Lib.hid hbt; clear hbt; go_wp2_with (fail)
    go_ret
    exact ⟨by show Ending.returned (.int .i64 11) = _; unfold checkV; rw [if_neg (by simp), if_pos (.inr HBT.out)], HB3.out⟩
   | false =>
    have HBT := Lib.hid hbt; clear hbt; have hno : ¬ ((l2.length : Int) ≠ n1 ∨ l2.any badT = true) := fun h => h.elim (fun h => h HNE.out) (fun h => by rw [HBT.out] at h; cases h)
    have HNO := Lib.hid hno; clear hno; by_cases x1 : (l3.length : Int) < n2
    ·have v1 : decide ((l3.length : Int) < n2) = true := decide_eq_true x1; have X1 := Lib.hid x1; clear x1; go_wp2_with (fail)
     go_ret
     exact ⟨by show Ending.returned (.int .i64 12) = _; unfold checkV; rw [if_neg (by simp), if_neg HNO.out, if_pos (.inl X1.out)], HB3.out⟩
    ·have v1 : decide ((l3.length : Int) < n2) = false := decide_eq_false x1; have X1 := Lib.hid x1; clear x1; by_cases x2 : 0 ≤ n3
     ·have v2 : decide (0 ≤ n3) = true := decide_eq_true x2; have X2 := Lib.hid x2; clear x2; by_cases x3 : n3 < (l3.length : Int)
      ·have v3 : decide (n3 < (l3.length : Int)) = true := decide_eq_true x3; have X3 := Lib.hid x3; clear x3; go_wp2_with (fail)
       go_ret
       exact ⟨by show Ending.returned (.int .i64 12) = _; unfold checkV; rw [if_neg (by simp), if_neg HNO.out, if_pos (.inr ⟨X2.out, X3.out⟩)], HB3.out⟩
      ·have v3 : decide (n3 < (l3.length : Int)) = false := decide_eq_false x3; have X3 := Lib.hid x3; clear x3; go_wp2_with (fail)
       go_ret
       exact ⟨by show Ending.returned (.int .i64 0) = _; unfold checkV; rw [if_neg (by simp), if_neg HNO.out, if_neg (fun h => by have h1 := X1.out; have h3 := X3.out; omega)], HB3.out⟩
     ·have v2 : decide (0 ≤ n3) = false := decide_eq_false x2; have X2 := Lib.hid x2; clear x2; go_wp2_with (fail)
      go_ret
      exact ⟨by show Ending.returned (.int .i64 0) = _; unfold checkV; rw [if_neg (by simp), if_neg HNO.out, if_neg (fun h => by have h1 := X1.out; have h3 := X2.out; omega)], HB3.out⟩
  ·have u1 : decide ((l2.length : Int) = n1) = false := decide_eq_false hne; have u1b : ((l2.length : Int) == n1) = false := by simpa using hne
   have HNE := Lib.hid hne; clear hne; go_wp2_with (fail)
   go_ret
   exact ⟨by show Ending.returned (.int .i64 11) = _; unfold checkV; rw [if_neg (by simp), if_pos (.inl HNE.out)], HB2.out⟩
end
def field_Check.f (k : Nat) (a0_0 : Int) (l0_1 : List Int) (l0_2 : List ByteArray) (l0_3 : List Int) (l1_0 : List Int) (a1_1 a1_2 a1_3 : Int) : Option Int := (field_numbers.f k l0_1 l1_0).bind fun b => if l0_2.length ≤ 8796093022208 ∧ (l0_2.all fun s => decide (s.size ≤ 70368744177664)) = true then some (checkV l0_1 l0_2 l0_3 l1_0 a1_1 a1_2 a1_3 b) else none
theorem field_Check.mono : ∀ a0 a1 a2 a3 a4 a5 a6 a7 k, LeO (field_Check.f k a0 a1 a2 a3 a4 a5 a6 a7) (field_Check.f (k + 1) a0 a1 a2 a3 a4 a5 a6 a7) := by
 intro a0 a1 a2 a3 a4 a5 a6 a7 k
 unfold field_Check.f
 exact LeO.bind (field_numbers.mono _ _ _) (fun _ => LeO.refl _)
theorem field_Check.calls (k : Nat) (a0_0 : Int) (A0_1 : Option Addr) (c0_1 : Nat) (l0_1 : List Int) (A0_2 : Option Addr) (c0_2 : Nat) (l0_2 : List ByteArray) (A0_3 : Option Addr) (c0_3 : Nat) (l0_3 : List Int) (A1_0 : Option Addr) (c1_0 : Nat) (l1_0 : List Int) (a1_1 : Int) (a1_2 : Int) (a1_3 : Int) (r : Int) (w : World) (ht_ : ∀ w', Below w.heap.size w w' → Go.Lib.Utf8Tabs 0 1 w') (hr0_1 : Kd.C (Kd.int .i64) w A0_1 l0_1.length l0_1) (hc0_1 : l0_1.length ≤ c0_1) (hr0_2 : Kd.C Kd.string w A0_2 l0_2.length l0_2) (hc0_2 : l0_2.length ≤ c0_2) (hr0_3 : Kd.C (Kd.int .i64) w A0_3 l0_3.length l0_3) (hc0_3 : l0_3.length ≤ c0_3) (hr1_0 : Kd.C (Kd.int .i64) w A1_0 l1_0.length l1_0) (hc1_0 : l1_0.length ≤ c1_0) (h : field_Check.f k a0_0 l0_1 l0_2 l0_3 l1_0 a1_1 a1_2 a1_3 = some r) :
  Calls Tryd.prog 45 #[.agg #[.int .i64 a0_0, .slice A0_1 l0_1.length c0_1, .slice A0_2 l0_2.length c0_2, .slice A0_3 l0_3.length c0_3], .agg #[.slice A1_0 l1_0.length c1_0, .int .i64 a1_1, .int .i64 a1_2, .int .i64 a1_3]] w fun e w' => e = .returned (.int .i64 r) ∧ Below w.heap.size w w' := by
 unfold field_Check.f at h
 obtain ⟨b, hn, h2⟩ := Option.bind_eq_some_iff.1 h; split at h2
 ·rename_i hq; obtain rfl := Option.some.inj h2; exact fcheck_calls k a0_0 A0_1 c0_1 l0_1 A0_2 c0_2 l0_2 A0_3 c0_3 l0_3 A1_0 c1_0 l1_0 a1_1 a1_2 a1_3 b w ht_ hr0_1 hc0_1 hr0_2 hr0_3 hr1_0 hc1_0 hn hq.1 (fun s hs => by have := List.all_eq_true.1 hq.2 s hs; simp at this; omega)
 ·cases h2

/-! ### limit_Typed: function 18 -/
def limit_Typed.l0 : Nat → List (S53) → Int → Int → Option (Int × Int)
 | 0, _, _, _ => none
 | k + 1, x10, x11, x12 => if x12 < x11 then (if 0 ≤ x12 then (if x12 < (x10.length : Int) then ((schema_New.f ((rd_T53 x10 x12).f0)).bind fun bt115 => (if bt115.2.2.2.2 = true then ((field_Check.f k ((rd_T53 x10 x12).f0) ((rd_T53 x10 x12).f1) ((rd_T53 x10 x12).f2) ((rd_T53 x10 x12).f3) bt115.1 bt115.2.1 bt115.2.2.1 bt115.2.2.2.1).bind fun t123 => (if t123 = 0 then (limit_Typed.l0 k x10 x11 (wrap64 (x12 + 1))) else (some (t123, x12)))) else (some (9, x12)))) else (none)) else (none)) else (some (0, 0))
def limit_Typed.f (k : Nat) (l0_0 : List (S53)) (a0_1 : Int) : Option (Int × Int) := limit_Typed.l0 k l0_0 (l0_0.length : Int) 0
theorem limit_Typed.mono_l : ∀ k, (∀ y0 y1 y2, LeO (limit_Typed.l0 k y0 y1 y2) (limit_Typed.l0 (k + 1) y0 y1 y2))
 | 0 => fun _ _ _ r h => by simp [limit_Typed.l0] at h
 | k + 1 => by
  have ih0 := limit_Typed.mono_l k
  ·intro y0 y1 y2
   unfold limit_Typed.l0
   repeat' first
   | (with_reducible exact ih0 _ _ _)
   | (with_reducible exact field_Check.mono _ _ _ _ _ _ _ _ _)
   | (with_reducible exact LeO.refl _)
   | (with_reducible exact LeO.none _)
   | (with_reducible refine LeO.ite ?_ ?_)
   | (with_reducible refine LeO.bind ?_ (fun _ => ?_))
   | exact ih0 _ _ _
   | exact field_Check.mono _ _ _ _ _ _ _ _ _
   | exact LeO.none _
   | refine LeO.ite ?_ ?_
   | refine LeO.bind ?_ (fun _ => ?_)
theorem limit_Typed.mono : ∀ a0 a1 k, LeO (limit_Typed.f k a0 a1) (limit_Typed.f (k + 1) a0 a1) := by
 intro a0 a1 k
 have ih0 := limit_Typed.mono_l k; unfold limit_Typed.f
 repeat' first
   | (with_reducible exact ih0 _ _ _)
   | (with_reducible exact field_Check.mono _ _ _ _ _ _ _ _ _)
   | (with_reducible exact LeO.refl _)
   | (with_reducible exact LeO.none _)
   | (with_reducible refine LeO.ite ?_ ?_)
   | (with_reducible refine LeO.bind ?_ (fun _ => ?_))
   | exact ih0 _ _ _
   | exact field_Check.mono _ _ _ _ _ _ _ _ _
   | exact LeO.none _
   | refine LeO.ite ?_ ?_
   | refine LeO.bind ?_ (fun _ => ?_)
set_option maxHeartbeats 8000000 in
set_option maxRecDepth 100000 in
theorem limit_Typed.calls (k : Nat) (A0_0 : Option Addr) (c0_0 : Nat) (l0_0 : List (S53)) (a0_1 : Int) (r1 : Int) (r2 : Int) (w : World) (ht_ : ∀ w', Below w.heap.size w w' → Go.Lib.Utf8Tabs 0 1 w') (hr0_0 : Kd.C k53 w A0_0 l0_0.length l0_0) (hc0_0 : l0_0.length ≤ c0_0) (h : limit_Typed.f k l0_0 a0_1 = some (r1, r2)) :
  Calls Tryd.prog 18 #[.agg #[.slice A0_0 l0_0.length c0_0, .int .i64 a0_1]] w fun e w' => e = .returned (.tuple #[.int .i64 r1, .int .i64 r2]) ∧ Below w.heap.size w w' := by
 have HTB_ := AM ht_; clear ht_; have hu24 := Tryd.underlying24; have hu53 := Tryd.underlying53; have hu57 := Tryd.underlying57; have HR0_0 := AM hr0_0; have HC0_0 := AM hc0_0; clear hr0_0 hc0_0; have HB := AM (Below.refl w.heap.size w); have H : (limit_Typed.l0 k l0_0 (l0_0.length : Int) 0) = some (r1, r2) := h; clear h; have H' := AM H; clear H; go_enter Tryd.func18, Tryd.ntmps18
 go_wp2_with (first | ((with_reducible refine gate_dst (N := 1) rfl ?_); refine box_event ?hg (N := 1) ?hd (cs := #[.slice A0_0 l0_0.length c0_0, .int .i64 a0_1]) (t := 24) ?hr ?_; (case hd => rfl); (case hg => rfl); (case hr => first | (go_simp; done) | (go_simp; rfl)); intro gb112 hg w2 hbox hb; have BK112 := AM (hbox); have GW112 := GW HB hg; have GE112 := GW HB hg; replace HB := BS HB hb; clear hb hbox hg; have hcz3_0 := BC BK112 0 (.slice A0_0 l0_0.length c0_0) rfl; have hcz3_1 := BC BK112 1 (.int .i64 a0_1) rfl; have hfz3_0 := BF BK112 0; have hfz3_1 := BF BK112 1))
 go_loopg [12] k (fun kq v12 w' => ∃ (x12_1 : Int), v12 = .int .i64 x12_1 ∧ Aside0 (limit_Typed.l0 kq l0_0 (l0_0.length : Int) x12_1 = some (r1, r2)) ∧ Aside0 (kq ≤ k) ∧ Aside0 (w'.heap[gb112]? = some (.cells #[(.slice A0_0 l0_0.length c0_0), .int .i64 a0_1] 24 (0, 0))) ∧ Aside0 (Below w.heap.size w w'))
 case atStart => exact ⟨(0), (by first | rfl | (simp; done) | (simp [*]; done)), H', ⟨Nat.le_refl _⟩, ⟨BL BK112⟩, ⟨BB HB⟩⟩
 case round =>
  clear H'; try clear c1
  try clear p2
  try clear hcz3_0
  try clear hcz3_1
  try clear hfz3_0
  try clear hfz3_1
  obtain ⟨x12_1, rfl, HA, HK1, BK112, HB⟩ := hrel; cases gk with
  | zero => exact absurd HA.out (by simp [limit_Typed.l0])
  | succ k1 =>
   have H := HA.out; clear HA; simp only [limit_Typed.l0] at H
   by_cases c4 : x12_1 < (l0_0.length : Int)
   ·rw [if_pos c4] at H; have c4b0 : decide (x12_1 < (l0_0.length : Int)) = true := decide_eq_true c4; clear c4; by_cases c5 : 0 ≤ x12_1
    ·rw [if_pos c5] at H; have c5b0 : decide (0 ≤ x12_1) = true := decide_eq_true c5; clear c5; by_cases c6 : x12_1 < (l0_0.length : Int)
     ·rw [if_pos c6] at H; have c6b0 : decide (x12_1 < (l0_0.length : Int)) = true := decide_eq_true c6; clear c6; replace H := Option.bind_eq_some_iff.mp H; obtain ⟨⟨t115, t118, t119, t120, t121⟩, A70, H⟩ := H; replace H : (if t121 = true then ((field_Check.f k1 ((rd_T53 l0_0 x12_1).f0) ((rd_T53 l0_0 x12_1).f1) ((rd_T53 l0_0 x12_1).f2) ((rd_T53 l0_0 x12_1).f3) t115 t118 t119 t120).bind fun t123 => (if t123 = 0 then (limit_Typed.l0 k1 l0_0 (l0_0.length : Int) (wrap64 (x12_1 + 1))) else (some (t123, x12_1)))) else (some (9, x12_1))) = some (r1, r2) := H
      have A7 := AM A70; clear A70; by_cases c8 : t121 = true
      ·subst c8; have H1 : ((field_Check.f k1 ((rd_T53 l0_0 x12_1).f0) ((rd_T53 l0_0 x12_1).f1) ((rd_T53 l0_0 x12_1).f2) ((rd_T53 l0_0 x12_1).f3) t115 t118 t119 t120).bind fun t123 => (if t123 = 0 then (limit_Typed.l0 k1 l0_0 (l0_0.length : Int) (wrap64 (x12_1 + 1))) else (some (t123, x12_1)))) = some (r1, r2) := by rw [if_pos rfl] at H; exact H
       clear H; have H := H1; clear H1; replace H := Option.bind_eq_some_iff.mp H; obtain ⟨t123, A90, H⟩ := H; replace H : (if t123 = 0 then (limit_Typed.l0 k1 l0_0 (l0_0.length : Int) (wrap64 (x12_1 + 1))) else (some (t123, x12_1))) = some (r1, r2) := H; have A9 := AM A90; clear A90; by_cases c10 : t123 = 0
       ·rw [if_pos c10] at H; have c10b0 : (t123 == 0) = true := beq_iff_eq.mpr c10; have c10b1 : (t123 != 0) = false := bne_eq_false_iff_eq.mpr c10; clear c10; have H' := AM H; clear H; have p113 : 0 ≤ (x12_1 : Int) := of_decide_eq_true (by first | (with_reducible assumption) | assumption)
        have q113 : x12_1 < (l0_0.length : Int) := of_decide_eq_true (by first | (with_reducible assumption) | assumption)
        obtain ⟨ad113, A113_1, c113_1, A113_2, c113_2, A113_3, c113_3, e113, hx113_0, hx113_1, hx113_2, hx113_3, hl113_1, hi113_1, hl113_2, hi113_2, hl113_3, hi113_3⟩ := at_T53 HR0_0.out x12_1 p113 q113; cases e113
        replace hx113_0 := (HB.out.cell (World.block_lt_of_cell? w _ hx113_0)).trans hx113_0; replace hx113_1 := (HB.out.cell (World.block_lt_of_cell? w _ hx113_1)).trans hx113_1; replace hx113_2 := (HB.out.cell (World.block_lt_of_cell? w _ hx113_2)).trans hx113_2; replace hx113_3 := (HB.out.cell (World.block_lt_of_cell? w _ hx113_3)).trans hx113_3; have HR113_1 := AM hi113_1; have HC113_1 := AM hl113_1; clear hi113_1 hl113_1; have HR113_2 := AM hi113_2; have HC113_2 := AM hl113_2; clear hi113_2 hl113_2; have HR113_3 := AM hi113_3; have HC113_3 := AM hl113_3; clear hi113_3 hl113_3; replace p113 := eq_true p113; replace q113 := eq_true q113; go_wp2_with (first | ((with_reducible refine gate_dst (N := 5) rfl ?_); refine box_event ?hg (N := 5) ?hd (cs := #[.int .i64 0, .slice none 0 0, .slice none 0 0, .slice none 0 0]) (t := 53) ?hr ?_; (case hd => rfl); (case hg => rfl); (case hr => first | (go_simp; done) | (go_simp; rfl)); intro gb114 hg w11 hbox hb; have BK114 := AM (hbox); have GW114 := GW HB hg; have GE114 := GW HB hg; replace HB := BS HB hb; have NB112_114 := NL BK112 hg; have NB114_112 := NG BK112 hg; replace BK112 := BE BK112 hb; clear hb hbox hg; have hnb12 := NB114_112.out; have hnc12 := NB112_114.out; have hcz13_0 := BC BK114 0 (.int .i64 0) rfl; have hcz13_1 := BC BK114 1 (.slice none 0 0) rfl; have hcz13_2 := BC BK114 2 (.slice none 0 0) rfl; have hcz13_3 := BC BK114 3 (.slice none 0 0) rfl; have hfz13_0 := BF BK114 0; have hfz13_1 := BF BK114 1; have hfz13_2 := BF BK114 2; have hfz13_3 := BF BK114 3) | ((with_reducible refine gate_callee (f := 44) rfl ?_); refine goesM_ (some 20) rfl rfl Tryd.func44 #[.int .i64 ((rd_T53 l0_0 x12_1).f0)] rfl ?_; (with_reducible refine (schema_New.calls ((rd_T53 l0_0 x12_1).f0) t115 t118 t119 t120 true _ A7.out).mono ?_); rintro e w14 ⟨v116, rfl, ho0, hb⟩; refine ⟨_, rfl, ?_⟩; have HO117 := AM (Kd.R_lower ho0 (below_size (BB HB))); replace BK112 := AM (blk_below (g := gb112) (o := .cells #[.slice (some ad113) l0_0.length c0_0, .int .i64 a0_1] 24 (0, 0)) (by (repeat refine blk_far ?_ NB112_114.out _); (with_reducible repeat (first | refine blk_drewN ?_ _ | refine blk_drew ?_ | refine blk_alloc ?_ _)); exact BK112.out) hb); replace BK114 := AM (blk_below (g := gb114) (o := .cells #[.int .i64 ((rd_T53 l0_0 x12_1).f0), .slice A113_1 ((rd_T53 l0_0 x12_1).f1).length c113_1, .slice A113_2 ((rd_T53 l0_0 x12_1).f2).length c113_2, .slice A113_3 ((rd_T53 l0_0 x12_1).f3).length c113_3] 53 (0, 0)) (by refine blk_put (cs := #[.int .i64 ((rd_T53 l0_0 x12_1).f0), .slice A113_1 ((rd_T53 l0_0 x12_1).f1).length c113_1, .slice A113_2 ((rd_T53 l0_0 x12_1).f2).length c113_2, .slice none 0 0]) ?_ 3 _ rfl; refine blk_put (cs := #[.int .i64 ((rd_T53 l0_0 x12_1).f0), .slice A113_1 ((rd_T53 l0_0 x12_1).f1).length c113_1, .slice none 0 0, .slice none 0 0]) ?_ 2 _ rfl; refine blk_put (cs := #[.int .i64 ((rd_T53 l0_0 x12_1).f0), .slice none 0 0, .slice none 0 0, .slice none 0 0]) ?_ 1 _ rfl; refine blk_put (cs := #[.int .i64 0, .slice none 0 0, .slice none 0 0, .slice none 0 0]) ?_ 0 _ rfl; (with_reducible repeat (first | refine blk_drewN ?_ _ | refine blk_drew ?_ | refine blk_alloc ?_ _)); exact BK114.out) hb); replace HB := BS HB hb; (try clear hb); (try clear hb2); (try clear hk); (try clear hi); (try clear ho0)) | ((with_reducible refine gate_dst (N := 6) rfl ?_); refine box_event ?hg (N := 6) ?hd (cs := #[.slice none 0 0, .int .i64 0, .int .i64 0, .int .i64 0]) (t := 57) ?hr ?_; (case hd => rfl); (case hg => rfl); (case hr => first | (go_simp; done) | (go_simp; rfl)); intro gb122 hg w15 hbox hb; replace HO117 := AM (Kd.R_below (RL HO117) hb); have BK122 := AM (hbox); have GW122 := GW HB hg; have GE122 := GW HB hg; replace HB := BS HB hb; have NB112_122 := NL BK112 hg; have NB122_112 := NG BK112 hg; replace BK112 := BE BK112 hb; have NB114_122 := NL BK114 hg; have NB122_114 := NG BK114 hg; replace BK114 := BE BK114 hb; clear hb hbox hg; obtain ⟨Ao16, co16, eo16⟩ := Kd.R_slice HO117.out; subst eo16; have hnb17 := NB122_112.out; have hnc17 := NB112_122.out; have hnb18 := NB122_114.out; have hnc18 := NB114_122.out; have hcz19_0 := BC BK122 0 (.slice none 0 0) rfl; have hcz19_1 := BC BK122 1 (.int .i64 0) rfl; have hcz19_2 := BC BK122 2 (.int .i64 0) rfl; have hcz19_3 := BC BK122 3 (.int .i64 0) rfl; have hfz19_0 := BF BK122 0; have hfz19_1 := BF BK122 1; have hfz19_2 := BF BK122 2; have hfz19_3 := BF BK122 3; have hcz20_0 := BC BK114 0 (.int .i64 ((rd_T53 l0_0 x12_1).f0)) rfl; have hcz20_1 := BC BK114 1 (.slice A113_1 ((rd_T53 l0_0 x12_1).f1).length c113_1) rfl; have hcz20_2 := BC BK114 2 (.slice A113_2 ((rd_T53 l0_0 x12_1).f2).length c113_2) rfl; have hcz20_3 := BC BK114 3 (.slice A113_3 ((rd_T53 l0_0 x12_1).f3).length c113_3) rfl; have hfz20_0 := BF BK114 0; have hfz20_1 := BF BK114 1; have hfz20_2 := BF BK114 2; have hfz20_3 := BF BK114 3) | ((with_reducible refine gate_callee (f := 45) rfl ?_); refine goesM_ (some 28) rfl rfl Tryd.func45 #[.agg #[.int .i64 ((rd_T53 l0_0 x12_1).f0), .slice A113_1 ((rd_T53 l0_0 x12_1).f1).length c113_1, .slice A113_2 ((rd_T53 l0_0 x12_1).f2).length c113_2, .slice A113_3 ((rd_T53 l0_0 x12_1).f3).length c113_3], .agg #[.slice Ao16 t115.length co16, .int .i64 t118, .int .i64 t119, .int .i64 t120]] rfl ?_; (with_reducible refine (field_Check.calls k1 ((rd_T53 l0_0 x12_1).f0) _ _ ((rd_T53 l0_0 x12_1).f1) _ _ ((rd_T53 l0_0 x12_1).f2) _ _ ((rd_T53 l0_0 x12_1).f3) _ _ t115 t118 t119 t120 t123 _ ?sideT ?side1 ?side2 ?side3 ?side4 ?side5 ?side6 ?side7 ?side8 A9.out).mono ?_); (case sideT => exact fun w_ hb_ => HTB_.out w_ (below_step (BB HB) hb_)); (case side1 => exact Kd.C_below HR113_1.out (BB HB)); (case side2 => exact HC113_1.out); (case side3 => exact Kd.C_below HR113_2.out (BB HB)); (case side4 => exact HC113_2.out); (case side5 => exact Kd.C_below HR113_3.out (BB HB)); (case side6 => exact HC113_3.out); (case side7 => refine (Kd.R_reads' (e := 3) (base := w.heap.size) (ok := fun k_ => True) (n := t115.length) (c := co16) ?_).2.2; exact (by exact (Kd.R_mono (Kd.R_far (p := ⟨gb122, 3, none⟩) (Kd.R_far (p := ⟨gb122, 2, none⟩) (Kd.R_far (p := ⟨gb122, 1, none⟩) (Kd.R_far (p := ⟨gb122, 0, none⟩) (Kd.R_types HO117.out BK122.out (by decide)) (fun _ hk => hk.2) (.slice Ao16 t115.length co16)) (fun _ hk => hk.2) (.int .i64 t118)) (fun _ hk => hk.2) (.int .i64 t119)) (fun _ hk => hk.2) (.int .i64 t120)) (fun _ h_ => h_.1)))); (case side8 => exact (Kd.R_reads' HO117.out).2.1); rintro e w21 ⟨rfl, hb⟩; refine ⟨_, rfl, ?_⟩; replace HO117 := AM (Kd.R_below (by exact (Kd.R_mono (Kd.R_far (p := ⟨gb122, 3, none⟩) (Kd.R_far (p := ⟨gb122, 2, none⟩) (Kd.R_far (p := ⟨gb122, 1, none⟩) (Kd.R_far (p := ⟨gb122, 0, none⟩) (Kd.R_types HO117.out BK122.out (by decide)) (fun _ hk => hk.2) (.slice Ao16 t115.length co16)) (fun _ hk => hk.2) (.int .i64 t118)) (fun _ hk => hk.2) (.int .i64 t119)) (fun _ hk => hk.2) (.int .i64 t120)) (fun _ h_ => h_.1))) hb); replace BK112 := AM (blk_below (g := gb112) (o := .cells #[.slice (some ad113) l0_0.length c0_0, .int .i64 a0_1] 24 (0, 0)) (by (repeat refine blk_far ?_ NB112_122.out _); (with_reducible repeat (first | refine blk_drewN ?_ _ | refine blk_drew ?_ | refine blk_alloc ?_ _)); exact BK112.out) hb); replace BK114 := AM (blk_below (g := gb114) (o := .cells #[.int .i64 ((rd_T53 l0_0 x12_1).f0), .slice A113_1 ((rd_T53 l0_0 x12_1).f1).length c113_1, .slice A113_2 ((rd_T53 l0_0 x12_1).f2).length c113_2, .slice A113_3 ((rd_T53 l0_0 x12_1).f3).length c113_3] 53 (0, 0)) (by (repeat refine blk_far ?_ NB114_122.out _); (with_reducible repeat (first | refine blk_drewN ?_ _ | refine blk_drew ?_ | refine blk_alloc ?_ _)); exact BK114.out) hb); replace BK122 := AM (blk_below (g := gb122) (o := .cells #[.slice Ao16 t115.length co16, .int .i64 t118, .int .i64 t119, .int .i64 t120] 57 (0, 0)) (by refine blk_put (cs := #[.slice Ao16 t115.length co16, .int .i64 t118, .int .i64 t119, .int .i64 0]) ?_ 3 _ rfl; refine blk_put (cs := #[.slice Ao16 t115.length co16, .int .i64 t118, .int .i64 0, .int .i64 0]) ?_ 2 _ rfl; refine blk_put (cs := #[.slice Ao16 t115.length co16, .int .i64 0, .int .i64 0, .int .i64 0]) ?_ 1 _ rfl; refine blk_put (cs := #[.slice none 0 0, .int .i64 0, .int .i64 0, .int .i64 0]) ?_ 0 _ rfl; (with_reducible repeat (first | refine blk_drewN ?_ _ | refine blk_drew ?_ | refine blk_alloc ?_ _)); exact BK122.out) hb); replace HB := BS HB hb; (try clear hb); (try clear hb2); (try clear hk); (try clear hi)))
        go_roundg k1
        case measure => have := HK1.out; omega
        case rel => exact ⟨(wrap64 (x12_1 + 1)), (by first | rfl | (simp; done) | (simp [*]; done)), H', ⟨by have := HK1.out; omega⟩, ⟨BL BK112⟩, ⟨BB HB⟩⟩
       ·rw [if_neg c10] at H; have c10b0 : (t123 == 0) = false := beq_eq_false_iff_ne.mpr c10; have c10b1 : (t123 != 0) = true := bne_iff_ne.mpr c10; simp only [Option.some.injEq, Prod.mk.injEq] at H
        obtain ⟨rfl, rfl⟩ := H; have p113 : 0 ≤ (x12_1 : Int) := of_decide_eq_true (by first | (with_reducible assumption) | assumption)
        have q113 : x12_1 < (l0_0.length : Int) := of_decide_eq_true (by first | (with_reducible assumption) | assumption)
        obtain ⟨ad113, A113_1, c113_1, A113_2, c113_2, A113_3, c113_3, e113, hx113_0, hx113_1, hx113_2, hx113_3, hl113_1, hi113_1, hl113_2, hi113_2, hl113_3, hi113_3⟩ := at_T53 HR0_0.out x12_1 p113 q113; cases e113
        replace hx113_0 := (HB.out.cell (World.block_lt_of_cell? w _ hx113_0)).trans hx113_0; replace hx113_1 := (HB.out.cell (World.block_lt_of_cell? w _ hx113_1)).trans hx113_1; replace hx113_2 := (HB.out.cell (World.block_lt_of_cell? w _ hx113_2)).trans hx113_2; replace hx113_3 := (HB.out.cell (World.block_lt_of_cell? w _ hx113_3)).trans hx113_3; have HR113_1 := AM hi113_1; have HC113_1 := AM hl113_1; clear hi113_1 hl113_1; have HR113_2 := AM hi113_2; have HC113_2 := AM hl113_2; clear hi113_2 hl113_2; have HR113_3 := AM hi113_3; have HC113_3 := AM hl113_3; clear hi113_3 hl113_3; replace p113 := eq_true p113; replace q113 := eq_true q113; go_wp2_with (first | ((with_reducible refine gate_dst (N := 5) rfl ?_); refine box_event ?hg (N := 5) ?hd (cs := #[.int .i64 0, .slice none 0 0, .slice none 0 0, .slice none 0 0]) (t := 53) ?hr ?_; (case hd => rfl); (case hg => rfl); (case hr => first | (go_simp; done) | (go_simp; rfl)); intro gb114 hg w22 hbox hb; have BK114 := AM (hbox); have GW114 := GW HB hg; have GE114 := GW HB hg; replace HB := BS HB hb; have NB112_114 := NL BK112 hg; have NB114_112 := NG BK112 hg; replace BK112 := BE BK112 hb; clear hb hbox hg; have hnb23 := NB114_112.out; have hnc23 := NB112_114.out; have hcz24_0 := BC BK114 0 (.int .i64 0) rfl; have hcz24_1 := BC BK114 1 (.slice none 0 0) rfl; have hcz24_2 := BC BK114 2 (.slice none 0 0) rfl; have hcz24_3 := BC BK114 3 (.slice none 0 0) rfl; have hfz24_0 := BF BK114 0; have hfz24_1 := BF BK114 1; have hfz24_2 := BF BK114 2; have hfz24_3 := BF BK114 3) | ((with_reducible refine gate_callee (f := 44) rfl ?_); refine goesM_ (some 20) rfl rfl Tryd.func44 #[.int .i64 ((rd_T53 l0_0 x12_1).f0)] rfl ?_; (with_reducible refine (schema_New.calls ((rd_T53 l0_0 x12_1).f0) t115 t118 t119 t120 true _ A7.out).mono ?_); rintro e w25 ⟨v116, rfl, ho0, hb⟩; refine ⟨_, rfl, ?_⟩; have HO117 := AM (Kd.R_lower ho0 (below_size (BB HB))); replace BK112 := AM (blk_below (g := gb112) (o := .cells #[.slice (some ad113) l0_0.length c0_0, .int .i64 a0_1] 24 (0, 0)) (by (repeat refine blk_far ?_ NB112_114.out _); (with_reducible repeat (first | refine blk_drewN ?_ _ | refine blk_drew ?_ | refine blk_alloc ?_ _)); exact BK112.out) hb); replace BK114 := AM (blk_below (g := gb114) (o := .cells #[.int .i64 ((rd_T53 l0_0 x12_1).f0), .slice A113_1 ((rd_T53 l0_0 x12_1).f1).length c113_1, .slice A113_2 ((rd_T53 l0_0 x12_1).f2).length c113_2, .slice A113_3 ((rd_T53 l0_0 x12_1).f3).length c113_3] 53 (0, 0)) (by refine blk_put (cs := #[.int .i64 ((rd_T53 l0_0 x12_1).f0), .slice A113_1 ((rd_T53 l0_0 x12_1).f1).length c113_1, .slice A113_2 ((rd_T53 l0_0 x12_1).f2).length c113_2, .slice none 0 0]) ?_ 3 _ rfl; refine blk_put (cs := #[.int .i64 ((rd_T53 l0_0 x12_1).f0), .slice A113_1 ((rd_T53 l0_0 x12_1).f1).length c113_1, .slice none 0 0, .slice none 0 0]) ?_ 2 _ rfl; refine blk_put (cs := #[.int .i64 ((rd_T53 l0_0 x12_1).f0), .slice none 0 0, .slice none 0 0, .slice none 0 0]) ?_ 1 _ rfl; refine blk_put (cs := #[.int .i64 0, .slice none 0 0, .slice none 0 0, .slice none 0 0]) ?_ 0 _ rfl; (with_reducible repeat (first | refine blk_drewN ?_ _ | refine blk_drew ?_ | refine blk_alloc ?_ _)); exact BK114.out) hb); replace HB := BS HB hb; (try clear hb); (try clear hb2); (try clear hk); (try clear hi); (try clear ho0)) | ((with_reducible refine gate_dst (N := 6) rfl ?_); refine box_event ?hg (N := 6) ?hd (cs := #[.slice none 0 0, .int .i64 0, .int .i64 0, .int .i64 0]) (t := 57) ?hr ?_; (case hd => rfl); (case hg => rfl); (case hr => first | (go_simp; done) | (go_simp; rfl)); intro gb122 hg w26 hbox hb; replace HO117 := AM (Kd.R_below (RL HO117) hb); have BK122 := AM (hbox); have GW122 := GW HB hg; have GE122 := GW HB hg; replace HB := BS HB hb; have NB112_122 := NL BK112 hg; have NB122_112 := NG BK112 hg; replace BK112 := BE BK112 hb; have NB114_122 := NL BK114 hg; have NB122_114 := NG BK114 hg; replace BK114 := BE BK114 hb; clear hb hbox hg; obtain ⟨Ao27, co27, eo27⟩ := Kd.R_slice HO117.out; subst eo27; have hnb28 := NB122_112.out; have hnc28 := NB112_122.out; have hnb29 := NB122_114.out; have hnc29 := NB114_122.out; have hcz30_0 := BC BK122 0 (.slice none 0 0) rfl; have hcz30_1 := BC BK122 1 (.int .i64 0) rfl; have hcz30_2 := BC BK122 2 (.int .i64 0) rfl; have hcz30_3 := BC BK122 3 (.int .i64 0) rfl; have hfz30_0 := BF BK122 0; have hfz30_1 := BF BK122 1; have hfz30_2 := BF BK122 2; have hfz30_3 := BF BK122 3; have hcz31_0 := BC BK114 0 (.int .i64 ((rd_T53 l0_0 x12_1).f0)) rfl; have hcz31_1 := BC BK114 1 (.slice A113_1 ((rd_T53 l0_0 x12_1).f1).length c113_1) rfl; have hcz31_2 := BC BK114 2 (.slice A113_2 ((rd_T53 l0_0 x12_1).f2).length c113_2) rfl; have hcz31_3 := BC BK114 3 (.slice A113_3 ((rd_T53 l0_0 x12_1).f3).length c113_3) rfl; have hfz31_0 := BF BK114 0; have hfz31_1 := BF BK114 1; have hfz31_2 := BF BK114 2; have hfz31_3 := BF BK114 3) | ((with_reducible refine gate_callee (f := 45) rfl ?_); refine goesM_ (some 28) rfl rfl Tryd.func45 #[.agg #[.int .i64 ((rd_T53 l0_0 x12_1).f0), .slice A113_1 ((rd_T53 l0_0 x12_1).f1).length c113_1, .slice A113_2 ((rd_T53 l0_0 x12_1).f2).length c113_2, .slice A113_3 ((rd_T53 l0_0 x12_1).f3).length c113_3], .agg #[.slice Ao27 t115.length co27, .int .i64 t118, .int .i64 t119, .int .i64 t120]] rfl ?_; (with_reducible refine (field_Check.calls k1 ((rd_T53 l0_0 x12_1).f0) _ _ ((rd_T53 l0_0 x12_1).f1) _ _ ((rd_T53 l0_0 x12_1).f2) _ _ ((rd_T53 l0_0 x12_1).f3) _ _ t115 t118 t119 t120 t123 _ ?sideT ?side1 ?side2 ?side3 ?side4 ?side5 ?side6 ?side7 ?side8 A9.out).mono ?_); (case sideT => exact fun w_ hb_ => HTB_.out w_ (below_step (BB HB) hb_)); (case side1 => exact Kd.C_below HR113_1.out (BB HB)); (case side2 => exact HC113_1.out); (case side3 => exact Kd.C_below HR113_2.out (BB HB)); (case side4 => exact HC113_2.out); (case side5 => exact Kd.C_below HR113_3.out (BB HB)); (case side6 => exact HC113_3.out); (case side7 => refine (Kd.R_reads' (e := 3) (base := w.heap.size) (ok := fun k_ => True) (n := t115.length) (c := co27) ?_).2.2; exact (by exact (Kd.R_mono (Kd.R_far (p := ⟨gb122, 3, none⟩) (Kd.R_far (p := ⟨gb122, 2, none⟩) (Kd.R_far (p := ⟨gb122, 1, none⟩) (Kd.R_far (p := ⟨gb122, 0, none⟩) (Kd.R_types HO117.out BK122.out (by decide)) (fun _ hk => hk.2) (.slice Ao27 t115.length co27)) (fun _ hk => hk.2) (.int .i64 t118)) (fun _ hk => hk.2) (.int .i64 t119)) (fun _ hk => hk.2) (.int .i64 t120)) (fun _ h_ => h_.1)))); (case side8 => exact (Kd.R_reads' HO117.out).2.1); rintro e w32 ⟨rfl, hb⟩; refine ⟨_, rfl, ?_⟩; replace HO117 := AM (Kd.R_below (by exact (Kd.R_mono (Kd.R_far (p := ⟨gb122, 3, none⟩) (Kd.R_far (p := ⟨gb122, 2, none⟩) (Kd.R_far (p := ⟨gb122, 1, none⟩) (Kd.R_far (p := ⟨gb122, 0, none⟩) (Kd.R_types HO117.out BK122.out (by decide)) (fun _ hk => hk.2) (.slice Ao27 t115.length co27)) (fun _ hk => hk.2) (.int .i64 t118)) (fun _ hk => hk.2) (.int .i64 t119)) (fun _ hk => hk.2) (.int .i64 t120)) (fun _ h_ => h_.1))) hb); replace BK112 := AM (blk_below (g := gb112) (o := .cells #[.slice (some ad113) l0_0.length c0_0, .int .i64 a0_1] 24 (0, 0)) (by (repeat refine blk_far ?_ NB112_122.out _); (with_reducible repeat (first | refine blk_drewN ?_ _ | refine blk_drew ?_ | refine blk_alloc ?_ _)); exact BK112.out) hb); replace BK114 := AM (blk_below (g := gb114) (o := .cells #[.int .i64 ((rd_T53 l0_0 x12_1).f0), .slice A113_1 ((rd_T53 l0_0 x12_1).f1).length c113_1, .slice A113_2 ((rd_T53 l0_0 x12_1).f2).length c113_2, .slice A113_3 ((rd_T53 l0_0 x12_1).f3).length c113_3] 53 (0, 0)) (by (repeat refine blk_far ?_ NB114_122.out _); (with_reducible repeat (first | refine blk_drewN ?_ _ | refine blk_drew ?_ | refine blk_alloc ?_ _)); exact BK114.out) hb); replace BK122 := AM (blk_below (g := gb122) (o := .cells #[.slice Ao27 t115.length co27, .int .i64 t118, .int .i64 t119, .int .i64 t120] 57 (0, 0)) (by refine blk_put (cs := #[.slice Ao27 t115.length co27, .int .i64 t118, .int .i64 t119, .int .i64 0]) ?_ 3 _ rfl; refine blk_put (cs := #[.slice Ao27 t115.length co27, .int .i64 t118, .int .i64 0, .int .i64 0]) ?_ 2 _ rfl; refine blk_put (cs := #[.slice Ao27 t115.length co27, .int .i64 0, .int .i64 0, .int .i64 0]) ?_ 1 _ rfl; refine blk_put (cs := #[.slice none 0 0, .int .i64 0, .int .i64 0, .int .i64 0]) ?_ 0 _ rfl; (with_reducible repeat (first | refine blk_drewN ?_ _ | refine blk_drew ?_ | refine blk_alloc ?_ _)); exact BK122.out) hb); replace HB := BS HB hb; (try clear hb); (try clear hb2); (try clear hk); (try clear hi)))
        go_ret2
        exact ⟨by first | rfl | (simp [errW_none, errW_some] <;> rfl) | (simp [*, errW_none, errW_some] <;> rfl), BB HB⟩
      ·replace c8 := Bool.eq_false_iff.mpr c8; subst c8; have H1 : (some (9, x12_1)) = some (r1, r2) := by rw [if_neg (show ¬ (false = true) by decide)] at H; exact H
       clear H; have H := H1; clear H1; simp only [Option.some.injEq, Prod.mk.injEq] at H
       obtain ⟨rfl, rfl⟩ := H; have p113 : 0 ≤ (x12_1 : Int) := of_decide_eq_true (by first | (with_reducible assumption) | assumption)
       have q113 : x12_1 < (l0_0.length : Int) := of_decide_eq_true (by first | (with_reducible assumption) | assumption)
       obtain ⟨ad113, A113_1, c113_1, A113_2, c113_2, A113_3, c113_3, e113, hx113_0, hx113_1, hx113_2, hx113_3, hl113_1, hi113_1, hl113_2, hi113_2, hl113_3, hi113_3⟩ := at_T53 HR0_0.out x12_1 p113 q113; cases e113
       replace hx113_0 := (HB.out.cell (World.block_lt_of_cell? w _ hx113_0)).trans hx113_0; replace hx113_1 := (HB.out.cell (World.block_lt_of_cell? w _ hx113_1)).trans hx113_1; replace hx113_2 := (HB.out.cell (World.block_lt_of_cell? w _ hx113_2)).trans hx113_2; replace hx113_3 := (HB.out.cell (World.block_lt_of_cell? w _ hx113_3)).trans hx113_3; have HR113_1 := AM hi113_1; have HC113_1 := AM hl113_1; clear hi113_1 hl113_1; have HR113_2 := AM hi113_2; have HC113_2 := AM hl113_2; clear hi113_2 hl113_2; have HR113_3 := AM hi113_3; have HC113_3 := AM hl113_3; clear hi113_3 hl113_3; replace p113 := eq_true p113; replace q113 := eq_true q113; go_wp2_with (first | ((with_reducible refine gate_dst (N := 5) rfl ?_); refine box_event ?hg (N := 5) ?hd (cs := #[.int .i64 0, .slice none 0 0, .slice none 0 0, .slice none 0 0]) (t := 53) ?hr ?_; (case hd => rfl); (case hg => rfl); (case hr => first | (go_simp; done) | (go_simp; rfl)); intro gb114 hg w33 hbox hb; have BK114 := AM (hbox); have GW114 := GW HB hg; have GE114 := GW HB hg; replace HB := BS HB hb; have NB112_114 := NL BK112 hg; have NB114_112 := NG BK112 hg; replace BK112 := BE BK112 hb; clear hb hbox hg; have hnb34 := NB114_112.out; have hnc34 := NB112_114.out; have hcz35_0 := BC BK114 0 (.int .i64 0) rfl; have hcz35_1 := BC BK114 1 (.slice none 0 0) rfl; have hcz35_2 := BC BK114 2 (.slice none 0 0) rfl; have hcz35_3 := BC BK114 3 (.slice none 0 0) rfl; have hfz35_0 := BF BK114 0; have hfz35_1 := BF BK114 1; have hfz35_2 := BF BK114 2; have hfz35_3 := BF BK114 3) | ((with_reducible refine gate_callee (f := 44) rfl ?_); refine goesM_ (some 20) rfl rfl Tryd.func44 #[.int .i64 ((rd_T53 l0_0 x12_1).f0)] rfl ?_; (with_reducible refine (schema_New.calls ((rd_T53 l0_0 x12_1).f0) t115 t118 t119 t120 false _ A7.out).mono ?_); rintro e w36 ⟨v116, rfl, ho0, hb⟩; refine ⟨_, rfl, ?_⟩; have HO117 := AM (Kd.R_lower ho0 (below_size (BB HB))); replace BK112 := AM (blk_below (g := gb112) (o := .cells #[.slice (some ad113) l0_0.length c0_0, .int .i64 a0_1] 24 (0, 0)) (by (repeat refine blk_far ?_ NB112_114.out _); (with_reducible repeat (first | refine blk_drewN ?_ _ | refine blk_drew ?_ | refine blk_alloc ?_ _)); exact BK112.out) hb); replace BK114 := AM (blk_below (g := gb114) (o := .cells #[.int .i64 ((rd_T53 l0_0 x12_1).f0), .slice A113_1 ((rd_T53 l0_0 x12_1).f1).length c113_1, .slice A113_2 ((rd_T53 l0_0 x12_1).f2).length c113_2, .slice A113_3 ((rd_T53 l0_0 x12_1).f3).length c113_3] 53 (0, 0)) (by refine blk_put (cs := #[.int .i64 ((rd_T53 l0_0 x12_1).f0), .slice A113_1 ((rd_T53 l0_0 x12_1).f1).length c113_1, .slice A113_2 ((rd_T53 l0_0 x12_1).f2).length c113_2, .slice none 0 0]) ?_ 3 _ rfl; refine blk_put (cs := #[.int .i64 ((rd_T53 l0_0 x12_1).f0), .slice A113_1 ((rd_T53 l0_0 x12_1).f1).length c113_1, .slice none 0 0, .slice none 0 0]) ?_ 2 _ rfl; refine blk_put (cs := #[.int .i64 ((rd_T53 l0_0 x12_1).f0), .slice none 0 0, .slice none 0 0, .slice none 0 0]) ?_ 1 _ rfl; refine blk_put (cs := #[.int .i64 0, .slice none 0 0, .slice none 0 0, .slice none 0 0]) ?_ 0 _ rfl; (with_reducible repeat (first | refine blk_drewN ?_ _ | refine blk_drew ?_ | refine blk_alloc ?_ _)); exact BK114.out) hb); replace HB := BS HB hb; (try clear hb); (try clear hb2); (try clear hk); (try clear hi); (try clear ho0)) | ((with_reducible refine gate_dst (N := 6) rfl ?_); refine box_event ?hg (N := 6) ?hd (cs := #[.slice none 0 0, .int .i64 0, .int .i64 0, .int .i64 0]) (t := 57) ?hr ?_; (case hd => rfl); (case hg => rfl); (case hr => first | (go_simp; done) | (go_simp; rfl)); intro gb122 hg w37 hbox hb; replace HO117 := AM (Kd.R_below (RL HO117) hb); have BK122 := AM (hbox); have GW122 := GW HB hg; have GE122 := GW HB hg; replace HB := BS HB hb; have NB112_122 := NL BK112 hg; have NB122_112 := NG BK112 hg; replace BK112 := BE BK112 hb; have NB114_122 := NL BK114 hg; have NB122_114 := NG BK114 hg; replace BK114 := BE BK114 hb; clear hb hbox hg; obtain ⟨Ao38, co38, eo38⟩ := Kd.R_slice HO117.out; subst eo38; have hnb39 := NB122_112.out; have hnc39 := NB112_122.out; have hnb40 := NB122_114.out; have hnc40 := NB114_122.out; have hcz41_0 := BC BK122 0 (.slice none 0 0) rfl; have hcz41_1 := BC BK122 1 (.int .i64 0) rfl; have hcz41_2 := BC BK122 2 (.int .i64 0) rfl; have hcz41_3 := BC BK122 3 (.int .i64 0) rfl; have hfz41_0 := BF BK122 0; have hfz41_1 := BF BK122 1; have hfz41_2 := BF BK122 2; have hfz41_3 := BF BK122 3))
       go_ret2
       exact ⟨by first | rfl | (simp [errW_none, errW_some] <;> rfl) | (simp [*, errW_none, errW_some] <;> rfl), BB HB⟩
     ·rw [if_neg c6] at H; exact absurd H (by simp)
    ·rw [if_neg c5] at H; exact absurd H (by simp)
   ·rw [if_neg c4] at H; have c4b0 : decide (x12_1 < (l0_0.length : Int)) = false := decide_eq_false c4; clear c4; simp only [Option.some.injEq, Prod.mk.injEq] at H
    obtain ⟨rfl, rfl⟩ := H; go_wp2
    go_ret2
    exact ⟨by first | rfl | (simp [errW_none, errW_some] <;> rfl) | (simp [*, errW_none, errW_some] <;> rfl), BB HB⟩

end Go.Proofs.YtcphcaiiofeflaaDoor.GL
