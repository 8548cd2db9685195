-- Printed by a program of the session (wip/gen/tprint.py, over a turned copy of the kit's print): Lean checks it.
import Derived.Test.YtmglknchklgokaaDoorGYx0
namespace Go.Proofs.YtmglknchklgokaaDoor.GY
open Go.RowKit Go.Proofs.YtmglknchklgokaaDoorW.PrintWords Go.Proofs.YtmglknchklgokaaDoorW.PrintLast Go.Proofs.YtmglknchklgokaaDoorW.PrintMore
attribute [local go_sem] max2_int min2_int max_two min_two max_three min_three max_four min_four   -- for this text's walks alone
set_option linter.unusedVariables false
set_option linter.unusedSimpArgs false

/-! ### schema_In: function 68 -/
def schema_In.f (a0 : Int) (a1 : Int) : Option (Bool) := if a0 = 1 then (some true) else (if a0 = 2 then (if a1 ≥ (-140737488355328) then (some (decide (a1 ≤ 140737488355328))) else (some false)) else (if a0 = 3 then (if a1 ≥ 0 then (some (decide (a1 ≤ 140737488355328))) else (some false)) else (if a0 = 4 then (if a1 ≥ 0 then (some (decide (a1 ≤ 255))) else (some false)) else (if a0 = 5 then (if a1 = 0 then (some true) else (some (a1 == 1))) else (some false)))))
set_option maxHeartbeats 8000000 in
set_option maxRecDepth 100000 in
theorem schema_In.calls (a0 : Int) (a1 : Int) (r : Bool) (w : World) (h : schema_In.f a0 a1 = some r) :
  Calls Tryd.prog 68 #[.int .i64 a0, .int .i64 a1] w fun e w' => e = .returned (.bool r) ∧ Drawn0 w w' := by
 have H : (if a0 = 1 then (some true) else (if a0 = 2 then (if a1 ≥ (-140737488355328) then (some (decide (a1 ≤ 140737488355328))) else (some false)) else (if a0 = 3 then (if a1 ≥ 0 then (some (decide (a1 ≤ 140737488355328))) else (some false)) else (if a0 = 4 then (if a1 ≥ 0 then (some (decide (a1 ≤ 255))) else (some false)) else (if a0 = 5 then (if a1 = 0 then (some true) else (some (a1 == 1))) else (some false)))))) = some r := h
 clear h
 by_cases c3 : a0 = 1
 ·rw [if_pos c3] at H
  have c3b0 : (a0 == 1) = true := beq_iff_eq.mpr c3
  have c3b1 : (a0 != 1) = false := bne_eq_false_iff_eq.mpr c3
  clear c3
  obtain rfl := Option.some.inj H
  go_enter Tryd.func68, Tryd.ntmps68
  go_wp2
  go_ret
  exact ⟨by first | rfl | (simp; done) | (simp [*]; done), by repeat (first | exact Drawn0.refl _ | apply Drawn0.step)⟩
 ·rw [if_neg c3] at H
  have c3b0 : (a0 == 1) = false := beq_eq_false_iff_ne.mpr c3
  have c3b1 : (a0 != 1) = true := bne_iff_ne.mpr c3
  by_cases c4 : a0 = 2
  ·rw [if_pos c4] at H
   have c4b0 : (a0 == 2) = true := beq_iff_eq.mpr c4
   have c4b1 : (a0 != 2) = false := bne_eq_false_iff_eq.mpr c4
   clear c4
   by_cases c5 : a1 ≥ (-140737488355328)
   ·rw [if_pos c5] at H
    have c5b0 : decide ((-140737488355328) ≤ a1) = true := decide_eq_true c5
    clear c5
    obtain rfl := Option.some.inj H
    go_enter Tryd.func68, Tryd.ntmps68
    go_wp2
    go_ret
    exact ⟨by first | rfl | (simp; done) | (simp [*]; done), by repeat (first | exact Drawn0.refl _ | apply Drawn0.step)⟩
   ·rw [if_neg c5] at H
    have c5b0 : decide ((-140737488355328) ≤ a1) = false := decide_eq_false c5
    clear c5
    obtain rfl := Option.some.inj H
    go_enter Tryd.func68, Tryd.ntmps68
    go_wp2
    go_ret
    exact ⟨by first | rfl | (simp; done) | (simp [*]; done), by repeat (first | exact Drawn0.refl _ | apply Drawn0.step)⟩
  ·rw [if_neg c4] at H
   have c4b0 : (a0 == 2) = false := beq_eq_false_iff_ne.mpr c4
   have c4b1 : (a0 != 2) = true := bne_iff_ne.mpr c4
   by_cases c6 : a0 = 3
   ·rw [if_pos c6] at H
    have c6b0 : (a0 == 3) = true := beq_iff_eq.mpr c6
    have c6b1 : (a0 != 3) = false := bne_eq_false_iff_eq.mpr c6
    clear c6
    by_cases c7 : a1 ≥ 0
    ·rw [if_pos c7] at H
     have c7b0 : decide (0 ≤ a1) = true := decide_eq_true c7
     clear c7
     obtain rfl := Option.some.inj H
     go_enter Tryd.func68, Tryd.ntmps68
     go_wp2
     go_ret
     exact ⟨by first | rfl | (simp; done) | (simp [*]; done), by repeat (first | exact Drawn0.refl _ | apply Drawn0.step)⟩
    ·rw [if_neg c7] at H
     have c7b0 : decide (0 ≤ a1) = false := decide_eq_false c7
     clear c7
     obtain rfl := Option.some.inj H
     go_enter Tryd.func68, Tryd.ntmps68
     go_wp2
     go_ret
     exact ⟨by first | rfl | (simp; done) | (simp [*]; done), by repeat (first | exact Drawn0.refl _ | apply Drawn0.step)⟩
   ·rw [if_neg c6] at H
    have c6b0 : (a0 == 3) = false := beq_eq_false_iff_ne.mpr c6
    have c6b1 : (a0 != 3) = true := bne_iff_ne.mpr c6
    by_cases c8 : a0 = 4
    ·rw [if_pos c8] at H
     have c8b0 : (a0 == 4) = true := beq_iff_eq.mpr c8
     have c8b1 : (a0 != 4) = false := bne_eq_false_iff_eq.mpr c8
     clear c8
     by_cases c9 : a1 ≥ 0
     ·rw [if_pos c9] at H
      have c9b0 : decide (0 ≤ a1) = true := decide_eq_true c9
      clear c9
      obtain rfl := Option.some.inj H
      go_enter Tryd.func68, Tryd.ntmps68
      go_wp2
      go_ret
      exact ⟨by first | rfl | (simp; done) | (simp [*]; done), by repeat (first | exact Drawn0.refl _ | apply Drawn0.step)⟩
     ·rw [if_neg c9] at H
      have c9b0 : decide (0 ≤ a1) = false := decide_eq_false c9
      clear c9
      obtain rfl := Option.some.inj H
      go_enter Tryd.func68, Tryd.ntmps68
      go_wp2
      go_ret
      exact ⟨by first | rfl | (simp; done) | (simp [*]; done), by repeat (first | exact Drawn0.refl _ | apply Drawn0.step)⟩
    ·rw [if_neg c8] at H
     have c8b0 : (a0 == 4) = false := beq_eq_false_iff_ne.mpr c8
     have c8b1 : (a0 != 4) = true := bne_iff_ne.mpr c8
     by_cases c10 : a0 = 5
     ·rw [if_pos c10] at H
      have c10b0 : (a0 == 5) = true := beq_iff_eq.mpr c10
      have c10b1 : (a0 != 5) = false := bne_eq_false_iff_eq.mpr c10
      clear c10
      by_cases c11 : a1 = 0
      ·rw [if_pos c11] at H
       have c11b0 : (a1 == 0) = true := beq_iff_eq.mpr c11
       have c11b1 : (a1 != 0) = false := bne_eq_false_iff_eq.mpr c11
       clear c11
       obtain rfl := Option.some.inj H
       go_enter Tryd.func68, Tryd.ntmps68
       go_wp2
       go_ret
       exact ⟨by first | rfl | (simp; done) | (simp [*]; done), by repeat (first | exact Drawn0.refl _ | apply Drawn0.step)⟩
      ·rw [if_neg c11] at H
       have c11b0 : (a1 == 0) = false := beq_eq_false_iff_ne.mpr c11
       have c11b1 : (a1 != 0) = true := bne_iff_ne.mpr c11
       obtain rfl := Option.some.inj H
       go_enter Tryd.func68, Tryd.ntmps68
       go_wp2
       go_ret
       exact ⟨by first | rfl | (simp; done) | (simp [*]; done), by repeat (first | exact Drawn0.refl _ | apply Drawn0.step)⟩
     ·rw [if_neg c10] at H
      have c10b0 : (a0 == 5) = false := beq_eq_false_iff_ne.mpr c10
      have c10b1 : (a0 != 5) = true := bne_iff_ne.mpr c10
      obtain rfl := Option.some.inj H
      go_enter Tryd.func68, Tryd.ntmps68
      go_wp2
      go_ret
      exact ⟨by first | rfl | (simp; done) | (simp [*]; done), by repeat (first | exact Drawn0.refl _ | apply Drawn0.step)⟩

/-! ### field_numbers: function 44 -/
def field_numbers.l0 : Nat → List Int → List Int → Int → Int → Option (Bool)
 | 0, _, _, _, _ => none
 | k + 1, x1, x12, x13, x14 => if x14 < x13 then (if 0 ≤ x14 then (if x14 < (x12.length : Int) then (if x14 < (x1.length : Int) then ((schema_In.f (rd x1 x14) (rd x12 x14)).bind fun t103 => (if t103 = true then (field_numbers.l0 k x1 x12 x13 (wrap64 (x14 + 1))) else (some false))) else (none)) else (none)) else (none)) else (some true)
def field_numbers.f (k : Nat) (l0 : List Int) (l1 : List Int) : Option (Bool) := if (l0.length : Int) = (l1.length : Int) then (field_numbers.l0 k l1 l0 (l0.length : Int) 0) else (some false)
theorem field_numbers.mono_l : ∀ k, (∀ y0 y1 y2 y3, LeO (field_numbers.l0 k y0 y1 y2 y3) (field_numbers.l0 (k + 1) y0 y1 y2 y3))
 | 0 => fun _ _ _ _ r h => by simp [field_numbers.l0] at h
 | k + 1 => by
  have ih0 := field_numbers.mono_l k
  ·intro y0 y1 y2 y3
   unfold field_numbers.l0
   repeat' first
   | (with_reducible exact ih0 _ _ _ _)
   | (with_reducible exact LeO.refl _)
   | (with_reducible exact LeO.none _)
   | (with_reducible refine LeO.ite ?_ ?_)
   | (with_reducible refine LeO.bind ?_ (fun _ => ?_))
   | exact ih0 _ _ _ _
   | exact LeO.none _
   | refine LeO.ite ?_ ?_
   | refine LeO.bind ?_ (fun _ => ?_)
theorem field_numbers.mono : ∀ a0 a1 k, LeO (field_numbers.f k a0 a1) (field_numbers.f (k + 1) a0 a1) := by
 intro a0 a1 k
 have ih0 := field_numbers.mono_l k
 unfold field_numbers.f
 repeat' first
   | (with_reducible exact ih0 _ _ _ _)
   | (with_reducible exact LeO.refl _)
   | (with_reducible exact LeO.none _)
   | (with_reducible refine LeO.ite ?_ ?_)
   | (with_reducible refine LeO.bind ?_ (fun _ => ?_))
   | exact ih0 _ _ _ _
   | exact LeO.none _
   | refine LeO.ite ?_ ?_
   | refine LeO.bind ?_ (fun _ => ?_)
set_option maxHeartbeats 8000000 in
set_option maxRecDepth 100000 in
theorem field_numbers.calls (k : Nat) (A0 : Option Addr) (c0 : Nat) (l0 : List Int) (A1 : Option Addr) (c1 : Nat) (l1 : List Int) (r : Bool) (w : World) (hr0 : Kd.C (Kd.int .i64) w A0 l0.length l0) (hc0 : l0.length ≤ c0) (hr1 : Kd.C (Kd.int .i64) w A1 l1.length l1) (hc1 : l1.length ≤ c1) (h : field_numbers.f k l0 l1 = some r) :
  Calls Tryd.prog 44 #[.slice A0 l0.length c0, .slice A1 l1.length c1] w fun e w' => e = .returned (.bool r) ∧ Drawn0 w w' := by
 have HR0 := Aside0.mk hr0
 have HC0 := Aside0.mk hc0
 clear hr0 hc0
 have HR1 := Aside0.mk hr1
 have HC1 := Aside0.mk hc1
 clear hr1 hc1
 have H : (if (l0.length : Int) = (l1.length : Int) then (field_numbers.l0 k l1 l0 (l0.length : Int) 0) else (some false)) = some r := h
 clear h
 by_cases c3 : (l0.length : Int) = (l1.length : Int)
 ·rw [if_pos c3] at H
  have c3b0 : ((l0.length : Int) == (l1.length : Int)) = true := beq_iff_eq.mpr c3
  have c3b1 : ((l0.length : Int) != (l1.length : Int)) = false := bne_eq_false_iff_eq.mpr c3
  have c3b2 : (l0.length == l1.length) = true := by first | simpa using c3 | (simp at c3 ⊢; omega)
  clear c3
  have H' := Aside0.mk H
  clear H
  go_enter Tryd.func44, Tryd.ntmps44
  go_wp2
  go_loopg [14] k (fun kq v14 w' => ∃ (x14_1 : Int), v14 = .int .i64 x14_1 ∧ Aside0 (field_numbers.l0 kq l1 l0 (l0.length : Int) x14_1 = some r) ∧ Aside0 (kq ≤ k) ∧ Drawn0 w w')
  case atStart => exact ⟨(0), (by first | rfl | (simp; done) | (simp [*]; done)), H', ⟨Nat.le_refl _⟩, by repeat (first | exact Drawn0.refl _ | apply Drawn0.step)⟩
  case round =>
   clear H'
   try clear c1
   try clear p2
   try clear c3
   try clear c3b0
   try clear c3b1
   try clear c3b2
   obtain ⟨x14_1, rfl, HA, HK1, ⟨m1, rfl⟩⟩ := hrel
   cases gk with
   | zero => exact absurd HA.out (by simp [field_numbers.l0])
   | succ k1 =>
    have H := HA.out
    clear HA
    simp only [field_numbers.l0] at H
    by_cases c4 : x14_1 < (l0.length : Int)
    ·rw [if_pos c4] at H
     have c4b0 : decide (x14_1 < (l0.length : Int)) = true := decide_eq_true c4
     clear c4
     by_cases c5 : 0 ≤ x14_1
     ·rw [if_pos c5] at H
      have c5b0 : decide (0 ≤ x14_1) = true := decide_eq_true c5
      clear c5
      by_cases c6 : x14_1 < (l0.length : Int)
      ·rw [if_pos c6] at H
       have c6b0 : decide (x14_1 < (l0.length : Int)) = true := decide_eq_true c6
       clear c6
       by_cases c7 : x14_1 < (l1.length : Int)
       ·rw [if_pos c7] at H
        have c7b0 : decide (x14_1 < (l1.length : Int)) = true := decide_eq_true c7
        clear c7
        replace H := Option.bind_eq_some_iff.mp H
        obtain ⟨t103, A80, H⟩ := H
        replace H : (if t103 = true then (field_numbers.l0 k1 l1 l0 (l0.length : Int) (wrap64 (x14_1 + 1))) else (some false)) = some r := H
        have A8 := Aside0.mk A80
        clear A80
        by_cases c9 : t103 = true
        ·subst c9
         have H1 : (field_numbers.l0 k1 l1 l0 (l0.length : Int) (wrap64 (x14_1 + 1))) = some r := by rw [if_pos rfl] at H; exact H
         clear H
         have H := H1
         clear H1
         have H' := Aside0.mk H
         clear H
         have p101 : 0 ≤ (x14_1 : Int) := of_decide_eq_true (by first | (with_reducible assumption) | assumption)
         have q101 : x14_1 < (l0.length : Int) := of_decide_eq_true (by first | (with_reducible assumption) | assumption)
         obtain ⟨ad101, e101, hx101_0⟩ := Kd.at_int HR0.out x14_1 p101 q101
         cases e101
         replace p101 := eq_true p101
         replace q101 := eq_true q101
         have p102 : 0 ≤ (x14_1 : Int) := of_decide_eq_true (by first | (with_reducible assumption) | assumption)
         have q102 : x14_1 < (l1.length : Int) := of_decide_eq_true (by first | (with_reducible assumption) | assumption)
         obtain ⟨ad102, e102, hx102_0⟩ := Kd.at_int HR1.out x14_1 p102 q102
         cases e102
         replace p102 := eq_true p102
         replace q102 := eq_true q102
         go_wp2_with (first | ((with_reducible refine gate_callee (f := 68) rfl ?_); refine goesL_ (some 24) rfl rfl Tryd.func68 (by kernel_rfl) rfl #[.int .i64 (rd l1 x14_1), .int .i64 (rd l0 x14_1)] rfl (by (try simp only [List.map_toArray, List.map_cons, List.map_nil]); first | done | rfl | (simp only [List.length_drop, List.length_take]; rfl)) ?_; (with_reducible refine (schema_In.calls (rd l1 x14_1) (rd l0 x14_1) true _ A8.out).mono ?_); rintro e w' ⟨rfl, ⟨nd, rfl⟩⟩; refine ⟨_, rfl, ?_⟩))
         go_roundg k1
         case measure => have := HK1.out; omega
         case rel => exact ⟨(wrap64 (x14_1 + 1)), (by first | rfl | (simp; done) | (simp [*]; done)), H', ⟨by have := HK1.out; omega⟩, by repeat (first | exact Drawn0.refl _ | apply Drawn0.step)⟩
        ·replace c9 := Bool.eq_false_iff.mpr c9
         subst c9
         have H1 : (some false) = some r := by rw [if_neg (show ¬ (false = true) by decide)] at H; exact H
         clear H
         have H := H1
         clear H1
         obtain rfl := Option.some.inj H
         have p101 : 0 ≤ (x14_1 : Int) := of_decide_eq_true (by first | (with_reducible assumption) | assumption)
         have q101 : x14_1 < (l0.length : Int) := of_decide_eq_true (by first | (with_reducible assumption) | assumption)
         obtain ⟨ad101, e101, hx101_0⟩ := Kd.at_int HR0.out x14_1 p101 q101
         cases e101
         replace p101 := eq_true p101
         replace q101 := eq_true q101
         have p102 : 0 ≤ (x14_1 : Int) := of_decide_eq_true (by first | (with_reducible assumption) | assumption)
         have q102 : x14_1 < (l1.length : Int) := of_decide_eq_true (by first | (with_reducible assumption) | assumption)
         obtain ⟨ad102, e102, hx102_0⟩ := Kd.at_int HR1.out x14_1 p102 q102
         cases e102
         replace p102 := eq_true p102
         replace q102 := eq_true q102
         go_wp2_with (first | ((with_reducible refine gate_callee (f := 68) rfl ?_); refine goesL_ (some 24) rfl rfl Tryd.func68 (by kernel_rfl) rfl #[.int .i64 (rd l1 x14_1), .int .i64 (rd l0 x14_1)] rfl (by (try simp only [List.map_toArray, List.map_cons, List.map_nil]); first | done | rfl | (simp only [List.length_drop, List.length_take]; rfl)) ?_; (with_reducible refine (schema_In.calls (rd l1 x14_1) (rd l0 x14_1) false _ A8.out).mono ?_); rintro e w' ⟨rfl, ⟨nd, rfl⟩⟩; refine ⟨_, rfl, ?_⟩))
         go_ret
         exact ⟨by first | rfl | (simp; done) | (simp [*]; done), by repeat (first | exact Drawn0.refl _ | apply Drawn0.step)⟩
       ·rw [if_neg c7] at H
        exact absurd H (by simp)
      ·rw [if_neg c6] at H
       exact absurd H (by simp)
     ·rw [if_neg c5] at H
      exact absurd H (by simp)
    ·rw [if_neg c4] at H
     have c4b0 : decide (x14_1 < (l0.length : Int)) = false := decide_eq_false c4
     clear c4
     obtain rfl := Option.some.inj H
     go_wp2
     go_ret
     exact ⟨by first | rfl | (simp; done) | (simp [*]; done), by repeat (first | exact Drawn0.refl _ | apply Drawn0.step)⟩
 ·rw [if_neg c3] at H
  have c3b0 : ((l0.length : Int) == (l1.length : Int)) = false := beq_eq_false_iff_ne.mpr c3
  have c3b1 : ((l0.length : Int) != (l1.length : Int)) = true := bne_iff_ne.mpr c3
  have c3b2 : (l0.length == l1.length) = false := by first | simpa using c3 | (simp at c3 ⊢; omega)
  obtain rfl := Option.some.inj H
  go_enter Tryd.func44, Tryd.ntmps44
  go_wp2
  go_ret
  exact ⟨by first | rfl | (simp; done) | (simp [*]; done), by repeat (first | exact Drawn0.refl _ | apply Drawn0.step)⟩

/-! ### field_Check: function 15 -/
section
open Go.Lib
theorem set_is {x : S75} (h : (!x.f0 && (x.f1 == 0 && (x.f2 == 6 && (x.f3.toList == ([] : List UInt8))))) = true) : x.f0 = false ∧ x.f1 = 0 ∧ x.f2 = 6 ∧ x.f3 = (⟨#[]⟩ : ByteArray) := by
 rw [Bool.and_eq_true, Bool.and_eq_true, Bool.and_eq_true, beq_iff_eq, beq_iff_eq, beq_iff_eq, ByteArray.toList_eq] at h
 obtain ⟨h0, h1, h2, h3⟩ := h
 refine ⟨by simpa using h0, h1, h2, ?_⟩
 have e : x.f3.data = #[] := by simpa using h3
 cases hx : x.f3 with
 | mk d => rw [hx] at e; cases e; rfl
/-- Is a text not UTF-8? -/
def badT (s : ByteArray) : Bool := decide (0 ≤ U.first s (s.size + 1) 0)
def TabsOn (w : World) : Prop := ∀ w', Below w.heap.size w w' → Utf8Tabs 0 1 w'
theorem TabsOn.below {w w1 : World} (h : TabsOn w) (hb : Below w.heap.size w w1) : TabsOn w1 := fun w' h2 => h w' (below_step hb h2)
set_option maxRecDepth 100000 in
theorem check1_calls (s : ByteArray) (w : World) (ht : TabsOn w) (hs : s.size ≤ 140737488351232) :
  Calls Tryd.prog 46 #[.string s] w fun e w' => e = .returned (.bool (badT s)) ∧ Below w.heap.size w w' := by
 have HT := Lib.hid ht
 clear ht
 go_enter Tryd.func46, Tryd.ntmps46
 go_wp2_with (fail)
 refine (U.First_calls s w HT.out hs).mono ?_
 rintro e w1 ⟨rfl, hb1⟩
 have HB := Lib.hid hb1
 clear hb1
 obtain ⟨z, hz⟩ : ∃ z, z = U.first s (s.size + 1) 0 := ⟨_, rfl⟩
 rw [← hz]
 have HZ := Lib.hid hz
 clear hz
 go_wp2_with (fail)
 go_ret
 exact ⟨by show Ending.returned (.bool (decide (0 ≤ z))) = _; rw [badT, ← HZ.out], HB.out⟩
def idxT : List ByteArray → Int → Int
 | [], _ => -1
 | k :: l, i => if badT k = true then i else idxT l (i + 1)
theorem idxT_any : ∀ (l : List ByteArray) (i : Int), 0 ≤ i → (0 ≤ idxT l i ↔ l.any badT = true)
 | [], i, _ => by simp [idxT]
 | k :: l, i, hi => by
  rw [idxT, List.any_cons]
  by_cases hb : badT k = true
  ·rw [if_pos hb, hb]; simp [hi]
  ·rw [if_neg hb, idxT_any l (i + 1) (by omega)]
   simp [hb]
set_option maxHeartbeats 4000000 in
set_option maxRecDepth 100000 in
theorem idx_texts (A : Option Addr) (c : Nat) (l : List ByteArray) (w : World) (ht : TabsOn w) (hr : Kd.C Kd.string w A l.length l) (hl : l.length ≤ 8796093022208) (hs : ∀ s ∈ l, s.size ≤ 140737488351232) :
  Calls Tryd.prog 69 #[.slice A l.length c, .func (.func 46) #[] #[]] w fun e w' => e = .returned (.int .i64 (idxT l 0)) ∧ Below w.heap.size w w' := by
 have HT := Lib.hid ht
 have HR := Lib.hid hr
 have HS := Lib.hid hs
 clear ht hr hs
 go_enter Tryd.func69, Tryd.ntmps69
 go_wp2_with (fail)
 go_loopg [8] l.length (fun kq v8 wr => ∃ i : Int, v8 = .int .i64 i ∧ 0 ≤ i ∧ i + kq = l.length ∧ Aside0 (idxT (l.drop i.toNat) i = idxT l 0) ∧ Aside0 (Below w.heap.size w wr))
 case atStart => exact ⟨0, rfl, by omega, by omega, ⟨rfl⟩, ⟨Below.refl _ _⟩⟩
 case round =>
  obtain ⟨i, rfl, hi0, hik, hidx, hbel⟩ := hrel
  by_cases hlt : i < (l.length : Int)
  ·have t0 : decide (i < (l.length : Int)) = true := decide_eq_true hlt
   obtain ⟨ad, cs, e, _, hK, hcell⟩ := Kd.C_get (Kd.C_below HR.out hbel.out) ByteArray.empty i hi0 hlt
   cases e
   obtain ⟨s, hsd⟩ : ∃ s, s = l.getD i.toNat ByteArray.empty := ⟨_, rfl⟩
   rw [← hsd] at hK
   have hx : wr.cell? (ad.add i.toNat) = some (.string s) := by
    have h : cs = [.string s] := hK
    subst h
    have h2 := hcell 0 (.string s) rfl
    rwa [Nat.add_zero, show Kd.string.sz = 1 from rfl, Nat.mul_one] at h2
   have hsm : s ∈ l := by rw [hsd, List.getD_eq_getElem?_getD, List.getElem?_eq_getElem (by omega)]; exact List.getElem_mem _
   have hd : l.drop i.toNat = s :: l.drop (i.toNat + 1) := by
    rw [List.drop_eq_getElem_cons (by omega), hsd, List.getD_eq_getElem?_getD, List.getElem?_eq_getElem (by omega)]
    rfl
   have hi2 := hidx.out
   rw [hd, idxT] at hi2
   have HI := Lib.hid hi2
   have HM := Lib.hid hsm
   clear hi2 hd hcell hK hsd hsm
   obtain ⟨gk, rfl⟩ : ∃ g, gk = g + 1 := ⟨gk - 1, by omega⟩
   go_wp2_with (fail)
   refine (check1_calls s wr (HT.out.below hbel.out) (HS.out s HM.out)).mono ?_
   rintro e w1 ⟨rfl, hb1⟩
   have HB1 := Lib.hid (below_step hbel.out hb1)
   clear hb1 hx
   cases hbk : badT s with
   | true =>
    have HK := Lib.hid hbk
    clear hbk
    go_wp2_with (fail)
    go_ret
    exact ⟨by show Ending.returned (.int .i64 i) = _; rw [← HI.out, if_pos HK.out], HB1.out⟩
   | false =>
    have HK := Lib.hid hbk
    clear hbk
    go_wp2_with (fail)
    go_roundg gk
    case measure => omega
    case rel => exact ⟨i + 1, rfl, by omega, by omega, ⟨by rw [show (i + 1).toNat = i.toNat + 1 by omega, ← HI.out, if_neg (by rw [HK.out]; simp)]⟩, ⟨HB1.out⟩⟩
  ·have t0 : decide (i < (l.length : Int)) = false := decide_eq_false hlt
   go_wp2_with (fail)
   go_ret
   exact ⟨by rw [← hidx.out, List.drop_of_length_le (by omega)]; rfl, hbel.out⟩
set_option maxRecDepth 100000 in
theorem contains_texts (A : Option Addr) (c : Nat) (l : List ByteArray) (w : World) (ht : TabsOn w) (hr : Kd.C Kd.string w A l.length l) (hl : l.length ≤ 8796093022208) (hs : ∀ s ∈ l, s.size ≤ 140737488351232) :
  Calls Tryd.prog 45 #[.slice A l.length c, .func (.func 46) #[] #[]] w fun e w' => e = .returned (.bool (l.any badT)) ∧ Below w.heap.size w w' := by
 have HT := Lib.hid ht
 have HR := Lib.hid hr
 have HS := Lib.hid hs
 clear ht hr hs
 go_enter Tryd.func45, Tryd.ntmps45
 go_wp2_with (fail)
 refine (idx_texts A c l w HT.out HR.out hl HS.out).mono ?_
 rintro e w1 ⟨rfl, hb1⟩
 have HB := Lib.hid hb1
 have he : decide (0 ≤ idxT l 0) = l.any badT := by
  rw [Bool.eq_iff_iff, decide_eq_true_eq]
  exact idxT_any l 0 (by omega)
 have HE := Lib.hid he
 clear hb1 he
 obtain ⟨z, hz⟩ : ∃ z, z = idxT l 0 := ⟨_, rfl⟩
 rw [← hz]
 have HZ := Lib.hid hz
 clear hz
 go_wp2_with (fail)
 go_ret
 exact ⟨by show Ending.returned (.bool (decide (0 ≤ z))) = _; rw [← HE.out, ← HZ.out], HB.out⟩
/-- What field.Check tells. -/
def checkV (l0_1 : List Int) (l0_2 : List ByteArray) (l0_3 : List Int) (l1_0 : List Int) (a1_1 a1_2 a1_3 : Int) (b : Bool) : Int :=
 if b = false then 10 else if (l0_2.length : Int) ≠ a1_1 ∨ l0_2.any badT = true then 11 else if (l0_3.length : Int) < a1_2 ∨ (0 ≤ a1_3 ∧ a1_3 < (l0_3.length : Int)) then 12 else 0
set_option maxHeartbeats 8000000 in
set_option maxRecDepth 100000 in
theorem fcheck_calls (k : Nat) (a0_0 : Int) (A1 : Option Addr) (c1 : Nat) (l1 : List Int) (A2 : Option Addr) (c2 : Nat) (l2 : List ByteArray) (A3 : Option Addr) (c3 : Nat) (l3 : List Int) (B0 : Option Addr) (d0 : Nat) (m0 : List Int) (n1 n2 n3 : Int) (b : Bool) (w : World) (ht : TabsOn w)
  (h1 : Kd.C (Kd.int .i64) w A1 l1.length l1) (g1 : l1.length ≤ c1) (h2 : Kd.C Kd.string w A2 l2.length l2) (h3 : Kd.C (Kd.int .i64) w A3 l3.length l3) (hm : Kd.C (Kd.int .i64) w B0 m0.length m0) (gm : m0.length ≤ d0) (hn : field_numbers.f k l1 m0 = some b) (hl : l2.length ≤ 8796093022208) (hs : ∀ s ∈ l2, s.size ≤ 140737488351232) :
  Calls Tryd.prog 15 #[.agg #[.int .i64 a0_0, .slice A1 l1.length c1, .slice A2 l2.length c2, .slice A3 l3.length c3], .agg #[.slice B0 m0.length d0, .int .i64 n1, .int .i64 n2, .int .i64 n3]] w fun e w' => e = .returned (.int .i64 (checkV l1 l2 l3 m0 n1 n2 n3 b)) ∧ Below w.heap.size w w' := by
 have HT := Lib.hid ht
 have H1 := Lib.hid h1
 have H2 := Lib.hid h2
 have H3 := Lib.hid h3
 have HM := Lib.hid hm
 have HN := Lib.hid hn
 have HS := Lib.hid hs
 clear ht h1 h2 h3 hm hn hs
 go_enter Tryd.func15, Tryd.ntmps15
 go_upto_region 1 with (fail)
 have hA := blk_alloc (heap_alloc_new w (.cells #[.int .i64 a0_0, .slice A1 l1.length c1, .slice A2 l2.length c2, .slice A3 l3.length c3] 26)) (.cells #[.slice B0 m0.length d0, .int .i64 n1, .int .i64 n2, .int .i64 n3] 28)
 have hS := heap_alloc_new (w.alloc (.cells #[.int .i64 a0_0, .slice A1 l1.length c1, .slice A2 l2.length c2, .slice A3 l3.length c3] 26)) (.cells #[.slice B0 m0.length d0, .int .i64 n1, .int .i64 n2, .int .i64 n3] 28)
 rw [show (w.alloc (.cells #[.int .i64 a0_0, .slice A1 l1.length c1, .slice A2 l2.length c2, .slice A3 l3.length c3] 26)).heap.size = w.heap.size + 1 by simp] at hS
 have hB : Below w.heap.size w ((w.alloc (.cells #[.int .i64 a0_0, .slice A1 l1.length c1, .slice A2 l2.length c2, .slice A3 l3.length c3] 26)).alloc (.cells #[.slice B0 m0.length d0, .int .i64 n1, .int .i64 n2, .int .i64 n3] 28)) := ((Below.refl _ w).alloc (Nat.le_refl _) _).alloc (by simp) _
 generalize ((w.alloc (.cells #[.int .i64 a0_0, .slice A1 l1.length c1, .slice A2 l2.length c2, .slice A3 l3.length c3] 26)).alloc (.cells #[.slice B0 m0.length d0, .int .i64 n1, .int .i64 n2, .int .i64 n3] 28)) = w1 at hA hS hB ⊢
 have HA := Lib.hid hA
 have HSp := Lib.hid hS
 have HB := Lib.hid hB
 have p1 : w1.cell? ⟨w.heap.size, 1, none⟩ = some (.slice A1 l1.length c1) := (blk_cell hA 1).trans rfl
 have p2 : w1.cell? ⟨w.heap.size + 1, 0, none⟩ = some (.slice B0 m0.length d0) := (blk_cell hS 0).trans rfl
 clear hA hS hB
 go_wp2_with (fail)
 refine (field_numbers.calls k A1 c1 l1 B0 d0 m0 b w1 (Kd.C_below H1.out HB.out) g1 (Kd.C_below HM.out HB.out) gm HN.out).mono ?_
 rintro e w2 ⟨rfl, hd2⟩
 have hb2 : Below w1.heap.size w1 w2 := hd2.below
 have HA2 := Lib.hid ((hb2.block _ (blk_lt HA.out)).trans HA.out)
 have HS2 := Lib.hid ((hb2.block _ (blk_lt HSp.out)).trans HSp.out)
 have HB2 := Lib.hid (below_step HB.out hb2)
 clear hb2 hd2 p1 p2
 have q2 : w2.cell? ⟨w.heap.size, 2, none⟩ = some (.slice A2 l2.length c2) := (blk_cell HA2.out 2).trans rfl
 have q3 : w2.cell? ⟨w.heap.size, 3, none⟩ = some (.slice A3 l3.length c3) := (blk_cell HA2.out 3).trans rfl
 have s1 : w2.cell? ⟨w.heap.size + 1, 1, none⟩ = some (.int .i64 n1) := (blk_cell HS2.out 1).trans rfl
 have s2 : w2.cell? ⟨w.heap.size + 1, 2, none⟩ = some (.int .i64 n2) := (blk_cell HS2.out 2).trans rfl
 have s3 : w2.cell? ⟨w.heap.size + 1, 3, none⟩ = some (.int .i64 n3) := (blk_cell HS2.out 3).trans rfl
 cases b with
 | false =>
  go_wp2_with (fail)
  go_ret
  exact ⟨by show Ending.returned (.int .i64 10) = _; unfold checkV; rw [if_pos rfl], HB2.out⟩
 | true =>
  by_cases hne : (l2.length : Int) = n1
  ·have u1 : decide ((l2.length : Int) = n1) = true := decide_eq_true hne
   have u1b : ((l2.length : Int) == n1) = true := by simpa using hne
   have HNE := Lib.hid hne
   clear hne
   go_wp2_with (fail)
   refine (contains_texts A2 c2 l2 w2 (HT.out.below HB2.out) (Kd.C_below H2.out HB2.out) hl HS.out).mono ?_
   rintro e w3 ⟨rfl, hb3⟩
   have HA3 := Lib.hid ((hb3.block _ (blk_lt HA2.out)).trans HA2.out)
   have HS3 := Lib.hid ((hb3.block _ (blk_lt HS2.out)).trans HS2.out)
   have HB3 := Lib.hid (below_step HB2.out hb3)
   clear hb3 q2 q3 s1 s2 s3
   have q3 : w3.cell? ⟨w.heap.size, 3, none⟩ = some (.slice A3 l3.length c3) := (blk_cell HA3.out 3).trans rfl
   have s2 : w3.cell? ⟨w.heap.size + 1, 2, none⟩ = some (.int .i64 n2) := (blk_cell HS3.out 2).trans rfl
   have s3 : w3.cell? ⟨w.heap.size + 1, 3, none⟩ = some (.int .i64 n3) := (blk_cell HS3.out 3).trans rfl
   cases hbt : l2.any badT with
   | true =>
    have HBT := Lib.hid hbt
    clear hbt
    go_wp2_with (fail)
    go_ret
    exact ⟨by show Ending.returned (.int .i64 11) = _; unfold checkV; rw [if_neg (by simp), if_pos (.inr HBT.out)], HB3.out⟩
   | false =>
    have HBT := Lib.hid hbt
    clear hbt
    have hno : ¬ ((l2.length : Int) ≠ n1 ∨ l2.any badT = true) := fun h => h.elim (fun h => h HNE.out) (fun h => by rw [HBT.out] at h; cases h)
    have HNO := Lib.hid hno
    clear hno
    by_cases x1 : (l3.length : Int) < n2
    ·have v1 : decide ((l3.length : Int) < n2) = true := decide_eq_true x1
     have X1 := Lib.hid x1
     clear x1
     go_wp2_with (fail)
     go_ret
     exact ⟨by show Ending.returned (.int .i64 12) = _; unfold checkV; rw [if_neg (by simp), if_neg HNO.out, if_pos (.inl X1.out)], HB3.out⟩
    ·have v1 : decide ((l3.length : Int) < n2) = false := decide_eq_false x1
     have X1 := Lib.hid x1
     clear x1
     by_cases x2 : 0 ≤ n3
     ·have v2 : decide (0 ≤ n3) = true := decide_eq_true x2
      have X2 := Lib.hid x2
      clear x2
      by_cases x3 : n3 < (l3.length : Int)
      ·have v3 : decide (n3 < (l3.length : Int)) = true := decide_eq_true x3
       have X3 := Lib.hid x3
       clear x3
       go_wp2_with (fail)
       go_ret
       exact ⟨by show Ending.returned (.int .i64 12) = _; unfold checkV; rw [if_neg (by simp), if_neg HNO.out, if_pos (.inr ⟨X2.out, X3.out⟩)], HB3.out⟩
      ·have v3 : decide (n3 < (l3.length : Int)) = false := decide_eq_false x3
       have X3 := Lib.hid x3
       clear x3
       go_wp2_with (fail)
       go_ret
       exact ⟨by show Ending.returned (.int .i64 0) = _; unfold checkV; rw [if_neg (by simp), if_neg HNO.out, if_neg (fun h => by have h1 := X1.out; have h3 := X3.out; omega)], HB3.out⟩
     ·have v2 : decide (0 ≤ n3) = false := decide_eq_false x2
      have X2 := Lib.hid x2
      clear x2
      go_wp2_with (fail)
      go_ret
      exact ⟨by show Ending.returned (.int .i64 0) = _; unfold checkV; rw [if_neg (by simp), if_neg HNO.out, if_neg (fun h => by have h1 := X1.out; have h3 := X2.out; omega)], HB3.out⟩
  ·have u1 : decide ((l2.length : Int) = n1) = false := decide_eq_false hne
   have u1b : ((l2.length : Int) == n1) = false := by simpa using hne
   have HNE := Lib.hid hne
   clear hne
   go_wp2_with (fail)
   go_ret
   exact ⟨by show Ending.returned (.int .i64 11) = _; unfold checkV; rw [if_neg (by simp), if_pos (.inl HNE.out)], HB2.out⟩
end
def field_Check.f (k : Nat) (a0_0 : Int) (l0_1 : List Int) (l0_2 : List ByteArray) (l0_3 : List Int) (l1_0 : List Int) (a1_1 a1_2 a1_3 : Int) : Option Int := (field_numbers.f k l0_1 l1_0).bind fun b => if l0_2.length ≤ 8796093022208 ∧ (l0_2.all fun s => decide (s.size ≤ 70368744177664)) = true then some (checkV l0_1 l0_2 l0_3 l1_0 a1_1 a1_2 a1_3 b) else none
theorem field_Check.mono : ∀ a0 a1 a2 a3 a4 a5 a6 a7 k, LeO (field_Check.f k a0 a1 a2 a3 a4 a5 a6 a7) (field_Check.f (k + 1) a0 a1 a2 a3 a4 a5 a6 a7) := by
 intro a0 a1 a2 a3 a4 a5 a6 a7 k
 unfold field_Check.f
 exact LeO.bind (field_numbers.mono _ _ _) (fun _ => LeO.refl _)
theorem field_Check.calls (k : Nat) (a0_0 : Int) (A0_1 : Option Addr) (c0_1 : Nat) (l0_1 : List Int) (A0_2 : Option Addr) (c0_2 : Nat) (l0_2 : List ByteArray) (A0_3 : Option Addr) (c0_3 : Nat) (l0_3 : List Int) (A1_0 : Option Addr) (c1_0 : Nat) (l1_0 : List Int) (a1_1 : Int) (a1_2 : Int) (a1_3 : Int) (r : Int) (w : World) (ht_ : ∀ w', Below w.heap.size w w' → Go.Lib.Utf8Tabs 0 1 w') (hr0_1 : Kd.C (Kd.int .i64) w A0_1 l0_1.length l0_1) (hc0_1 : l0_1.length ≤ c0_1) (hr0_2 : Kd.C Kd.string w A0_2 l0_2.length l0_2) (hc0_2 : l0_2.length ≤ c0_2) (hr0_3 : Kd.C (Kd.int .i64) w A0_3 l0_3.length l0_3) (hc0_3 : l0_3.length ≤ c0_3) (hr1_0 : Kd.C (Kd.int .i64) w A1_0 l1_0.length l1_0) (hc1_0 : l1_0.length ≤ c1_0) (h : field_Check.f k a0_0 l0_1 l0_2 l0_3 l1_0 a1_1 a1_2 a1_3 = some r) :
  Calls Tryd.prog 15 #[.agg #[.int .i64 a0_0, .slice A0_1 l0_1.length c0_1, .slice A0_2 l0_2.length c0_2, .slice A0_3 l0_3.length c0_3], .agg #[.slice A1_0 l1_0.length c1_0, .int .i64 a1_1, .int .i64 a1_2, .int .i64 a1_3]] w fun e w' => e = .returned (.int .i64 r) ∧ Below w.heap.size w w' := by
 unfold field_Check.f at h
 obtain ⟨b, hn, h2⟩ := Option.bind_eq_some_iff.1 h
 split at h2
 ·rename_i hq
  obtain rfl := Option.some.inj h2
  exact fcheck_calls k a0_0 A0_1 c0_1 l0_1 A0_2 c0_2 l0_2 A0_3 c0_3 l0_3 A1_0 c1_0 l1_0 a1_1 a1_2 a1_3 b w ht_ hr0_1 hc0_1 hr0_2 hr0_3 hr1_0 hc1_0 hn hq.1 (fun s hs => by have := List.all_eq_true.1 hq.2 s hs; simp at this; omega)
 ·cases h2

/-! ### slices_Clone_int64_int64: function 49 -/
def slices_Clone_int64_int64.f (l0 : List Int) : Option (List Int) := if l0.length < 8796093022208 then some l0 else none
set_option maxHeartbeats 4000000 in
set_option maxRecDepth 100000 in
theorem slices_Clone_int64_int64.calls (A0 : Option Addr) (c0 : Nat) (l0 : List Int) (r : List Int) (w : World) (hr0 : Kd.C (Kd.int .i64) w A0 l0.length l0) (hc0 : l0.length ≤ c0) (h : slices_Clone_int64_int64.f l0 = some r) :
  Calls Tryd.prog 49 #[.slice A0 l0.length c0] w fun e w' => ∃ v0_ : Value, e = .returned (v0_) ∧ Kd.R (Kd.int .i64) 2 w' w.heap.size (fun _ => True) v0_ r ∧ Below w.heap.size w w' := by
 unfold slices_Clone_int64_int64.f at h
 by_cases hlen : l0.length < 8796093022208
 ·rw [if_pos hlen] at h
  obtain rfl := Option.some.inj h
  have q22 : ∀ (w : World) (a : Option Addr) (n c n' c' : Nat), (binOp .eql 22 (.slice a n c) (.slice none n' c')).run Tryd.prog w = .ok (.bool a.isNone) w := fun w a n c n' c' => Lib.run_eql_slice_nil w _ _ a n c n' c' Tryd.underlying22
  clear h
  cases A0 with
  | none =>
   obtain rfl := Go.Proofs.YtmglknchklgokaaDoor.Kw.nil_of hr0
   clear hr0
   go_enter Tryd.func49, Tryd.ntmps49
   go_wp2
   go_ret
   exact ⟨_, rfl, Kd.R_nil _ _ _ _ _, Below.refl _ _⟩
  | some ad =>
   have HN := Lib.hid (Go.Proofs.YtmglknchklgokaaDoor.Kw.cells_of hr0)
   obtain ⟨i0, hi, hz0, hz1, hz2⟩ := info_parts (show (Tryd.prog.info? 2).map (fun i => (i.zero, i.size, i.bytes)) = some (some (.int .i64 0), 1, 8) from by kernel_rfl)
   clear hr0
   go_enter Tryd.func49, Tryd.ntmps49
   go_wp2_with (at_builtin; refine wpList_append_own _ rfl _ _ 22 rfl w.heap.size 2 i0 (.int .i64 0) 1 8 Tryd.underlying22 hi hz0 hz1 hz2 rfl (by decide) _ _ _ rfl (World.ownsRow_made w #[] 0 (Nat.le_refl _) (Nat.zero_le _) rfl) ad l0.length c0 (l0.map (Value.int .i64)) rfl ?qc1 ?qc2 ?qc3 ?qc4 ?qc5 ?qc6 ?_)
   case qc1 => simp
   case qc2 => intro j u hj; exact Lib.cell?_alloc_some _ (HN.out j u hj)
   case qc3 => intro u hu; obtain ⟨x, _, rfl⟩ := List.mem_map.1 hu; rfl
   case qc4 => unfold maxLen; omega
   case qc5 => omega
   case qc6 => simp
   intro v' w1 hown hgrow hnil
   go_wp2
   go_ret
   refine ⟨v', rfl, Go.Proofs.YtmglknchklgokaaDoor.Kw.R_of_own (by simpa using hown), ?_⟩
   exact ((Below.refl _ w).alloc (Nat.le_refl _) _).grown hgrow (by simp) (by intro k hk; simp [Value.ownBlock] at hk; omega)
 ·rw [if_neg hlen] at h
  cases h

/-! ### slices_Clone_string_string: function 50 -/
def slices_Clone_string_string.f (l0 : List ByteArray) : Option (List ByteArray) := if l0.length < 8796093022208 then some l0 else none
set_option maxHeartbeats 4000000 in
set_option maxRecDepth 100000 in
theorem slices_Clone_string_string.calls (A0 : Option Addr) (c0 : Nat) (l0 : List ByteArray) (r : List ByteArray) (w : World) (hr0 : Kd.C Kd.string w A0 l0.length l0) (hc0 : l0.length ≤ c0) (h : slices_Clone_string_string.f l0 = some r) :
  Calls Tryd.prog 50 #[.slice A0 l0.length c0] w fun e w' => ∃ v0_ : Value, e = .returned (v0_) ∧ Kd.R Kd.string 9 w' w.heap.size (fun _ => True) v0_ r ∧ Below w.heap.size w w' := by
 unfold slices_Clone_string_string.f at h
 by_cases hlen : l0.length < 8796093022208
 ·rw [if_pos hlen] at h
  obtain rfl := Option.some.inj h
  have q22 : ∀ (w : World) (a : Option Addr) (n c n' c' : Nat), (binOp .eql 23 (.slice a n c) (.slice none n' c')).run Tryd.prog w = .ok (.bool a.isNone) w := fun w a n c n' c' => Lib.run_eql_slice_nil w _ _ a n c n' c' Tryd.underlying23
  clear h
  cases A0 with
  | none =>
   obtain rfl := Go.Proofs.YtmglknchklgokaaDoor.Kw.nil_of hr0
   clear hr0
   go_enter Tryd.func50, Tryd.ntmps50
   go_wp2
   go_ret
   exact ⟨_, rfl, Kd.R_nil _ _ _ _ _, Below.refl _ _⟩
  | some ad =>
   have HN := Lib.hid (Go.Proofs.YtmglknchklgokaaDoor.Kw.cells_of hr0)
   obtain ⟨i0, hi, hz0, hz1, hz2⟩ := info_parts (show (Tryd.prog.info? 9).map (fun i => (i.zero, i.size, i.bytes)) = some (some (.string ByteArray.empty), 1, 16) from by kernel_rfl)
   clear hr0
   go_enter Tryd.func50, Tryd.ntmps50
   go_wp2_with (at_builtin; refine wpList_append_own _ rfl _ _ 23 rfl w.heap.size 9 i0 (.string ByteArray.empty) 1 16 Tryd.underlying23 hi hz0 hz1 hz2 rfl (by decide) _ _ _ rfl (World.ownsRow_made w #[] 0 (Nat.le_refl _) (Nat.zero_le _) rfl) ad l0.length c0 (l0.map Value.string) rfl ?qc1 ?qc2 ?qc3 ?qc4 ?qc5 ?qc6 ?_)
   case qc1 => simp
   case qc2 => intro j u hj; exact Lib.cell?_alloc_some _ (HN.out j u hj)
   case qc3 => intro u hu; obtain ⟨x, _, rfl⟩ := List.mem_map.1 hu; rfl
   case qc4 => unfold maxLen; omega
   case qc5 => omega
   case qc6 => simp
   intro v' w1 hown hgrow hnil
   go_wp2
   go_ret
   refine ⟨v', rfl, Go.Proofs.YtmglknchklgokaaDoor.Kw.R_of_own (by simpa using hown), ?_⟩
   exact ((Below.refl _ w).alloc (Nat.le_refl _) _).grown hgrow (by simp) (by intro k hk; simp [Value.ownBlock] at hk; omega)
 ·rw [if_neg hlen] at h
  cases h

/-! ### slices_Clone_int_int: function 51 -/
def slices_Clone_int_int.f (l0 : List Int) : Option (List Int) := if l0.length < 8796093022208 then some l0 else none
set_option maxHeartbeats 4000000 in
set_option maxRecDepth 100000 in
theorem slices_Clone_int_int.calls (A0 : Option Addr) (c0 : Nat) (l0 : List Int) (r : List Int) (w : World) (hr0 : Kd.C (Kd.int .i64) w A0 l0.length l0) (hc0 : l0.length ≤ c0) (h : slices_Clone_int_int.f l0 = some r) :
  Calls Tryd.prog 51 #[.slice A0 l0.length c0] w fun e w' => ∃ v0_ : Value, e = .returned (v0_) ∧ Kd.R (Kd.int .i64) 3 w' w.heap.size (fun _ => True) v0_ r ∧ Below w.heap.size w w' := by
 unfold slices_Clone_int_int.f at h
 by_cases hlen : l0.length < 8796093022208
 ·rw [if_pos hlen] at h
  obtain rfl := Option.some.inj h
  have q22 : ∀ (w : World) (a : Option Addr) (n c n' c' : Nat), (binOp .eql 24 (.slice a n c) (.slice none n' c')).run Tryd.prog w = .ok (.bool a.isNone) w := fun w a n c n' c' => Lib.run_eql_slice_nil w _ _ a n c n' c' Tryd.underlying24
  clear h
  cases A0 with
  | none =>
   obtain rfl := Go.Proofs.YtmglknchklgokaaDoor.Kw.nil_of hr0
   clear hr0
   go_enter Tryd.func51, Tryd.ntmps51
   go_wp2
   go_ret
   exact ⟨_, rfl, Kd.R_nil _ _ _ _ _, Below.refl _ _⟩
  | some ad =>
   have HN := Lib.hid (Go.Proofs.YtmglknchklgokaaDoor.Kw.cells_of hr0)
   obtain ⟨i0, hi, hz0, hz1, hz2⟩ := info_parts (show (Tryd.prog.info? 3).map (fun i => (i.zero, i.size, i.bytes)) = some (some (.int .i64 0), 1, 8) from by kernel_rfl)
   clear hr0
   go_enter Tryd.func51, Tryd.ntmps51
   go_wp2_with (at_builtin; refine wpList_append_own _ rfl _ _ 24 rfl w.heap.size 3 i0 (.int .i64 0) 1 8 Tryd.underlying24 hi hz0 hz1 hz2 rfl (by decide) _ _ _ rfl (World.ownsRow_made w #[] 0 (Nat.le_refl _) (Nat.zero_le _) rfl) ad l0.length c0 (l0.map (Value.int .i64)) rfl ?qc1 ?qc2 ?qc3 ?qc4 ?qc5 ?qc6 ?_)
   case qc1 => simp
   case qc2 => intro j u hj; exact Lib.cell?_alloc_some _ (HN.out j u hj)
   case qc3 => intro u hu; obtain ⟨x, _, rfl⟩ := List.mem_map.1 hu; rfl
   case qc4 => unfold maxLen; omega
   case qc5 => omega
   case qc6 => simp
   intro v' w1 hown hgrow hnil
   go_wp2
   go_ret
   refine ⟨v', rfl, Go.Proofs.YtmglknchklgokaaDoor.Kw.R_of_own (by simpa using hown), ?_⟩
   exact ((Below.refl _ w).alloc (Nat.le_refl _) _).grown hgrow (by simp) (by intro k hk; simp [Value.ownBlock] at hk; omega)
 ·rw [if_neg hlen] at h
  cases h

end Go.Proofs.YtmglknchklgokaaDoor.GY
