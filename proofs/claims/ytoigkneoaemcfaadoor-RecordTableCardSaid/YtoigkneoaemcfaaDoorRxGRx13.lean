-- Printed by a program of the session (wip/gen/tprint.py, over a turned copy of the kit's print): Lean checks it.
import Derived.Test.YtoigkneoaemcfaaDoorRxGRx0
namespace Go.Proofs.YtoigkneoaemcfaaDoor.GR
open Go.RowKit Go.Proofs.YtoigkneoaemcfaaDoorW.PrintWords Go.Proofs.YtoigkneoaemcfaaDoorW.PrintLast Go.Proofs.YtoigkneoaemcfaaDoorW.PrintMore
attribute [local go_sem] max2_int min2_int max_two min_two max_three min_three max_four min_four   -- for this text's walks alone
set_option linter.unusedVariables false
set_option linter.unusedSimpArgs false




/-! ### dioramaref01_Get: function 86 -/
mutual
def dioramaref01_Get.j0 : Nat → ByteArray → Int → Bool → Option (Int × Int × Int)
 | 0, _, _, _ => none
 | k + 1, x0, x1, x18 => if x18 = true then (some (0, 0, 1)) else (dioramaref01_Get.l0 k x0 x1 0 1 x1)
def dioramaref01_Get.l0 : Nat → ByteArray → Int → Int → Int → Int → Option (Int × Int × Int)
 | 0, _, _, _, _, _ => none
 | k + 1, x0, x1, x7, x8, x9 => if x9 < (x0.size : Int) then (if 0 ≤ x9 then (if (wrap64 (x9 - x1)) = 9 then (dioramaref01_Get.j2 k x0 x1 x7 x8 x9 (bt x0 x9) (decide ((bt x0 x9) > 1))) else (dioramaref01_Get.j2 k x0 x1 x7 x8 x9 (bt x0 x9) false)) else (none)) else (some (0, 0, 2))
def dioramaref01_Get.j2 : Nat → ByteArray → Int → Int → Int → Int → Int → Bool → Option (Int × Int × Int)
 | 0, _, _, _, _, _, _, _ => none
 | k + 1, x0, x1, x7, x8, x9, x10, x36 => if x36 = true then (some (0, 0, 3)) else (if x10 = 0 then (dioramaref01_Get.j3 k x0 x1 x7 x8 x9 x10 (decide (x9 > x1))) else (dioramaref01_Get.j3 k x0 x1 x7 x8 x9 x10 false))
def dioramaref01_Get.j3 : Nat → ByteArray → Int → Int → Int → Int → Int → Bool → Option (Int × Int × Int)
 | 0, _, _, _, _, _, _, _ => none
 | k + 1, x0, x1, x7, x8, x9, x10, x43 => if x43 = true then (some (0, 0, 3)) else (if x10 < 128 then (some (IntKind.u64.wrap (x7 + (IntKind.u64.wrap (x8 * (IntKind.u64.wrap (Int.tmod x10 128))))), wrap64 (x9 + 1), 0)) else (dioramaref01_Get.l0 k x0 x1 (IntKind.u64.wrap (x7 + (IntKind.u64.wrap (x8 * (IntKind.u64.wrap (Int.tmod x10 128)))))) (IntKind.u64.wrap (x8 * 128)) (wrap64 (x9 + 1))))
end
def dioramaref01_Get.f (k : Nat) (a0 : ByteArray) (a1 : Int) : Option (Int × Int × Int) := if a1 < 0 then (dioramaref01_Get.j0 k a0 a1 true) else (dioramaref01_Get.j0 k a0 a1 (decide (a1 > (a0.size : Int))))
set_option maxHeartbeats 8000000 in
set_option maxRecDepth 100000 in
theorem dioramaref01_Get.calls (k : Nat) (a0 : ByteArray) (a1 : Int) (r1 : Int) (r2 : Int) (r3 : Int) (w : World) (h : dioramaref01_Get.f k a0 a1 = some (r1, r2, r3)) :
  Calls Tryd.prog 86 #[.string a0, .int .i64 a1] w fun e w' => e = .returned (.tuple #[.int .u64 r1, .int .i64 r2, .int .i64 r3]) ∧ Drawn0 w w' := by
 have H : (if a1 < 0 then (dioramaref01_Get.j0 k a0 a1 true) else (dioramaref01_Get.j0 k a0 a1 (decide (a1 > (a0.size : Int))))) = some (r1, r2, r3) := h
 clear h
 have HC3 := Aside0.mk H
 clear H
 go_enter Tryd.func86, Tryd.ntmps86
 go_upto_region 1 with (fail)
 go_cut [18] (fun v18 wc => ∃ (kq : Nat) (x18_2 : Bool), v18 = .bool x18_2 ∧ Aside0 (dioramaref01_Get.j0 kq a0 a1 x18_2 = some (r1, r2, r3)) ∧ Aside0 (kq ≤ k) ∧ Drawn0 w wc)
 case first =>
  have H := HC3.out
  clear HC3
  by_cases c4 : a1 < 0
  ·rw [if_pos c4] at H
   have c4b0 : decide (a1 < 0) = true := decide_eq_true c4
   clear c4
   (first | rw [c4b0] | (simp only [i64_w, i32_w]; rw [c4b0]) | skip)
   have H' := Aside0.mk H
   clear H
   go_wp2
   go_meet
   case rel => exact ⟨_, (true), (by first | rfl | (simp; done) | (simp [*]; done)), H', ⟨by first | omega | exact Nat.le_refl _⟩, by repeat (first | exact Drawn0.refl _ | apply Drawn0.step)⟩
  ·rw [if_neg c4] at H
   have c4b0 : decide (a1 < 0) = false := decide_eq_false c4
   clear c4
   (first | rw [c4b0] | (simp only [i64_w, i32_w]; rw [c4b0]) | skip)
   have H' := Aside0.mk H
   clear H
   go_wp2
   go_meet
   case rel => exact ⟨_, (decide (a1 > (a0.size : Int))), (by first | rfl | (simp; done) | (simp [*]; done)), H', ⟨by first | omega | exact Nat.le_refl _⟩, by repeat (first | exact Drawn0.refl _ | apply Drawn0.step)⟩
 case rest =>
  clear HC3
  try clear p2
  try clear c4
  try clear c4b0
  obtain ⟨kq, x18_2, rfl, HA, HJ2, ⟨mc2, rfl⟩⟩ := hcut
  cases kq with
  | zero => exact absurd HA.out (by simp [dioramaref01_Get.j0])
  | succ kj2 =>
   have H := HA.out
   clear HA
   simp only [dioramaref01_Get.j0] at H
   by_cases c5 : x18_2 = true
   ·subst c5
    have H1 : (some (0, 0, 1)) = some (r1, r2, r3) := by rw [if_pos rfl] at H; exact H
    clear H
    have H := H1
    clear H1
    simp only [Option.some.injEq, Prod.mk.injEq] at H
    obtain ⟨rfl, rfl, rfl⟩ := H
    go_wp2
    go_ret3
    exact ⟨by first | rfl | (simp; done) | (simp [*]; done), by repeat (first | exact Drawn0.refl _ | apply Drawn0.step)⟩
   ·replace c5 := Bool.eq_false_iff.mpr c5
    subst c5
    have H1 : (dioramaref01_Get.l0 kj2 a0 a1 0 1 a1) = some (r1, r2, r3) := by rw [if_neg (show ¬ (false = true) by decide)] at H; exact H
    clear H
    have H := H1
    clear H1
    have H' := Aside0.mk H
    clear H
    go_wp2
    go_loopg [7, 8, 9] kj2 (fun kq v7 v8 v9 w' => ∃ (x7_2 : Int) (x8_2 : Int) (x9_2 : Int), v7 = .int .u64 x7_2 ∧ v8 = .int .u64 x8_2 ∧ v9 = .int .i64 x9_2 ∧ Aside0 (dioramaref01_Get.l0 kq a0 a1 x7_2 x8_2 x9_2 = some (r1, r2, r3)) ∧ Aside0 (kq ≤ kj2) ∧ Drawn0 w w')
    case atStart => exact ⟨(0), (1), (a1), (by first | rfl | (simp; done) | (simp [*]; done)), (by first | rfl | (simp; done) | (simp [*]; done)), (by first | rfl | (simp; done) | (simp [*]; done)), H', ⟨Nat.le_refl _⟩, by repeat (first | exact Drawn0.refl _ | apply Drawn0.step)⟩
    case round =>
     clear H'
     try clear c2
     try clear p2
     try clear c4
     try clear c4b0
     try clear c5
     try clear p2
     obtain ⟨x7_2, x8_2, x9_2, rfl, rfl, rfl, HA, HK2, ⟨m2, rfl⟩⟩ := hrel
     cases gk with
     | zero => exact absurd HA.out (by simp [dioramaref01_Get.l0])
     | succ k2 =>
      have H := HA.out
      clear HA
      simp only [dioramaref01_Get.l0] at H
      by_cases c6 : x9_2 < (a0.size : Int)
      ·rw [if_pos c6] at H
       have c6b0 : decide (x9_2 < (a0.size : Int)) = true := decide_eq_true c6
       clear c6
       by_cases c7 : 0 ≤ x9_2
       ·rw [if_pos c7] at H
        have c7b0 : decide (0 ≤ x9_2) = true := decide_eq_true c7
        clear c7
        have HC9 := Aside0.mk H
        clear H
        have p8 : 0 ≤ (x9_2 : Int) := of_decide_eq_true (by first | (with_reducible assumption) | assumption)
        have q8 : x9_2 < (a0.size : Int) := of_decide_eq_true (by first | (with_reducible assumption) | assumption)
        have hx8 := bt_at a0 x9_2
        replace p8 := eq_true p8
        replace q8 := eq_true q8
        go_upto_region 9 with (fail)
        go_cut [36] (fun v36 wc => ∃ (kq : Nat) (x36_8 : Bool), v36 = .bool x36_8 ∧ Aside0 (dioramaref01_Get.j2 kq a0 a1 x7_2 x8_2 x9_2 (bt a0 x9_2) x36_8 = some (r1, r2, r3)) ∧ Aside0 (kq ≤ k2) ∧ Drawn0 w wc)
        case first =>
         have H := HC9.out
         clear HC9
         by_cases c10 : (wrap64 (x9_2 - a1)) = 9
         ·rw [if_pos c10] at H
          have c10b0 : ((wrap64 (x9_2 - a1)) == 9) = true := beq_iff_eq.mpr c10
          have c10b1 : ((wrap64 (x9_2 - a1)) != 9) = false := bne_eq_false_iff_eq.mpr c10
          clear c10
          (first | rw [c10b0] | (simp only [i64_w, i32_w]; rw [c10b0]) | skip)
          have H' := Aside0.mk H
          clear H
          go_wp2
          go_meet
          case rel => exact ⟨_, (decide ((bt a0 x9_2) > 1)), (by first | rfl | (simp; done) | (simp [*]; done)), H', ⟨by have := HJ2.out; have := HK2.out; first | omega | exact Nat.le_refl _⟩, by repeat (first | exact Drawn0.refl _ | apply Drawn0.step)⟩
         ·rw [if_neg c10] at H
          have c10b0 : ((wrap64 (x9_2 - a1)) == 9) = false := beq_eq_false_iff_ne.mpr c10
          have c10b1 : ((wrap64 (x9_2 - a1)) != 9) = true := bne_iff_ne.mpr c10
          (first | rw [c10b0] | (simp only [i64_w, i32_w]; rw [c10b0]) | skip)
          have H' := Aside0.mk H
          clear H
          go_wp2
          go_meet
          case rel => exact ⟨_, (false), (by first | rfl | (simp; done) | (simp [*]; done)), H', ⟨by have := HJ2.out; have := HK2.out; first | omega | exact Nat.le_refl _⟩, by repeat (first | exact Drawn0.refl _ | apply Drawn0.step)⟩
        case rest =>
         clear HC9
         try clear c1
         try clear c2
         try clear p2
         try clear c4
         try clear c4b0
         try clear c5
         try clear c6
         try clear c6b0
         try clear p6
         try clear c7
         try clear c7b0
         try clear c8
         try clear p8
         try clear q8
         try clear hx8
         try clear c10
         try clear c10b0
         try clear c10b1
         try clear p2
         try clear p8
         try clear q8
         obtain ⟨kq, x36_8, rfl, HA, HJ8, ⟨mc8, rfl⟩⟩ := hcut
         cases kq with
         | zero => exact absurd HA.out (by simp [dioramaref01_Get.j2])
         | succ kj8 =>
          have H := HA.out
          clear HA
          simp only [dioramaref01_Get.j2] at H
          by_cases c11 : x36_8 = true
          ·subst c11
           have H1 : (some (0, 0, 3)) = some (r1, r2, r3) := by rw [if_pos rfl] at H; exact H
           clear H
           have H := H1
           clear H1
           simp only [Option.some.injEq, Prod.mk.injEq] at H
           obtain ⟨rfl, rfl, rfl⟩ := H
           go_wp2
           go_ret3
           exact ⟨by first | rfl | (simp; done) | (simp [*]; done), by repeat (first | exact Drawn0.refl _ | apply Drawn0.step)⟩
          ·replace c11 := Bool.eq_false_iff.mpr c11
           subst c11
           have H1 : (if (bt a0 x9_2) = 0 then (dioramaref01_Get.j3 kj8 a0 a1 x7_2 x8_2 x9_2 (bt a0 x9_2) (decide (x9_2 > a1))) else (dioramaref01_Get.j3 kj8 a0 a1 x7_2 x8_2 x9_2 (bt a0 x9_2) false)) = some (r1, r2, r3) := by rw [if_neg (show ¬ (false = true) by decide)] at H; exact H
           clear H
           have H := H1
           clear H1
           have HC12 := Aside0.mk H
           clear H
           go_upto_region 11 with (fail)
           go_cut [43] (fun v43 wc => ∃ (kq : Nat) (x43_11 : Bool), v43 = .bool x43_11 ∧ Aside0 (dioramaref01_Get.j3 kq a0 a1 x7_2 x8_2 x9_2 (bt a0 x9_2) x43_11 = some (r1, r2, r3)) ∧ Aside0 (kq ≤ kj8) ∧ Drawn0 w wc)
           case first =>
            have H := HC12.out
            clear HC12
            by_cases c13 : (bt a0 x9_2) = 0
            ·rw [if_pos c13] at H
             have c13b0 : ((bt a0 x9_2) == 0) = true := beq_iff_eq.mpr c13
             have c13b1 : ((bt a0 x9_2) != 0) = false := bne_eq_false_iff_eq.mpr c13
             clear c13
             (first | rw [c13b0] | (simp only [i64_w, i32_w]; rw [c13b0]) | skip)
             have H' := Aside0.mk H
             clear H
             go_wp2
             go_meet
             case rel => exact ⟨_, (decide (x9_2 > a1)), (by first | rfl | (simp; done) | (simp [*]; done)), H', ⟨by have := HJ2.out; have := HK2.out; have := HJ8.out; first | omega | exact Nat.le_refl _⟩, by repeat (first | exact Drawn0.refl _ | apply Drawn0.step)⟩
            ·rw [if_neg c13] at H
             have c13b0 : ((bt a0 x9_2) == 0) = false := beq_eq_false_iff_ne.mpr c13
             have c13b1 : ((bt a0 x9_2) != 0) = true := bne_iff_ne.mpr c13
             (first | rw [c13b0] | (simp only [i64_w, i32_w]; rw [c13b0]) | skip)
             have H' := Aside0.mk H
             clear H
             go_wp2
             go_meet
             case rel => exact ⟨_, (false), (by first | rfl | (simp; done) | (simp [*]; done)), H', ⟨by have := HJ2.out; have := HK2.out; have := HJ8.out; first | omega | exact Nat.le_refl _⟩, by repeat (first | exact Drawn0.refl _ | apply Drawn0.step)⟩
           case rest =>
            clear HC12
            try clear c1
            try clear c2
            try clear p2
            try clear c4
            try clear c4b0
            try clear c5
            try clear c6
            try clear c6b0
            try clear p6
            try clear c7
            try clear c7b0
            try clear c8
            try clear p8
            try clear q8
            try clear hx8
            try clear c10
            try clear c10b0
            try clear c10b1
            try clear c11
            try clear c13
            try clear c13b0
            try clear c13b1
            try clear p2
            try clear p6
            try clear p8
            try clear q8
            obtain ⟨kq, x43_11, rfl, HA, HJ11, ⟨mc11, rfl⟩⟩ := hcut
            cases kq with
            | zero => exact absurd HA.out (by simp [dioramaref01_Get.j3])
            | succ kj11 =>
             have H := HA.out
             clear HA
             simp only [dioramaref01_Get.j3] at H
             by_cases c14 : x43_11 = true
             ·subst c14
              have H1 : (some (0, 0, 3)) = some (r1, r2, r3) := by rw [if_pos rfl] at H; exact H
              clear H
              have H := H1
              clear H1
              simp only [Option.some.injEq, Prod.mk.injEq] at H
              obtain ⟨rfl, rfl, rfl⟩ := H
              go_wp2
              go_ret3
              exact ⟨by first | rfl | (simp; done) | (simp [*]; done), by repeat (first | exact Drawn0.refl _ | apply Drawn0.step)⟩
             ·replace c14 := Bool.eq_false_iff.mpr c14
              subst c14
              have H1 : (if (bt a0 x9_2) < 128 then (some (IntKind.u64.wrap (x7_2 + (IntKind.u64.wrap (x8_2 * (IntKind.u64.wrap (Int.tmod (bt a0 x9_2) 128))))), wrap64 (x9_2 + 1), 0)) else (dioramaref01_Get.l0 kj11 a0 a1 (IntKind.u64.wrap (x7_2 + (IntKind.u64.wrap (x8_2 * (IntKind.u64.wrap (Int.tmod (bt a0 x9_2) 128)))))) (IntKind.u64.wrap (x8_2 * 128)) (wrap64 (x9_2 + 1)))) = some (r1, r2, r3) := by rw [if_neg (show ¬ (false = true) by decide)] at H; exact H
              clear H
              have H := H1
              clear H1
              by_cases c15 : (bt a0 x9_2) < 128
              ·rw [if_pos c15] at H
               have c15b0 : decide ((bt a0 x9_2) < 128) = true := decide_eq_true c15
               clear c15
               simp only [Option.some.injEq, Prod.mk.injEq] at H
               obtain ⟨rfl, rfl, rfl⟩ := H
               go_wp2
               go_ret3
               exact ⟨by first | rfl | (simp; done) | (simp [*]; done), by repeat (first | exact Drawn0.refl _ | apply Drawn0.step)⟩
              ·rw [if_neg c15] at H
               have c15b0 : decide ((bt a0 x9_2) < 128) = false := decide_eq_false c15
               clear c15
               have H' := Aside0.mk H
               clear H
               go_wp2
               go_roundg kj11
               case measure => have := HJ2.out; have := HK2.out; have := HJ8.out; have := HJ11.out; omega
               case rel => exact ⟨(IntKind.u64.wrap (x7_2 + (IntKind.u64.wrap (x8_2 * (IntKind.u64.wrap (Int.tmod (bt a0 x9_2) 128)))))), (IntKind.u64.wrap (x8_2 * 128)), (wrap64 (x9_2 + 1)), (by first | rfl | (simp; done) | (simp [*]; done)), (by first | rfl | (simp; done) | (simp [*]; done)), (by first | rfl | (simp; done) | (simp [*]; done)), H', ⟨by have := HJ2.out; have := HK2.out; have := HJ8.out; have := HJ11.out; omega⟩, by repeat (first | exact Drawn0.refl _ | apply Drawn0.step)⟩
       ·rw [if_neg c7] at H
        exact absurd H (by simp)
      ·rw [if_neg c6] at H
       have c6b0 : decide (x9_2 < (a0.size : Int)) = false := decide_eq_false c6
       clear c6
       simp only [Option.some.injEq, Prod.mk.injEq] at H
       obtain ⟨rfl, rfl, rfl⟩ := H
       go_wp2
       go_ret3
       exact ⟨by first | rfl | (simp; done) | (simp [*]; done), by repeat (first | exact Drawn0.refl _ | apply Drawn0.step)⟩

/-! ### dioramaref02_Cursor_Uint: function 59 -/
-- by hand: DCurR



/-! ### dioramaref02_Cursor_Fail: function 60 -/

/-! ### dioramaref01_Zag: function 87 -/
def dioramaref01_Zag.f (a0 : Int) : Option (Int) := if (Int.tmod a0 2) = 0 then (some (wrap64 (IntKind.u64.wrap (Int.tdiv a0 2)))) else (some (wrap64 ((wrap64 (-(wrap64 (IntKind.u64.wrap (Int.tdiv a0 2))))) - 1)))
set_option maxHeartbeats 8000000 in
set_option maxRecDepth 100000 in
theorem dioramaref01_Zag.calls (a0 : Int) (r : Int) (w : World) (h : dioramaref01_Zag.f a0 = some r) :
  Calls Tryd.prog 87 #[.int .u64 a0] w fun e w' => e = .returned (.int .i64 r) ∧ Drawn0 w w' := by
 have H : (if (Int.tmod a0 2) = 0 then (some (wrap64 (IntKind.u64.wrap (Int.tdiv a0 2)))) else (some (wrap64 ((wrap64 (-(wrap64 (IntKind.u64.wrap (Int.tdiv a0 2))))) - 1)))) = some r := h
 clear h
 by_cases c2 : (Int.tmod a0 2) = 0
 ·rw [if_pos c2] at H
  have c2b0 : ((Int.tmod a0 2) == 0) = true := beq_iff_eq.mpr c2
  have c2b1 : ((Int.tmod a0 2) != 0) = false := bne_eq_false_iff_eq.mpr c2
  clear c2
  obtain rfl := Option.some.inj H
  go_enter Tryd.func87, Tryd.ntmps87
  go_wp2
  go_ret
  exact ⟨by first | rfl | (simp; done) | (simp [*]; done), by repeat (first | exact Drawn0.refl _ | apply Drawn0.step)⟩
 ·rw [if_neg c2] at H
  have c2b0 : ((Int.tmod a0 2) == 0) = false := beq_eq_false_iff_ne.mpr c2
  have c2b1 : ((Int.tmod a0 2) != 0) = true := bne_iff_ne.mpr c2
  obtain rfl := Option.some.inj H
  go_enter Tryd.func87, Tryd.ntmps87
  go_wp2
  go_ret
  exact ⟨by first | rfl | (simp; done) | (simp [*]; done), by repeat (first | exact Drawn0.refl _ | apply Drawn0.step)⟩

/-! ### dioramaref02_Cursor_Int: function 61 -/
def dioramaref02_Cursor_Int.f (k : Nat) (s0_0 : ByteArray) (s0_1 : Int) (s0_2 : Int) : Option (Int × ByteArray × Int × Int) := if s0_2 = 0 then ((dioramaref01_Get.f k s0_0 s0_1).bind fun bt255 => (if bt255.2.2 = 0 then ((dioramaref01_Zag.f bt255.1).bind fun t258 => (some (t258, s0_0, bt255.2.1, s0_2))) else (some (0, s0_0, s0_1, bt255.2.2)))) else (some (0, s0_0, s0_1, s0_2))

end Go.Proofs.YtoigkneoaemcfaaDoor.GR
