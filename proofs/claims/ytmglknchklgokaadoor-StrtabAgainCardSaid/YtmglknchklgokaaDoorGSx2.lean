-- Printed by a program of the session (wip/gen/tprint.py, over a turned copy of the kit's print): Lean checks it.
import Derived.Test.YtmglknchklgokaaDoorGSx0
namespace Go.Proofs.YtmglknchklgokaaDoor.GS
open Go.RowKit Go.Proofs.YtmglknchklgokaaDoorW.PrintWords Go.Proofs.YtmglknchklgokaaDoorW.PrintLast Go.Proofs.YtmglknchklgokaaDoorW.PrintMore
attribute [local go_sem] max2_int min2_int max_two min_two max_three min_three max_four min_four   -- for this text's walks alone
set_option linter.unusedVariables false
set_option linter.unusedSimpArgs false

/-! ### dioramaref06_Same: function 35 -/
def dioramaref06_Same.l0 : Nat → List ByteArray → List ByteArray → Int → Option (Bool)
 | 0, _, _, _ => none
 | k + 1, x0, x1, x5 => if x5 < (x0.length : Int) then (if 0 ≤ x5 then (if x5 < (x1.length : Int) then (if (rdOf ByteArray.empty x0 x5).toList = (rdOf ByteArray.empty x1 x5).toList then (dioramaref06_Same.l0 k x0 x1 (wrap64 (x5 + 1))) else (some false)) else (none)) else (none)) else (some true)
def dioramaref06_Same.f (k : Nat) (l0 : List ByteArray) (l1 : List ByteArray) : Option (Bool) := if (l0.length : Int) = (l1.length : Int) then (dioramaref06_Same.l0 k l0 l1 0) else (some false)
theorem dioramaref06_Same.mono_l : ∀ k, (∀ y0 y1 y2, LeO (dioramaref06_Same.l0 k y0 y1 y2) (dioramaref06_Same.l0 (k + 1) y0 y1 y2))
 | 0 => fun _ _ _ r h => by simp [dioramaref06_Same.l0] at h
 | k + 1 => by
  have ih0 := dioramaref06_Same.mono_l k
  ·intro y0 y1 y2
   unfold dioramaref06_Same.l0
   repeat' first
   | (with_reducible exact ih0 _ _ _)
   | (with_reducible exact LeO.refl _)
   | (with_reducible exact LeO.none _)
   | (with_reducible refine LeO.ite ?_ ?_)
   | (with_reducible refine LeO.bind ?_ (fun _ => ?_))
   | exact ih0 _ _ _
   | exact LeO.none _
   | refine LeO.ite ?_ ?_
   | refine LeO.bind ?_ (fun _ => ?_)
theorem dioramaref06_Same.mono : ∀ a0 a1 k, LeO (dioramaref06_Same.f k a0 a1) (dioramaref06_Same.f (k + 1) a0 a1) := by
 intro a0 a1 k
 have ih0 := dioramaref06_Same.mono_l k
 unfold dioramaref06_Same.f
 repeat' first
   | (with_reducible exact ih0 _ _ _)
   | (with_reducible exact LeO.refl _)
   | (with_reducible exact LeO.none _)
   | (with_reducible refine LeO.ite ?_ ?_)
   | (with_reducible refine LeO.bind ?_ (fun _ => ?_))
   | exact ih0 _ _ _
   | exact LeO.none _
   | refine LeO.ite ?_ ?_
   | refine LeO.bind ?_ (fun _ => ?_)
set_option maxHeartbeats 8000000 in
set_option maxRecDepth 100000 in
theorem dioramaref06_Same.calls (k : Nat) (A0 : Option Addr) (c0 : Nat) (l0 : List ByteArray) (A1 : Option Addr) (c1 : Nat) (l1 : List ByteArray) (r : Bool) (w : World) (hr0 : Kd.C Kd.string w A0 l0.length l0) (hc0 : l0.length ≤ c0) (hr1 : Kd.C Kd.string w A1 l1.length l1) (hc1 : l1.length ≤ c1) (h : dioramaref06_Same.f k l0 l1 = some r) :
  Calls Tryd.prog 35 #[.slice A0 l0.length c0, .slice A1 l1.length c1] w fun e w' => e = .returned (.bool r) ∧ Drawn0 w w' := by
 have HR0 := Aside0.mk hr0
 have HC0 := Aside0.mk hc0
 clear hr0 hc0
 have HR1 := Aside0.mk hr1
 have HC1 := Aside0.mk hc1
 clear hr1 hc1
 have H : (if (l0.length : Int) = (l1.length : Int) then (dioramaref06_Same.l0 k l0 l1 0) else (some false)) = some r := h
 clear h
 by_cases c3 : (l0.length : Int) = (l1.length : Int)
 ·rw [if_pos c3] at H
  have c3b0 : ((l0.length : Int) == (l1.length : Int)) = true := beq_iff_eq.mpr c3
  have c3b1 : ((l0.length : Int) != (l1.length : Int)) = false := bne_eq_false_iff_eq.mpr c3
  have c3b2 : (l0.length == l1.length) = true := by first | simpa using c3 | (simp at c3 ⊢; omega)
  clear c3
  have H' := Aside0.mk H
  clear H
  go_enter Tryd.func35, Tryd.ntmps35
  go_wp2
  repeat (go_quiet (fail); try go_wp2)
  go_loopg [5] k (fun kq v5 w' => ∃ (x5_1 : Int), v5 = .int .i64 x5_1 ∧ Aside0 (dioramaref06_Same.l0 kq l0 l1 x5_1 = some r) ∧ Aside0 (kq ≤ k) ∧ Drawn0 w w')
  case atStart => exact ⟨(0), (by first | rfl | (simp; done) | (simp [*]; done)), H', ⟨Nat.le_refl _⟩, by repeat (first | exact Drawn0.refl _ | apply Drawn0.step)⟩
  case round =>
   clear H'
   try clear c1
   try clear p2
   try clear c3
   try clear c3b0
   try clear c3b1
   try clear c3b2
   obtain ⟨x5_1, rfl, HA, HK1, ⟨m1, rfl⟩⟩ := hrel
   cases gk with
   | zero => exact absurd HA.out (by simp [dioramaref06_Same.l0])
   | succ k1 =>
    have H := HA.out
    clear HA
    simp only [dioramaref06_Same.l0] at H
    by_cases c4 : x5_1 < (l0.length : Int)
    ·rw [if_pos c4] at H
     have c4b0 : decide (x5_1 < (l0.length : Int)) = true := decide_eq_true c4
     clear c4
     by_cases c5 : 0 ≤ x5_1
     ·rw [if_pos c5] at H
      have c5b0 : decide (0 ≤ x5_1) = true := decide_eq_true c5
      clear c5
      by_cases c6 : x5_1 < (l1.length : Int)
      ·rw [if_pos c6] at H
       have c6b0 : decide (x5_1 < (l1.length : Int)) = true := decide_eq_true c6
       clear c6
       by_cases c7 : (rdOf ByteArray.empty l0 x5_1).toList = (rdOf ByteArray.empty l1 x5_1).toList
       ·rw [if_pos c7] at H
        have c7b0 : ((rdOf ByteArray.empty l0 x5_1).toList == (rdOf ByteArray.empty l1 x5_1).toList) = true := beq_iff_eq.mpr c7
        have c7b1 : ((rdOf ByteArray.empty l0 x5_1).toList != (rdOf ByteArray.empty l1 x5_1).toList) = false := bne_eq_false_iff_eq.mpr c7
        clear c7
        have H' := Aside0.mk H
        clear H
        have p120 : 0 ≤ (x5_1 : Int) := of_decide_eq_true (by first | (with_reducible assumption) | assumption)
        have q120 : x5_1 < (l0.length : Int) := of_decide_eq_true (by first | (with_reducible assumption) | assumption)
        obtain ⟨ad120, e120, hx120_0⟩ := Kd.at_string HR0.out x5_1 p120 q120
        cases e120
        replace p120 := eq_true p120
        replace q120 := eq_true q120
        have p121 : 0 ≤ (x5_1 : Int) := of_decide_eq_true (by first | (with_reducible assumption) | assumption)
        have q121 : x5_1 < (l1.length : Int) := of_decide_eq_true (by first | (with_reducible assumption) | assumption)
        obtain ⟨ad121, e121, hx121_0⟩ := Kd.at_string HR1.out x5_1 p121 q121
        cases e121
        replace p121 := eq_true p121
        replace q121 := eq_true q121
        go_wp2
        repeat (go_quiet (fail); try go_wp2)
        go_roundg k1
        case measure => have := HK1.out; omega
        case rel => exact ⟨(wrap64 (x5_1 + 1)), (by first | rfl | (simp; done) | (simp [*]; done)), H', ⟨by have := HK1.out; omega⟩, by repeat (first | exact Drawn0.refl _ | apply Drawn0.step)⟩
       ·rw [if_neg c7] at H
        have c7b0 : ((rdOf ByteArray.empty l0 x5_1).toList == (rdOf ByteArray.empty l1 x5_1).toList) = false := beq_eq_false_iff_ne.mpr c7
        have c7b1 : ((rdOf ByteArray.empty l0 x5_1).toList != (rdOf ByteArray.empty l1 x5_1).toList) = true := bne_iff_ne.mpr c7
        obtain rfl := Option.some.inj H
        have p120 : 0 ≤ (x5_1 : Int) := of_decide_eq_true (by first | (with_reducible assumption) | assumption)
        have q120 : x5_1 < (l0.length : Int) := of_decide_eq_true (by first | (with_reducible assumption) | assumption)
        obtain ⟨ad120, e120, hx120_0⟩ := Kd.at_string HR0.out x5_1 p120 q120
        cases e120
        replace p120 := eq_true p120
        replace q120 := eq_true q120
        have p121 : 0 ≤ (x5_1 : Int) := of_decide_eq_true (by first | (with_reducible assumption) | assumption)
        have q121 : x5_1 < (l1.length : Int) := of_decide_eq_true (by first | (with_reducible assumption) | assumption)
        obtain ⟨ad121, e121, hx121_0⟩ := Kd.at_string HR1.out x5_1 p121 q121
        cases e121
        replace p121 := eq_true p121
        replace q121 := eq_true q121
        go_wp2
        repeat (go_quiet (fail); try go_wp2)
        go_ret
        exact ⟨by first | rfl | (simp; done) | (simp [*]; done), by repeat (first | exact Drawn0.refl _ | apply Drawn0.step)⟩
      ·rw [if_neg c6] at H
       exact absurd H (by simp)
     ·rw [if_neg c5] at H
      exact absurd H (by simp)
    ·rw [if_neg c4] at H
     have c4b0 : decide (x5_1 < (l0.length : Int)) = false := decide_eq_false c4
     clear c4
     obtain rfl := Option.some.inj H
     go_wp2
     repeat (go_quiet (fail); try go_wp2)
     go_ret
     exact ⟨by first | rfl | (simp; done) | (simp [*]; done), by repeat (first | exact Drawn0.refl _ | apply Drawn0.step)⟩
 ·rw [if_neg c3] at H
  have c3b0 : ((l0.length : Int) == (l1.length : Int)) = false := beq_eq_false_iff_ne.mpr c3
  have c3b1 : ((l0.length : Int) != (l1.length : Int)) = true := bne_iff_ne.mpr c3
  have c3b2 : (l0.length == l1.length) = false := by first | simpa using c3 | (simp at c3 ⊢; omega)
  obtain rfl := Option.some.inj H
  go_enter Tryd.func35, Tryd.ntmps35
  go_wp2
  repeat (go_quiet (fail); try go_wp2)
  go_ret
  exact ⟨by first | rfl | (simp; done) | (simp [*]; done), by repeat (first | exact Drawn0.refl _ | apply Drawn0.step)⟩

-- NOT PRINTED: function 36 (dioramalaw06_all)

/-! ### dioramaref01_Put: function 55 -/
def dioramaref01_Put.f : Nat → Int → Option (ByteArray)
 | 0, _ => none
 | k + 1, a0 => if a0 < 128 then (some (strOfNums (([(a0) % 256] : List Int)))) else ((some (([(IntKind.u64.wrap (128 + (Int.tmod a0 128))) % 256] : List Int) : List Int)).bind fun y125 => ((dioramaref01_Put.f k (IntKind.u64.wrap (Int.tdiv a0 128))).bind fun t128 => (if (strOfNums y125).size + t128.size ≤ 9223372036854775807 then (some ((strOfNums y125) ++ t128)) else (none))))
theorem dioramaref01_Put.mono_l : ∀ k, (∀ y0, LeO (dioramaref01_Put.f k y0) (dioramaref01_Put.f (k + 1) y0))
 | 0 => fun _ r h => by simp [dioramaref01_Put.f] at h
 | k + 1 => by
  have ih0 := dioramaref01_Put.mono_l k
  ·intro y0
   unfold dioramaref01_Put.f
   repeat' first
   | (with_reducible exact ih0 _)
   | (with_reducible exact LeO.refl _)
   | (with_reducible exact LeO.none _)
   | (with_reducible refine LeO.ite ?_ ?_)
   | (with_reducible refine LeO.bind ?_ (fun _ => ?_))
   | exact ih0 _
   | exact LeO.none _
   | refine LeO.ite ?_ ?_
   | refine LeO.bind ?_ (fun _ => ?_)
theorem dioramaref01_Put.mono : ∀ a0 k, LeO (dioramaref01_Put.f k a0) (dioramaref01_Put.f (k + 1) a0) := by
 intro a0 k
 have ih0 := dioramaref01_Put.mono_l k
 exact ih0 a0
def dioramaref01_Put.T3 : Bool × List (List Nat × List Nat) := (true, [([], []), ([0], [0]), ([1], [1]), ([2], [2]), ([3], [3]), ([4], [4]), ([], []), ([6], [6]), ([7], [7]), ([5, 8], [5, 8]), ([9, 8, 0, 1, 2, 3, 4, 5, 6, 7, 8, 9], [9])])
def dioramaref01_Put.B3 : List Nat := [0, 1, 3, 7, 15, 31, 0, 64, 192, 511, 1023]
theorem dioramaref01_Put.tab3 : rtab .any (opsOf Tryd.f55 3) = dioramaref01_Put.T3 := by kernel_rfl
theorem dioramaref01_Put.bits3 : waitsOk dioramaref01_Put.T3.2 dioramaref01_Put.B3 = true := by kernel_rfl
set_option maxHeartbeats 8000000 in
set_option maxRecDepth 100000 in
theorem dioramaref01_Put.calls (k : Nat) : ∀ (a0 : Int) (r : ByteArray) (w : World) (h : dioramaref01_Put.f k a0 = some r),
  Calls Tryd.prog 55 #[.int .u64 a0] w fun e w' => e = .returned (.string r) ∧ Below w.heap.size w w' := by
 induction k using Nat.strongRecOn with
 | _ k ih =>
 intro a0 r w h
 cases k with
 | zero => exact absurd h (by simp [dioramaref01_Put.f])
 | succ k =>
 simp only [dioramaref01_Put.f] at h
 have HB := Aside0.mk (Below.refl w.heap.size w)
 have H : (if a0 < 128 then (some (strOfNums (([(a0) % 256] : List Int)))) else ((some (([(IntKind.u64.wrap (128 + (Int.tmod a0 128))) % 256] : List Int) : List Int)).bind fun y125 => ((dioramaref01_Put.f k (IntKind.u64.wrap (Int.tdiv a0 128))).bind fun t128 => (if (strOfNums y125).size + t128.size ≤ 9223372036854775807 then (some ((strOfNums y125) ++ t128)) else (none))))) = some r := h
 clear h
 by_cases c2 : a0 < 128
 ·rw [if_pos c2] at H
  have c2b0 : decide (a0 < 128) = true := decide_eq_true c2
  clear c2
  obtain ⟨y122, hy122⟩ : ∃ y_ : List Int, y_ = (([(a0) % 256] : List Int)) := ⟨_, rfl⟩
  replace H : (some (strOfNums y122)) = some r := by first | (rw [hy122]; with_reducible exact H) | (have H2_ := (Option.bind_some _ _).symm.trans H; rw [hy122]; with_reducible exact H2_) | (have H2_ := (Option.bind_some _ _).symm.trans H; with_reducible exact H2_) | with_reducible exact H | (rw [hy122]; exact H) | exact H
  have Ny122 := Aside0.mk hy122
  clear hy122
  obtain rfl := Option.some.inj H
  go_enter Tryd.func55, Tryd.ntmps55
  go_wp2_with (first | ((with_reducible refine gate_dst (N := 7) rfl ?_); refine Kd.R_lit (Kd.int .u8) _ 5 ?hg (N := 7) ?hd (xs := ([(a0) % 256] : List Int)) (inner := [.int .u8 ((a0) % 256)]) (ok := fun _ => True) (okp := fun _ => True) ?hr ?hp (fun _ hk => hk) trivial (Below.refl _ _) (Nat.le_refl _) (by simp) ?_; (case hd => rfl); (case hg => rfl); (case hr => first | (go_simp; done) | (go_simp; rfl)); (case hp => exact (Reps.one (show Kd.M (Kd.int .u8) _ _ _ ((a0) % 256) [.int .u8 ((a0) % 256)] from rfl) (Reps.none _ _))); intro v123 w3 ho4 hb hg_ hnew_; clear hg_ hnew_; (first | rw [← Ny122.out] at ho4 | (simp only [Int.reduceToNat] at ho4; rw [← Ny122.out] at ho4)); have n0_ := Aside0.mk (Kd.R_lower ho4 (below_size (BB HB))); have n1_ := Aside0.mk (below_step (BB HB) hb); clear HB; have HO124 := n0_; have HB := n1_; clear n0_ n1_; clear hb ho4; have hcv5 := own_string (P := Tryd.prog) Tryd.underlying86 Tryd.underlying5 Tryd.underlying9 (Kd.own_of_R HO124.out)))
  go_ret
  exact ⟨by first | rfl | (simp [errW_none, errW_some] <;> rfl) | (simp [*, errW_none, errW_some] <;> rfl), BB HB⟩
 ·rw [if_neg c2] at H
  have c2b0 : decide (a0 < 128) = false := decide_eq_false c2
  clear c2
  obtain ⟨y125, hy125⟩ : ∃ y_ : List Int, y_ = (([(IntKind.u64.wrap (128 + (Int.tmod a0 128))) % 256] : List Int)) := ⟨_, rfl⟩
  replace H : ((dioramaref01_Put.f k (IntKind.u64.wrap (Int.tdiv a0 128))).bind fun t128 => (if (strOfNums y125).size + t128.size ≤ 9223372036854775807 then (some ((strOfNums y125) ++ t128)) else (none))) = some r := by first | (rw [hy125]; with_reducible exact H) | (have H2_ := (Option.bind_some _ _).symm.trans H; rw [hy125]; with_reducible exact H2_) | (have H2_ := (Option.bind_some _ _).symm.trans H; with_reducible exact H2_) | with_reducible exact H | (rw [hy125]; exact H) | exact H
  have Ny125 := Aside0.mk hy125
  clear hy125
  replace H := Option.bind_eq_some_iff.mp H
  obtain ⟨t128, A60, H⟩ := H
  replace H : (if (strOfNums y125).size + t128.size ≤ 9223372036854775807 then (some ((strOfNums y125) ++ t128)) else (none)) = some r := H
  have A6 := Aside0.mk A60
  clear A60
  by_cases c7 : (strOfNums y125).size + t128.size ≤ 9223372036854775807
  ·rw [if_pos c7] at H
   have c7b0 := eq_true c7
   have c7b1 : decide ((strOfNums y125).size + t128.size ≤ 9223372036854775807) = true := decide_eq_true c7
   try have c7b2 : (9223372036854775807 < (strOfNums y125).size + t128.size) = False := eq_false (Nat.not_lt.2 c7)
   obtain rfl := Option.some.inj H
   go_enter Tryd.func55, Tryd.ntmps55
   try go_wp2
   have n0_ := Aside0.mk (below_drew1 HB.out)
   clear HB
   have HB := n0_
   clear n0_
   refine start_ (n := 11) (S := fun w' => True) (ds := []) #[false, false, false, false, false, false, false, false, false, false, false] (by kernel_rfl) rfl rfl trivial (fun hHeld => ?_); refine with_tabW dioramaref01_Put.tab3 dioramaref01_Put.bits3 (fun HT_ HW_ => ?_)
   generalize w.drew = w8 at HB hHeld ⊢
   refine pure_ (i := 0) (N := some 9) (v := ?_) (a' := ?_) #[true, false, false, false, false, false, false, false, false, false, false] rfl rfl (any_of HT_.out (by kernel_rfl)) (fun _ _ _ h => h) (Or.inl ⟨by rfl, ?_⟩) ?_ ?_
   rotate_left
   ·intro w'
    go_simp
    with_reducible rfl
   rotate_left
   ·simp only [Act.put, List.setIfInBounds_toArray, List.set_cons_zero, List.set_cons_succ, i64_w, i32_w]
    rfl
   refine pure_ (i := 1) (N := some 10) (v := ?_) (a' := ?_) #[true, true, false, false, false, false, false, false, false, false, false] rfl rfl (any_of HT_.out (by kernel_rfl)) (fun _ _ _ h => h) (Or.inl ⟨by rfl, ?_⟩) ?_ ?_
   rotate_left
   ·intro w'
    go_simp
    with_reducible rfl
   rotate_left
   ·simp only [Act.put, List.setIfInBounds_toArray, List.set_cons_zero, List.set_cons_succ, i64_w, i32_w]
    rfl
   refine pure_ (i := 2) (N := some 11) (v := ?_) (a' := ?_) #[true, true, true, false, false, false, false, false, false, false, false] rfl rfl (any_of HT_.out (by kernel_rfl)) (fun _ _ _ h => h) (Or.inl ⟨by rfl, ?_⟩) ?_ ?_
   rotate_left
   ·intro w'
    go_simp
    with_reducible rfl
   rotate_left
   ·simp only [Act.put, List.setIfInBounds_toArray, List.set_cons_zero, List.set_cons_succ, i64_w, i32_w]
    rfl
   refine pure_ (i := 3) (N := some 12) (v := ?_) (a' := ?_) #[true, true, true, true, false, false, false, false, false, false, false] rfl rfl (any_of HT_.out (by kernel_rfl)) (fun _ _ _ h => h) (Or.inl ⟨by rfl, ?_⟩) ?_ ?_
   rotate_left
   ·intro w'
    go_simp
    with_reducible rfl
   rotate_left
   ·simp only [Act.put, List.setIfInBounds_toArray, List.set_cons_zero, List.set_cons_succ, i64_w, i32_w]
    rfl
   refine pure_ (i := 6) (N := some 15) (v := ?_) (a' := ?_) #[true, true, true, true, false, false, true, false, false, false, false] rfl rfl (any_of HT_.out (by kernel_rfl)) (fun _ _ _ h => h) (Or.inl ⟨by rfl, ?_⟩) ?_ ?_
   rotate_left
   ·intro w'
    go_simp
    with_reducible rfl
   rotate_left
   ·simp only [Act.put, List.setIfInBounds_toArray, List.set_cons_zero, List.set_cons_succ, i64_w, i32_w]
    rfl
   refine pure_ (i := 7) (N := some 16) (v := ?_) (a' := ?_) #[true, true, true, true, false, false, true, true, false, false, false] rfl rfl (any_of HT_.out (by kernel_rfl)) (fun _ _ _ h => h) (Or.inl ⟨by rfl, ?_⟩) ?_ ?_
   rotate_left
   ·intro w'
    go_simp
    with_reducible rfl
   rotate_left
   ·simp only [Act.put, List.setIfInBounds_toArray, List.set_cons_zero, List.set_cons_succ, i64_w, i32_w]
    rfl
   refine join_ (σ := Value) 2 #[true, true, true, true, true, true, true, true, true, false, false] (fun s_ => [(13, s_), (14, .string (strOfNums y125)), (17, .string t128)]) (fun s_ w' => (Kd.R (Kd.int .u8) 5 w' w.heap.size (fun _ => True) s_ y125) ∧ (Below w.heap.size w w')) ?_ ?_
   rotate_left
   ·intro hCont
    refine two_ (i := 4) (j := 8) (Ni := some 13) (Nj := some 17) #[true, true, true, true, true, false, true, true, false, false, false] #[true, true, true, true, false, false, true, true, true, false, false] rfl rfl rfl rfl (two_of HT_.out (by kernel_rfl)) (by decide) (by decide) (fun K hK => ?_) (fun K hK => ?_)
    ·skip
     refine Kd.R_lit_step (Kd.int .u8) _ 5 ?hg (N := 13) ?hd (xs := ([(IntKind.u64.wrap (128 + (Int.tmod a0 128))) % 256] : List Int)) (inner := [.int .u8 ((IntKind.u64.wrap (128 + (Int.tmod a0 128))) % 256)]) (ok := fun _ => True) (okp := fun _ => True) ?hr ?hp (fun _ hk => hk) trivial (Below.refl _ _) (Nat.le_refl _) (by simp) ?_; (case hd => rfl); (case hg => rfl); (case hr => first | (go_simp; done) | (go_simp; rfl)); (case hp => exact (Reps.one (show Kd.M (Kd.int .u8) _ _ _ ((IntKind.u64.wrap (128 + (Int.tmod a0 128))) % 256) [.int .u8 ((IntKind.u64.wrap (128 + (Int.tmod a0 128))) % 256)] from rfl) (Reps.none _ _)))
     intro v126 w9 ho10 hb hg_ hnew_
     clear hg_ hnew_
     (first | rw [← Ny125.out] at ho10 | (simp only [Int.reduceToNat] at ho10; rw [← Ny125.out] at ho10))
     have n0_ := Aside0.mk (Kd.R_lower ho10 (below_size (BB HB)))
     have n1_ := Aside0.mk (below_step (BB HB) hb)
     clear HB
     have HO127 := n0_
     have HB := n1_
     clear n0_ n1_
     clear hb ho10
     refine hK.out _ _ trivial (fun hHeld => ?_)
     clear hK K
     refine norm_ (a' := ?_) ?_ ?_
     rotate_left
     ·show Act.put _ (some 13) _ = _
      simp only [Act.put, List.setIfInBounds_toArray, List.set_cons_zero, List.set_cons_succ, i64_w, i32_w]
      rfl
     refine two_ (i := 5) (j := 8) (Ni := some 14) (Nj := some 17) #[true, true, true, true, true, true, true, true, false, false, false] #[true, true, true, true, true, false, true, true, true, false, false] rfl rfl rfl rfl (two_of HT_.out (by kernel_rfl)) (by decide) (by decide) (fun K hK => ?_) (fun K hK => ?_)
     ·skip
      have hcv11 := own_string (P := Tryd.prog) Tryd.underlying86 Tryd.underlying5 Tryd.underlying9 (Kd.own_of_R HO127.out)
      refine value_ (w1 := ?_) (v := ?_) (by rfl) rfl ?_ ?_
      rotate_left 2
      ·go_simp
       constructor
       ·rfl
       ·rfl
      clear hcv11
      refine hK.out _ _ trivial (fun hHeld => ?_)
      clear hK K
      refine norm_ (a' := ?_) ?_ ?_
      rotate_left
      ·show Act.put _ (some 14) _ = _
       simp only [Act.put, List.setIfInBounds_toArray, List.set_cons_zero, List.set_cons_succ, i64_w, i32_w]
       rfl
      refine one_ (i := 8) (N := some 17) #[true, true, true, true, true, true, true, true, true, false, false] rfl rfl (one_of HT_.out (by kernel_rfl)) (by decide) (fun K hK => ?_)
      refine goes_ Tryd.func55 (by kernel_rfl) rfl #[.int .u64 (IntKind.u64.wrap (Int.tdiv a0 128))] (by rfl) rfl rfl (by (try simp only [List.map_toArray, List.map_cons, List.map_nil]); first | done | rfl | (simp only [List.length_drop, List.length_take]; rfl)) ?_
      with_reducible refine (ih k (by omega) (IntKind.u64.wrap (Int.tdiv a0 128)) t128 _ A6.out).mono ?_
      rintro e w12 ⟨rfl, hb⟩
      refine ⟨_, rfl, ?_⟩
      have n0_ := Aside0.mk (Kd.R_below (RL HO127) hb)
      have n1_ := Aside0.mk (below_step (BB HB) hb)
      clear HO127
      clear HB
      have HO127 := n0_
      have HB := n1_
      clear n0_ n1_
      (try clear hb)
      (try clear hb2)
      (try clear hk)
      (try clear hi)
      refine hK.out _ _ trivial (fun hHeld => ?_)
      clear hK K
      refine norm_ (a' := ?_) ?_ ?_
      rotate_left
      ·show Act.put _ (some 17) _ = _
       simp only [Act.put, List.setIfInBounds_toArray, List.set_cons_zero, List.set_cons_succ, i64_w, i32_w]
       rfl
      exact norm_ (by simp only [putAll, Act.put, List.setIfInBounds_toArray, List.set_cons_zero, List.set_cons_succ]) (hCont (v126) _ ⟨(RL HO127), (BB HB)⟩)
     ·skip
      refine goes_ Tryd.func55 (by kernel_rfl) rfl #[.int .u64 (IntKind.u64.wrap (Int.tdiv a0 128))] (by rfl) rfl rfl (by (try simp only [List.map_toArray, List.map_cons, List.map_nil]); first | done | rfl | (simp only [List.length_drop, List.length_take]; rfl)) ?_
      with_reducible refine (ih k (by omega) (IntKind.u64.wrap (Int.tdiv a0 128)) t128 _ A6.out).mono ?_
      rintro e w11 ⟨rfl, hb⟩
      refine ⟨_, rfl, ?_⟩
      have n0_ := Aside0.mk (Kd.R_below (RL HO127) hb)
      have n1_ := Aside0.mk (below_step (BB HB) hb)
      clear HO127
      clear HB
      have HO127 := n0_
      have HB := n1_
      clear n0_ n1_
      (try clear hb)
      (try clear hb2)
      (try clear hk)
      (try clear hi)
      refine hK.out _ _ trivial (fun hHeld => ?_)
      clear hK K
      refine norm_ (a' := ?_) ?_ ?_
      rotate_left
      ·show Act.put _ (some 17) _ = _
       simp only [Act.put, List.setIfInBounds_toArray, List.set_cons_zero, List.set_cons_succ, i64_w, i32_w]
       rfl
      refine one_ (i := 5) (N := some 14) #[true, true, true, true, true, true, true, true, true, false, false] rfl rfl (one_of HT_.out (by kernel_rfl)) (by decide) (fun K hK => ?_)
      have hcv12 := own_string (P := Tryd.prog) Tryd.underlying86 Tryd.underlying5 Tryd.underlying9 (Kd.own_of_R HO127.out)
      refine value_ (w1 := ?_) (v := ?_) (by rfl) rfl ?_ ?_
      rotate_left 2
      ·go_simp
       constructor
       ·rfl
       ·rfl
      clear hcv12
      refine hK.out _ _ trivial (fun hHeld => ?_)
      clear hK K
      refine norm_ (a' := ?_) ?_ ?_
      rotate_left
      ·show Act.put _ (some 14) _ = _
       simp only [Act.put, List.setIfInBounds_toArray, List.set_cons_zero, List.set_cons_succ, i64_w, i32_w]
       rfl
      exact norm_ (by simp only [putAll, Act.put, List.setIfInBounds_toArray, List.set_cons_zero, List.set_cons_succ]) (hCont (v126) _ ⟨(RL HO127), (BB HB)⟩)
    ·skip
     refine goes_ Tryd.func55 (by kernel_rfl) rfl #[.int .u64 (IntKind.u64.wrap (Int.tdiv a0 128))] (by rfl) rfl rfl (by (try simp only [List.map_toArray, List.map_cons, List.map_nil]); first | done | rfl | (simp only [List.length_drop, List.length_take]; rfl)) ?_
     with_reducible refine (ih k (by omega) (IntKind.u64.wrap (Int.tdiv a0 128)) t128 _ A6.out).mono ?_
     rintro e w9 ⟨rfl, hb⟩
     refine ⟨_, rfl, ?_⟩
     have n0_ := Aside0.mk (below_step (BB HB) hb)
     clear HB
     have HB := n0_
     clear n0_
     (try clear hb)
     (try clear hb2)
     (try clear hk)
     (try clear hi)
     refine hK.out _ _ trivial (fun hHeld => ?_)
     clear hK K
     refine norm_ (a' := ?_) ?_ ?_
     rotate_left
     ·show Act.put _ (some 17) _ = _
      simp only [Act.put, List.setIfInBounds_toArray, List.set_cons_zero, List.set_cons_succ, i64_w, i32_w]
      rfl
     refine one_ (i := 4) (N := some 13) #[true, true, true, true, true, false, true, true, true, false, false] rfl rfl (one_of HT_.out (by kernel_rfl)) (by decide) (fun K hK => ?_)
     refine Kd.R_lit_step (Kd.int .u8) _ 5 ?hg (N := 13) ?hd (xs := ([(IntKind.u64.wrap (128 + (Int.tmod a0 128))) % 256] : List Int)) (inner := [.int .u8 ((IntKind.u64.wrap (128 + (Int.tmod a0 128))) % 256)]) (ok := fun _ => True) (okp := fun _ => True) ?hr ?hp (fun _ hk => hk) trivial (Below.refl _ _) (Nat.le_refl _) (by simp) ?_; (case hd => rfl); (case hg => rfl); (case hr => first | (go_simp; done) | (go_simp; rfl)); (case hp => exact (Reps.one (show Kd.M (Kd.int .u8) _ _ _ ((IntKind.u64.wrap (128 + (Int.tmod a0 128))) % 256) [.int .u8 ((IntKind.u64.wrap (128 + (Int.tmod a0 128))) % 256)] from rfl) (Reps.none _ _)))
     intro v126 w10 ho11 hb hg_ hnew_
     clear hg_ hnew_
     (first | rw [← Ny125.out] at ho11 | (simp only [Int.reduceToNat] at ho11; rw [← Ny125.out] at ho11))
     have n0_ := Aside0.mk (Kd.R_lower ho11 (below_size (BB HB)))
     have n1_ := Aside0.mk (below_step (BB HB) hb)
     clear HB
     have HO127 := n0_
     have HB := n1_
     clear n0_ n1_
     clear hb ho11
     refine hK.out _ _ trivial (fun hHeld => ?_)
     clear hK K
     refine norm_ (a' := ?_) ?_ ?_
     rotate_left
     ·show Act.put _ (some 13) _ = _
      simp only [Act.put, List.setIfInBounds_toArray, List.set_cons_zero, List.set_cons_succ, i64_w, i32_w]
      rfl
     refine one_ (i := 5) (N := some 14) #[true, true, true, true, true, true, true, true, true, false, false] rfl rfl (one_of HT_.out (by kernel_rfl)) (by decide) (fun K hK => ?_)
     have hcv12 := own_string (P := Tryd.prog) Tryd.underlying86 Tryd.underlying5 Tryd.underlying9 (Kd.own_of_R HO127.out)
     refine value_ (w1 := ?_) (v := ?_) (by rfl) rfl ?_ ?_
     rotate_left 2
     ·go_simp
      constructor
      ·rfl
      ·rfl
     clear hcv12
     refine hK.out _ _ trivial (fun hHeld => ?_)
     clear hK K
     refine norm_ (a' := ?_) ?_ ?_
     rotate_left
     ·show Act.put _ (some 14) _ = _
      simp only [Act.put, List.setIfInBounds_toArray, List.set_cons_zero, List.set_cons_succ, i64_w, i32_w]
      rfl
     exact norm_ (by simp only [putAll, Act.put, List.setIfInBounds_toArray, List.set_cons_zero, List.set_cons_succ]) (hCont (v126) _ ⟨(RL HO127), (BB HB)⟩)
   rintro v126 w13 ⟨h0_, h1_⟩
   have n0_ : Aside0 (Kd.R (Kd.int .u8) 5 w13 w.heap.size (fun _ => True) v126 y125) := ⟨h0_⟩
   have n1_ : Aside0 (Below w.heap.size w w13) := ⟨h1_⟩
   clear HB
   clear h0_ h1_
   have HO127 := n0_
   have HB := n1_
   clear n0_ n1_
   have hHeld := trivial
   refine norm_ (a' := ?_) ?_ ?_
   rotate_left
   ·simp only [putAll, Act.put, List.setIfInBounds_toArray, List.set_cons_zero, List.set_cons_succ]
    rfl
   refine pure_ (i := 9) (N := some 18) (v := ?_) (a' := ?_) #[true, true, true, true, true, true, true, true, true, true, false] rfl rfl (any_of HT_.out (by kernel_rfl)) (fun _ _ _ h => h) (Or.inl ⟨by rfl, ?_⟩) ?_ ?_
   rotate_left
   ·intro w'
    go_simp
    with_reducible rfl
   rotate_left
   ·simp only [Act.put, List.setIfInBounds_toArray, List.set_cons_zero, List.set_cons_succ, i64_w, i32_w]
    rfl
   refine pure_ (i := 10) (N := some 2) (v := ?_) (a' := ?_) #[true, true, true, true, true, true, true, true, true, true, true] rfl rfl (any_of HT_.out (by kernel_rfl)) (fun _ _ _ h => h) (Or.inl ⟨by rfl, ?_⟩) ?_ ?_
   rotate_left
   ·intro w'
    go_simp
    with_reducible rfl
   rotate_left
   ·simp only [Act.put, List.setIfInBounds_toArray, List.set_cons_zero, List.set_cons_succ, i64_w, i32_w]
    rfl
   refine done_ (done_of HT_.out (by kernel_rfl)) ?_
   try go_wp2
   go_ret
   exact ⟨by first | rfl | (simp [errW_none, errW_some] <;> rfl) | (simp [*, errW_none, errW_some] <;> rfl), BB HB⟩
  ·rw [if_neg c7] at H
   exact absurd H (by simp)

/-! ### dioramaref06_Put: function 38 -/
-- by hand


-- NOT PRINTED: function 8 (dioramalaw06_StrtabPuts)

/-! ### dioramaref05_Char: function 81 -/
def dioramaref05_Char.j0 : Nat → Int → Bool → Option (ByteArray)
 | 0, _, _ => none
 | k + 1, x0, x17 => if x17 = true then (some (⟨#[]⟩ : ByteArray)) else (if (wrap64 (x0)) < 128 then (some (strOfNums (([(wrap64 (x0)) % 256] : List Int)))) else (if (wrap64 (x0)) < 2048 then (some (strOfNums (([(wrap64 (192 + (wrap64 (Int.tdiv (wrap64 (x0)) 64)))) % 256, (wrap64 (128 + (Int.tmod (wrap64 (x0)) 64))) % 256] : List Int)))) else (if (wrap64 (x0)) < 65536 then (some (strOfNums (([(wrap64 (224 + (wrap64 (Int.tdiv (wrap64 (x0)) 4096)))) % 256, (wrap64 (128 + (Int.tmod (wrap64 (Int.tdiv (wrap64 (x0)) 64)) 64))) % 256, (wrap64 (128 + (Int.tmod (wrap64 (x0)) 64))) % 256] : List Int)))) else (some (strOfNums (([(wrap64 (240 + (wrap64 (Int.tdiv (wrap64 (x0)) 262144)))) % 256, (wrap64 (128 + (Int.tmod (wrap64 (Int.tdiv (wrap64 (x0)) 4096)) 64))) % 256, (wrap64 (128 + (Int.tmod (wrap64 (Int.tdiv (wrap64 (x0)) 64)) 64))) % 256, (wrap64 (128 + (Int.tmod (wrap64 (x0)) 64))) % 256] : List Int)))))))
def dioramaref05_Char.f (k : Nat) (a0 : Int) : Option (ByteArray) := if a0 < 0 then (dioramaref05_Char.j0 k a0 true) else (if a0 > 1114111 then (dioramaref05_Char.j0 k a0 true) else (if a0 ≥ 55296 then (dioramaref05_Char.j0 k a0 (decide (a0 ≤ 57343))) else (dioramaref05_Char.j0 k a0 false)))
theorem dioramaref05_Char.mono_l : ∀ k, (∀ y0 y1, LeO (dioramaref05_Char.j0 k y0 y1) (dioramaref05_Char.j0 (k + 1) y0 y1))
 | 0 => fun _ _ r h => by simp [dioramaref05_Char.j0] at h
 | k + 1 => by
  have ih0 := dioramaref05_Char.mono_l k
  ·intro y0 y1
   unfold dioramaref05_Char.j0
   repeat' first
   | (with_reducible exact ih0 _ _)
   | (with_reducible exact LeO.refl _)
   | (with_reducible exact LeO.none _)
   | (with_reducible refine LeO.ite ?_ ?_)
   | (with_reducible refine LeO.bind ?_ (fun _ => ?_))
   | exact ih0 _ _
   | exact LeO.none _
   | refine LeO.ite ?_ ?_
   | refine LeO.bind ?_ (fun _ => ?_)
theorem dioramaref05_Char.mono : ∀ a0 k, LeO (dioramaref05_Char.f k a0) (dioramaref05_Char.f (k + 1) a0) := by
 intro a0 k
 have ih0 := dioramaref05_Char.mono_l k
 unfold dioramaref05_Char.f
 repeat' first
   | (with_reducible exact ih0 _ _)
   | (with_reducible exact LeO.refl _)
   | (with_reducible exact LeO.none _)
   | (with_reducible refine LeO.ite ?_ ?_)
   | (with_reducible refine LeO.bind ?_ (fun _ => ?_))
   | exact ih0 _ _
   | exact LeO.none _
   | refine LeO.ite ?_ ?_
   | refine LeO.bind ?_ (fun _ => ?_)
set_option maxHeartbeats 8000000 in
set_option maxRecDepth 100000 in
theorem dioramaref05_Char.calls (k : Nat) (a0 : Int) (r : ByteArray) (w : World) (h : dioramaref05_Char.f k a0 = some r) :
  Calls Tryd.prog 81 #[.int .i32 a0] w fun e w' => e = .returned (.string r) ∧ Below w.heap.size w w' := by
 have HB := Aside0.mk (Below.refl w.heap.size w)
 have H : (if a0 < 0 then (dioramaref05_Char.j0 k a0 true) else (if a0 > 1114111 then (dioramaref05_Char.j0 k a0 true) else (if a0 ≥ 55296 then (dioramaref05_Char.j0 k a0 (decide (a0 ≤ 57343))) else (dioramaref05_Char.j0 k a0 false)))) = some r := h
 clear h
 have HC2 := Aside0.mk H
 clear H
 go_enter Tryd.func81, Tryd.ntmps81
 go_upto_region 1 with (fail)
 go_cut [17] (fun v17 wc => ∃ (kq : Nat) (x17_1 : Bool), v17 = .bool x17_1 ∧ Aside0 (dioramaref05_Char.j0 kq a0 x17_1 = some r) ∧ Aside0 (kq ≤ k) ∧ Aside0 (Below w.heap.size w wc))
 case first =>
  have H := HC2.out
  clear HC2
  by_cases c3 : a0 < 0
  ·rw [if_pos c3] at H
   have c3b0 : decide (a0 < 0) = true := decide_eq_true c3
   clear c3
   (first | rw [c3b0] | (simp only [i64_w, i32_w]; rw [c3b0]) | skip)
   have H' := Aside0.mk H
   clear H
   go_wp2
   go_meet
   case rel => exact ⟨_, (true), (by first | rfl | (simp; done) | (simp [*]; done)), H', ⟨by first | omega | exact Nat.le_refl _⟩, ⟨BB HB⟩⟩
  ·rw [if_neg c3] at H
   have c3b0 : decide (a0 < 0) = false := decide_eq_false c3
   clear c3
   (first | rw [c3b0] | (simp only [i64_w, i32_w]; rw [c3b0]) | skip)
   by_cases c4 : a0 > 1114111
   ·rw [if_pos c4] at H
    have c4b0 : decide (1114111 < a0) = true := decide_eq_true c4
    clear c4
    have H' := Aside0.mk H
    clear H
    go_wp2
    go_meet
    case rel => exact ⟨_, (true), (by first | rfl | (simp; done) | (simp [*]; done)), H', ⟨by first | omega | exact Nat.le_refl _⟩, ⟨BB HB⟩⟩
   ·rw [if_neg c4] at H
    have c4b0 : decide (1114111 < a0) = false := decide_eq_false c4
    clear c4
    by_cases c5 : a0 ≥ 55296
    ·rw [if_pos c5] at H
     have c5b0 : decide (55296 ≤ a0) = true := decide_eq_true c5
     clear c5
     have H' := Aside0.mk H
     clear H
     go_wp2
     go_meet
     case rel => exact ⟨_, (decide (a0 ≤ 57343)), (by first | rfl | (simp; done) | (simp [*]; done)), H', ⟨by first | omega | exact Nat.le_refl _⟩, ⟨BB HB⟩⟩
    ·rw [if_neg c5] at H
     have c5b0 : decide (55296 ≤ a0) = false := decide_eq_false c5
     clear c5
     have H' := Aside0.mk H
     clear H
     go_wp2
     go_meet
     case rel => exact ⟨_, (false), (by first | rfl | (simp; done) | (simp [*]; done)), H', ⟨by first | omega | exact Nat.le_refl _⟩, ⟨BB HB⟩⟩
 case rest =>
  clear HC2
  try clear p2
  try clear c3
  try clear c3b0
  try clear c4
  try clear c4b0
  try clear c5
  try clear c5b0
  obtain ⟨kq, x17_1, rfl, HA, HJ1, HB⟩ := hcut
  cases kq with
  | zero => exact absurd HA.out (by simp [dioramaref05_Char.j0])
  | succ kj1 =>
   have H := HA.out
   clear HA
   simp only [dioramaref05_Char.j0] at H
   by_cases c6 : x17_1 = true
   ·subst c6
    have H1 : (some (⟨#[]⟩ : ByteArray)) = some r := by rw [if_pos rfl] at H; exact H
    clear H
    have H := H1
    clear H1
    obtain rfl := Option.some.inj H
    go_wp2
    go_ret
    exact ⟨by first | rfl | (simp [errW_none, errW_some] <;> rfl) | (simp [*, errW_none, errW_some] <;> rfl), BB HB⟩
   ·replace c6 := Bool.eq_false_iff.mpr c6
    subst c6
    have H1 : (if (wrap64 (a0)) < 128 then (some (strOfNums (([(wrap64 (a0)) % 256] : List Int)))) else (if (wrap64 (a0)) < 2048 then (some (strOfNums (([(wrap64 (192 + (wrap64 (Int.tdiv (wrap64 (a0)) 64)))) % 256, (wrap64 (128 + (Int.tmod (wrap64 (a0)) 64))) % 256] : List Int)))) else (if (wrap64 (a0)) < 65536 then (some (strOfNums (([(wrap64 (224 + (wrap64 (Int.tdiv (wrap64 (a0)) 4096)))) % 256, (wrap64 (128 + (Int.tmod (wrap64 (Int.tdiv (wrap64 (a0)) 64)) 64))) % 256, (wrap64 (128 + (Int.tmod (wrap64 (a0)) 64))) % 256] : List Int)))) else (some (strOfNums (([(wrap64 (240 + (wrap64 (Int.tdiv (wrap64 (a0)) 262144)))) % 256, (wrap64 (128 + (Int.tmod (wrap64 (Int.tdiv (wrap64 (a0)) 4096)) 64))) % 256, (wrap64 (128 + (Int.tmod (wrap64 (Int.tdiv (wrap64 (a0)) 64)) 64))) % 256, (wrap64 (128 + (Int.tmod (wrap64 (a0)) 64))) % 256] : List Int))))))) = some r := by rw [if_neg (show ¬ (false = true) by decide)] at H; exact H
    clear H
    have H := H1
    clear H1
    by_cases c7 : (wrap64 (a0)) < 128
    ·rw [if_pos c7] at H
     have c7b0 : decide ((wrap64 (a0)) < 128) = true := decide_eq_true c7
     clear c7
     obtain ⟨y129, hy129⟩ : ∃ y_ : List Int, y_ = (([(wrap64 (a0)) % 256] : List Int)) := ⟨_, rfl⟩
     replace H : (some (strOfNums y129)) = some r := by first | (rw [hy129]; with_reducible exact H) | (have H2_ := (Option.bind_some _ _).symm.trans H; rw [hy129]; with_reducible exact H2_) | (have H2_ := (Option.bind_some _ _).symm.trans H; with_reducible exact H2_) | with_reducible exact H | (rw [hy129]; exact H) | exact H
     have Ny129 := Aside0.mk hy129
     clear hy129
     obtain rfl := Option.some.inj H
     go_wp2_with (first | ((with_reducible refine gate_dst (N := 24) rfl ?_); refine Kd.R_lit (Kd.int .u8) _ 5 ?hg (N := 24) ?hd (xs := ([(wrap64 (a0)) % 256] : List Int)) (inner := [.int .u8 ((wrap64 (a0)) % 256)]) (ok := fun _ => True) (okp := fun _ => True) ?hr ?hp (fun _ hk => hk) trivial (Below.refl _ _) (Nat.le_refl _) (by simp) ?_; (case hd => rfl); (case hg => rfl); (case hr => first | (go_simp; done) | (go_simp; rfl)); (case hp => exact (Reps.one (show Kd.M (Kd.int .u8) _ _ _ ((wrap64 (a0)) % 256) [.int .u8 ((wrap64 (a0)) % 256)] from rfl) (Reps.none _ _))); intro v130 w8 ho9 hb hg_ hnew_; clear hg_ hnew_; (first | rw [← Ny129.out] at ho9 | (simp only [Int.reduceToNat] at ho9; rw [← Ny129.out] at ho9)); have n0_ := Aside0.mk (Kd.R_lower ho9 (below_size (BB HB))); have n1_ := Aside0.mk (below_step (BB HB) hb); clear HB; have HO131 := n0_; have HB := n1_; clear n0_ n1_; clear hb ho9; have hcv10 := own_string (P := Tryd.prog) Tryd.underlying86 Tryd.underlying5 Tryd.underlying9 (Kd.own_of_R HO131.out)))
     go_ret
     exact ⟨by first | rfl | (simp [errW_none, errW_some] <;> rfl) | (simp [*, errW_none, errW_some] <;> rfl), BB HB⟩
    ·rw [if_neg c7] at H
     have c7b0 : decide ((wrap64 (a0)) < 128) = false := decide_eq_false c7
     clear c7
     by_cases c11 : (wrap64 (a0)) < 2048
     ·rw [if_pos c11] at H
      have c11b0 : decide ((wrap64 (a0)) < 2048) = true := decide_eq_true c11
      clear c11
      obtain ⟨y132, hy132⟩ : ∃ y_ : List Int, y_ = (([(wrap64 (192 + (wrap64 (Int.tdiv (wrap64 (a0)) 64)))) % 256, (wrap64 (128 + (Int.tmod (wrap64 (a0)) 64))) % 256] : List Int)) := ⟨_, rfl⟩
      replace H : (some (strOfNums y132)) = some r := by first | (rw [hy132]; with_reducible exact H) | (have H2_ := (Option.bind_some _ _).symm.trans H; rw [hy132]; with_reducible exact H2_) | (have H2_ := (Option.bind_some _ _).symm.trans H; with_reducible exact H2_) | with_reducible exact H | (rw [hy132]; exact H) | exact H
      have Ny132 := Aside0.mk hy132
      clear hy132
      obtain rfl := Option.some.inj H
      go_wp2_with (first | ((with_reducible refine gate_dst (N := 36) rfl ?_); refine Kd.R_lit (Kd.int .u8) _ 5 ?hg (N := 36) ?hd (xs := ([(wrap64 (192 + (wrap64 (Int.tdiv (wrap64 (a0)) 64)))) % 256, (wrap64 (128 + (Int.tmod (wrap64 (a0)) 64))) % 256] : List Int)) (inner := [.int .u8 ((wrap64 (192 + (wrap64 (Int.tdiv (wrap64 (a0)) 64)))) % 256), .int .u8 ((wrap64 (128 + (Int.tmod (wrap64 (a0)) 64))) % 256)]) (ok := fun _ => True) (okp := fun _ => True) ?hr ?hp (fun _ hk => hk) trivial (Below.refl _ _) (Nat.le_refl _) (by simp) ?_; (case hd => rfl); (case hg => rfl); (case hr => first | (go_simp; done) | (go_simp; rfl)); (case hp => exact (Reps.one (show Kd.M (Kd.int .u8) _ _ _ ((wrap64 (192 + (wrap64 (Int.tdiv (wrap64 (a0)) 64)))) % 256) [.int .u8 ((wrap64 (192 + (wrap64 (Int.tdiv (wrap64 (a0)) 64)))) % 256)] from rfl) (Reps.one (show Kd.M (Kd.int .u8) _ _ _ ((wrap64 (128 + (Int.tmod (wrap64 (a0)) 64))) % 256) [.int .u8 ((wrap64 (128 + (Int.tmod (wrap64 (a0)) 64))) % 256)] from rfl) (Reps.none _ _)))); intro v133 w12 ho13 hb hg_ hnew_; clear hg_ hnew_; (first | rw [← Ny132.out] at ho13 | (simp only [Int.reduceToNat] at ho13; rw [← Ny132.out] at ho13)); have n0_ := Aside0.mk (Kd.R_lower ho13 (below_size (BB HB))); have n1_ := Aside0.mk (below_step (BB HB) hb); clear HB; have HO134 := n0_; have HB := n1_; clear n0_ n1_; clear hb ho13; have hcv14 := own_string (P := Tryd.prog) Tryd.underlying86 Tryd.underlying5 Tryd.underlying9 (Kd.own_of_R HO134.out)))
      go_ret
      exact ⟨by first | rfl | (simp [errW_none, errW_some] <;> rfl) | (simp [*, errW_none, errW_some] <;> rfl), BB HB⟩
     ·rw [if_neg c11] at H
      have c11b0 : decide ((wrap64 (a0)) < 2048) = false := decide_eq_false c11
      clear c11
      by_cases c15 : (wrap64 (a0)) < 65536
      ·rw [if_pos c15] at H
       have c15b0 : decide ((wrap64 (a0)) < 65536) = true := decide_eq_true c15
       clear c15
       obtain ⟨y135, hy135⟩ : ∃ y_ : List Int, y_ = (([(wrap64 (224 + (wrap64 (Int.tdiv (wrap64 (a0)) 4096)))) % 256, (wrap64 (128 + (Int.tmod (wrap64 (Int.tdiv (wrap64 (a0)) 64)) 64))) % 256, (wrap64 (128 + (Int.tmod (wrap64 (a0)) 64))) % 256] : List Int)) := ⟨_, rfl⟩
       replace H : (some (strOfNums y135)) = some r := by first | (rw [hy135]; with_reducible exact H) | (have H2_ := (Option.bind_some _ _).symm.trans H; rw [hy135]; with_reducible exact H2_) | (have H2_ := (Option.bind_some _ _).symm.trans H; with_reducible exact H2_) | with_reducible exact H | (rw [hy135]; exact H) | exact H
       have Ny135 := Aside0.mk hy135
       clear hy135
       obtain rfl := Option.some.inj H
       go_wp2_with (first | ((with_reducible refine gate_dst (N := 53) rfl ?_); refine Kd.R_lit (Kd.int .u8) _ 5 ?hg (N := 53) ?hd (xs := ([(wrap64 (224 + (wrap64 (Int.tdiv (wrap64 (a0)) 4096)))) % 256, (wrap64 (128 + (Int.tmod (wrap64 (Int.tdiv (wrap64 (a0)) 64)) 64))) % 256, (wrap64 (128 + (Int.tmod (wrap64 (a0)) 64))) % 256] : List Int)) (inner := [.int .u8 ((wrap64 (224 + (wrap64 (Int.tdiv (wrap64 (a0)) 4096)))) % 256), .int .u8 ((wrap64 (128 + (Int.tmod (wrap64 (Int.tdiv (wrap64 (a0)) 64)) 64))) % 256), .int .u8 ((wrap64 (128 + (Int.tmod (wrap64 (a0)) 64))) % 256)]) (ok := fun _ => True) (okp := fun _ => True) ?hr ?hp (fun _ hk => hk) trivial (Below.refl _ _) (Nat.le_refl _) (by simp) ?_; (case hd => rfl); (case hg => rfl); (case hr => first | (go_simp; done) | (go_simp; rfl)); (case hp => exact (Reps.one (show Kd.M (Kd.int .u8) _ _ _ ((wrap64 (224 + (wrap64 (Int.tdiv (wrap64 (a0)) 4096)))) % 256) [.int .u8 ((wrap64 (224 + (wrap64 (Int.tdiv (wrap64 (a0)) 4096)))) % 256)] from rfl) (Reps.one (show Kd.M (Kd.int .u8) _ _ _ ((wrap64 (128 + (Int.tmod (wrap64 (Int.tdiv (wrap64 (a0)) 64)) 64))) % 256) [.int .u8 ((wrap64 (128 + (Int.tmod (wrap64 (Int.tdiv (wrap64 (a0)) 64)) 64))) % 256)] from rfl) (Reps.one (show Kd.M (Kd.int .u8) _ _ _ ((wrap64 (128 + (Int.tmod (wrap64 (a0)) 64))) % 256) [.int .u8 ((wrap64 (128 + (Int.tmod (wrap64 (a0)) 64))) % 256)] from rfl) (Reps.none _ _))))); intro v136 w16 ho17 hb hg_ hnew_; clear hg_ hnew_; (first | rw [← Ny135.out] at ho17 | (simp only [Int.reduceToNat] at ho17; rw [← Ny135.out] at ho17)); have n0_ := Aside0.mk (Kd.R_lower ho17 (below_size (BB HB))); have n1_ := Aside0.mk (below_step (BB HB) hb); clear HB; have HO137 := n0_; have HB := n1_; clear n0_ n1_; clear hb ho17; have hcv18 := own_string (P := Tryd.prog) Tryd.underlying86 Tryd.underlying5 Tryd.underlying9 (Kd.own_of_R HO137.out)))
       go_ret
       exact ⟨by first | rfl | (simp [errW_none, errW_some] <;> rfl) | (simp [*, errW_none, errW_some] <;> rfl), BB HB⟩
      ·rw [if_neg c15] at H
       have c15b0 : decide ((wrap64 (a0)) < 65536) = false := decide_eq_false c15
       clear c15
       obtain ⟨y138, hy138⟩ : ∃ y_ : List Int, y_ = (([(wrap64 (240 + (wrap64 (Int.tdiv (wrap64 (a0)) 262144)))) % 256, (wrap64 (128 + (Int.tmod (wrap64 (Int.tdiv (wrap64 (a0)) 4096)) 64))) % 256, (wrap64 (128 + (Int.tmod (wrap64 (Int.tdiv (wrap64 (a0)) 64)) 64))) % 256, (wrap64 (128 + (Int.tmod (wrap64 (a0)) 64))) % 256] : List Int)) := ⟨_, rfl⟩
       replace H : (some (strOfNums y138)) = some r := by first | (rw [hy138]; with_reducible exact H) | (have H2_ := (Option.bind_some _ _).symm.trans H; rw [hy138]; with_reducible exact H2_) | (have H2_ := (Option.bind_some _ _).symm.trans H; with_reducible exact H2_) | with_reducible exact H | (rw [hy138]; exact H) | exact H
       have Ny138 := Aside0.mk hy138
       clear hy138
       obtain rfl := Option.some.inj H
       go_wp2_with (first | ((with_reducible refine gate_dst (N := 73) rfl ?_); refine Kd.R_lit (Kd.int .u8) _ 5 ?hg (N := 73) ?hd (xs := ([(wrap64 (240 + (wrap64 (Int.tdiv (wrap64 (a0)) 262144)))) % 256, (wrap64 (128 + (Int.tmod (wrap64 (Int.tdiv (wrap64 (a0)) 4096)) 64))) % 256, (wrap64 (128 + (Int.tmod (wrap64 (Int.tdiv (wrap64 (a0)) 64)) 64))) % 256, (wrap64 (128 + (Int.tmod (wrap64 (a0)) 64))) % 256] : List Int)) (inner := [.int .u8 ((wrap64 (240 + (wrap64 (Int.tdiv (wrap64 (a0)) 262144)))) % 256), .int .u8 ((wrap64 (128 + (Int.tmod (wrap64 (Int.tdiv (wrap64 (a0)) 4096)) 64))) % 256), .int .u8 ((wrap64 (128 + (Int.tmod (wrap64 (Int.tdiv (wrap64 (a0)) 64)) 64))) % 256), .int .u8 ((wrap64 (128 + (Int.tmod (wrap64 (a0)) 64))) % 256)]) (ok := fun _ => True) (okp := fun _ => True) ?hr ?hp (fun _ hk => hk) trivial (Below.refl _ _) (Nat.le_refl _) (by simp) ?_; (case hd => rfl); (case hg => rfl); (case hr => first | (go_simp; done) | (go_simp; rfl)); (case hp => exact (Reps.one (show Kd.M (Kd.int .u8) _ _ _ ((wrap64 (240 + (wrap64 (Int.tdiv (wrap64 (a0)) 262144)))) % 256) [.int .u8 ((wrap64 (240 + (wrap64 (Int.tdiv (wrap64 (a0)) 262144)))) % 256)] from rfl) (Reps.one (show Kd.M (Kd.int .u8) _ _ _ ((wrap64 (128 + (Int.tmod (wrap64 (Int.tdiv (wrap64 (a0)) 4096)) 64))) % 256) [.int .u8 ((wrap64 (128 + (Int.tmod (wrap64 (Int.tdiv (wrap64 (a0)) 4096)) 64))) % 256)] from rfl) (Reps.one (show Kd.M (Kd.int .u8) _ _ _ ((wrap64 (128 + (Int.tmod (wrap64 (Int.tdiv (wrap64 (a0)) 64)) 64))) % 256) [.int .u8 ((wrap64 (128 + (Int.tmod (wrap64 (Int.tdiv (wrap64 (a0)) 64)) 64))) % 256)] from rfl) (Reps.one (show Kd.M (Kd.int .u8) _ _ _ ((wrap64 (128 + (Int.tmod (wrap64 (a0)) 64))) % 256) [.int .u8 ((wrap64 (128 + (Int.tmod (wrap64 (a0)) 64))) % 256)] from rfl) (Reps.none _ _)))))); intro v139 w19 ho20 hb hg_ hnew_; clear hg_ hnew_; (first | rw [← Ny138.out] at ho20 | (simp only [Int.reduceToNat] at ho20; rw [← Ny138.out] at ho20)); have n0_ := Aside0.mk (Kd.R_lower ho20 (below_size (BB HB))); have n1_ := Aside0.mk (below_step (BB HB) hb); clear HB; have HO140 := n0_; have HB := n1_; clear n0_ n1_; clear hb ho20; have hcv21 := own_string (P := Tryd.prog) Tryd.underlying86 Tryd.underlying5 Tryd.underlying9 (Kd.own_of_R HO140.out)))
       go_ret
       exact ⟨by first | rfl | (simp [errW_none, errW_some] <;> rfl) | (simp [*, errW_none, errW_some] <;> rfl), BB HB⟩

end Go.Proofs.YtmglknchklgokaaDoor.GS
