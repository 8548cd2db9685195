-- Printed by a program of the session (wip/gen/tprint.py, over a turned copy of the kit's print): Lean checks it.
import Derived.Test.YtcphcaiiofeflaaDoorLcGLx0
import Derived.Test.YtcphcaiiofeflaaDoorLcGLx1
import Derived.Test.YtcphcaiiofeflaaDoorLcGLx7
import Derived.Test.YtcphcaiiofeflaaDoorLcGLx8
import Derived.Test.YtcphcaiiofeflaaDoorLcGLx10
import Derived.Test.YtcphcaiiofeflaaDoorLcGLx14
import Derived.Test.YtcphcaiiofeflaaDoorLcGLx21
namespace Go.Proofs.YtcphcaiiofeflaaDoor.GL
open Go.RowKit Go.Proofs.YtcphcaiiofeflaaDoorW.PrintWords Go.Proofs.YtcphcaiiofeflaaDoorW.PrintLast Go.Proofs.YtcphcaiiofeflaaDoorW.PrintMore
attribute [local go_sem] max2_int min2_int max_two min_two max_three min_three max_four min_four   -- for this text's walks alone
set_option linter.unusedVariables false
set_option linter.unusedSimpArgs false

attribute [local go_sem high] eqA26
/-! ### dioramalaw12_LimitCanon: function 7 -/
def dioramalaw12_LimitCanon.j0 : Nat → Bool → List (S53) → Int → Int → Int → Int → Int → Int → Option (Bool)
 | 0, _, _, _, _, _, _, _, _ => none
 | k + 1, x21, x409000, x409001, x410000, x410001, x410002, x410003, x410004 => if x21 = true then ((dioramalaw12_awake.f k).bind fun t413 => (some t413)) else ((canon_Canon.f k x409000 x409001).bind fun bt414 => ((limit_Valid.f k x409000 x409001 x410000 x410001 x410002 x410003 x410004).bind fun bt420 => ((limit_Valid.f k bt414.1 bt414.2.1 x410000 x410001 x410002 x410003 x410004).bind fun bt422 => (if bt414.2.2 = 0 then ((limit_Measure.f k bt414.1 bt414.2.1).bind fun bt424 => ((limit_Measure.f k x409000 x409001).bind fun bt429 => (if (bt424.1 == bt429.1 && (bt424.2.1 == bt429.2.1 && (bt424.2.2.1 == bt429.2.2.1 && (bt424.2.2.2.1 == bt429.2.2.2.1 && (bt424.2.2.2.2 == bt429.2.2.2.2))))) = true then (if ((bt420.1 == 0) == (bt422.1 == 0)) = true then (some ((bt420.1 == 19) == (bt422.1 == 19))) else (some false)) else (some false)))) else (some false)))))
def dioramalaw12_LimitCanon.f (k : Nat) (l0_0 : List (S53)) (a0_1 : Int) (a1_0 : Int) (a1_1 : Int) (a1_2 : Int) (a1_3 : Int) (a1_4 : Int) : Option (Bool) := (dioramalaw12_awake.f k).bind fun t410 => (if t410 = true then ((dioramaref09_Great.f k l0_0 a0_1).bind fun t411 => (if t411 = true then (dioramalaw12_LimitCanon.j0 k true l0_0 a0_1 a1_0 a1_1 a1_2 a1_3 a1_4) else ((dioramaref09_Right.f k l0_0 a0_1).bind fun t412 => (dioramalaw12_LimitCanon.j0 k (!t412) l0_0 a0_1 a1_0 a1_1 a1_2 a1_3 a1_4)))) else (dioramalaw12_LimitCanon.j0 k true l0_0 a0_1 a1_0 a1_1 a1_2 a1_3 a1_4))
def dioramalaw12_LimitCanon.T6 : Bool × List (List Nat × List Nat) := (true, [([], []), ([0], [0]), ([1], [1]), ([2], [2]), ([3, 2, 2], [2, 3]), ([2], [2]), ([5, 4, 2], [2, 5]), ([4, 6, 2], [2, 4, 6]), ([2, 7], [2, 7]), ([8, 6], [8]), ([9], [9]), ([10, 9], [9, 10]), ([9], [9]), ([12, 9], [9, 12]), ([11, 13, 9], [9, 11, 13]), ([9, 14], [9, 14]), ([15, 9], [15]), ([16], [16]), ([17, 16], [16, 17]), ([16], [16]), ([19, 16], [16, 19]), ([18, 20, 16], [16, 18, 20]), ([16, 21], [16, 21]), ([22, 16, 0, 1, 2, 3, 4, 5, 6, 7, 8, 9, 10, 11, 12, 13, 14, 15, 16, 17, 18, 19, 20, 21, 22], [22])])
def dioramalaw12_LimitCanon.B6 : List Nat := [0, 1, 3, 7, 15, 7, 63, 127, 255, 511, 1023, 2047, 1023, 5119, 16383, 32767, 65535, 131071, 262143, 131071, 655359, 2097151, 4194303, 8388607]
theorem dioramalaw12_LimitCanon.tab6 : rtab .any (opsOf Tryd.f7 6) = dioramalaw12_LimitCanon.T6 := by kernel_rfl
theorem dioramalaw12_LimitCanon.bits6 : waitsOk dioramalaw12_LimitCanon.T6.2 dioramalaw12_LimitCanon.B6 = true := by kernel_rfl
set_option maxHeartbeats 8000000 in
set_option maxRecDepth 100000 in
theorem dioramalaw12_LimitCanon.calls (k : Nat) (A0_0 : Option Addr) (c0_0 : Nat) (l0_0 : List (S53)) (a0_1 : Int) (a1_0 : Int) (a1_1 : Int) (a1_2 : Int) (a1_3 : Int) (a1_4 : Int) (r : Bool) (w : World) (ht_ : ∀ w', Below w.heap.size w w' → Go.Lib.Utf8Tabs 0 1 w') (hr0_0 : Kd.C k53 w A0_0 l0_0.length l0_0) (hc0_0 : l0_0.length ≤ c0_0) (h : dioramalaw12_LimitCanon.f k l0_0 a0_1 a1_0 a1_1 a1_2 a1_3 a1_4 = some r) :
  Calls Tryd.prog 7 #[.agg #[.slice A0_0 l0_0.length c0_0, .int .i64 a0_1], .agg #[.int .i64 a1_0, .int .i64 a1_1, .int .i64 a1_2, .int .i64 a1_3, .int .i64 a1_4]] w fun e w' => e = .returned (.bool r) ∧ Below w.heap.size w w' := by
 have HTB_ := AM ht_; clear ht_; have hu24 := Tryd.underlying24; have hu26 := Tryd.underlying26; have HR0_0 := AM hr0_0; have HC0_0 := AM hc0_0; clear hr0_0 hc0_0; have HB := AM (Below.refl w.heap.size w); have H : ((dioramalaw12_awake.f k).bind fun t410 => (if t410 = true then ((dioramaref09_Great.f k l0_0 a0_1).bind fun t411 => (if t411 = true then (dioramalaw12_LimitCanon.j0 k true l0_0 a0_1 a1_0 a1_1 a1_2 a1_3 a1_4) else ((dioramaref09_Right.f k l0_0 a0_1).bind fun t412 => (dioramalaw12_LimitCanon.j0 k (!t412) l0_0 a0_1 a1_0 a1_1 a1_2 a1_3 a1_4)))) else (dioramalaw12_LimitCanon.j0 k true l0_0 a0_1 a1_0 a1_1 a1_2 a1_3 a1_4))) = some r := h
 clear h; have HC3 := AM H; clear H; go_enter Tryd.func7, Tryd.ntmps7
 go_upto_region 1 with (first | ((with_reducible refine gate_dst (N := 2) rfl ?_); refine box_event ?hg (N := 2) ?hd (cs := #[.slice A0_0 l0_0.length c0_0, .int .i64 a0_1]) (t := 24) ?hr ?_; (case hd => rfl); (case hg => rfl); (case hr => first | (go_simp; done) | (go_simp; rfl)); intro gb408 hg w4 hbox hb; have BK408 := AM (hbox); have GW408 := GW HB hg; have GE408 := GW HB hg; replace HB := BS HB hb; clear hb hbox hg) | ((with_reducible refine gate_dst (N := 3) rfl ?_); refine box_event ?hg (N := 3) ?hd (cs := #[.int .i64 a1_0, .int .i64 a1_1, .int .i64 a1_2, .int .i64 a1_3, .int .i64 a1_4]) (t := 26) ?hr ?_; (case hd => rfl); (case hg => rfl); (case hr => first | (go_simp; done) | (go_simp; rfl)); intro gb409 hg w5 hbox hb; have BK409 := AM (hbox); have GW409 := GW HB hg; have GE409 := GW HB hg; replace HB := BS HB hb; have NB408_409 := NL BK408 hg; have NB409_408 := NG BK408 hg; replace BK408 := BE BK408 hb; clear hb hbox hg))
 (try simp only [Act.put, List.setIfInBounds_toArray, List.set_cons_zero, List.set_cons_succ])
 go_cut [21] (fun v21 wc => ∃ (kq : Nat) (x21_2 : Bool), v21 = .bool x21_2 ∧ Aside0 (dioramalaw12_LimitCanon.j0 kq x21_2 l0_0 a0_1 a1_0 a1_1 a1_2 a1_3 a1_4 = some r) ∧ Aside0 (kq ≤ k) ∧ Aside0 (wc.heap[gb408]? = some (.cells #[(.slice A0_0 l0_0.length c0_0), .int .i64 a0_1] 24 (0, 0))) ∧ Aside0 (wc.heap[gb409]? = some (.cells #[.int .i64 a1_0, .int .i64 a1_1, .int .i64 a1_2, .int .i64 a1_3, .int .i64 a1_4] 26 (0, 0))) ∧ Aside0 (Below w.heap.size w wc))
 case first =>
  have H := HC3.out; clear HC3; replace H := Option.bind_eq_some_iff.mp H; obtain ⟨t410, A60, H⟩ := H; replace H : (if t410 = true then ((dioramaref09_Great.f k l0_0 a0_1).bind fun t411 => (if t411 = true then (dioramalaw12_LimitCanon.j0 k true l0_0 a0_1 a1_0 a1_1 a1_2 a1_3 a1_4) else ((dioramaref09_Right.f k l0_0 a0_1).bind fun t412 => (dioramalaw12_LimitCanon.j0 k (!t412) l0_0 a0_1 a1_0 a1_1 a1_2 a1_3 a1_4)))) else (dioramalaw12_LimitCanon.j0 k true l0_0 a0_1 a1_0 a1_1 a1_2 a1_3 a1_4)) = some r := H
  have A6 := AM A60; clear A60; by_cases c7 : t410 = true
  ·subst c7; have H1 : ((dioramaref09_Great.f k l0_0 a0_1).bind fun t411 => (if t411 = true then (dioramalaw12_LimitCanon.j0 k true l0_0 a0_1 a1_0 a1_1 a1_2 a1_3 a1_4) else ((dioramaref09_Right.f k l0_0 a0_1).bind fun t412 => (dioramalaw12_LimitCanon.j0 k (!t412) l0_0 a0_1 a1_0 a1_1 a1_2 a1_3 a1_4)))) = some r := by rw [if_pos rfl] at H; exact H
   clear H; have H := H1; clear H1; replace H := Option.bind_eq_some_iff.mp H; obtain ⟨t411, A80, H⟩ := H; replace H : (if t411 = true then (dioramalaw12_LimitCanon.j0 k true l0_0 a0_1 a1_0 a1_1 a1_2 a1_3 a1_4) else ((dioramaref09_Right.f k l0_0 a0_1).bind fun t412 => (dioramalaw12_LimitCanon.j0 k (!t412) l0_0 a0_1 a1_0 a1_1 a1_2 a1_3 a1_4))) = some r := H
   have A8 := AM A80; clear A80; by_cases c9 : t411 = true
   ·subst c9; have H1 : (dioramalaw12_LimitCanon.j0 k true l0_0 a0_1 a1_0 a1_1 a1_2 a1_3 a1_4) = some r := by rw [if_pos rfl] at H; exact H
    clear H; have H := H1; clear H1; have H' := AM H; clear H; go_wp2_with (first | ((with_reducible refine gate_callee (f := 13) rfl ?_); refine goesM_ (some 11) rfl rfl Tryd.func13 #[] rfl ?_; (with_reducible refine (dioramalaw12_awake.calls k  true _ (fun w_ hb_ => HTB_.out w_ (below_step (BB HB) hb_)) A6.out).mono ?_); rintro e w10 ⟨rfl, hb⟩; refine ⟨_, rfl, ?_⟩; replace BK408 := BE BK408 hb; replace BK409 := BE BK409 hb; replace HB := BS HB hb; (try clear hb); (try clear hb2); (try clear hk); (try clear hi); have hnb11 := NB408_409.out; have hnc11 := NB409_408.out; have hcz12_0 := BC BK408 0 (.slice A0_0 l0_0.length c0_0) rfl; have hcz12_1 := BC BK408 1 (.int .i64 a0_1) rfl; have hfz12_0 := BF BK408 0; have hfz12_1 := BF BK408 1) | (go_at_call 14; (with_reducible refine (dioramaref09_Great.calls k _ _ l0_0 a0_1 true _ ?side1 ?side2 A8.out).mono ?_); (case side1 => exact Kd.C_below HR0_0.out (BB HB)); (case side2 => exact HC0_0.out); rintro e w13 ⟨rfl, hb⟩; replace BK408 := BE BK408 hb; replace BK409 := BE BK409 hb; replace HB := BS HB hb; (try clear hb); (try clear hb2); (try clear hk); (try clear hi)))
    go_meet
    case rel => exact ⟨_, (true), (by first | rfl | (simp; done) | (simp [*]; done)), H', ⟨by first | omega | exact Nat.le_refl _⟩, ⟨BL BK408⟩, ⟨BL BK409⟩, ⟨BB HB⟩⟩
   ·replace c9 := Bool.eq_false_iff.mpr c9; subst c9; have H1 : ((dioramaref09_Right.f k l0_0 a0_1).bind fun t412 => (dioramalaw12_LimitCanon.j0 k (!t412) l0_0 a0_1 a1_0 a1_1 a1_2 a1_3 a1_4)) = some r := by rw [if_neg (show ¬ (false = true) by decide)] at H; exact H
    clear H; have H := H1; clear H1; replace H := Option.bind_eq_some_iff.mp H; obtain ⟨t412, A140, H⟩ := H; replace H : (dioramalaw12_LimitCanon.j0 k (!t412) l0_0 a0_1 a1_0 a1_1 a1_2 a1_3 a1_4) = some r := H; have A14 := AM A140; clear A140; have H' := AM H; clear H; go_wp2_with (first | ((with_reducible refine gate_callee (f := 13) rfl ?_); refine goesM_ (some 11) rfl rfl Tryd.func13 #[] rfl ?_; (with_reducible refine (dioramalaw12_awake.calls k  true _ (fun w_ hb_ => HTB_.out w_ (below_step (BB HB) hb_)) A6.out).mono ?_); rintro e w15 ⟨rfl, hb⟩; refine ⟨_, rfl, ?_⟩; replace BK408 := BE BK408 hb; replace BK409 := BE BK409 hb; replace HB := BS HB hb; (try clear hb); (try clear hb2); (try clear hk); (try clear hi); have hnb16 := NB408_409.out; have hnc16 := NB409_408.out; have hcz17_0 := BC BK408 0 (.slice A0_0 l0_0.length c0_0) rfl; have hcz17_1 := BC BK408 1 (.int .i64 a0_1) rfl; have hfz17_0 := BF BK408 0; have hfz17_1 := BF BK408 1) | (go_at_call 14; (with_reducible refine (dioramaref09_Great.calls k _ _ l0_0 a0_1 false _ ?side1 ?side2 A8.out).mono ?_); (case side1 => exact Kd.C_below HR0_0.out (BB HB)); (case side2 => exact HC0_0.out); rintro e w18 ⟨rfl, hb⟩; replace BK408 := BE BK408 hb; replace BK409 := BE BK409 hb; replace HB := BS HB hb; (try clear hb); (try clear hb2); (try clear hk); (try clear hi); have hcz19_0 := BC BK408 0 (.slice A0_0 l0_0.length c0_0) rfl; have hcz19_1 := BC BK408 1 (.int .i64 a0_1) rfl; have hfz19_0 := BF BK408 0; have hfz19_1 := BF BK408 1) | (go_at_call 26; (with_reducible refine (dioramaref09_Right.calls k _ _ l0_0 a0_1 t412 _ ?side1 ?side2 A14.out).mono ?_); (case side1 => exact Kd.C_below HR0_0.out (BB HB)); (case side2 => exact HC0_0.out); rintro e w20 ⟨rfl, hb⟩; replace BK408 := BE BK408 hb; replace BK409 := BE BK409 hb; replace HB := BS HB hb; (try clear hb); (try clear hb2); (try clear hk); (try clear hi)))
    go_meet
    case rel => exact ⟨_, (!t412), (by first | rfl | (simp; done) | (simp [*]; done)), H', ⟨by first | omega | exact Nat.le_refl _⟩, ⟨BL BK408⟩, ⟨BL BK409⟩, ⟨BB HB⟩⟩
  ·replace c7 := Bool.eq_false_iff.mpr c7; subst c7; have H1 : (dioramalaw12_LimitCanon.j0 k true l0_0 a0_1 a1_0 a1_1 a1_2 a1_3 a1_4) = some r := by rw [if_neg (show ¬ (false = true) by decide)] at H; exact H
   clear H; have H := H1; clear H1; have H' := AM H; clear H; go_wp2_with (first | ((with_reducible refine gate_callee (f := 13) rfl ?_); refine goesM_ (some 11) rfl rfl Tryd.func13 #[] rfl ?_; (with_reducible refine (dioramalaw12_awake.calls k  false _ (fun w_ hb_ => HTB_.out w_ (below_step (BB HB) hb_)) A6.out).mono ?_); rintro e w21 ⟨rfl, hb⟩; refine ⟨_, rfl, ?_⟩; replace BK408 := BE BK408 hb; replace BK409 := BE BK409 hb; replace HB := BS HB hb; (try clear hb); (try clear hb2); (try clear hk); (try clear hi)))
   go_meet
   case rel => exact ⟨_, (true), (by first | rfl | (simp; done) | (simp [*]; done)), H', ⟨by first | omega | exact Nat.le_refl _⟩, ⟨BL BK408⟩, ⟨BL BK409⟩, ⟨BB HB⟩⟩
 case rest =>
  clear HC3; try clear c1
  try clear p2
  try clear c7
  try clear c9
  try clear c11
  try clear c13
  try clear c16
  try clear hcz12_0
  try clear hcz12_1
  try clear hcz17_0
  try clear hcz17_1
  try clear hcz19_0
  try clear hcz19_1
  try clear hfz12_0
  try clear hfz12_1
  try clear hfz17_0
  try clear hfz17_1
  try clear hfz19_0
  try clear hfz19_1
  obtain ⟨kq, x21_2, rfl, HA, HJ2, BK408, BK409, HB⟩ := hcut; cases kq with
  | zero => exact absurd HA.out (by simp [dioramalaw12_LimitCanon.j0])
  | succ kj2 =>
   have H := HA.out; clear HA; simp only [dioramalaw12_LimitCanon.j0] at H
   by_cases c22 : x21_2 = true
   ·subst c22; have H1 : ((dioramalaw12_awake.f kj2).bind fun t413 => (some t413)) = some r := by rw [if_pos rfl] at H; exact H
    clear H; have H := H1; clear H1; replace H := Option.bind_eq_some_iff.mp H; obtain ⟨t413, A230, H⟩ := H; replace H : (some t413) = some r := H; have A23 := AM A230; clear A230; obtain rfl := Option.some.inj H; go_wp2_with (first | ((with_reducible refine gate_callee (f := 13) rfl ?_); refine goesM_ (some 22) rfl rfl Tryd.func13 #[] rfl ?_; (with_reducible refine (dioramalaw12_awake.calls kj2  t413 _ (fun w_ hb_ => HTB_.out w_ (below_step (BB HB) hb_)) A23.out).mono ?_); rintro e w24 ⟨rfl, hb⟩; refine ⟨_, rfl, ?_⟩; replace BK408 := BE BK408 hb; replace BK409 := BE BK409 hb; replace HB := BS HB hb; (try clear hb); (try clear hb2); (try clear hk); (try clear hi)))
    go_ret
    exact ⟨by first | rfl | (simp [errW_none, errW_some] <;> rfl) | (simp [*, errW_none, errW_some] <;> rfl), BB HB⟩
   ·replace c22 := Bool.eq_false_iff.mpr c22; subst c22; have H1 : ((canon_Canon.f kj2 l0_0 a0_1).bind fun bt414 => ((limit_Valid.f kj2 l0_0 a0_1 a1_0 a1_1 a1_2 a1_3 a1_4).bind fun bt420 => ((limit_Valid.f kj2 bt414.1 bt414.2.1 a1_0 a1_1 a1_2 a1_3 a1_4).bind fun bt422 => (if bt414.2.2 = 0 then ((limit_Measure.f kj2 bt414.1 bt414.2.1).bind fun bt424 => ((limit_Measure.f kj2 l0_0 a0_1).bind fun bt429 => (if (bt424.1 == bt429.1 && (bt424.2.1 == bt429.2.1 && (bt424.2.2.1 == bt429.2.2.1 && (bt424.2.2.2.1 == bt429.2.2.2.1 && (bt424.2.2.2.2 == bt429.2.2.2.2))))) = true then (if ((bt420.1 == 0) == (bt422.1 == 0)) = true then (some ((bt420.1 == 19) == (bt422.1 == 19))) else (some false)) else (some false)))) else (some false))))) = some r := by rw [if_neg (show ¬ (false = true) by decide)] at H; exact H
    clear H; have H := H1; clear H1; replace H := Option.bind_eq_some_iff.mp H; obtain ⟨⟨t414, t417, t418⟩, A250, H⟩ := H; replace H : ((limit_Valid.f kj2 l0_0 a0_1 a1_0 a1_1 a1_2 a1_3 a1_4).bind fun bt420 => ((limit_Valid.f kj2 t414 t417 a1_0 a1_1 a1_2 a1_3 a1_4).bind fun bt422 => (if t418 = 0 then ((limit_Measure.f kj2 t414 t417).bind fun bt424 => ((limit_Measure.f kj2 l0_0 a0_1).bind fun bt429 => (if (bt424.1 == bt429.1 && (bt424.2.1 == bt429.2.1 && (bt424.2.2.1 == bt429.2.2.1 && (bt424.2.2.2.1 == bt429.2.2.2.1 && (bt424.2.2.2.2 == bt429.2.2.2.2))))) = true then (if ((bt420.1 == 0) == (bt422.1 == 0)) = true then (some ((bt420.1 == 19) == (bt422.1 == 19))) else (some false)) else (some false)))) else (some false)))) = some r := H
    have A25 := AM A250; clear A250; replace H := Option.bind_eq_some_iff.mp H; obtain ⟨⟨t420, t421⟩, A260, H⟩ := H; replace H : ((limit_Valid.f kj2 t414 t417 a1_0 a1_1 a1_2 a1_3 a1_4).bind fun bt422 => (if t418 = 0 then ((limit_Measure.f kj2 t414 t417).bind fun bt424 => ((limit_Measure.f kj2 l0_0 a0_1).bind fun bt429 => (if (bt424.1 == bt429.1 && (bt424.2.1 == bt429.2.1 && (bt424.2.2.1 == bt429.2.2.1 && (bt424.2.2.2.1 == bt429.2.2.2.1 && (bt424.2.2.2.2 == bt429.2.2.2.2))))) = true then (if ((t420 == 0) == (bt422.1 == 0)) = true then (some ((t420 == 19) == (bt422.1 == 19))) else (some false)) else (some false)))) else (some false))) = some r := H
    have A26 := AM A260; clear A260; replace H := Option.bind_eq_some_iff.mp H; obtain ⟨⟨t422, t423⟩, A270, H⟩ := H; replace H : (if t418 = 0 then ((limit_Measure.f kj2 t414 t417).bind fun bt424 => ((limit_Measure.f kj2 l0_0 a0_1).bind fun bt429 => (if (bt424.1 == bt429.1 && (bt424.2.1 == bt429.2.1 && (bt424.2.2.1 == bt429.2.2.1 && (bt424.2.2.2.1 == bt429.2.2.2.1 && (bt424.2.2.2.2 == bt429.2.2.2.2))))) = true then (if ((t420 == 0) == (t422 == 0)) = true then (some ((t420 == 19) == (t422 == 19))) else (some false)) else (some false)))) else (some false)) = some r := H
    have A27 := AM A270; clear A270; by_cases c28 : t418 = 0
    ·rw [if_pos c28] at H; have c28b0 : (t418 == 0) = true := beq_iff_eq.mpr c28; have c28b1 : (t418 != 0) = false := bne_eq_false_iff_eq.mpr c28; clear c28; replace H := Option.bind_eq_some_iff.mp H; obtain ⟨⟨t424, t425, t426, t427, t428⟩, A290, H⟩ := H; replace H : ((limit_Measure.f kj2 l0_0 a0_1).bind fun bt429 => (if (t424 == bt429.1 && (t425 == bt429.2.1 && (t426 == bt429.2.2.1 && (t427 == bt429.2.2.2.1 && (t428 == bt429.2.2.2.2))))) = true then (if ((t420 == 0) == (t422 == 0)) = true then (some ((t420 == 19) == (t422 == 19))) else (some false)) else (some false))) = some r := H
     have A29 := AM A290; clear A290; replace H := Option.bind_eq_some_iff.mp H; obtain ⟨⟨t429, t430, t431, t432, t433⟩, A300, H⟩ := H; replace H : (if (t424 == t429 && (t425 == t430 && (t426 == t431 && (t427 == t432 && (t428 == t433))))) = true then (if ((t420 == 0) == (t422 == 0)) = true then (some ((t420 == 19) == (t422 == 19))) else (some false)) else (some false)) = some r := H; have A30 := AM A300; clear A300; by_cases c31 : (t424 == t429 && (t425 == t430 && (t426 == t431 && (t427 == t432 && (t428 == t433))))) = true
     ·rw [if_pos c31] at H; have c31b0 : (t424 == t429 && (t425 == t430 && (t426 == t431 && (t427 == t432 && (t428 == t433))))) = true := c31; (try (have c31b1 : decide (t424 = t429 && (t425 == t430 && (t426 == t431 && (t427 == t432 && (t428 == t433))))) = true := by simpa using c31))
      (try (have c31b2 : (t424 == t429 && (t425 == t430 && (t426 == t431 && (t427 == t432 && (t428 == t433))))) = true := by simpa using c31))
      clear c31; by_cases c32 : ((t420 == 0) == (t422 == 0)) = true
      ·rw [if_pos c32] at H; have c32b0 : ((t420 == 0) == (t422 == 0)) = true := c32; (try (have c32b1 : decide ((t420 == 0) = (t422 == 0)) = true := by simpa using c32))
       (try (have c32b2 : ((t420 == 0) == (t422 == 0)) = true := by simpa using c32))
       clear c32; obtain rfl := Option.some.inj H; have hnb33 := NB408_409.out; have hnc33 := NB409_408.out; have hcz34_0 := BC BK408 0 (.slice A0_0 l0_0.length c0_0) rfl; have hcz34_1 := BC BK408 1 (.int .i64 a0_1) rfl; have hfz34_0 := BF BK408 0; have hfz34_1 := BF BK408 1; try go_wp2_with (first | ((with_reducible refine gate_callee (f := 27) rfl ?_); refine goesM_ (some 25) rfl rfl Tryd.func27 #[.agg #[.slice A0_0 l0_0.length c0_0, .int .i64 a0_1]] rfl ?_; (with_reducible refine (canon_Canon.calls kj2 _ _ l0_0 a0_1 t414 t417 t418 _ ?side1 ?side2 A25.out).mono ?_); (case side1 => exact Kd.C_below HR0_0.out (BB HB)); (case side2 => exact HC0_0.out); rintro e w35 ⟨v415, rfl, ho0, hb⟩; refine ⟨_, rfl, ?_⟩; have HO416 := AM (Kd.R_lower ho0 (below_size (BB HB))); replace BK408 := BE BK408 hb; replace BK409 := BE BK409 hb; replace HB := BS HB hb; (try clear hb); (try clear hb2); (try clear hk); (try clear hi); (try clear ho0)) | ((with_reducible refine gate_dst (N := 5) rfl ?_); refine box_event ?hg (N := 5) ?hd (cs := #[.slice none 0 0, .int .i64 0]) (t := 24) ?hr ?_; (case hd => rfl); (case hg => rfl); (case hr => first | (go_simp; done) | (go_simp; rfl)); intro gb419 hg w36 hbox hb; replace HO416 := AM (Kd.R_below (RL HO416) hb); have BK419 := AM (hbox); have GW419 := GW HB hg; have GE419 := GW HB hg; replace HB := BS HB hb; have NB408_419 := NL BK408 hg; have NB419_408 := NG BK408 hg; replace BK408 := BE BK408 hb; have NB409_419 := NL BK409 hg; have NB419_409 := NG BK409 hg; replace BK409 := BE BK409 hb; clear hb hbox hg; obtain ⟨Ao37, co37, eo37⟩ := Kd.R_slice HO416.out; subst eo37; have hnb38 := NB419_408.out; have hnc38 := NB408_419.out; have hnb39 := NB419_409.out; have hnc39 := NB409_419.out; have hcz40_0 := BC BK419 0 (.slice none 0 0) rfl; have hcz40_1 := BC BK419 1 (.int .i64 0) rfl; have hfz40_0 := BF BK419 0; have hfz40_1 := BF BK419 1; have hcz41_0 := BC BK408 0 (.slice A0_0 l0_0.length c0_0) rfl; have hcz41_1 := BC BK408 1 (.int .i64 a0_1) rfl; have hfz41_0 := BF BK408 0; have hfz41_1 := BF BK408 1; have hcz42_0 := BC BK409 0 (.int .i64 a1_0) rfl; have hcz42_1 := BC BK409 1 (.int .i64 a1_1) rfl; have hcz42_2 := BC BK409 2 (.int .i64 a1_2) rfl; have hcz42_3 := BC BK409 3 (.int .i64 a1_3) rfl; have hcz42_4 := BC BK409 4 (.int .i64 a1_4) rfl; have hfz42_0 := BF BK409 0; have hfz42_1 := BF BK409 1; have hfz42_2 := BF BK409 2; have hfz42_3 := BF BK409 3; have hfz42_4 := BF BK409 4) | ((with_reducible refine gate_callee (f := 15) rfl ?_); refine goesM_ (some 31) rfl rfl Tryd.func15 #[.agg #[.slice A0_0 l0_0.length c0_0, .int .i64 a0_1], .agg #[.int .i64 a1_0, .int .i64 a1_1, .int .i64 a1_2, .int .i64 a1_3, .int .i64 a1_4]] rfl ?_; (with_reducible refine (limit_Valid.calls kj2 _ _ l0_0 a0_1 a1_0 a1_1 a1_2 a1_3 a1_4 t420 t421 _ ?sideT ?side1 ?side2 A26.out).mono ?_); (case sideT => exact fun w_ hb_ => HTB_.out w_ (below_step (BB HB) hb_)); (case side1 => exact Kd.C_below HR0_0.out (BB HB)); (case side2 => exact HC0_0.out); rintro e w43 ⟨rfl, hb⟩; refine ⟨_, rfl, ?_⟩; replace HO416 := AM (Kd.R_below (by exact (Kd.R_mono (Kd.R_far (p := ⟨gb419, 1, none⟩) (Kd.R_far (p := ⟨gb419, 0, none⟩) (Kd.R_types HO416.out BK419.out (by decide)) (fun _ hk => hk.2) (.slice Ao37 t414.length co37)) (fun _ hk => hk.2) (.int .i64 t417)) (fun _ h_ => h_.1))) hb); replace BK408 := AM (blk_below (g := gb408) (o := .cells #[.slice A0_0 l0_0.length c0_0, .int .i64 a0_1] 24 (0, 0)) (by (repeat refine blk_far ?_ NB408_419.out _); (with_reducible repeat (first | refine blk_drewN ?_ _ | refine blk_drew ?_ | refine blk_alloc ?_ _)); exact BK408.out) hb); replace BK409 := AM (blk_below (g := gb409) (o := .cells #[.int .i64 a1_0, .int .i64 a1_1, .int .i64 a1_2, .int .i64 a1_3, .int .i64 a1_4] 26 (0, 0)) (by (repeat refine blk_far ?_ NB409_419.out _); (with_reducible repeat (first | refine blk_drewN ?_ _ | refine blk_drew ?_ | refine blk_alloc ?_ _)); exact BK409.out) hb); replace BK419 := AM (blk_below (g := gb419) (o := .cells #[.slice Ao37 t414.length co37, .int .i64 t417] 24 (0, 0)) (by refine blk_put (cs := #[.slice Ao37 t414.length co37, .int .i64 0]) ?_ 1 _ rfl; refine blk_put (cs := #[.slice none 0 0, .int .i64 0]) ?_ 0 _ rfl; (with_reducible repeat (first | refine blk_drewN ?_ _ | refine blk_drew ?_ | refine blk_alloc ?_ _)); exact BK419.out) hb); replace HB := BS HB hb; (try clear hb); (try clear hb2); (try clear hk); (try clear hi); have hcz44_0 := BC BK419 0 (.slice Ao37 t414.length co37) rfl; have hcz44_1 := BC BK419 1 (.int .i64 t417) rfl; have hfz44_0 := BF BK419 0; have hfz44_1 := BF BK419 1; have hcz45_0 := BC BK409 0 (.int .i64 a1_0) rfl; have hcz45_1 := BC BK409 1 (.int .i64 a1_1) rfl; have hcz45_2 := BC BK409 2 (.int .i64 a1_2) rfl; have hcz45_3 := BC BK409 3 (.int .i64 a1_3) rfl; have hcz45_4 := BC BK409 4 (.int .i64 a1_4) rfl; have hfz45_0 := BF BK409 0; have hfz45_1 := BF BK409 1; have hfz45_2 := BF BK409 2; have hfz45_3 := BF BK409 3; have hfz45_4 := BF BK409 4) | ((with_reducible refine gate_callee (f := 15) rfl ?_); refine goesM_ (some 37) rfl rfl Tryd.func15 #[.agg #[.slice Ao37 t414.length co37, .int .i64 t417], .agg #[.int .i64 a1_0, .int .i64 a1_1, .int .i64 a1_2, .int .i64 a1_3, .int .i64 a1_4]] rfl ?_; (with_reducible refine (limit_Valid.calls kj2 _ _ t414 t417 a1_0 a1_1 a1_2 a1_3 a1_4 t422 t423 _ ?sideT ?side1 ?side2 A27.out).mono ?_); (case sideT => exact fun w_ hb_ => HTB_.out w_ (below_step (BB HB) hb_)); (case side1 => exact CR HO416); (case side2 => exact (Kd.R_reads' HO416.out).2.1); rintro e w46 ⟨rfl, hb⟩; refine ⟨_, rfl, ?_⟩; replace HO416 := AM (Kd.R_below (RL HO416) hb); replace BK408 := BE BK408 hb; replace BK409 := BE BK409 hb; replace BK419 := BE BK419 hb; replace HB := BS HB hb; (try clear hb); (try clear hb2); (try clear hk); (try clear hi)))
       replace HO416 := AM (Kd.R_drew HO416.out); replace BK408 := AM (blk_drew BK408.out); replace BK409 := AM (blk_drew BK409.out); replace BK419 := AM (blk_drew BK419.out); replace HB := AM (below_drew1 HB.out); refine start_ (n := 24) (S := fun w' => w'.cell? ⟨gb419, 0, none⟩ = some (.slice Ao37 t414.length co37) ∧ w'.cell? ⟨gb419, 1, none⟩ = some (.int .i64 t417) ∧ w'.cell? ⟨gb408, 0, none⟩ = some (.slice A0_0 l0_0.length c0_0) ∧ w'.cell? ⟨gb408, 1, none⟩ = some (.int .i64 a0_1)) (ds := []) #[false, false, false, false, false, false, false, false, false, false, false, false, false, false, false, false, false, false, false, false, false, false, false, false] (by kernel_rfl) rfl rfl ⟨(blk_cell BK419.out 0).trans rfl, (blk_cell BK419.out 1).trans rfl, (blk_cell BK408.out 0).trans rfl, (blk_cell BK408.out 1).trans rfl⟩ (fun hHeld => ?_); refine with_tabW dioramalaw12_LimitCanon.tab6 dioramalaw12_LimitCanon.bits6 (fun HT_ HW_ => ?_)
       generalize w46.drew = w47 at HO416 BK408 BK409 BK419 HB hHeld ⊢
       refine pure_ (i := 0) (N := some 40) (v := ?_) (a' := ?_) #[true, false, false, false, false, false, false, false, false, false, false, false, false, false, false, false, false, false, false, false, false, false, false, false] rfl rfl (any_of HT_.out (by kernel_rfl)) (fun _ _ _ h => h) (Or.inl ⟨by rfl, ?_⟩) ?_ ?_
       rotate_left
       ·intro w'
        go_simp
        with_reducible rfl
       rotate_left
       ·simp only [Act.put, List.setIfInBounds_toArray, List.set_cons_zero, List.set_cons_succ, i64_w, i32_w]
        rfl
       refine pure_ (i := 1) (N := some 41) (v := ?_) (a' := ?_) #[true, true, false, false, false, false, false, false, false, false, false, false, false, false, false, false, false, false, false, false, false, false, false, false] rfl rfl (any_of HT_.out (by kernel_rfl)) (fun _ _ _ h => h) (Or.inl ⟨by rfl, ?_⟩) ?_ ?_
       rotate_left
       ·intro w'
        go_simp
        with_reducible rfl
       rotate_left
       ·simp only [Act.put, List.setIfInBounds_toArray, List.set_cons_zero, List.set_cons_succ, i64_w, i32_w]
        rfl
       refine pure_ (i := 2) (N := some 42) (v := ?_) (a' := ?_) #[true, true, true, false, false, false, false, false, false, false, false, false, false, false, false, false, false, false, false, false, false, false, false, false] rfl rfl (any_of HT_.out (by kernel_rfl)) (fun _ _ _ h => h) (Or.inl ⟨by rfl, ?_⟩) ?_ ?_
       rotate_left
       ·intro w'
        go_simp
        with_reducible rfl
       rotate_left
       ·simp only [Act.put, List.setIfInBounds_toArray, List.set_cons_zero, List.set_cons_succ, i64_w, i32_w]
        rfl
       refine take_ (i := 3) (N := some 43) (v := ?_) (a' := ?_) #[true, true, true, true, false, false, false, false, false, false, false, false, false, false, false, false, false, false, false, false, false, false, false, false] rfl rfl (take_ofW HT_.out HW_.out (by kernel_rfl)) (fun _ _ _ h => h) (Or.inl ⟨by rfl, ?_⟩) hHeld ?_ ?_
       rotate_left
       ·rintro w' ⟨s0, s1, s2, s3⟩
        go_simp
        with_reducible rfl
       rotate_left
       ·simp only [Act.put, List.setIfInBounds_toArray, List.set_cons_zero, List.set_cons_succ, i64_w, i32_w]
        rfl
       refine take_ (i := 5) (N := some 45) (v := ?_) (a' := ?_) #[true, true, true, true, false, true, false, false, false, false, false, false, false, false, false, false, false, false, false, false, false, false, false, false] rfl rfl (take_ofW HT_.out HW_.out (by kernel_rfl)) (fun _ _ _ h => h) (Or.inl ⟨by rfl, ?_⟩) hHeld ?_ ?_
       rotate_left
       ·rintro w' ⟨s0, s1, s2, s3⟩
        go_simp
        with_reducible rfl
       rotate_left
       ·simp only [Act.put, List.setIfInBounds_toArray, List.set_cons_zero, List.set_cons_succ, i64_w, i32_w]
        rfl
       refine one_ (i := 4) (N := some 44) #[true, true, true, true, true, true, false, false, false, false, false, false, false, false, false, false, false, false, false, false, false, false, false, false] rfl rfl (one_of HT_.out (by kernel_rfl)) (by decide) (fun K hK => ?_)
       refine goes_ Tryd.func20 (by kernel_rfl) rfl #[.agg #[.slice Ao37 t414.length co37, .int .i64 t417]] (by rfl) rfl rfl (by (try simp only [List.map_toArray, List.map_cons, List.map_nil]); first | done | rfl | (simp only [List.length_drop, List.length_take]; rfl)) ?_
       with_reducible refine (limit_Measure.calls kj2 _ _ t414 t417 t424 t425 t426 t427 t428 _ ?side1 ?side2 A29.out).mono ?_
       (case side1 => exact CR HO416)
       (case side2 => exact (Kd.R_reads' HO416.out).2.1)
       rintro e w48 ⟨rfl, hb⟩
       refine ⟨_, rfl, ?_⟩
       replace HO416 := AM (Kd.R_below (RL HO416) hb); replace BK408 := BE BK408 hb; replace BK409 := BE BK409 hb; replace BK419 := BE BK419 hb; replace HB := BS HB hb; (try clear hb)
       (try clear hb2)
       (try clear hk)
       (try clear hi)
       refine hK.out _ _ ⟨(blk_cell BK419.out 0).trans rfl, (blk_cell BK419.out 1).trans rfl, (blk_cell BK408.out 0).trans rfl, (blk_cell BK408.out 1).trans rfl⟩ (fun hHeld => ?_)
       clear hK K; refine norm_ (a' := ?_) ?_ ?_
       rotate_left
       ·show Act.put _ (some 44) _ = _
        simp only [Act.put, List.setIfInBounds_toArray, List.set_cons_zero, List.set_cons_succ, i64_w, i32_w]
        rfl
       refine one_ (i := 6) (N := some 46) #[true, true, true, true, true, true, true, false, false, false, false, false, false, false, false, false, false, false, false, false, false, false, false, false] rfl rfl (one_of HT_.out (by kernel_rfl)) (by decide) (fun K hK => ?_)
       refine goes_ Tryd.func20 (by kernel_rfl) rfl #[.agg #[.slice A0_0 l0_0.length c0_0, .int .i64 a0_1]] (by rfl) rfl rfl (by (try simp only [List.map_toArray, List.map_cons, List.map_nil]); first | done | rfl | (simp only [List.length_drop, List.length_take]; rfl)) ?_
       with_reducible refine (limit_Measure.calls kj2 _ _ l0_0 a0_1 t429 t430 t431 t432 t433 _ ?side1 ?side2 A30.out).mono ?_
       (case side1 => exact Kd.C_below HR0_0.out (BB HB))
       (case side2 => exact HC0_0.out)
       rintro e w49 ⟨rfl, hb⟩
       refine ⟨_, rfl, ?_⟩
       replace HO416 := AM (Kd.R_below (RL HO416) hb); replace BK408 := BE BK408 hb; replace BK409 := BE BK409 hb; replace BK419 := BE BK419 hb; replace HB := BS HB hb; (try clear hb)
       (try clear hb2)
       (try clear hk)
       (try clear hi)
       refine hK.out _ _ ⟨(blk_cell BK419.out 0).trans rfl, (blk_cell BK419.out 1).trans rfl, (blk_cell BK408.out 0).trans rfl, (blk_cell BK408.out 1).trans rfl⟩ (fun hHeld => ?_)
       clear hK K; refine norm_ (a' := ?_) ?_ ?_
       rotate_left
       ·show Act.put _ (some 46) _ = _
        simp only [Act.put, List.setIfInBounds_toArray, List.set_cons_zero, List.set_cons_succ, i64_w, i32_w]
        rfl
       refine pure_ (i := 7) (N := some 47) (v := ?_) (a' := ?_) #[true, true, true, true, true, true, true, true, false, false, false, false, false, false, false, false, false, false, false, false, false, false, false, false] rfl rfl (any_of HT_.out (by kernel_rfl)) (fun _ _ _ h => h) (Or.inl ⟨by rfl, ?_⟩) ?_ ?_
       rotate_left
       ·intro w'
        go_simp
        with_reducible rfl
       rotate_left
       ·simp only [Act.put, List.setIfInBounds_toArray, List.set_cons_zero, List.set_cons_succ, i64_w, i32_w]
        rfl
       refine pure_ (i := 8) (N := some 48) (v := ?_) (a' := ?_) #[true, true, true, true, true, true, true, true, true, false, false, false, false, false, false, false, false, false, false, false, false, false, false, false] rfl rfl (any_of HT_.out (by kernel_rfl)) (fun _ _ _ h => h) (Or.inl ⟨by rfl, ?_⟩) ?_ ?_
       rotate_left
       ·intro w'
        go_simp
        with_reducible rfl
       rotate_left
       ·simp only [Act.put, List.setIfInBounds_toArray, List.set_cons_zero, List.set_cons_succ, i64_w, i32_w]
        rfl
       refine pure_ (i := 9) (N := some 49) (v := ?_) (a' := ?_) #[true, true, true, true, true, true, true, true, true, true, false, false, false, false, false, false, false, false, false, false, false, false, false, false] rfl rfl (any_of HT_.out (by kernel_rfl)) (fun _ _ _ h => h) (Or.inl ⟨by rfl, ?_⟩) ?_ ?_
       rotate_left
       ·intro w'
        go_simp
        with_reducible rfl
       rotate_left
       ·simp only [Act.put, List.setIfInBounds_toArray, List.set_cons_zero, List.set_cons_succ, i64_w, i32_w]
        rfl
       refine pure_ (i := 10) (N := some 50) (v := ?_) (a' := ?_) #[true, true, true, true, true, true, true, true, true, true, true, false, false, false, false, false, false, false, false, false, false, false, false, false] rfl rfl (any_of HT_.out (by kernel_rfl)) (fun _ _ _ h => h) (Or.inl ⟨by rfl, ?_⟩) ?_ ?_
       rotate_left
       ·intro w'
        go_simp
        with_reducible rfl
       rotate_left
       ·simp only [Act.put, List.setIfInBounds_toArray, List.set_cons_zero, List.set_cons_succ, i64_w, i32_w]
        rfl
       refine pure_ (i := 11) (N := some 51) (v := ?_) (a' := ?_) #[true, true, true, true, true, true, true, true, true, true, true, true, false, false, false, false, false, false, false, false, false, false, false, false] rfl rfl (any_of HT_.out (by kernel_rfl)) (fun _ _ _ h => h) (Or.inl ⟨by rfl, ?_⟩) ?_ ?_
       rotate_left
       ·intro w'
        go_simp
        with_reducible rfl
       rotate_left
       ·simp only [Act.put, List.setIfInBounds_toArray, List.set_cons_zero, List.set_cons_succ, i64_w, i32_w]
        rfl
       refine pure_ (i := 12) (N := some 52) (v := ?_) (a' := ?_) #[true, true, true, true, true, true, true, true, true, true, true, true, true, false, false, false, false, false, false, false, false, false, false, false] rfl rfl (any_of HT_.out (by kernel_rfl)) (fun _ _ _ h => h) (Or.inl ⟨by rfl, ?_⟩) ?_ ?_
       rotate_left
       ·intro w'
        go_simp
        with_reducible rfl
       rotate_left
       ·simp only [Act.put, List.setIfInBounds_toArray, List.set_cons_zero, List.set_cons_succ, i64_w, i32_w]
        rfl
       refine pure_ (i := 13) (N := some 53) (v := ?_) (a' := ?_) #[true, true, true, true, true, true, true, true, true, true, true, true, true, true, false, false, false, false, false, false, false, false, false, false] rfl rfl (any_of HT_.out (by kernel_rfl)) (fun _ _ _ h => h) (Or.inl ⟨by rfl, ?_⟩) ?_ ?_
       rotate_left
       ·intro w'
        go_simp
        with_reducible rfl
       rotate_left
       ·simp only [Act.put, List.setIfInBounds_toArray, List.set_cons_zero, List.set_cons_succ, i64_w, i32_w]
        rfl
       refine pure_ (i := 14) (N := some 54) (v := ?_) (a' := ?_) #[true, true, true, true, true, true, true, true, true, true, true, true, true, true, true, false, false, false, false, false, false, false, false, false] rfl rfl (any_of HT_.out (by kernel_rfl)) (fun _ _ _ h => h) (Or.inl ⟨by rfl, ?_⟩) ?_ ?_
       rotate_left
       ·intro w'
        go_simp
        with_reducible rfl
       rotate_left
       ·simp only [Act.put, List.setIfInBounds_toArray, List.set_cons_zero, List.set_cons_succ, i64_w, i32_w]
        rfl
       refine pure_ (i := 15) (N := some 55) (v := ?_) (a' := ?_) #[true, true, true, true, true, true, true, true, true, true, true, true, true, true, true, true, false, false, false, false, false, false, false, false] rfl rfl (any_of HT_.out (by kernel_rfl)) (fun _ _ _ h => h) (Or.inl ⟨by rfl, ?_⟩) ?_ ?_
       rotate_left
       ·intro w'
        go_simp
        with_reducible rfl
       rotate_left
       ·simp only [Act.put, List.setIfInBounds_toArray, List.set_cons_zero, List.set_cons_succ, i64_w, i32_w]
        rfl
       refine pure_ (i := 16) (N := some 56) (v := ?_) (a' := ?_) #[true, true, true, true, true, true, true, true, true, true, true, true, true, true, true, true, true, false, false, false, false, false, false, false] rfl rfl (any_of HT_.out (by kernel_rfl)) (fun _ _ _ h => h) (Or.inl ⟨by rfl, ?_⟩) ?_ ?_
       rotate_left
       ·intro w'
        go_simp
        with_reducible rfl
       rotate_left
       ·simp only [Act.put, List.setIfInBounds_toArray, List.set_cons_zero, List.set_cons_succ, i64_w, i32_w]
        rfl
       refine pure_ (i := 17) (N := some 57) (v := ?_) (a' := ?_) #[true, true, true, true, true, true, true, true, true, true, true, true, true, true, true, true, true, true, false, false, false, false, false, false] rfl rfl (any_of HT_.out (by kernel_rfl)) (fun _ _ _ h => h) (Or.inl ⟨by rfl, ?_⟩) ?_ ?_
       rotate_left
       ·intro w'
        go_simp
        with_reducible rfl
       rotate_left
       ·simp only [Act.put, List.setIfInBounds_toArray, List.set_cons_zero, List.set_cons_succ, i64_w, i32_w]
        rfl
       refine pure_ (i := 18) (N := some 58) (v := ?_) (a' := ?_) #[true, true, true, true, true, true, true, true, true, true, true, true, true, true, true, true, true, true, true, false, false, false, false, false] rfl rfl (any_of HT_.out (by kernel_rfl)) (fun _ _ _ h => h) (Or.inl ⟨by rfl, ?_⟩) ?_ ?_
       rotate_left
       ·intro w'
        go_simp
        with_reducible rfl
       rotate_left
       ·simp only [Act.put, List.setIfInBounds_toArray, List.set_cons_zero, List.set_cons_succ, i64_w, i32_w]
        rfl
       refine pure_ (i := 19) (N := some 59) (v := ?_) (a' := ?_) #[true, true, true, true, true, true, true, true, true, true, true, true, true, true, true, true, true, true, true, true, false, false, false, false] rfl rfl (any_of HT_.out (by kernel_rfl)) (fun _ _ _ h => h) (Or.inl ⟨by rfl, ?_⟩) ?_ ?_
       rotate_left
       ·intro w'
        go_simp
        with_reducible rfl
       rotate_left
       ·simp only [Act.put, List.setIfInBounds_toArray, List.set_cons_zero, List.set_cons_succ, i64_w, i32_w]
        rfl
       refine pure_ (i := 20) (N := some 60) (v := ?_) (a' := ?_) #[true, true, true, true, true, true, true, true, true, true, true, true, true, true, true, true, true, true, true, true, true, false, false, false] rfl rfl (any_of HT_.out (by kernel_rfl)) (fun _ _ _ h => h) (Or.inl ⟨by rfl, ?_⟩) ?_ ?_
       rotate_left
       ·intro w'
        go_simp
        with_reducible rfl
       rotate_left
       ·simp only [Act.put, List.setIfInBounds_toArray, List.set_cons_zero, List.set_cons_succ, i64_w, i32_w]
        rfl
       refine pure_ (i := 21) (N := some 61) (v := ?_) (a' := ?_) #[true, true, true, true, true, true, true, true, true, true, true, true, true, true, true, true, true, true, true, true, true, true, false, false] rfl rfl (any_of HT_.out (by kernel_rfl)) (fun _ _ _ h => h) (Or.inl ⟨by rfl, ?_⟩) ?_ ?_
       rotate_left
       ·intro w'
        go_simp
        with_reducible rfl
       rotate_left
       ·simp only [Act.put, List.setIfInBounds_toArray, List.set_cons_zero, List.set_cons_succ, i64_w, i32_w]
        rfl
       refine pure_ (i := 22) (N := some 62) (v := ?_) (a' := ?_) #[true, true, true, true, true, true, true, true, true, true, true, true, true, true, true, true, true, true, true, true, true, true, true, false] rfl rfl (any_of HT_.out (by kernel_rfl)) (fun _ _ _ h => h) (Or.inl ⟨by rfl, ?_⟩) ?_ ?_
       rotate_left
       ·intro w'
        go_simp
        with_reducible rfl
       rotate_left
       ·simp only [Act.put, List.setIfInBounds_toArray, List.set_cons_zero, List.set_cons_succ, i64_w, i32_w]
        rfl
       refine pure_ (i := 23) (N := some 4) (v := ?_) (a' := ?_) #[true, true, true, true, true, true, true, true, true, true, true, true, true, true, true, true, true, true, true, true, true, true, true, true] rfl rfl (any_of HT_.out (by kernel_rfl)) (fun _ _ _ h => h) (Or.inl ⟨by rfl, ?_⟩) ?_ ?_
       rotate_left
       ·intro w'
        go_simp
        with_reducible rfl
       rotate_left
       ·simp only [Act.put, List.setIfInBounds_toArray, List.set_cons_zero, List.set_cons_succ, i64_w, i32_w]
        rfl
       refine done_ (done_of HT_.out (by kernel_rfl)) ?_
       try go_wp2
       go_ret
       exact ⟨by first | rfl | (simp [errW_none, errW_some] <;> rfl) | (simp [*, errW_none, errW_some] <;> rfl), BB HB⟩
      ·rw [if_neg c32] at H; have c32b0 : ((t420 == 0) == (t422 == 0)) = false := by simpa using c32
       (try (have c32b1 : decide ((t420 == 0) = (t422 == 0)) = false := by simpa using c32))
       (try (have c32b2 : ((t420 == 0) == (t422 == 0)) = false := by simpa using c32))
       (try (have c32b3 : ¬ ((t420 == 0) = (t422 == 0)) := by simpa using c32))
       clear c32; obtain rfl := Option.some.inj H; have hnb50 := NB408_409.out; have hnc50 := NB409_408.out; have hcz51_0 := BC BK408 0 (.slice A0_0 l0_0.length c0_0) rfl; have hcz51_1 := BC BK408 1 (.int .i64 a0_1) rfl; have hfz51_0 := BF BK408 0; have hfz51_1 := BF BK408 1; try go_wp2_with (first | ((with_reducible refine gate_callee (f := 27) rfl ?_); refine goesM_ (some 25) rfl rfl Tryd.func27 #[.agg #[.slice A0_0 l0_0.length c0_0, .int .i64 a0_1]] rfl ?_; (with_reducible refine (canon_Canon.calls kj2 _ _ l0_0 a0_1 t414 t417 t418 _ ?side1 ?side2 A25.out).mono ?_); (case side1 => exact Kd.C_below HR0_0.out (BB HB)); (case side2 => exact HC0_0.out); rintro e w52 ⟨v415, rfl, ho0, hb⟩; refine ⟨_, rfl, ?_⟩; have HO416 := AM (Kd.R_lower ho0 (below_size (BB HB))); replace BK408 := BE BK408 hb; replace BK409 := BE BK409 hb; replace HB := BS HB hb; (try clear hb); (try clear hb2); (try clear hk); (try clear hi); (try clear ho0)) | ((with_reducible refine gate_dst (N := 5) rfl ?_); refine box_event ?hg (N := 5) ?hd (cs := #[.slice none 0 0, .int .i64 0]) (t := 24) ?hr ?_; (case hd => rfl); (case hg => rfl); (case hr => first | (go_simp; done) | (go_simp; rfl)); intro gb419 hg w53 hbox hb; replace HO416 := AM (Kd.R_below (RL HO416) hb); have BK419 := AM (hbox); have GW419 := GW HB hg; have GE419 := GW HB hg; replace HB := BS HB hb; have NB408_419 := NL BK408 hg; have NB419_408 := NG BK408 hg; replace BK408 := BE BK408 hb; have NB409_419 := NL BK409 hg; have NB419_409 := NG BK409 hg; replace BK409 := BE BK409 hb; clear hb hbox hg; obtain ⟨Ao54, co54, eo54⟩ := Kd.R_slice HO416.out; subst eo54; have hnb55 := NB419_408.out; have hnc55 := NB408_419.out; have hnb56 := NB419_409.out; have hnc56 := NB409_419.out; have hcz57_0 := BC BK419 0 (.slice none 0 0) rfl; have hcz57_1 := BC BK419 1 (.int .i64 0) rfl; have hfz57_0 := BF BK419 0; have hfz57_1 := BF BK419 1; have hcz58_0 := BC BK408 0 (.slice A0_0 l0_0.length c0_0) rfl; have hcz58_1 := BC BK408 1 (.int .i64 a0_1) rfl; have hfz58_0 := BF BK408 0; have hfz58_1 := BF BK408 1; have hcz59_0 := BC BK409 0 (.int .i64 a1_0) rfl; have hcz59_1 := BC BK409 1 (.int .i64 a1_1) rfl; have hcz59_2 := BC BK409 2 (.int .i64 a1_2) rfl; have hcz59_3 := BC BK409 3 (.int .i64 a1_3) rfl; have hcz59_4 := BC BK409 4 (.int .i64 a1_4) rfl; have hfz59_0 := BF BK409 0; have hfz59_1 := BF BK409 1; have hfz59_2 := BF BK409 2; have hfz59_3 := BF BK409 3; have hfz59_4 := BF BK409 4) | ((with_reducible refine gate_callee (f := 15) rfl ?_); refine goesM_ (some 31) rfl rfl Tryd.func15 #[.agg #[.slice A0_0 l0_0.length c0_0, .int .i64 a0_1], .agg #[.int .i64 a1_0, .int .i64 a1_1, .int .i64 a1_2, .int .i64 a1_3, .int .i64 a1_4]] rfl ?_; (with_reducible refine (limit_Valid.calls kj2 _ _ l0_0 a0_1 a1_0 a1_1 a1_2 a1_3 a1_4 t420 t421 _ ?sideT ?side1 ?side2 A26.out).mono ?_); (case sideT => exact fun w_ hb_ => HTB_.out w_ (below_step (BB HB) hb_)); (case side1 => exact Kd.C_below HR0_0.out (BB HB)); (case side2 => exact HC0_0.out); rintro e w60 ⟨rfl, hb⟩; refine ⟨_, rfl, ?_⟩; replace HO416 := AM (Kd.R_below (by exact (Kd.R_mono (Kd.R_far (p := ⟨gb419, 1, none⟩) (Kd.R_far (p := ⟨gb419, 0, none⟩) (Kd.R_types HO416.out BK419.out (by decide)) (fun _ hk => hk.2) (.slice Ao54 t414.length co54)) (fun _ hk => hk.2) (.int .i64 t417)) (fun _ h_ => h_.1))) hb); replace BK408 := AM (blk_below (g := gb408) (o := .cells #[.slice A0_0 l0_0.length c0_0, .int .i64 a0_1] 24 (0, 0)) (by (repeat refine blk_far ?_ NB408_419.out _); (with_reducible repeat (first | refine blk_drewN ?_ _ | refine blk_drew ?_ | refine blk_alloc ?_ _)); exact BK408.out) hb); replace BK409 := AM (blk_below (g := gb409) (o := .cells #[.int .i64 a1_0, .int .i64 a1_1, .int .i64 a1_2, .int .i64 a1_3, .int .i64 a1_4] 26 (0, 0)) (by (repeat refine blk_far ?_ NB409_419.out _); (with_reducible repeat (first | refine blk_drewN ?_ _ | refine blk_drew ?_ | refine blk_alloc ?_ _)); exact BK409.out) hb); replace BK419 := AM (blk_below (g := gb419) (o := .cells #[.slice Ao54 t414.length co54, .int .i64 t417] 24 (0, 0)) (by refine blk_put (cs := #[.slice Ao54 t414.length co54, .int .i64 0]) ?_ 1 _ rfl; refine blk_put (cs := #[.slice none 0 0, .int .i64 0]) ?_ 0 _ rfl; (with_reducible repeat (first | refine blk_drewN ?_ _ | refine blk_drew ?_ | refine blk_alloc ?_ _)); exact BK419.out) hb); replace HB := BS HB hb; (try clear hb); (try clear hb2); (try clear hk); (try clear hi); have hcz61_0 := BC BK419 0 (.slice Ao54 t414.length co54) rfl; have hcz61_1 := BC BK419 1 (.int .i64 t417) rfl; have hfz61_0 := BF BK419 0; have hfz61_1 := BF BK419 1; have hcz62_0 := BC BK409 0 (.int .i64 a1_0) rfl; have hcz62_1 := BC BK409 1 (.int .i64 a1_1) rfl; have hcz62_2 := BC BK409 2 (.int .i64 a1_2) rfl; have hcz62_3 := BC BK409 3 (.int .i64 a1_3) rfl; have hcz62_4 := BC BK409 4 (.int .i64 a1_4) rfl; have hfz62_0 := BF BK409 0; have hfz62_1 := BF BK409 1; have hfz62_2 := BF BK409 2; have hfz62_3 := BF BK409 3; have hfz62_4 := BF BK409 4) | ((with_reducible refine gate_callee (f := 15) rfl ?_); refine goesM_ (some 37) rfl rfl Tryd.func15 #[.agg #[.slice Ao54 t414.length co54, .int .i64 t417], .agg #[.int .i64 a1_0, .int .i64 a1_1, .int .i64 a1_2, .int .i64 a1_3, .int .i64 a1_4]] rfl ?_; (with_reducible refine (limit_Valid.calls kj2 _ _ t414 t417 a1_0 a1_1 a1_2 a1_3 a1_4 t422 t423 _ ?sideT ?side1 ?side2 A27.out).mono ?_); (case sideT => exact fun w_ hb_ => HTB_.out w_ (below_step (BB HB) hb_)); (case side1 => exact CR HO416); (case side2 => exact (Kd.R_reads' HO416.out).2.1); rintro e w63 ⟨rfl, hb⟩; refine ⟨_, rfl, ?_⟩; replace HO416 := AM (Kd.R_below (RL HO416) hb); replace BK408 := BE BK408 hb; replace BK409 := BE BK409 hb; replace BK419 := BE BK419 hb; replace HB := BS HB hb; (try clear hb); (try clear hb2); (try clear hk); (try clear hi)))
       replace HO416 := AM (Kd.R_drew HO416.out); replace BK408 := AM (blk_drew BK408.out); replace BK409 := AM (blk_drew BK409.out); replace BK419 := AM (blk_drew BK419.out); replace HB := AM (below_drew1 HB.out); refine start_ (n := 24) (S := fun w' => w'.cell? ⟨gb419, 0, none⟩ = some (.slice Ao54 t414.length co54) ∧ w'.cell? ⟨gb419, 1, none⟩ = some (.int .i64 t417) ∧ w'.cell? ⟨gb408, 0, none⟩ = some (.slice A0_0 l0_0.length c0_0) ∧ w'.cell? ⟨gb408, 1, none⟩ = some (.int .i64 a0_1)) (ds := []) #[false, false, false, false, false, false, false, false, false, false, false, false, false, false, false, false, false, false, false, false, false, false, false, false] (by kernel_rfl) rfl rfl ⟨(blk_cell BK419.out 0).trans rfl, (blk_cell BK419.out 1).trans rfl, (blk_cell BK408.out 0).trans rfl, (blk_cell BK408.out 1).trans rfl⟩ (fun hHeld => ?_); refine with_tabW dioramalaw12_LimitCanon.tab6 dioramalaw12_LimitCanon.bits6 (fun HT_ HW_ => ?_)
       generalize w63.drew = w64 at HO416 BK408 BK409 BK419 HB hHeld ⊢
       refine pure_ (i := 0) (N := some 40) (v := ?_) (a' := ?_) #[true, false, false, false, false, false, false, false, false, false, false, false, false, false, false, false, false, false, false, false, false, false, false, false] rfl rfl (any_of HT_.out (by kernel_rfl)) (fun _ _ _ h => h) (Or.inl ⟨by rfl, ?_⟩) ?_ ?_
       rotate_left
       ·intro w'
        go_simp
        with_reducible rfl
       rotate_left
       ·simp only [Act.put, List.setIfInBounds_toArray, List.set_cons_zero, List.set_cons_succ, i64_w, i32_w]
        rfl
       refine pure_ (i := 1) (N := some 41) (v := ?_) (a' := ?_) #[true, true, false, false, false, false, false, false, false, false, false, false, false, false, false, false, false, false, false, false, false, false, false, false] rfl rfl (any_of HT_.out (by kernel_rfl)) (fun _ _ _ h => h) (Or.inl ⟨by rfl, ?_⟩) ?_ ?_
       rotate_left
       ·intro w'
        go_simp
        with_reducible rfl
       rotate_left
       ·simp only [Act.put, List.setIfInBounds_toArray, List.set_cons_zero, List.set_cons_succ, i64_w, i32_w]
        rfl
       refine pure_ (i := 2) (N := some 42) (v := ?_) (a' := ?_) #[true, true, true, false, false, false, false, false, false, false, false, false, false, false, false, false, false, false, false, false, false, false, false, false] rfl rfl (any_of HT_.out (by kernel_rfl)) (fun _ _ _ h => h) (Or.inl ⟨by rfl, ?_⟩) ?_ ?_
       rotate_left
       ·intro w'
        go_simp
        with_reducible rfl
       rotate_left
       ·simp only [Act.put, List.setIfInBounds_toArray, List.set_cons_zero, List.set_cons_succ, i64_w, i32_w]
        rfl
       refine take_ (i := 3) (N := some 43) (v := ?_) (a' := ?_) #[true, true, true, true, false, false, false, false, false, false, false, false, false, false, false, false, false, false, false, false, false, false, false, false] rfl rfl (take_ofW HT_.out HW_.out (by kernel_rfl)) (fun _ _ _ h => h) (Or.inl ⟨by rfl, ?_⟩) hHeld ?_ ?_
       rotate_left
       ·rintro w' ⟨s0, s1, s2, s3⟩
        go_simp
        with_reducible rfl
       rotate_left
       ·simp only [Act.put, List.setIfInBounds_toArray, List.set_cons_zero, List.set_cons_succ, i64_w, i32_w]
        rfl
       refine take_ (i := 5) (N := some 45) (v := ?_) (a' := ?_) #[true, true, true, true, false, true, false, false, false, false, false, false, false, false, false, false, false, false, false, false, false, false, false, false] rfl rfl (take_ofW HT_.out HW_.out (by kernel_rfl)) (fun _ _ _ h => h) (Or.inl ⟨by rfl, ?_⟩) hHeld ?_ ?_
       rotate_left
       ·rintro w' ⟨s0, s1, s2, s3⟩
        go_simp
        with_reducible rfl
       rotate_left
       ·simp only [Act.put, List.setIfInBounds_toArray, List.set_cons_zero, List.set_cons_succ, i64_w, i32_w]
        rfl
       refine one_ (i := 4) (N := some 44) #[true, true, true, true, true, true, false, false, false, false, false, false, false, false, false, false, false, false, false, false, false, false, false, false] rfl rfl (one_of HT_.out (by kernel_rfl)) (by decide) (fun K hK => ?_)
       refine goes_ Tryd.func20 (by kernel_rfl) rfl #[.agg #[.slice Ao54 t414.length co54, .int .i64 t417]] (by rfl) rfl rfl (by (try simp only [List.map_toArray, List.map_cons, List.map_nil]); first | done | rfl | (simp only [List.length_drop, List.length_take]; rfl)) ?_
       with_reducible refine (limit_Measure.calls kj2 _ _ t414 t417 t424 t425 t426 t427 t428 _ ?side1 ?side2 A29.out).mono ?_
       (case side1 => exact CR HO416)
       (case side2 => exact (Kd.R_reads' HO416.out).2.1)
       rintro e w65 ⟨rfl, hb⟩
       refine ⟨_, rfl, ?_⟩
       replace HO416 := AM (Kd.R_below (RL HO416) hb); replace BK408 := BE BK408 hb; replace BK409 := BE BK409 hb; replace BK419 := BE BK419 hb; replace HB := BS HB hb; (try clear hb)
       (try clear hb2)
       (try clear hk)
       (try clear hi)
       refine hK.out _ _ ⟨(blk_cell BK419.out 0).trans rfl, (blk_cell BK419.out 1).trans rfl, (blk_cell BK408.out 0).trans rfl, (blk_cell BK408.out 1).trans rfl⟩ (fun hHeld => ?_)
       clear hK K; refine norm_ (a' := ?_) ?_ ?_
       rotate_left
       ·show Act.put _ (some 44) _ = _
        simp only [Act.put, List.setIfInBounds_toArray, List.set_cons_zero, List.set_cons_succ, i64_w, i32_w]
        rfl
       refine one_ (i := 6) (N := some 46) #[true, true, true, true, true, true, true, false, false, false, false, false, false, false, false, false, false, false, false, false, false, false, false, false] rfl rfl (one_of HT_.out (by kernel_rfl)) (by decide) (fun K hK => ?_)
       refine goes_ Tryd.func20 (by kernel_rfl) rfl #[.agg #[.slice A0_0 l0_0.length c0_0, .int .i64 a0_1]] (by rfl) rfl rfl (by (try simp only [List.map_toArray, List.map_cons, List.map_nil]); first | done | rfl | (simp only [List.length_drop, List.length_take]; rfl)) ?_
       with_reducible refine (limit_Measure.calls kj2 _ _ l0_0 a0_1 t429 t430 t431 t432 t433 _ ?side1 ?side2 A30.out).mono ?_
       (case side1 => exact Kd.C_below HR0_0.out (BB HB))
       (case side2 => exact HC0_0.out)
       rintro e w66 ⟨rfl, hb⟩
       refine ⟨_, rfl, ?_⟩
       replace HO416 := AM (Kd.R_below (RL HO416) hb); replace BK408 := BE BK408 hb; replace BK409 := BE BK409 hb; replace BK419 := BE BK419 hb; replace HB := BS HB hb; (try clear hb)
       (try clear hb2)
       (try clear hk)
       (try clear hi)
       refine hK.out _ _ ⟨(blk_cell BK419.out 0).trans rfl, (blk_cell BK419.out 1).trans rfl, (blk_cell BK408.out 0).trans rfl, (blk_cell BK408.out 1).trans rfl⟩ (fun hHeld => ?_)
       clear hK K; refine norm_ (a' := ?_) ?_ ?_
       rotate_left
       ·show Act.put _ (some 46) _ = _
        simp only [Act.put, List.setIfInBounds_toArray, List.set_cons_zero, List.set_cons_succ, i64_w, i32_w]
        rfl
       refine pure_ (i := 7) (N := some 47) (v := ?_) (a' := ?_) #[true, true, true, true, true, true, true, true, false, false, false, false, false, false, false, false, false, false, false, false, false, false, false, false] rfl rfl (any_of HT_.out (by kernel_rfl)) (fun _ _ _ h => h) (Or.inl ⟨by rfl, ?_⟩) ?_ ?_
       rotate_left
       ·intro w'
        go_simp
        with_reducible rfl
       rotate_left
       ·simp only [Act.put, List.setIfInBounds_toArray, List.set_cons_zero, List.set_cons_succ, i64_w, i32_w]
        rfl
       refine pure_ (i := 8) (N := some 48) (v := ?_) (a' := ?_) #[true, true, true, true, true, true, true, true, true, false, false, false, false, false, false, false, false, false, false, false, false, false, false, false] rfl rfl (any_of HT_.out (by kernel_rfl)) (fun _ _ _ h => h) (Or.inl ⟨by rfl, ?_⟩) ?_ ?_
       rotate_left
       ·intro w'
        go_simp
        with_reducible rfl
       rotate_left
       ·simp only [Act.put, List.setIfInBounds_toArray, List.set_cons_zero, List.set_cons_succ, i64_w, i32_w]
        rfl
       refine pure_ (i := 9) (N := some 49) (v := ?_) (a' := ?_) #[true, true, true, true, true, true, true, true, true, true, false, false, false, false, false, false, false, false, false, false, false, false, false, false] rfl rfl (any_of HT_.out (by kernel_rfl)) (fun _ _ _ h => h) (Or.inl ⟨by rfl, ?_⟩) ?_ ?_
       rotate_left
       ·intro w'
        go_simp
        with_reducible rfl
       rotate_left
       ·simp only [Act.put, List.setIfInBounds_toArray, List.set_cons_zero, List.set_cons_succ, i64_w, i32_w]
        rfl
       refine pure_ (i := 10) (N := some 50) (v := ?_) (a' := ?_) #[true, true, true, true, true, true, true, true, true, true, true, false, false, false, false, false, false, false, false, false, false, false, false, false] rfl rfl (any_of HT_.out (by kernel_rfl)) (fun _ _ _ h => h) (Or.inl ⟨by rfl, ?_⟩) ?_ ?_
       rotate_left
       ·intro w'
        go_simp
        with_reducible rfl
       rotate_left
       ·simp only [Act.put, List.setIfInBounds_toArray, List.set_cons_zero, List.set_cons_succ, i64_w, i32_w]
        rfl
       refine pure_ (i := 11) (N := some 51) (v := ?_) (a' := ?_) #[true, true, true, true, true, true, true, true, true, true, true, true, false, false, false, false, false, false, false, false, false, false, false, false] rfl rfl (any_of HT_.out (by kernel_rfl)) (fun _ _ _ h => h) (Or.inl ⟨by rfl, ?_⟩) ?_ ?_
       rotate_left
       ·intro w'
        go_simp
        with_reducible rfl
       rotate_left
       ·simp only [Act.put, List.setIfInBounds_toArray, List.set_cons_zero, List.set_cons_succ, i64_w, i32_w]
        rfl
       refine pure_ (i := 12) (N := some 52) (v := ?_) (a' := ?_) #[true, true, true, true, true, true, true, true, true, true, true, true, true, false, false, false, false, false, false, false, false, false, false, false] rfl rfl (any_of HT_.out (by kernel_rfl)) (fun _ _ _ h => h) (Or.inl ⟨by rfl, ?_⟩) ?_ ?_
       rotate_left
       ·intro w'
        go_simp
        with_reducible rfl
       rotate_left
       ·simp only [Act.put, List.setIfInBounds_toArray, List.set_cons_zero, List.set_cons_succ, i64_w, i32_w]
        rfl
       refine pure_ (i := 13) (N := some 53) (v := ?_) (a' := ?_) #[true, true, true, true, true, true, true, true, true, true, true, true, true, true, false, false, false, false, false, false, false, false, false, false] rfl rfl (any_of HT_.out (by kernel_rfl)) (fun _ _ _ h => h) (Or.inl ⟨by rfl, ?_⟩) ?_ ?_
       rotate_left
       ·intro w'
        go_simp
        with_reducible rfl
       rotate_left
       ·simp only [Act.put, List.setIfInBounds_toArray, List.set_cons_zero, List.set_cons_succ, i64_w, i32_w]
        rfl
       refine pure_ (i := 14) (N := some 54) (v := ?_) (a' := ?_) #[true, true, true, true, true, true, true, true, true, true, true, true, true, true, true, false, false, false, false, false, false, false, false, false] rfl rfl (any_of HT_.out (by kernel_rfl)) (fun _ _ _ h => h) (Or.inl ⟨by rfl, ?_⟩) ?_ ?_
       rotate_left
       ·intro w'
        go_simp
        with_reducible rfl
       rotate_left
       ·simp only [Act.put, List.setIfInBounds_toArray, List.set_cons_zero, List.set_cons_succ, i64_w, i32_w]
        rfl
       refine pure_ (i := 15) (N := some 55) (v := ?_) (a' := ?_) #[true, true, true, true, true, true, true, true, true, true, true, true, true, true, true, true, false, false, false, false, false, false, false, false] rfl rfl (any_of HT_.out (by kernel_rfl)) (fun _ _ _ h => h) (Or.inl ⟨by rfl, ?_⟩) ?_ ?_
       rotate_left
       ·intro w'
        go_simp
        with_reducible rfl
       rotate_left
       ·simp only [Act.put, List.setIfInBounds_toArray, List.set_cons_zero, List.set_cons_succ, i64_w, i32_w]
        rfl
       refine pure_ (i := 16) (N := some 56) (v := ?_) (a' := ?_) #[true, true, true, true, true, true, true, true, true, true, true, true, true, true, true, true, true, false, false, false, false, false, false, false] rfl rfl (any_of HT_.out (by kernel_rfl)) (fun _ _ _ h => h) (Or.inl ⟨by rfl, ?_⟩) ?_ ?_
       rotate_left
       ·intro w'
        go_simp
        with_reducible rfl
       rotate_left
       ·simp only [Act.put, List.setIfInBounds_toArray, List.set_cons_zero, List.set_cons_succ, i64_w, i32_w]
        rfl
       refine pure_ (i := 17) (N := some 57) (v := undef) (a' := ?_) #[true, true, true, true, true, true, true, true, true, true, true, true, true, true, true, true, true, true, false, false, false, false, false, false] rfl rfl (any_of HT_.out (by kernel_rfl)) (fun _ _ _ h => h) (Or.inr ⟨by rfl, rfl⟩) ?_ ?_
       rotate_left
       ·simp only [Act.put, List.setIfInBounds_toArray, List.set_cons_zero, List.set_cons_succ, i64_w, i32_w]
        rfl
       refine pure_ (i := 18) (N := some 58) (v := undef) (a' := ?_) #[true, true, true, true, true, true, true, true, true, true, true, true, true, true, true, true, true, true, true, false, false, false, false, false] rfl rfl (any_of HT_.out (by kernel_rfl)) (fun _ _ _ h => h) (Or.inr ⟨by rfl, rfl⟩) ?_ ?_
       rotate_left
       ·simp only [Act.put, List.setIfInBounds_toArray, List.set_cons_zero, List.set_cons_succ, i64_w, i32_w]
        rfl
       refine pure_ (i := 19) (N := some 59) (v := undef) (a' := ?_) #[true, true, true, true, true, true, true, true, true, true, true, true, true, true, true, true, true, true, true, true, false, false, false, false] rfl rfl (any_of HT_.out (by kernel_rfl)) (fun _ _ _ h => h) (Or.inr ⟨by rfl, rfl⟩) ?_ ?_
       rotate_left
       ·simp only [Act.put, List.setIfInBounds_toArray, List.set_cons_zero, List.set_cons_succ, i64_w, i32_w]
        rfl
       refine pure_ (i := 20) (N := some 60) (v := undef) (a' := ?_) #[true, true, true, true, true, true, true, true, true, true, true, true, true, true, true, true, true, true, true, true, true, false, false, false] rfl rfl (any_of HT_.out (by kernel_rfl)) (fun _ _ _ h => h) (Or.inr ⟨by rfl, rfl⟩) ?_ ?_
       rotate_left
       ·simp only [Act.put, List.setIfInBounds_toArray, List.set_cons_zero, List.set_cons_succ, i64_w, i32_w]
        rfl
       refine pure_ (i := 21) (N := some 61) (v := undef) (a' := ?_) #[true, true, true, true, true, true, true, true, true, true, true, true, true, true, true, true, true, true, true, true, true, true, false, false] rfl rfl (any_of HT_.out (by kernel_rfl)) (fun _ _ _ h => h) (Or.inr ⟨by rfl, rfl⟩) ?_ ?_
       rotate_left
       ·simp only [Act.put, List.setIfInBounds_toArray, List.set_cons_zero, List.set_cons_succ, i64_w, i32_w]
        rfl
       refine pure_ (i := 22) (N := some 62) (v := ?_) (a' := ?_) #[true, true, true, true, true, true, true, true, true, true, true, true, true, true, true, true, true, true, true, true, true, true, true, false] rfl rfl (any_of HT_.out (by kernel_rfl)) (fun _ _ _ h => h) (Or.inl ⟨by rfl, ?_⟩) ?_ ?_
       rotate_left
       ·intro w'
        go_simp
        with_reducible rfl
       rotate_left
       ·simp only [Act.put, List.setIfInBounds_toArray, List.set_cons_zero, List.set_cons_succ, i64_w, i32_w]
        rfl
       refine pure_ (i := 23) (N := some 4) (v := ?_) (a' := ?_) #[true, true, true, true, true, true, true, true, true, true, true, true, true, true, true, true, true, true, true, true, true, true, true, true] rfl rfl (any_of HT_.out (by kernel_rfl)) (fun _ _ _ h => h) (Or.inl ⟨by rfl, ?_⟩) ?_ ?_
       rotate_left
       ·intro w'
        go_simp
        with_reducible rfl
       rotate_left
       ·simp only [Act.put, List.setIfInBounds_toArray, List.set_cons_zero, List.set_cons_succ, i64_w, i32_w]
        rfl
       refine done_ (done_of HT_.out (by kernel_rfl)) ?_
       try go_wp2
       go_ret
       exact ⟨by first | rfl | (simp [errW_none, errW_some] <;> rfl) | (simp [*, errW_none, errW_some] <;> rfl), BB HB⟩
     ·rw [if_neg c31] at H; have c31b0 : (t424 == t429 && (t425 == t430 && (t426 == t431 && (t427 == t432 && (t428 == t433))))) = false := by simpa using c31
      (try (have c31b1 : decide (t424 = t429 && (t425 == t430 && (t426 == t431 && (t427 == t432 && (t428 == t433))))) = false := by simpa using c31))
      (try (have c31b2 : (t424 == t429 && (t425 == t430 && (t426 == t431 && (t427 == t432 && (t428 == t433))))) = false := by simpa using c31))
      (try (have c31b3 : ¬ (t424 = t429 && (t425 == t430 && (t426 == t431 && (t427 == t432 && (t428 == t433))))) := by simpa using c31))
      clear c31; obtain rfl := Option.some.inj H; have hnb67 := NB408_409.out; have hnc67 := NB409_408.out; have hcz68_0 := BC BK408 0 (.slice A0_0 l0_0.length c0_0) rfl; have hcz68_1 := BC BK408 1 (.int .i64 a0_1) rfl; have hfz68_0 := BF BK408 0; have hfz68_1 := BF BK408 1; try go_wp2_with (first | ((with_reducible refine gate_callee (f := 27) rfl ?_); refine goesM_ (some 25) rfl rfl Tryd.func27 #[.agg #[.slice A0_0 l0_0.length c0_0, .int .i64 a0_1]] rfl ?_; (with_reducible refine (canon_Canon.calls kj2 _ _ l0_0 a0_1 t414 t417 t418 _ ?side1 ?side2 A25.out).mono ?_); (case side1 => exact Kd.C_below HR0_0.out (BB HB)); (case side2 => exact HC0_0.out); rintro e w69 ⟨v415, rfl, ho0, hb⟩; refine ⟨_, rfl, ?_⟩; have HO416 := AM (Kd.R_lower ho0 (below_size (BB HB))); replace BK408 := BE BK408 hb; replace BK409 := BE BK409 hb; replace HB := BS HB hb; (try clear hb); (try clear hb2); (try clear hk); (try clear hi); (try clear ho0)) | ((with_reducible refine gate_dst (N := 5) rfl ?_); refine box_event ?hg (N := 5) ?hd (cs := #[.slice none 0 0, .int .i64 0]) (t := 24) ?hr ?_; (case hd => rfl); (case hg => rfl); (case hr => first | (go_simp; done) | (go_simp; rfl)); intro gb419 hg w70 hbox hb; replace HO416 := AM (Kd.R_below (RL HO416) hb); have BK419 := AM (hbox); have GW419 := GW HB hg; have GE419 := GW HB hg; replace HB := BS HB hb; have NB408_419 := NL BK408 hg; have NB419_408 := NG BK408 hg; replace BK408 := BE BK408 hb; have NB409_419 := NL BK409 hg; have NB419_409 := NG BK409 hg; replace BK409 := BE BK409 hb; clear hb hbox hg; obtain ⟨Ao71, co71, eo71⟩ := Kd.R_slice HO416.out; subst eo71; have hnb72 := NB419_408.out; have hnc72 := NB408_419.out; have hnb73 := NB419_409.out; have hnc73 := NB409_419.out; have hcz74_0 := BC BK419 0 (.slice none 0 0) rfl; have hcz74_1 := BC BK419 1 (.int .i64 0) rfl; have hfz74_0 := BF BK419 0; have hfz74_1 := BF BK419 1; have hcz75_0 := BC BK408 0 (.slice A0_0 l0_0.length c0_0) rfl; have hcz75_1 := BC BK408 1 (.int .i64 a0_1) rfl; have hfz75_0 := BF BK408 0; have hfz75_1 := BF BK408 1; have hcz76_0 := BC BK409 0 (.int .i64 a1_0) rfl; have hcz76_1 := BC BK409 1 (.int .i64 a1_1) rfl; have hcz76_2 := BC BK409 2 (.int .i64 a1_2) rfl; have hcz76_3 := BC BK409 3 (.int .i64 a1_3) rfl; have hcz76_4 := BC BK409 4 (.int .i64 a1_4) rfl; have hfz76_0 := BF BK409 0; have hfz76_1 := BF BK409 1; have hfz76_2 := BF BK409 2; have hfz76_3 := BF BK409 3; have hfz76_4 := BF BK409 4) | ((with_reducible refine gate_callee (f := 15) rfl ?_); refine goesM_ (some 31) rfl rfl Tryd.func15 #[.agg #[.slice A0_0 l0_0.length c0_0, .int .i64 a0_1], .agg #[.int .i64 a1_0, .int .i64 a1_1, .int .i64 a1_2, .int .i64 a1_3, .int .i64 a1_4]] rfl ?_; (with_reducible refine (limit_Valid.calls kj2 _ _ l0_0 a0_1 a1_0 a1_1 a1_2 a1_3 a1_4 t420 t421 _ ?sideT ?side1 ?side2 A26.out).mono ?_); (case sideT => exact fun w_ hb_ => HTB_.out w_ (below_step (BB HB) hb_)); (case side1 => exact Kd.C_below HR0_0.out (BB HB)); (case side2 => exact HC0_0.out); rintro e w77 ⟨rfl, hb⟩; refine ⟨_, rfl, ?_⟩; replace HO416 := AM (Kd.R_below (by exact (Kd.R_mono (Kd.R_far (p := ⟨gb419, 1, none⟩) (Kd.R_far (p := ⟨gb419, 0, none⟩) (Kd.R_types HO416.out BK419.out (by decide)) (fun _ hk => hk.2) (.slice Ao71 t414.length co71)) (fun _ hk => hk.2) (.int .i64 t417)) (fun _ h_ => h_.1))) hb); replace BK408 := AM (blk_below (g := gb408) (o := .cells #[.slice A0_0 l0_0.length c0_0, .int .i64 a0_1] 24 (0, 0)) (by (repeat refine blk_far ?_ NB408_419.out _); (with_reducible repeat (first | refine blk_drewN ?_ _ | refine blk_drew ?_ | refine blk_alloc ?_ _)); exact BK408.out) hb); replace BK409 := AM (blk_below (g := gb409) (o := .cells #[.int .i64 a1_0, .int .i64 a1_1, .int .i64 a1_2, .int .i64 a1_3, .int .i64 a1_4] 26 (0, 0)) (by (repeat refine blk_far ?_ NB409_419.out _); (with_reducible repeat (first | refine blk_drewN ?_ _ | refine blk_drew ?_ | refine blk_alloc ?_ _)); exact BK409.out) hb); replace BK419 := AM (blk_below (g := gb419) (o := .cells #[.slice Ao71 t414.length co71, .int .i64 t417] 24 (0, 0)) (by refine blk_put (cs := #[.slice Ao71 t414.length co71, .int .i64 0]) ?_ 1 _ rfl; refine blk_put (cs := #[.slice none 0 0, .int .i64 0]) ?_ 0 _ rfl; (with_reducible repeat (first | refine blk_drewN ?_ _ | refine blk_drew ?_ | refine blk_alloc ?_ _)); exact BK419.out) hb); replace HB := BS HB hb; (try clear hb); (try clear hb2); (try clear hk); (try clear hi); have hcz78_0 := BC BK419 0 (.slice Ao71 t414.length co71) rfl; have hcz78_1 := BC BK419 1 (.int .i64 t417) rfl; have hfz78_0 := BF BK419 0; have hfz78_1 := BF BK419 1; have hcz79_0 := BC BK409 0 (.int .i64 a1_0) rfl; have hcz79_1 := BC BK409 1 (.int .i64 a1_1) rfl; have hcz79_2 := BC BK409 2 (.int .i64 a1_2) rfl; have hcz79_3 := BC BK409 3 (.int .i64 a1_3) rfl; have hcz79_4 := BC BK409 4 (.int .i64 a1_4) rfl; have hfz79_0 := BF BK409 0; have hfz79_1 := BF BK409 1; have hfz79_2 := BF BK409 2; have hfz79_3 := BF BK409 3; have hfz79_4 := BF BK409 4) | ((with_reducible refine gate_callee (f := 15) rfl ?_); refine goesM_ (some 37) rfl rfl Tryd.func15 #[.agg #[.slice Ao71 t414.length co71, .int .i64 t417], .agg #[.int .i64 a1_0, .int .i64 a1_1, .int .i64 a1_2, .int .i64 a1_3, .int .i64 a1_4]] rfl ?_; (with_reducible refine (limit_Valid.calls kj2 _ _ t414 t417 a1_0 a1_1 a1_2 a1_3 a1_4 t422 t423 _ ?sideT ?side1 ?side2 A27.out).mono ?_); (case sideT => exact fun w_ hb_ => HTB_.out w_ (below_step (BB HB) hb_)); (case side1 => exact CR HO416); (case side2 => exact (Kd.R_reads' HO416.out).2.1); rintro e w80 ⟨rfl, hb⟩; refine ⟨_, rfl, ?_⟩; replace HO416 := AM (Kd.R_below (RL HO416) hb); replace BK408 := BE BK408 hb; replace BK409 := BE BK409 hb; replace BK419 := BE BK419 hb; replace HB := BS HB hb; (try clear hb); (try clear hb2); (try clear hk); (try clear hi)))
      replace HO416 := AM (Kd.R_drew HO416.out); replace BK408 := AM (blk_drew BK408.out); replace BK409 := AM (blk_drew BK409.out); replace BK419 := AM (blk_drew BK419.out); replace HB := AM (below_drew1 HB.out); refine start_ (n := 24) (S := fun w' => w'.cell? ⟨gb419, 0, none⟩ = some (.slice Ao71 t414.length co71) ∧ w'.cell? ⟨gb419, 1, none⟩ = some (.int .i64 t417) ∧ w'.cell? ⟨gb408, 0, none⟩ = some (.slice A0_0 l0_0.length c0_0) ∧ w'.cell? ⟨gb408, 1, none⟩ = some (.int .i64 a0_1)) (ds := []) #[false, false, false, false, false, false, false, false, false, false, false, false, false, false, false, false, false, false, false, false, false, false, false, false] (by kernel_rfl) rfl rfl ⟨(blk_cell BK419.out 0).trans rfl, (blk_cell BK419.out 1).trans rfl, (blk_cell BK408.out 0).trans rfl, (blk_cell BK408.out 1).trans rfl⟩ (fun hHeld => ?_); refine with_tabW dioramalaw12_LimitCanon.tab6 dioramalaw12_LimitCanon.bits6 (fun HT_ HW_ => ?_)
      generalize w80.drew = w81 at HO416 BK408 BK409 BK419 HB hHeld ⊢
      refine pure_ (i := 0) (N := some 40) (v := ?_) (a' := ?_) #[true, false, false, false, false, false, false, false, false, false, false, false, false, false, false, false, false, false, false, false, false, false, false, false] rfl rfl (any_of HT_.out (by kernel_rfl)) (fun _ _ _ h => h) (Or.inl ⟨by rfl, ?_⟩) ?_ ?_
      rotate_left
      ·intro w'
       go_simp
       with_reducible rfl
      rotate_left
      ·simp only [Act.put, List.setIfInBounds_toArray, List.set_cons_zero, List.set_cons_succ, i64_w, i32_w]
       rfl
      refine pure_ (i := 1) (N := some 41) (v := ?_) (a' := ?_) #[true, true, false, false, false, false, false, false, false, false, false, false, false, false, false, false, false, false, false, false, false, false, false, false] rfl rfl (any_of HT_.out (by kernel_rfl)) (fun _ _ _ h => h) (Or.inl ⟨by rfl, ?_⟩) ?_ ?_
      rotate_left
      ·intro w'
       go_simp
       with_reducible rfl
      rotate_left
      ·simp only [Act.put, List.setIfInBounds_toArray, List.set_cons_zero, List.set_cons_succ, i64_w, i32_w]
       rfl
      refine pure_ (i := 2) (N := some 42) (v := ?_) (a' := ?_) #[true, true, true, false, false, false, false, false, false, false, false, false, false, false, false, false, false, false, false, false, false, false, false, false] rfl rfl (any_of HT_.out (by kernel_rfl)) (fun _ _ _ h => h) (Or.inl ⟨by rfl, ?_⟩) ?_ ?_
      rotate_left
      ·intro w'
       go_simp
       with_reducible rfl
      rotate_left
      ·simp only [Act.put, List.setIfInBounds_toArray, List.set_cons_zero, List.set_cons_succ, i64_w, i32_w]
       rfl
      refine take_ (i := 3) (N := some 43) (v := ?_) (a' := ?_) #[true, true, true, true, false, false, false, false, false, false, false, false, false, false, false, false, false, false, false, false, false, false, false, false] rfl rfl (take_ofW HT_.out HW_.out (by kernel_rfl)) (fun _ _ _ h => h) (Or.inl ⟨by rfl, ?_⟩) hHeld ?_ ?_
      rotate_left
      ·rintro w' ⟨s0, s1, s2, s3⟩
       go_simp
       with_reducible rfl
      rotate_left
      ·simp only [Act.put, List.setIfInBounds_toArray, List.set_cons_zero, List.set_cons_succ, i64_w, i32_w]
       rfl
      refine take_ (i := 5) (N := some 45) (v := ?_) (a' := ?_) #[true, true, true, true, false, true, false, false, false, false, false, false, false, false, false, false, false, false, false, false, false, false, false, false] rfl rfl (take_ofW HT_.out HW_.out (by kernel_rfl)) (fun _ _ _ h => h) (Or.inl ⟨by rfl, ?_⟩) hHeld ?_ ?_
      rotate_left
      ·rintro w' ⟨s0, s1, s2, s3⟩
       go_simp
       with_reducible rfl
      rotate_left
      ·simp only [Act.put, List.setIfInBounds_toArray, List.set_cons_zero, List.set_cons_succ, i64_w, i32_w]
       rfl
      refine one_ (i := 4) (N := some 44) #[true, true, true, true, true, true, false, false, false, false, false, false, false, false, false, false, false, false, false, false, false, false, false, false] rfl rfl (one_of HT_.out (by kernel_rfl)) (by decide) (fun K hK => ?_)
      refine goes_ Tryd.func20 (by kernel_rfl) rfl #[.agg #[.slice Ao71 t414.length co71, .int .i64 t417]] (by rfl) rfl rfl (by (try simp only [List.map_toArray, List.map_cons, List.map_nil]); first | done | rfl | (simp only [List.length_drop, List.length_take]; rfl)) ?_
      with_reducible refine (limit_Measure.calls kj2 _ _ t414 t417 t424 t425 t426 t427 t428 _ ?side1 ?side2 A29.out).mono ?_
      (case side1 => exact CR HO416)
      (case side2 => exact (Kd.R_reads' HO416.out).2.1)
      rintro e w82 ⟨rfl, hb⟩
      refine ⟨_, rfl, ?_⟩
      replace HO416 := AM (Kd.R_below (RL HO416) hb); replace BK408 := BE BK408 hb; replace BK409 := BE BK409 hb; replace BK419 := BE BK419 hb; replace HB := BS HB hb; (try clear hb)
      (try clear hb2)
      (try clear hk)
      (try clear hi)
      refine hK.out _ _ ⟨(blk_cell BK419.out 0).trans rfl, (blk_cell BK419.out 1).trans rfl, (blk_cell BK408.out 0).trans rfl, (blk_cell BK408.out 1).trans rfl⟩ (fun hHeld => ?_)
      clear hK K; refine norm_ (a' := ?_) ?_ ?_
      rotate_left
      ·show Act.put _ (some 44) _ = _
       simp only [Act.put, List.setIfInBounds_toArray, List.set_cons_zero, List.set_cons_succ, i64_w, i32_w]
       rfl
      refine one_ (i := 6) (N := some 46) #[true, true, true, true, true, true, true, false, false, false, false, false, false, false, false, false, false, false, false, false, false, false, false, false] rfl rfl (one_of HT_.out (by kernel_rfl)) (by decide) (fun K hK => ?_)
      refine goes_ Tryd.func20 (by kernel_rfl) rfl #[.agg #[.slice A0_0 l0_0.length c0_0, .int .i64 a0_1]] (by rfl) rfl rfl (by (try simp only [List.map_toArray, List.map_cons, List.map_nil]); first | done | rfl | (simp only [List.length_drop, List.length_take]; rfl)) ?_
      with_reducible refine (limit_Measure.calls kj2 _ _ l0_0 a0_1 t429 t430 t431 t432 t433 _ ?side1 ?side2 A30.out).mono ?_
      (case side1 => exact Kd.C_below HR0_0.out (BB HB))
      (case side2 => exact HC0_0.out)
      rintro e w83 ⟨rfl, hb⟩
      refine ⟨_, rfl, ?_⟩
      replace HO416 := AM (Kd.R_below (RL HO416) hb); replace BK408 := BE BK408 hb; replace BK409 := BE BK409 hb; replace BK419 := BE BK419 hb; replace HB := BS HB hb; (try clear hb)
      (try clear hb2)
      (try clear hk)
      (try clear hi)
      refine hK.out _ _ ⟨(blk_cell BK419.out 0).trans rfl, (blk_cell BK419.out 1).trans rfl, (blk_cell BK408.out 0).trans rfl, (blk_cell BK408.out 1).trans rfl⟩ (fun hHeld => ?_)
      clear hK K; refine norm_ (a' := ?_) ?_ ?_
      rotate_left
      ·show Act.put _ (some 46) _ = _
       simp only [Act.put, List.setIfInBounds_toArray, List.set_cons_zero, List.set_cons_succ, i64_w, i32_w]
       rfl
      refine pure_ (i := 7) (N := some 47) (v := ?_) (a' := ?_) #[true, true, true, true, true, true, true, true, false, false, false, false, false, false, false, false, false, false, false, false, false, false, false, false] rfl rfl (any_of HT_.out (by kernel_rfl)) (fun _ _ _ h => h) (Or.inl ⟨by rfl, ?_⟩) ?_ ?_
      rotate_left
      ·intro w'
       go_simp
       with_reducible rfl
      rotate_left
      ·simp only [Act.put, List.setIfInBounds_toArray, List.set_cons_zero, List.set_cons_succ, i64_w, i32_w]
       rfl
      refine pure_ (i := 8) (N := some 48) (v := ?_) (a' := ?_) #[true, true, true, true, true, true, true, true, true, false, false, false, false, false, false, false, false, false, false, false, false, false, false, false] rfl rfl (any_of HT_.out (by kernel_rfl)) (fun _ _ _ h => h) (Or.inl ⟨by rfl, ?_⟩) ?_ ?_
      rotate_left
      ·intro w'
       go_simp
       with_reducible rfl
      rotate_left
      ·simp only [Act.put, List.setIfInBounds_toArray, List.set_cons_zero, List.set_cons_succ, i64_w, i32_w]
       rfl
      refine pure_ (i := 9) (N := some 49) (v := ?_) (a' := ?_) #[true, true, true, true, true, true, true, true, true, true, false, false, false, false, false, false, false, false, false, false, false, false, false, false] rfl rfl (any_of HT_.out (by kernel_rfl)) (fun _ _ _ h => h) (Or.inl ⟨by rfl, ?_⟩) ?_ ?_
      rotate_left
      ·intro w'
       go_simp
       with_reducible rfl
      rotate_left
      ·simp only [Act.put, List.setIfInBounds_toArray, List.set_cons_zero, List.set_cons_succ, i64_w, i32_w]
       rfl
      refine pure_ (i := 10) (N := some 50) (v := undef) (a' := ?_) #[true, true, true, true, true, true, true, true, true, true, true, false, false, false, false, false, false, false, false, false, false, false, false, false] rfl rfl (any_of HT_.out (by kernel_rfl)) (fun _ _ _ h => h) (Or.inr ⟨by rfl, rfl⟩) ?_ ?_
      rotate_left
      ·simp only [Act.put, List.setIfInBounds_toArray, List.set_cons_zero, List.set_cons_succ, i64_w, i32_w]
       rfl
      refine pure_ (i := 11) (N := some 51) (v := undef) (a' := ?_) #[true, true, true, true, true, true, true, true, true, true, true, true, false, false, false, false, false, false, false, false, false, false, false, false] rfl rfl (any_of HT_.out (by kernel_rfl)) (fun _ _ _ h => h) (Or.inr ⟨by rfl, rfl⟩) ?_ ?_
      rotate_left
      ·simp only [Act.put, List.setIfInBounds_toArray, List.set_cons_zero, List.set_cons_succ, i64_w, i32_w]
       rfl
      refine pure_ (i := 12) (N := some 52) (v := undef) (a' := ?_) #[true, true, true, true, true, true, true, true, true, true, true, true, true, false, false, false, false, false, false, false, false, false, false, false] rfl rfl (any_of HT_.out (by kernel_rfl)) (fun _ _ _ h => h) (Or.inr ⟨by rfl, rfl⟩) ?_ ?_
      rotate_left
      ·simp only [Act.put, List.setIfInBounds_toArray, List.set_cons_zero, List.set_cons_succ, i64_w, i32_w]
       rfl
      refine pure_ (i := 13) (N := some 53) (v := undef) (a' := ?_) #[true, true, true, true, true, true, true, true, true, true, true, true, true, true, false, false, false, false, false, false, false, false, false, false] rfl rfl (any_of HT_.out (by kernel_rfl)) (fun _ _ _ h => h) (Or.inr ⟨by rfl, rfl⟩) ?_ ?_
      rotate_left
      ·simp only [Act.put, List.setIfInBounds_toArray, List.set_cons_zero, List.set_cons_succ, i64_w, i32_w]
       rfl
      refine pure_ (i := 14) (N := some 54) (v := undef) (a' := ?_) #[true, true, true, true, true, true, true, true, true, true, true, true, true, true, true, false, false, false, false, false, false, false, false, false] rfl rfl (any_of HT_.out (by kernel_rfl)) (fun _ _ _ h => h) (Or.inr ⟨by rfl, rfl⟩) ?_ ?_
      rotate_left
      ·simp only [Act.put, List.setIfInBounds_toArray, List.set_cons_zero, List.set_cons_succ, i64_w, i32_w]
       rfl
      refine pure_ (i := 15) (N := some 55) (v := ?_) (a' := ?_) #[true, true, true, true, true, true, true, true, true, true, true, true, true, true, true, true, false, false, false, false, false, false, false, false] rfl rfl (any_of HT_.out (by kernel_rfl)) (fun _ _ _ h => h) (Or.inl ⟨by rfl, ?_⟩) ?_ ?_
      rotate_left
      ·intro w'
       go_simp
       with_reducible rfl
      rotate_left
      ·simp only [Act.put, List.setIfInBounds_toArray, List.set_cons_zero, List.set_cons_succ, i64_w, i32_w]
       rfl
      refine pure_ (i := 16) (N := some 56) (v := ?_) (a' := ?_) #[true, true, true, true, true, true, true, true, true, true, true, true, true, true, true, true, true, false, false, false, false, false, false, false] rfl rfl (any_of HT_.out (by kernel_rfl)) (fun _ _ _ h => h) (Or.inl ⟨by rfl, ?_⟩) ?_ ?_
      rotate_left
      ·intro w'
       go_simp
       with_reducible rfl
      rotate_left
      ·simp only [Act.put, List.setIfInBounds_toArray, List.set_cons_zero, List.set_cons_succ, i64_w, i32_w]
       rfl
      refine pure_ (i := 17) (N := some 57) (v := undef) (a' := ?_) #[true, true, true, true, true, true, true, true, true, true, true, true, true, true, true, true, true, true, false, false, false, false, false, false] rfl rfl (any_of HT_.out (by kernel_rfl)) (fun _ _ _ h => h) (Or.inr ⟨by rfl, rfl⟩) ?_ ?_
      rotate_left
      ·simp only [Act.put, List.setIfInBounds_toArray, List.set_cons_zero, List.set_cons_succ, i64_w, i32_w]
       rfl
      refine pure_ (i := 18) (N := some 58) (v := undef) (a' := ?_) #[true, true, true, true, true, true, true, true, true, true, true, true, true, true, true, true, true, true, true, false, false, false, false, false] rfl rfl (any_of HT_.out (by kernel_rfl)) (fun _ _ _ h => h) (Or.inr ⟨by rfl, rfl⟩) ?_ ?_
      rotate_left
      ·simp only [Act.put, List.setIfInBounds_toArray, List.set_cons_zero, List.set_cons_succ, i64_w, i32_w]
       rfl
      refine pure_ (i := 19) (N := some 59) (v := undef) (a' := ?_) #[true, true, true, true, true, true, true, true, true, true, true, true, true, true, true, true, true, true, true, true, false, false, false, false] rfl rfl (any_of HT_.out (by kernel_rfl)) (fun _ _ _ h => h) (Or.inr ⟨by rfl, rfl⟩) ?_ ?_
      rotate_left
      ·simp only [Act.put, List.setIfInBounds_toArray, List.set_cons_zero, List.set_cons_succ, i64_w, i32_w]
       rfl
      refine pure_ (i := 20) (N := some 60) (v := undef) (a' := ?_) #[true, true, true, true, true, true, true, true, true, true, true, true, true, true, true, true, true, true, true, true, true, false, false, false] rfl rfl (any_of HT_.out (by kernel_rfl)) (fun _ _ _ h => h) (Or.inr ⟨by rfl, rfl⟩) ?_ ?_
      rotate_left
      ·simp only [Act.put, List.setIfInBounds_toArray, List.set_cons_zero, List.set_cons_succ, i64_w, i32_w]
       rfl
      refine pure_ (i := 21) (N := some 61) (v := undef) (a' := ?_) #[true, true, true, true, true, true, true, true, true, true, true, true, true, true, true, true, true, true, true, true, true, true, false, false] rfl rfl (any_of HT_.out (by kernel_rfl)) (fun _ _ _ h => h) (Or.inr ⟨by rfl, rfl⟩) ?_ ?_
      rotate_left
      ·simp only [Act.put, List.setIfInBounds_toArray, List.set_cons_zero, List.set_cons_succ, i64_w, i32_w]
       rfl
      refine pure_ (i := 22) (N := some 62) (v := ?_) (a' := ?_) #[true, true, true, true, true, true, true, true, true, true, true, true, true, true, true, true, true, true, true, true, true, true, true, false] rfl rfl (any_of HT_.out (by kernel_rfl)) (fun _ _ _ h => h) (Or.inl ⟨by rfl, ?_⟩) ?_ ?_
      rotate_left
      ·intro w'
       go_simp
       with_reducible rfl
      rotate_left
      ·simp only [Act.put, List.setIfInBounds_toArray, List.set_cons_zero, List.set_cons_succ, i64_w, i32_w]
       rfl
      refine pure_ (i := 23) (N := some 4) (v := ?_) (a' := ?_) #[true, true, true, true, true, true, true, true, true, true, true, true, true, true, true, true, true, true, true, true, true, true, true, true] rfl rfl (any_of HT_.out (by kernel_rfl)) (fun _ _ _ h => h) (Or.inl ⟨by rfl, ?_⟩) ?_ ?_
      rotate_left
      ·intro w'
       go_simp
       with_reducible rfl
      rotate_left
      ·simp only [Act.put, List.setIfInBounds_toArray, List.set_cons_zero, List.set_cons_succ, i64_w, i32_w]
       rfl
      refine done_ (done_of HT_.out (by kernel_rfl)) ?_
      try go_wp2
      go_ret
      exact ⟨by first | rfl | (simp [errW_none, errW_some] <;> rfl) | (simp [*, errW_none, errW_some] <;> rfl), BB HB⟩
    ·rw [if_neg c28] at H; have c28b0 : (t418 == 0) = false := beq_eq_false_iff_ne.mpr c28; have c28b1 : (t418 != 0) = true := bne_iff_ne.mpr c28; obtain rfl := Option.some.inj H; have hnb84 := NB408_409.out; have hnc84 := NB409_408.out; have hcz85_0 := BC BK408 0 (.slice A0_0 l0_0.length c0_0) rfl; have hcz85_1 := BC BK408 1 (.int .i64 a0_1) rfl; have hfz85_0 := BF BK408 0; have hfz85_1 := BF BK408 1; try go_wp2_with (first | ((with_reducible refine gate_callee (f := 27) rfl ?_); refine goesM_ (some 25) rfl rfl Tryd.func27 #[.agg #[.slice A0_0 l0_0.length c0_0, .int .i64 a0_1]] rfl ?_; (with_reducible refine (canon_Canon.calls kj2 _ _ l0_0 a0_1 t414 t417 t418 _ ?side1 ?side2 A25.out).mono ?_); (case side1 => exact Kd.C_below HR0_0.out (BB HB)); (case side2 => exact HC0_0.out); rintro e w86 ⟨v415, rfl, ho0, hb⟩; refine ⟨_, rfl, ?_⟩; have HO416 := AM (Kd.R_lower ho0 (below_size (BB HB))); replace BK408 := BE BK408 hb; replace BK409 := BE BK409 hb; replace HB := BS HB hb; (try clear hb); (try clear hb2); (try clear hk); (try clear hi); (try clear ho0)) | ((with_reducible refine gate_dst (N := 5) rfl ?_); refine box_event ?hg (N := 5) ?hd (cs := #[.slice none 0 0, .int .i64 0]) (t := 24) ?hr ?_; (case hd => rfl); (case hg => rfl); (case hr => first | (go_simp; done) | (go_simp; rfl)); intro gb419 hg w87 hbox hb; replace HO416 := AM (Kd.R_below (RL HO416) hb); have BK419 := AM (hbox); have GW419 := GW HB hg; have GE419 := GW HB hg; replace HB := BS HB hb; have NB408_419 := NL BK408 hg; have NB419_408 := NG BK408 hg; replace BK408 := BE BK408 hb; have NB409_419 := NL BK409 hg; have NB419_409 := NG BK409 hg; replace BK409 := BE BK409 hb; clear hb hbox hg; obtain ⟨Ao88, co88, eo88⟩ := Kd.R_slice HO416.out; subst eo88; have hnb89 := NB419_408.out; have hnc89 := NB408_419.out; have hnb90 := NB419_409.out; have hnc90 := NB409_419.out; have hcz91_0 := BC BK419 0 (.slice none 0 0) rfl; have hcz91_1 := BC BK419 1 (.int .i64 0) rfl; have hfz91_0 := BF BK419 0; have hfz91_1 := BF BK419 1; have hcz92_0 := BC BK408 0 (.slice A0_0 l0_0.length c0_0) rfl; have hcz92_1 := BC BK408 1 (.int .i64 a0_1) rfl; have hfz92_0 := BF BK408 0; have hfz92_1 := BF BK408 1; have hcz93_0 := BC BK409 0 (.int .i64 a1_0) rfl; have hcz93_1 := BC BK409 1 (.int .i64 a1_1) rfl; have hcz93_2 := BC BK409 2 (.int .i64 a1_2) rfl; have hcz93_3 := BC BK409 3 (.int .i64 a1_3) rfl; have hcz93_4 := BC BK409 4 (.int .i64 a1_4) rfl; have hfz93_0 := BF BK409 0; have hfz93_1 := BF BK409 1; have hfz93_2 := BF BK409 2; have hfz93_3 := BF BK409 3; have hfz93_4 := BF BK409 4) | ((with_reducible refine gate_callee (f := 15) rfl ?_); refine goesM_ (some 31) rfl rfl Tryd.func15 #[.agg #[.slice A0_0 l0_0.length c0_0, .int .i64 a0_1], .agg #[.int .i64 a1_0, .int .i64 a1_1, .int .i64 a1_2, .int .i64 a1_3, .int .i64 a1_4]] rfl ?_; (with_reducible refine (limit_Valid.calls kj2 _ _ l0_0 a0_1 a1_0 a1_1 a1_2 a1_3 a1_4 t420 t421 _ ?sideT ?side1 ?side2 A26.out).mono ?_); (case sideT => exact fun w_ hb_ => HTB_.out w_ (below_step (BB HB) hb_)); (case side1 => exact Kd.C_below HR0_0.out (BB HB)); (case side2 => exact HC0_0.out); rintro e w94 ⟨rfl, hb⟩; refine ⟨_, rfl, ?_⟩; replace HO416 := AM (Kd.R_below (by exact (Kd.R_mono (Kd.R_far (p := ⟨gb419, 1, none⟩) (Kd.R_far (p := ⟨gb419, 0, none⟩) (Kd.R_types HO416.out BK419.out (by decide)) (fun _ hk => hk.2) (.slice Ao88 t414.length co88)) (fun _ hk => hk.2) (.int .i64 t417)) (fun _ h_ => h_.1))) hb); replace BK408 := AM (blk_below (g := gb408) (o := .cells #[.slice A0_0 l0_0.length c0_0, .int .i64 a0_1] 24 (0, 0)) (by (repeat refine blk_far ?_ NB408_419.out _); (with_reducible repeat (first | refine blk_drewN ?_ _ | refine blk_drew ?_ | refine blk_alloc ?_ _)); exact BK408.out) hb); replace BK409 := AM (blk_below (g := gb409) (o := .cells #[.int .i64 a1_0, .int .i64 a1_1, .int .i64 a1_2, .int .i64 a1_3, .int .i64 a1_4] 26 (0, 0)) (by (repeat refine blk_far ?_ NB409_419.out _); (with_reducible repeat (first | refine blk_drewN ?_ _ | refine blk_drew ?_ | refine blk_alloc ?_ _)); exact BK409.out) hb); replace BK419 := AM (blk_below (g := gb419) (o := .cells #[.slice Ao88 t414.length co88, .int .i64 t417] 24 (0, 0)) (by refine blk_put (cs := #[.slice Ao88 t414.length co88, .int .i64 0]) ?_ 1 _ rfl; refine blk_put (cs := #[.slice none 0 0, .int .i64 0]) ?_ 0 _ rfl; (with_reducible repeat (first | refine blk_drewN ?_ _ | refine blk_drew ?_ | refine blk_alloc ?_ _)); exact BK419.out) hb); replace HB := BS HB hb; (try clear hb); (try clear hb2); (try clear hk); (try clear hi); have hcz95_0 := BC BK419 0 (.slice Ao88 t414.length co88) rfl; have hcz95_1 := BC BK419 1 (.int .i64 t417) rfl; have hfz95_0 := BF BK419 0; have hfz95_1 := BF BK419 1; have hcz96_0 := BC BK409 0 (.int .i64 a1_0) rfl; have hcz96_1 := BC BK409 1 (.int .i64 a1_1) rfl; have hcz96_2 := BC BK409 2 (.int .i64 a1_2) rfl; have hcz96_3 := BC BK409 3 (.int .i64 a1_3) rfl; have hcz96_4 := BC BK409 4 (.int .i64 a1_4) rfl; have hfz96_0 := BF BK409 0; have hfz96_1 := BF BK409 1; have hfz96_2 := BF BK409 2; have hfz96_3 := BF BK409 3; have hfz96_4 := BF BK409 4) | ((with_reducible refine gate_callee (f := 15) rfl ?_); refine goesM_ (some 37) rfl rfl Tryd.func15 #[.agg #[.slice Ao88 t414.length co88, .int .i64 t417], .agg #[.int .i64 a1_0, .int .i64 a1_1, .int .i64 a1_2, .int .i64 a1_3, .int .i64 a1_4]] rfl ?_; (with_reducible refine (limit_Valid.calls kj2 _ _ t414 t417 a1_0 a1_1 a1_2 a1_3 a1_4 t422 t423 _ ?sideT ?side1 ?side2 A27.out).mono ?_); (case sideT => exact fun w_ hb_ => HTB_.out w_ (below_step (BB HB) hb_)); (case side1 => exact CR HO416); (case side2 => exact (Kd.R_reads' HO416.out).2.1); rintro e w97 ⟨rfl, hb⟩; refine ⟨_, rfl, ?_⟩; replace HO416 := AM (Kd.R_below (RL HO416) hb); replace BK408 := BE BK408 hb; replace BK409 := BE BK409 hb; replace BK419 := BE BK419 hb; replace HB := BS HB hb; (try clear hb); (try clear hb2); (try clear hk); (try clear hi)))
     replace HO416 := AM (Kd.R_drew HO416.out); replace BK408 := AM (blk_drew BK408.out); replace BK409 := AM (blk_drew BK409.out); replace BK419 := AM (blk_drew BK419.out); replace HB := AM (below_drew1 HB.out); refine start_ (n := 24) (S := fun w' => True) (ds := []) #[false, false, false, false, false, false, false, false, false, false, false, false, false, false, false, false, false, false, false, false, false, false, false, false] (by kernel_rfl) rfl rfl trivial (fun hHeld => ?_); refine with_tabW dioramalaw12_LimitCanon.tab6 dioramalaw12_LimitCanon.bits6 (fun HT_ HW_ => ?_)
     generalize w97.drew = w98 at HO416 BK408 BK409 BK419 HB hHeld ⊢
     refine pure_ (i := 0) (N := some 40) (v := ?_) (a' := ?_) #[true, false, false, false, false, false, false, false, false, false, false, false, false, false, false, false, false, false, false, false, false, false, false, false] rfl rfl (any_of HT_.out (by kernel_rfl)) (fun _ _ _ h => h) (Or.inl ⟨by rfl, ?_⟩) ?_ ?_
     rotate_left
     ·intro w'
      go_simp
      with_reducible rfl
     rotate_left
     ·simp only [Act.put, List.setIfInBounds_toArray, List.set_cons_zero, List.set_cons_succ, i64_w, i32_w]
      rfl
     refine pure_ (i := 1) (N := some 41) (v := ?_) (a' := ?_) #[true, true, false, false, false, false, false, false, false, false, false, false, false, false, false, false, false, false, false, false, false, false, false, false] rfl rfl (any_of HT_.out (by kernel_rfl)) (fun _ _ _ h => h) (Or.inl ⟨by rfl, ?_⟩) ?_ ?_
     rotate_left
     ·intro w'
      go_simp
      with_reducible rfl
     rotate_left
     ·simp only [Act.put, List.setIfInBounds_toArray, List.set_cons_zero, List.set_cons_succ, i64_w, i32_w]
      rfl
     refine pure_ (i := 2) (N := some 42) (v := ?_) (a' := ?_) #[true, true, true, false, false, false, false, false, false, false, false, false, false, false, false, false, false, false, false, false, false, false, false, false] rfl rfl (any_of HT_.out (by kernel_rfl)) (fun _ _ _ h => h) (Or.inl ⟨by rfl, ?_⟩) ?_ ?_
     rotate_left
     ·intro w'
      go_simp
      with_reducible rfl
     rotate_left
     ·simp only [Act.put, List.setIfInBounds_toArray, List.set_cons_zero, List.set_cons_succ, i64_w, i32_w]
      rfl
     refine pure_ (i := 3) (N := some 43) (v := undef) (a' := ?_) #[true, true, true, true, false, false, false, false, false, false, false, false, false, false, false, false, false, false, false, false, false, false, false, false] rfl rfl (any_of HT_.out (by kernel_rfl)) (fun _ _ _ h => h) (Or.inr ⟨by rfl, rfl⟩) ?_ ?_
     rotate_left
     ·simp only [Act.put, List.setIfInBounds_toArray, List.set_cons_zero, List.set_cons_succ, i64_w, i32_w]
      rfl
     refine pure_ (i := 4) (N := some 44) (v := undef) (a' := ?_) #[true, true, true, true, true, false, false, false, false, false, false, false, false, false, false, false, false, false, false, false, false, false, false, false] rfl rfl (any_of HT_.out (by kernel_rfl)) (fun _ _ _ h => h) (Or.inr ⟨by rfl, rfl⟩) ?_ ?_
     rotate_left
     ·simp only [Act.put, List.setIfInBounds_toArray, List.set_cons_zero, List.set_cons_succ, i64_w, i32_w]
      rfl
     refine pure_ (i := 5) (N := some 45) (v := undef) (a' := ?_) #[true, true, true, true, true, true, false, false, false, false, false, false, false, false, false, false, false, false, false, false, false, false, false, false] rfl rfl (any_of HT_.out (by kernel_rfl)) (fun _ _ _ h => h) (Or.inr ⟨by rfl, rfl⟩) ?_ ?_
     rotate_left
     ·simp only [Act.put, List.setIfInBounds_toArray, List.set_cons_zero, List.set_cons_succ, i64_w, i32_w]
      rfl
     refine pure_ (i := 6) (N := some 46) (v := undef) (a' := ?_) #[true, true, true, true, true, true, true, false, false, false, false, false, false, false, false, false, false, false, false, false, false, false, false, false] rfl rfl (any_of HT_.out (by kernel_rfl)) (fun _ _ _ h => h) (Or.inr ⟨by rfl, rfl⟩) ?_ ?_
     rotate_left
     ·simp only [Act.put, List.setIfInBounds_toArray, List.set_cons_zero, List.set_cons_succ, i64_w, i32_w]
      rfl
     refine pure_ (i := 7) (N := some 47) (v := undef) (a' := ?_) #[true, true, true, true, true, true, true, true, false, false, false, false, false, false, false, false, false, false, false, false, false, false, false, false] rfl rfl (any_of HT_.out (by kernel_rfl)) (fun _ _ _ h => h) (Or.inr ⟨by rfl, rfl⟩) ?_ ?_
     rotate_left
     ·simp only [Act.put, List.setIfInBounds_toArray, List.set_cons_zero, List.set_cons_succ, i64_w, i32_w]
      rfl
     refine pure_ (i := 8) (N := some 48) (v := ?_) (a' := ?_) #[true, true, true, true, true, true, true, true, true, false, false, false, false, false, false, false, false, false, false, false, false, false, false, false] rfl rfl (any_of HT_.out (by kernel_rfl)) (fun _ _ _ h => h) (Or.inl ⟨by rfl, ?_⟩) ?_ ?_
     rotate_left
     ·intro w'
      go_simp
      with_reducible rfl
     rotate_left
     ·simp only [Act.put, List.setIfInBounds_toArray, List.set_cons_zero, List.set_cons_succ, i64_w, i32_w]
      rfl
     refine pure_ (i := 9) (N := some 49) (v := ?_) (a' := ?_) #[true, true, true, true, true, true, true, true, true, true, false, false, false, false, false, false, false, false, false, false, false, false, false, false] rfl rfl (any_of HT_.out (by kernel_rfl)) (fun _ _ _ h => h) (Or.inl ⟨by rfl, ?_⟩) ?_ ?_
     rotate_left
     ·intro w'
      go_simp
      with_reducible rfl
     rotate_left
     ·simp only [Act.put, List.setIfInBounds_toArray, List.set_cons_zero, List.set_cons_succ, i64_w, i32_w]
      rfl
     refine pure_ (i := 10) (N := some 50) (v := undef) (a' := ?_) #[true, true, true, true, true, true, true, true, true, true, true, false, false, false, false, false, false, false, false, false, false, false, false, false] rfl rfl (any_of HT_.out (by kernel_rfl)) (fun _ _ _ h => h) (Or.inr ⟨by rfl, rfl⟩) ?_ ?_
     rotate_left
     ·simp only [Act.put, List.setIfInBounds_toArray, List.set_cons_zero, List.set_cons_succ, i64_w, i32_w]
      rfl
     refine pure_ (i := 11) (N := some 51) (v := undef) (a' := ?_) #[true, true, true, true, true, true, true, true, true, true, true, true, false, false, false, false, false, false, false, false, false, false, false, false] rfl rfl (any_of HT_.out (by kernel_rfl)) (fun _ _ _ h => h) (Or.inr ⟨by rfl, rfl⟩) ?_ ?_
     rotate_left
     ·simp only [Act.put, List.setIfInBounds_toArray, List.set_cons_zero, List.set_cons_succ, i64_w, i32_w]
      rfl
     refine pure_ (i := 12) (N := some 52) (v := undef) (a' := ?_) #[true, true, true, true, true, true, true, true, true, true, true, true, true, false, false, false, false, false, false, false, false, false, false, false] rfl rfl (any_of HT_.out (by kernel_rfl)) (fun _ _ _ h => h) (Or.inr ⟨by rfl, rfl⟩) ?_ ?_
     rotate_left
     ·simp only [Act.put, List.setIfInBounds_toArray, List.set_cons_zero, List.set_cons_succ, i64_w, i32_w]
      rfl
     refine pure_ (i := 13) (N := some 53) (v := undef) (a' := ?_) #[true, true, true, true, true, true, true, true, true, true, true, true, true, true, false, false, false, false, false, false, false, false, false, false] rfl rfl (any_of HT_.out (by kernel_rfl)) (fun _ _ _ h => h) (Or.inr ⟨by rfl, rfl⟩) ?_ ?_
     rotate_left
     ·simp only [Act.put, List.setIfInBounds_toArray, List.set_cons_zero, List.set_cons_succ, i64_w, i32_w]
      rfl
     refine pure_ (i := 14) (N := some 54) (v := undef) (a' := ?_) #[true, true, true, true, true, true, true, true, true, true, true, true, true, true, true, false, false, false, false, false, false, false, false, false] rfl rfl (any_of HT_.out (by kernel_rfl)) (fun _ _ _ h => h) (Or.inr ⟨by rfl, rfl⟩) ?_ ?_
     rotate_left
     ·simp only [Act.put, List.setIfInBounds_toArray, List.set_cons_zero, List.set_cons_succ, i64_w, i32_w]
      rfl
     refine pure_ (i := 15) (N := some 55) (v := ?_) (a' := ?_) #[true, true, true, true, true, true, true, true, true, true, true, true, true, true, true, true, false, false, false, false, false, false, false, false] rfl rfl (any_of HT_.out (by kernel_rfl)) (fun _ _ _ h => h) (Or.inl ⟨by rfl, ?_⟩) ?_ ?_
     rotate_left
     ·intro w'
      go_simp
      with_reducible rfl
     rotate_left
     ·simp only [Act.put, List.setIfInBounds_toArray, List.set_cons_zero, List.set_cons_succ, i64_w, i32_w]
      rfl
     refine pure_ (i := 16) (N := some 56) (v := ?_) (a' := ?_) #[true, true, true, true, true, true, true, true, true, true, true, true, true, true, true, true, true, false, false, false, false, false, false, false] rfl rfl (any_of HT_.out (by kernel_rfl)) (fun _ _ _ h => h) (Or.inl ⟨by rfl, ?_⟩) ?_ ?_
     rotate_left
     ·intro w'
      go_simp
      with_reducible rfl
     rotate_left
     ·simp only [Act.put, List.setIfInBounds_toArray, List.set_cons_zero, List.set_cons_succ, i64_w, i32_w]
      rfl
     refine pure_ (i := 17) (N := some 57) (v := undef) (a' := ?_) #[true, true, true, true, true, true, true, true, true, true, true, true, true, true, true, true, true, true, false, false, false, false, false, false] rfl rfl (any_of HT_.out (by kernel_rfl)) (fun _ _ _ h => h) (Or.inr ⟨by rfl, rfl⟩) ?_ ?_
     rotate_left
     ·simp only [Act.put, List.setIfInBounds_toArray, List.set_cons_zero, List.set_cons_succ, i64_w, i32_w]
      rfl
     refine pure_ (i := 18) (N := some 58) (v := undef) (a' := ?_) #[true, true, true, true, true, true, true, true, true, true, true, true, true, true, true, true, true, true, true, false, false, false, false, false] rfl rfl (any_of HT_.out (by kernel_rfl)) (fun _ _ _ h => h) (Or.inr ⟨by rfl, rfl⟩) ?_ ?_
     rotate_left
     ·simp only [Act.put, List.setIfInBounds_toArray, List.set_cons_zero, List.set_cons_succ, i64_w, i32_w]
      rfl
     refine pure_ (i := 19) (N := some 59) (v := undef) (a' := ?_) #[true, true, true, true, true, true, true, true, true, true, true, true, true, true, true, true, true, true, true, true, false, false, false, false] rfl rfl (any_of HT_.out (by kernel_rfl)) (fun _ _ _ h => h) (Or.inr ⟨by rfl, rfl⟩) ?_ ?_
     rotate_left
     ·simp only [Act.put, List.setIfInBounds_toArray, List.set_cons_zero, List.set_cons_succ, i64_w, i32_w]
      rfl
     refine pure_ (i := 20) (N := some 60) (v := undef) (a' := ?_) #[true, true, true, true, true, true, true, true, true, true, true, true, true, true, true, true, true, true, true, true, true, false, false, false] rfl rfl (any_of HT_.out (by kernel_rfl)) (fun _ _ _ h => h) (Or.inr ⟨by rfl, rfl⟩) ?_ ?_
     rotate_left
     ·simp only [Act.put, List.setIfInBounds_toArray, List.set_cons_zero, List.set_cons_succ, i64_w, i32_w]
      rfl
     refine pure_ (i := 21) (N := some 61) (v := undef) (a' := ?_) #[true, true, true, true, true, true, true, true, true, true, true, true, true, true, true, true, true, true, true, true, true, true, false, false] rfl rfl (any_of HT_.out (by kernel_rfl)) (fun _ _ _ h => h) (Or.inr ⟨by rfl, rfl⟩) ?_ ?_
     rotate_left
     ·simp only [Act.put, List.setIfInBounds_toArray, List.set_cons_zero, List.set_cons_succ, i64_w, i32_w]
      rfl
     refine pure_ (i := 22) (N := some 62) (v := ?_) (a' := ?_) #[true, true, true, true, true, true, true, true, true, true, true, true, true, true, true, true, true, true, true, true, true, true, true, false] rfl rfl (any_of HT_.out (by kernel_rfl)) (fun _ _ _ h => h) (Or.inl ⟨by rfl, ?_⟩) ?_ ?_
     rotate_left
     ·intro w'
      go_simp
      with_reducible rfl
     rotate_left
     ·simp only [Act.put, List.setIfInBounds_toArray, List.set_cons_zero, List.set_cons_succ, i64_w, i32_w]
      rfl
     refine pure_ (i := 23) (N := some 4) (v := ?_) (a' := ?_) #[true, true, true, true, true, true, true, true, true, true, true, true, true, true, true, true, true, true, true, true, true, true, true, true] rfl rfl (any_of HT_.out (by kernel_rfl)) (fun _ _ _ h => h) (Or.inl ⟨by rfl, ?_⟩) ?_ ?_
     rotate_left
     ·intro w'
      go_simp
      with_reducible rfl
     rotate_left
     ·simp only [Act.put, List.setIfInBounds_toArray, List.set_cons_zero, List.set_cons_succ, i64_w, i32_w]
      rfl
     refine done_ (done_of HT_.out (by kernel_rfl)) ?_
     try go_wp2
     go_ret
     exact ⟨by first | rfl | (simp [errW_none, errW_some] <;> rfl) | (simp [*, errW_none, errW_some] <;> rfl), BB HB⟩

end Go.Proofs.YtcphcaiiofeflaaDoor.GL
