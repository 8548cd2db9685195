-- Printed by a program of the session (wip/gen/tprint.py, over a turned copy of the kit's print): Lean checks it.
import Derived.Test.YtcphcaiiofeflaaDoorLgGLx0
import Derived.Test.YtcphcaiiofeflaaDoorLgGLx7
import Derived.Test.YtcphcaiiofeflaaDoorLgGLx8
import Derived.Test.YtcphcaiiofeflaaDoorLgGLx10
namespace Go.Proofs.YtcphcaiiofeflaaDoor.GL
open Go.RowKit Go.Proofs.YtcphcaiiofeflaaDoorW.PrintWords Go.Proofs.YtcphcaiiofeflaaDoorW.PrintLast Go.Proofs.YtcphcaiiofeflaaDoorW.PrintMore
attribute [local go_sem] max2_int min2_int max_two min_two max_three min_three max_four min_four   -- for this text's walks alone
set_option linter.unusedVariables false
set_option linter.unusedSimpArgs false

/-! ### dioramalaw12_LimitGrows: function 5 -/
mutual
def dioramalaw12_LimitGrows.j0 : Nat → Bool → List (S53) → Int → Int → Int → Int → Int → Int → Int → Int → Int → Int → Int → Option (Bool)
 | 0, _, _, _, _, _, _, _, _, _, _, _, _, _ => none
 | k + 1, x24, x380000, x380001, x381000, x381001, x381002, x381003, x381004, x382000, x382001, x382002, x382003, x382004 => if x24 = true then ((dioramalaw12_awake.f k).bind fun t384 => (some t384)) else ((limit_Valid.f k x380000 x380001 x381000 x381001 x381002 x381003 x381004).bind fun bt385 => (if bt385.1 = 0 then ((limit_Measure.f k x380000 x380001).bind fun bt387 => ((limit_Valid.f k x380000 x380001 bt387.1 bt387.2.1 bt387.2.2.1 bt387.2.2.2.1 bt387.2.2.2.2).bind fun bt393 => (if bt393.1 = 0 then ((limit_Within.f bt387.1 bt387.2.1 bt387.2.2.1 bt387.2.2.2.1 bt387.2.2.2.2 x381000 x381001 x381002 x381003 x381004).bind fun t395 => (dioramalaw12_LimitGrows.j1 k (!t395) x380000 x380001 x381000 x381001 x381002 x381003 x381004 x382000 x382001 x382002 x382003 x382004 bt387.1 bt387.2.1 bt387.2.2.1 bt387.2.2.2.1 bt387.2.2.2.2)) else (dioramalaw12_LimitGrows.j1 k true x380000 x380001 x381000 x381001 x381002 x381003 x381004 x382000 x382001 x382002 x382003 x382004 bt387.1 bt387.2.1 bt387.2.2.1 bt387.2.2.2.1 bt387.2.2.2.2)))) else (some true)))
def dioramalaw12_LimitGrows.j1 : Nat → Bool → List (S53) → Int → Int → Int → Int → Int → Int → Int → Int → Int → Int → Int → Int → Int → Int → Int → Int → Option (Bool)
 | 0, _, _, _, _, _, _, _, _, _, _, _, _, _, _, _, _, _, _ => none
 | k + 1, x49, x380000, x380001, x381000, x381001, x381002, x381003, x381004, x382000, x382001, x382002, x382003, x382004, x393000, x393001, x393002, x393003, x393004 => if x49 = true then (some false) else ((limit_Within.f x381000 x381001 x381002 x381003 x381004 x382000 x382001 x382002 x382003 x382004).bind fun t396 => (if t396 = true then ((limit_Right.f x382000 x382001 x382002 x382003 x382004).bind fun t397 => (dioramalaw12_LimitGrows.j2 k t397 x380000 x380001 x382000 x382001 x382002 x382003 x382004 x393000 x393001 x393002 x393003 x393004)) else (dioramalaw12_LimitGrows.j2 k false x380000 x380001 x382000 x382001 x382002 x382003 x382004 x393000 x393001 x393002 x393003 x393004)))
def dioramalaw12_LimitGrows.j2 : Nat → Bool → List (S53) → Int → Int → Int → Int → Int → Int → Int → Int → Int → Int → Int → Option (Bool)
 | 0, _, _, _, _, _, _, _, _, _, _, _, _, _ => none
 | k + 1, x56, x380000, x380001, x382000, x382001, x382002, x382003, x382004, x393000, x393001, x393002, x393003, x393004 => if x56 = true then ((limit_Valid.f k x380000 x380001 x382000 x382001 x382002 x382003 x382004).bind fun bt398 => (if bt398.1 = 0 then (dioramalaw12_LimitGrows.j3 k x380000 x380001 x393000 x393001 x393002 x393003 x393004) else (some false))) else (dioramalaw12_LimitGrows.j3 k x380000 x380001 x393000 x393001 x393002 x393003 x393004)
def dioramalaw12_LimitGrows.j3 : Nat → List (S53) → Int → Int → Int → Int → Int → Int → Option (Bool)
 | 0, _, _, _, _, _, _, _ => none
 | k + 1, x380000, x380001, x393000, x393001, x393002, x393003, x393004 => (some (([(⟨0, 1, 0, 0, 0⟩ : S26), (⟨0, 0, 1, 0, 0⟩ : S26), (⟨0, 0, 0, 1, 0⟩ : S26), (⟨0, 0, 0, 0, 1⟩ : S26)] : List (S26)) : List (S26))).bind fun y400 => (dioramalaw12_LimitGrows.l0 k y400 (y400.length : Int) 0 x380000 x380001 x393000 x393001 x393002 x393003 x393004)
def dioramalaw12_LimitGrows.l0 : Nat → List (S26) → Int → Int → List (S53) → Int → Int → Int → Int → Int → Int → Option (Bool)
 | 0, _, _, _, _, _, _, _, _, _, _ => none
 | k + 1, x69, x70, x71, x380000, x380001, x393000, x393001, x393002, x393003, x393004 => if x71 < x70 then (if 0 ≤ x71 then (if x71 < (x69.length : Int) then ((limit_Right.f 0 (wrap64 (x393001 - ((rd_T26 x69 x71).f1))) (wrap64 (x393002 - ((rd_T26 x69 x71).f2))) (wrap64 (x393003 - ((rd_T26 x69 x71).f3))) (wrap64 (x393004 - ((rd_T26 x69 x71).f4)))).bind fun t406 => (if t406 = true then ((limit_Valid.f k x380000 x380001 0 (wrap64 (x393001 - ((rd_T26 x69 x71).f1))) (wrap64 (x393002 - ((rd_T26 x69 x71).f2))) (wrap64 (x393003 - ((rd_T26 x69 x71).f3))) (wrap64 (x393004 - ((rd_T26 x69 x71).f4)))).bind fun bt407 => (if bt407.1 = 19 then (dioramalaw12_LimitGrows.l0 k x69 x70 (wrap64 (x71 + 1)) x380000 x380001 x393000 x393001 x393002 x393003 x393004) else (some false))) else (dioramalaw12_LimitGrows.l0 k x69 x70 (wrap64 (x71 + 1)) x380000 x380001 x393000 x393001 x393002 x393003 x393004))) else (none)) else (none)) else (some true)
end
def dioramalaw12_LimitGrows.f (k : Nat) (l0_0 : List (S53)) (a0_1 : Int) (a1_0 : Int) (a1_1 : Int) (a1_2 : Int) (a1_3 : Int) (a1_4 : Int) (a2_0 : Int) (a2_1 : Int) (a2_2 : Int) (a2_3 : Int) (a2_4 : Int) : Option (Bool) := (dioramalaw12_awake.f k).bind fun t382 => (if t382 = true then ((dioramaref09_Great.f k l0_0 a0_1).bind fun t383 => (dioramalaw12_LimitGrows.j0 k t383 l0_0 a0_1 a1_0 a1_1 a1_2 a1_3 a1_4 a2_0 a2_1 a2_2 a2_3 a2_4)) else (dioramalaw12_LimitGrows.j0 k true l0_0 a0_1 a1_0 a1_1 a1_2 a1_3 a1_4 a2_0 a2_1 a2_2 a2_3 a2_4))
set_option maxHeartbeats 8000000 in
set_option maxRecDepth 100000 in
theorem dioramalaw12_LimitGrows.calls (k : Nat) (A0_0 : Option Addr) (c0_0 : Nat) (l0_0 : List (S53)) (a0_1 : Int) (a1_0 : Int) (a1_1 : Int) (a1_2 : Int) (a1_3 : Int) (a1_4 : Int) (a2_0 : Int) (a2_1 : Int) (a2_2 : Int) (a2_3 : Int) (a2_4 : Int) (r : Bool) (w : World) (ht_ : ∀ w', Below w.heap.size w w' → Go.Lib.Utf8Tabs 0 1 w') (hr0_0 : Kd.C k53 w A0_0 l0_0.length l0_0) (hc0_0 : l0_0.length ≤ c0_0) (h : dioramalaw12_LimitGrows.f k l0_0 a0_1 a1_0 a1_1 a1_2 a1_3 a1_4 a2_0 a2_1 a2_2 a2_3 a2_4 = some r) :
  Calls Tryd.prog 5 #[.agg #[.slice A0_0 l0_0.length c0_0, .int .i64 a0_1], .agg #[.int .i64 a1_0, .int .i64 a1_1, .int .i64 a1_2, .int .i64 a1_3, .int .i64 a1_4], .agg #[.int .i64 a2_0, .int .i64 a2_1, .int .i64 a2_2, .int .i64 a2_3, .int .i64 a2_4]] w fun e w' => e = .returned (.bool r) ∧ Below w.heap.size w w' := by
 have HTB_ := AM ht_; clear ht_; have hu24 := Tryd.underlying24; have hu26 := Tryd.underlying26; have HR0_0 := AM hr0_0; have HC0_0 := AM hc0_0; clear hr0_0 hc0_0; have HB := AM (Below.refl w.heap.size w); have H : ((dioramalaw12_awake.f k).bind fun t382 => (if t382 = true then ((dioramaref09_Great.f k l0_0 a0_1).bind fun t383 => (dioramalaw12_LimitGrows.j0 k t383 l0_0 a0_1 a1_0 a1_1 a1_2 a1_3 a1_4 a2_0 a2_1 a2_2 a2_3 a2_4)) else (dioramalaw12_LimitGrows.j0 k true l0_0 a0_1 a1_0 a1_1 a1_2 a1_3 a1_4 a2_0 a2_1 a2_2 a2_3 a2_4))) = some r := h
 clear h; have HC4 := AM H; clear H; go_enter Tryd.func5, Tryd.ntmps5
 go_upto_region 1 with (first | ((with_reducible refine gate_dst (N := 3) rfl ?_); refine box_event ?hg (N := 3) ?hd (cs := #[.slice A0_0 l0_0.length c0_0, .int .i64 a0_1]) (t := 24) ?hr ?_; (case hd => rfl); (case hg => rfl); (case hr => first | (go_simp; done) | (go_simp; rfl)); intro gb379 hg w5 hbox hb; have BK379 := AM (hbox); have GW379 := GW HB hg; have GE379 := GW HB hg; replace HB := BS HB hb; clear hb hbox hg) | ((with_reducible refine gate_dst (N := 4) rfl ?_); refine box_event ?hg (N := 4) ?hd (cs := #[.int .i64 a1_0, .int .i64 a1_1, .int .i64 a1_2, .int .i64 a1_3, .int .i64 a1_4]) (t := 26) ?hr ?_; (case hd => rfl); (case hg => rfl); (case hr => first | (go_simp; done) | (go_simp; rfl)); intro gb380 hg w6 hbox hb; have BK380 := AM (hbox); have GW380 := GW HB hg; have GE380 := GW HB hg; replace HB := BS HB hb; have NB379_380 := NL BK379 hg; have NB380_379 := NG BK379 hg; replace BK379 := BE BK379 hb; clear hb hbox hg) | ((with_reducible refine gate_dst (N := 5) rfl ?_); refine box_event ?hg (N := 5) ?hd (cs := #[.int .i64 a2_0, .int .i64 a2_1, .int .i64 a2_2, .int .i64 a2_3, .int .i64 a2_4]) (t := 26) ?hr ?_; (case hd => rfl); (case hg => rfl); (case hr => first | (go_simp; done) | (go_simp; rfl)); intro gb381 hg w7 hbox hb; have BK381 := AM (hbox); have GW381 := GW HB hg; have GE381 := GW HB hg; replace HB := BS HB hb; have NB379_381 := NL BK379 hg; have NB381_379 := NG BK379 hg; replace BK379 := BE BK379 hb; have NB380_381 := NL BK380 hg; have NB381_380 := NG BK380 hg; replace BK380 := BE BK380 hb; clear hb hbox hg))
 (try simp only [Act.put, List.setIfInBounds_toArray, List.set_cons_zero, List.set_cons_succ])
 go_cut [24] (fun v24 wc => ∃ (kq : Nat) (x24_3 : Bool), v24 = .bool x24_3 ∧ Aside0 (dioramalaw12_LimitGrows.j0 kq x24_3 l0_0 a0_1 a1_0 a1_1 a1_2 a1_3 a1_4 a2_0 a2_1 a2_2 a2_3 a2_4 = some r) ∧ Aside0 (kq ≤ k) ∧ Aside0 (wc.heap[gb379]? = some (.cells #[(.slice A0_0 l0_0.length c0_0), .int .i64 a0_1] 24 (0, 0))) ∧ Aside0 (wc.heap[gb380]? = some (.cells #[.int .i64 a1_0, .int .i64 a1_1, .int .i64 a1_2, .int .i64 a1_3, .int .i64 a1_4] 26 (0, 0))) ∧ Aside0 (wc.heap[gb381]? = some (.cells #[.int .i64 a2_0, .int .i64 a2_1, .int .i64 a2_2, .int .i64 a2_3, .int .i64 a2_4] 26 (0, 0))) ∧ Aside0 (Below w.heap.size w wc))
 case first =>
  have H := HC4.out; clear HC4; replace H := Option.bind_eq_some_iff.mp H; obtain ⟨t382, A80, H⟩ := H; replace H : (if t382 = true then ((dioramaref09_Great.f k l0_0 a0_1).bind fun t383 => (dioramalaw12_LimitGrows.j0 k t383 l0_0 a0_1 a1_0 a1_1 a1_2 a1_3 a1_4 a2_0 a2_1 a2_2 a2_3 a2_4)) else (dioramalaw12_LimitGrows.j0 k true l0_0 a0_1 a1_0 a1_1 a1_2 a1_3 a1_4 a2_0 a2_1 a2_2 a2_3 a2_4)) = some r := H
  have A8 := AM A80; clear A80; by_cases c9 : t382 = true
  ·subst c9; have H1 : ((dioramaref09_Great.f k l0_0 a0_1).bind fun t383 => (dioramalaw12_LimitGrows.j0 k t383 l0_0 a0_1 a1_0 a1_1 a1_2 a1_3 a1_4 a2_0 a2_1 a2_2 a2_3 a2_4)) = some r := by rw [if_pos rfl] at H; exact H
   clear H; have H := H1; clear H1; replace H := Option.bind_eq_some_iff.mp H; obtain ⟨t383, A100, H⟩ := H; replace H : (dioramalaw12_LimitGrows.j0 k t383 l0_0 a0_1 a1_0 a1_1 a1_2 a1_3 a1_4 a2_0 a2_1 a2_2 a2_3 a2_4) = some r := H; have A10 := AM A100; clear A100; have H' := AM H; clear H; go_wp2_with (first | ((with_reducible refine gate_callee (f := 13) rfl ?_); refine goesM_ (some 19) rfl rfl Tryd.func13 #[] rfl ?_; (with_reducible refine (dioramalaw12_awake.calls k  true _ (fun w_ hb_ => HTB_.out w_ (below_step (BB HB) hb_)) A8.out).mono ?_); rintro e w11 ⟨rfl, hb⟩; refine ⟨_, rfl, ?_⟩; replace BK379 := BE BK379 hb; replace BK380 := BE BK380 hb; replace BK381 := BE BK381 hb; replace HB := BS HB hb; (try clear hb); (try clear hb2); (try clear hk); (try clear hi); have hnb12 := NB379_380.out; have hnc12 := NB380_379.out; have hnb13 := NB379_381.out; have hnc13 := NB381_379.out; have hcz14_0 := BC BK379 0 (.slice A0_0 l0_0.length c0_0) rfl; have hcz14_1 := BC BK379 1 (.int .i64 a0_1) rfl; have hfz14_0 := BF BK379 0; have hfz14_1 := BF BK379 1) | (go_at_call 14; (with_reducible refine (dioramaref09_Great.calls k _ _ l0_0 a0_1 t383 _ ?side1 ?side2 A10.out).mono ?_); (case side1 => exact Kd.C_below HR0_0.out (BB HB)); (case side2 => exact HC0_0.out); rintro e w15 ⟨rfl, hb⟩; replace BK379 := BE BK379 hb; replace BK380 := BE BK380 hb; replace BK381 := BE BK381 hb; replace HB := BS HB hb; (try clear hb); (try clear hb2); (try clear hk); (try clear hi)))
   go_meet
   case rel => exact ⟨_, (t383), (by first | rfl | (simp; done) | (simp [*]; done)), H', ⟨by first | omega | exact Nat.le_refl _⟩, ⟨BL BK379⟩, ⟨BL BK380⟩, ⟨BL BK381⟩, ⟨BB HB⟩⟩
  ·replace c9 := Bool.eq_false_iff.mpr c9; subst c9; have H1 : (dioramalaw12_LimitGrows.j0 k true l0_0 a0_1 a1_0 a1_1 a1_2 a1_3 a1_4 a2_0 a2_1 a2_2 a2_3 a2_4) = some r := by rw [if_neg (show ¬ (false = true) by decide)] at H; exact H
   clear H; have H := H1; clear H1; have H' := AM H; clear H; go_wp2_with (first | ((with_reducible refine gate_callee (f := 13) rfl ?_); refine goesM_ (some 19) rfl rfl Tryd.func13 #[] rfl ?_; (with_reducible refine (dioramalaw12_awake.calls k  false _ (fun w_ hb_ => HTB_.out w_ (below_step (BB HB) hb_)) A8.out).mono ?_); rintro e w16 ⟨rfl, hb⟩; refine ⟨_, rfl, ?_⟩; replace BK379 := BE BK379 hb; replace BK380 := BE BK380 hb; replace BK381 := BE BK381 hb; replace HB := BS HB hb; (try clear hb); (try clear hb2); (try clear hk); (try clear hi)))
   go_meet
   case rel => exact ⟨_, (true), (by first | rfl | (simp; done) | (simp [*]; done)), H', ⟨by first | omega | exact Nat.le_refl _⟩, ⟨BL BK379⟩, ⟨BL BK380⟩, ⟨BL BK381⟩, ⟨BB HB⟩⟩
 case rest =>
  clear HC4; try clear c1
  try clear p2
  try clear c5
  try clear c9
  try clear c12
  try clear c13
  try clear hcz14_0
  try clear hcz14_1
  try clear hfz14_0
  try clear hfz14_1
  obtain ⟨kq, x24_3, rfl, HA, HJ3, BK379, BK380, BK381, HB⟩ := hcut; cases kq with
  | zero => exact absurd HA.out (by simp [dioramalaw12_LimitGrows.j0])
  | succ kj3 =>
   have H := HA.out; clear HA; simp only [dioramalaw12_LimitGrows.j0] at H
   by_cases c17 : x24_3 = true
   ·subst c17; have H1 : ((dioramalaw12_awake.f kj3).bind fun t384 => (some t384)) = some r := by rw [if_pos rfl] at H; exact H
    clear H; have H := H1; clear H1; replace H := Option.bind_eq_some_iff.mp H; obtain ⟨t384, A180, H⟩ := H; replace H : (some t384) = some r := H; have A18 := AM A180; clear A180; obtain rfl := Option.some.inj H; go_wp2_with (first | ((with_reducible refine gate_callee (f := 13) rfl ?_); refine goesM_ (some 25) rfl rfl Tryd.func13 #[] rfl ?_; (with_reducible refine (dioramalaw12_awake.calls kj3  t384 _ (fun w_ hb_ => HTB_.out w_ (below_step (BB HB) hb_)) A18.out).mono ?_); rintro e w19 ⟨rfl, hb⟩; refine ⟨_, rfl, ?_⟩; replace BK379 := BE BK379 hb; replace BK380 := BE BK380 hb; replace BK381 := BE BK381 hb; replace HB := BS HB hb; (try clear hb); (try clear hb2); (try clear hk); (try clear hi)))
    go_ret
    exact ⟨by first | rfl | (simp [errW_none, errW_some] <;> rfl) | (simp [*, errW_none, errW_some] <;> rfl), BB HB⟩
   ·replace c17 := Bool.eq_false_iff.mpr c17; subst c17; have H1 : ((limit_Valid.f kj3 l0_0 a0_1 a1_0 a1_1 a1_2 a1_3 a1_4).bind fun bt385 => (if bt385.1 = 0 then ((limit_Measure.f kj3 l0_0 a0_1).bind fun bt387 => ((limit_Valid.f kj3 l0_0 a0_1 bt387.1 bt387.2.1 bt387.2.2.1 bt387.2.2.2.1 bt387.2.2.2.2).bind fun bt393 => (if bt393.1 = 0 then ((limit_Within.f bt387.1 bt387.2.1 bt387.2.2.1 bt387.2.2.2.1 bt387.2.2.2.2 a1_0 a1_1 a1_2 a1_3 a1_4).bind fun t395 => (dioramalaw12_LimitGrows.j1 kj3 (!t395) l0_0 a0_1 a1_0 a1_1 a1_2 a1_3 a1_4 a2_0 a2_1 a2_2 a2_3 a2_4 bt387.1 bt387.2.1 bt387.2.2.1 bt387.2.2.2.1 bt387.2.2.2.2)) else (dioramalaw12_LimitGrows.j1 kj3 true l0_0 a0_1 a1_0 a1_1 a1_2 a1_3 a1_4 a2_0 a2_1 a2_2 a2_3 a2_4 bt387.1 bt387.2.1 bt387.2.2.1 bt387.2.2.2.1 bt387.2.2.2.2)))) else (some true))) = some r := by rw [if_neg (show ¬ (false = true) by decide)] at H; exact H
    clear H; have H := H1; clear H1; replace H := Option.bind_eq_some_iff.mp H; obtain ⟨⟨t385, t386⟩, A200, H⟩ := H; replace H : (if t385 = 0 then ((limit_Measure.f kj3 l0_0 a0_1).bind fun bt387 => ((limit_Valid.f kj3 l0_0 a0_1 bt387.1 bt387.2.1 bt387.2.2.1 bt387.2.2.2.1 bt387.2.2.2.2).bind fun bt393 => (if bt393.1 = 0 then ((limit_Within.f bt387.1 bt387.2.1 bt387.2.2.1 bt387.2.2.2.1 bt387.2.2.2.2 a1_0 a1_1 a1_2 a1_3 a1_4).bind fun t395 => (dioramalaw12_LimitGrows.j1 kj3 (!t395) l0_0 a0_1 a1_0 a1_1 a1_2 a1_3 a1_4 a2_0 a2_1 a2_2 a2_3 a2_4 bt387.1 bt387.2.1 bt387.2.2.1 bt387.2.2.2.1 bt387.2.2.2.2)) else (dioramalaw12_LimitGrows.j1 kj3 true l0_0 a0_1 a1_0 a1_1 a1_2 a1_3 a1_4 a2_0 a2_1 a2_2 a2_3 a2_4 bt387.1 bt387.2.1 bt387.2.2.1 bt387.2.2.2.1 bt387.2.2.2.2)))) else (some true)) = some r := H
    have A20 := AM A200; clear A200; by_cases c21 : t385 = 0
    ·rw [if_pos c21] at H; have c21b0 : (t385 == 0) = true := beq_iff_eq.mpr c21; have c21b1 : (t385 != 0) = false := bne_eq_false_iff_eq.mpr c21; clear c21; replace H := Option.bind_eq_some_iff.mp H; obtain ⟨⟨t387, t388, t389, t390, t391⟩, A220, H⟩ := H; replace H : ((limit_Valid.f kj3 l0_0 a0_1 t387 t388 t389 t390 t391).bind fun bt393 => (if bt393.1 = 0 then ((limit_Within.f t387 t388 t389 t390 t391 a1_0 a1_1 a1_2 a1_3 a1_4).bind fun t395 => (dioramalaw12_LimitGrows.j1 kj3 (!t395) l0_0 a0_1 a1_0 a1_1 a1_2 a1_3 a1_4 a2_0 a2_1 a2_2 a2_3 a2_4 t387 t388 t389 t390 t391)) else (dioramalaw12_LimitGrows.j1 kj3 true l0_0 a0_1 a1_0 a1_1 a1_2 a1_3 a1_4 a2_0 a2_1 a2_2 a2_3 a2_4 t387 t388 t389 t390 t391))) = some r := H
     have A22 := AM A220; clear A220; replace H := Option.bind_eq_some_iff.mp H; obtain ⟨⟨t393, t394⟩, A230, H⟩ := H; replace H : (if t393 = 0 then ((limit_Within.f t387 t388 t389 t390 t391 a1_0 a1_1 a1_2 a1_3 a1_4).bind fun t395 => (dioramalaw12_LimitGrows.j1 kj3 (!t395) l0_0 a0_1 a1_0 a1_1 a1_2 a1_3 a1_4 a2_0 a2_1 a2_2 a2_3 a2_4 t387 t388 t389 t390 t391)) else (dioramalaw12_LimitGrows.j1 kj3 true l0_0 a0_1 a1_0 a1_1 a1_2 a1_3 a1_4 a2_0 a2_1 a2_2 a2_3 a2_4 t387 t388 t389 t390 t391)) = some r := H
     have A23 := AM A230; clear A230; have HC24 := AM H; clear H; have hnb25 := NB379_380.out; have hnc25 := NB380_379.out; have hnb26 := NB379_381.out; have hnc26 := NB381_379.out; have hcz27_0 := BC BK379 0 (.slice A0_0 l0_0.length c0_0) rfl; have hcz27_1 := BC BK379 1 (.int .i64 a0_1) rfl; have hfz27_0 := BF BK379 0; have hfz27_1 := BF BK379 1; have hnb28 := NB380_381.out; have hnc28 := NB381_380.out; have hcz29_0 := BC BK380 0 (.int .i64 a1_0) rfl; have hcz29_1 := BC BK380 1 (.int .i64 a1_1) rfl; have hcz29_2 := BC BK380 2 (.int .i64 a1_2) rfl; have hcz29_3 := BC BK380 3 (.int .i64 a1_3) rfl; have hcz29_4 := BC BK380 4 (.int .i64 a1_4) rfl; have hfz29_0 := BF BK380 0; have hfz29_1 := BF BK380 1; have hfz29_2 := BF BK380 2; have hfz29_3 := BF BK380 3; have hfz29_4 := BF BK380 4; go_upto_region 8 with (first | ((with_reducible refine gate_callee (f := 15) rfl ?_); refine goesM_ (some 29) rfl rfl Tryd.func15 #[.agg #[.slice A0_0 l0_0.length c0_0, .int .i64 a0_1], .agg #[.int .i64 a1_0, .int .i64 a1_1, .int .i64 a1_2, .int .i64 a1_3, .int .i64 a1_4]] rfl ?_; (with_reducible refine (limit_Valid.calls kj3 _ _ l0_0 a0_1 a1_0 a1_1 a1_2 a1_3 a1_4 t385 t386 _ ?sideT ?side1 ?side2 A20.out).mono ?_); (case sideT => exact fun w_ hb_ => HTB_.out w_ (below_step (BB HB) hb_)); (case side1 => exact Kd.C_below HR0_0.out (BB HB)); (case side2 => exact HC0_0.out); rintro e w30 ⟨rfl, hb⟩; refine ⟨_, rfl, ?_⟩; replace BK379 := BE BK379 hb; replace BK380 := BE BK380 hb; replace BK381 := BE BK381 hb; replace HB := BS HB hb; (try clear hb); (try clear hb2); (try clear hk); (try clear hi); have hcz31_0 := BC BK379 0 (.slice A0_0 l0_0.length c0_0) rfl; have hcz31_1 := BC BK379 1 (.int .i64 a0_1) rfl; have hfz31_0 := BF BK379 0; have hfz31_1 := BF BK379 1) | ((with_reducible refine gate_callee (f := 20) rfl ?_); refine goesM_ (some 35) rfl rfl Tryd.func20 #[.agg #[.slice A0_0 l0_0.length c0_0, .int .i64 a0_1]] rfl ?_; (with_reducible refine (limit_Measure.calls kj3 _ _ l0_0 a0_1 t387 t388 t389 t390 t391 _ ?side1 ?side2 A22.out).mono ?_); (case side1 => exact Kd.C_below HR0_0.out (BB HB)); (case side2 => exact HC0_0.out); rintro e w32 ⟨rfl, hb⟩; refine ⟨_, rfl, ?_⟩; replace BK379 := BE BK379 hb; replace BK380 := BE BK380 hb; replace BK381 := BE BK381 hb; replace HB := BS HB hb; (try clear hb); (try clear hb2); (try clear hk); (try clear hi)) | ((with_reducible refine gate_dst (N := 9) rfl ?_); refine box_event ?hg (N := 9) ?hd (cs := #[.int .i64 0, .int .i64 0, .int .i64 0, .int .i64 0, .int .i64 0]) (t := 26) ?hr ?_; (case hd => rfl); (case hg => rfl); (case hr => first | (go_simp; done) | (go_simp; rfl)); intro gb392 hg w33 hbox hb; have BK392 := AM (hbox); have GW392 := GW HB hg; have GE392 := GW HB hg; replace HB := BS HB hb; have NB379_392 := NL BK379 hg; have NB392_379 := NG BK379 hg; replace BK379 := BE BK379 hb; have NB380_392 := NL BK380 hg; have NB392_380 := NG BK380 hg; replace BK380 := BE BK380 hb; have NB381_392 := NL BK381 hg; have NB392_381 := NG BK381 hg; replace BK381 := BE BK381 hb; clear hb hbox hg; have hnb34 := NB392_379.out; have hnc34 := NB379_392.out; have hnb35 := NB392_380.out; have hnc35 := NB380_392.out; have hnb36 := NB392_381.out; have hnc36 := NB381_392.out; have hcz37_0 := BC BK392 0 (.int .i64 0) rfl; have hcz37_1 := BC BK392 1 (.int .i64 0) rfl; have hcz37_2 := BC BK392 2 (.int .i64 0) rfl; have hcz37_3 := BC BK392 3 (.int .i64 0) rfl; have hcz37_4 := BC BK392 4 (.int .i64 0) rfl; have hfz37_0 := BF BK392 0; have hfz37_1 := BF BK392 1; have hfz37_2 := BF BK392 2; have hfz37_3 := BF BK392 3; have hfz37_4 := BF BK392 4; have hcz38_0 := BC BK379 0 (.slice A0_0 l0_0.length c0_0) rfl; have hcz38_1 := BC BK379 1 (.int .i64 a0_1) rfl; have hfz38_0 := BF BK379 0; have hfz38_1 := BF BK379 1) | ((with_reducible refine gate_callee (f := 15) rfl ?_); refine goesM_ (some 39) rfl rfl Tryd.func15 #[.agg #[.slice A0_0 l0_0.length c0_0, .int .i64 a0_1], .agg #[.int .i64 t387, .int .i64 t388, .int .i64 t389, .int .i64 t390, .int .i64 t391]] rfl ?_; (with_reducible refine (limit_Valid.calls kj3 _ _ l0_0 a0_1 t387 t388 t389 t390 t391 t393 t394 _ ?sideT ?side1 ?side2 A23.out).mono ?_); (case sideT => exact fun w_ hb_ => HTB_.out w_ (below_step (BB HB) hb_)); (case side1 => exact Kd.C_below HR0_0.out (BB HB)); (case side2 => exact HC0_0.out); rintro e w39 ⟨rfl, hb⟩; refine ⟨_, rfl, ?_⟩; replace BK379 := AM (blk_below (g := gb379) (o := .cells #[.slice A0_0 l0_0.length c0_0, .int .i64 a0_1] 24 (0, 0)) (by (repeat refine blk_far ?_ NB379_392.out _); (with_reducible repeat (first | refine blk_drewN ?_ _ | refine blk_drew ?_ | refine blk_alloc ?_ _)); exact BK379.out) hb); replace BK380 := AM (blk_below (g := gb380) (o := .cells #[.int .i64 a1_0, .int .i64 a1_1, .int .i64 a1_2, .int .i64 a1_3, .int .i64 a1_4] 26 (0, 0)) (by (repeat refine blk_far ?_ NB380_392.out _); (with_reducible repeat (first | refine blk_drewN ?_ _ | refine blk_drew ?_ | refine blk_alloc ?_ _)); exact BK380.out) hb); replace BK381 := AM (blk_below (g := gb381) (o := .cells #[.int .i64 a2_0, .int .i64 a2_1, .int .i64 a2_2, .int .i64 a2_3, .int .i64 a2_4] 26 (0, 0)) (by (repeat refine blk_far ?_ NB381_392.out _); (with_reducible repeat (first | refine blk_drewN ?_ _ | refine blk_drew ?_ | refine blk_alloc ?_ _)); exact BK381.out) hb); replace BK392 := AM (blk_below (g := gb392) (o := .cells #[.int .i64 t387, .int .i64 t388, .int .i64 t389, .int .i64 t390, .int .i64 t391] 26 (0, 0)) (by refine blk_put (cs := #[.int .i64 t387, .int .i64 t388, .int .i64 t389, .int .i64 t390, .int .i64 0]) ?_ 4 _ rfl; refine blk_put (cs := #[.int .i64 t387, .int .i64 t388, .int .i64 t389, .int .i64 0, .int .i64 0]) ?_ 3 _ rfl; refine blk_put (cs := #[.int .i64 t387, .int .i64 t388, .int .i64 0, .int .i64 0, .int .i64 0]) ?_ 2 _ rfl; refine blk_put (cs := #[.int .i64 t387, .int .i64 0, .int .i64 0, .int .i64 0, .int .i64 0]) ?_ 1 _ rfl; refine blk_put (cs := #[.int .i64 0, .int .i64 0, .int .i64 0, .int .i64 0, .int .i64 0]) ?_ 0 _ rfl; (with_reducible repeat (first | refine blk_drewN ?_ _ | refine blk_drew ?_ | refine blk_alloc ?_ _)); exact BK392.out) hb); replace HB := BS HB hb; (try clear hb); (try clear hb2); (try clear hk); (try clear hi)))
     (try simp only [Act.put, List.setIfInBounds_toArray, List.set_cons_zero, List.set_cons_succ])
     go_cut [49] (fun v49 wc => ∃ (kq : Nat) (x49_23 : Bool), v49 = .bool x49_23 ∧ Aside0 (dioramalaw12_LimitGrows.j1 kq x49_23 l0_0 a0_1 a1_0 a1_1 a1_2 a1_3 a1_4 a2_0 a2_1 a2_2 a2_3 a2_4 t387 t388 t389 t390 t391 = some r) ∧ Aside0 (kq ≤ kj3) ∧ Aside0 (wc.heap[gb379]? = some (.cells #[(.slice A0_0 l0_0.length c0_0), .int .i64 a0_1] 24 (0, 0))) ∧ Aside0 (wc.heap[gb380]? = some (.cells #[.int .i64 a1_0, .int .i64 a1_1, .int .i64 a1_2, .int .i64 a1_3, .int .i64 a1_4] 26 (0, 0))) ∧ Aside0 (wc.heap[gb381]? = some (.cells #[.int .i64 a2_0, .int .i64 a2_1, .int .i64 a2_2, .int .i64 a2_3, .int .i64 a2_4] 26 (0, 0))) ∧ Aside0 (wc.heap[gb392]? = some (.cells #[.int .i64 t387, .int .i64 t388, .int .i64 t389, .int .i64 t390, .int .i64 t391] 26 (0, 0))) ∧ Aside0 (Below w.heap.size w wc))
     case first =>
      have H := HC24.out; clear HC24; by_cases c40 : t393 = 0
      ·rw [if_pos c40] at H; have c40b0 : (t393 == 0) = true := beq_iff_eq.mpr c40; have c40b1 : (t393 != 0) = false := bne_eq_false_iff_eq.mpr c40; clear c40; (first | rw [c40b0] | (simp only [i64_w, i32_w]; rw [c40b0]) | skip)
       replace H := Option.bind_eq_some_iff.mp H; obtain ⟨t395, A410, H⟩ := H; replace H : (dioramalaw12_LimitGrows.j1 kj3 (!t395) l0_0 a0_1 a1_0 a1_1 a1_2 a1_3 a1_4 a2_0 a2_1 a2_2 a2_3 a2_4 t387 t388 t389 t390 t391) = some r := H; have A41 := AM A410; clear A410; have H' := AM H; clear H; have hnb42 := NB392_379.out; have hnc42 := NB379_392.out; have hnb43 := NB392_380.out; have hnc43 := NB380_392.out; have hnb44 := NB392_381.out; have hnc44 := NB381_392.out; have hcz45_0 := BC BK392 0 (.int .i64 t387) rfl; have hcz45_1 := BC BK392 1 (.int .i64 t388) rfl; have hcz45_2 := BC BK392 2 (.int .i64 t389) rfl; have hcz45_3 := BC BK392 3 (.int .i64 t390) rfl; have hcz45_4 := BC BK392 4 (.int .i64 t391) rfl; have hfz45_0 := BF BK392 0; have hfz45_1 := BF BK392 1; have hfz45_2 := BF BK392 2; have hfz45_3 := BF BK392 3; have hfz45_4 := BF BK392 4; have hnb46 := NB380_379.out; have hnc46 := NB379_380.out; have hnb47 := NB380_381.out; have hnc47 := NB381_380.out; have hcz48_0 := BC BK380 0 (.int .i64 a1_0) rfl; have hcz48_1 := BC BK380 1 (.int .i64 a1_1) rfl; have hcz48_2 := BC BK380 2 (.int .i64 a1_2) rfl; have hcz48_3 := BC BK380 3 (.int .i64 a1_3) rfl; have hcz48_4 := BC BK380 4 (.int .i64 a1_4) rfl; have hfz48_0 := BF BK380 0; have hfz48_1 := BF BK380 1; have hfz48_2 := BF BK380 2; have hfz48_3 := BF BK380 3; have hfz48_4 := BF BK380 4; go_wp2_with (first | (go_at_call 24; (with_reducible refine (limit_Within.calls t387 t388 t389 t390 t391 a1_0 a1_1 a1_2 a1_3 a1_4 t395 _ A41.out).mono ?_); rintro e w49 ⟨rfl, hb⟩; replace BK379 := BE BK379 hb; replace BK380 := BE BK380 hb; replace BK381 := BE BK381 hb; replace BK392 := BE BK392 hb; replace HB := BS HB hb; (try clear hb); (try clear hb2); (try clear hk); (try clear hi)))
       go_meet
       case rel => exact ⟨_, (!t395), (by first | rfl | (simp; done) | (simp [*]; done)), H', ⟨by have := HJ3.out; first | omega | exact Nat.le_refl _⟩, ⟨BL BK379⟩, ⟨BL BK380⟩, ⟨BL BK381⟩, ⟨BL BK392⟩, ⟨BB HB⟩⟩
      ·rw [if_neg c40] at H; have c40b0 : (t393 == 0) = false := beq_eq_false_iff_ne.mpr c40; have c40b1 : (t393 != 0) = true := bne_iff_ne.mpr c40; (first | rw [c40b0] | (simp only [i64_w, i32_w]; rw [c40b0]) | skip)
       have H' := AM H; clear H; go_wp2
       go_meet
       case rel => exact ⟨_, (true), (by first | rfl | (simp; done) | (simp [*]; done)), H', ⟨by have := HJ3.out; first | omega | exact Nat.le_refl _⟩, ⟨BL BK379⟩, ⟨BL BK380⟩, ⟨BL BK381⟩, ⟨BL BK392⟩, ⟨BB HB⟩⟩
     case rest =>
      clear HC24; try clear c1
      try clear c2
      try clear p2
      try clear c3
      try clear c4
      try clear c5
      try clear c9
      try clear c12
      try clear c13
      try clear c15
      try clear c17
      try clear c20
      try clear c21
      try clear c21b0
      try clear c21b1
      try clear c25
      try clear c26
      try clear c28
      try clear c34
      try clear c35
      try clear c36
      try clear c40
      try clear c40b0
      try clear c40b1
      try clear c42
      try clear c43
      try clear c44
      try clear c46
      try clear c47
      try clear hcz14_0
      try clear hcz14_1
      try clear hcz27_0
      try clear hcz27_1
      try clear hcz29_0
      try clear hcz29_1
      try clear hcz29_2
      try clear hcz29_3
      try clear hcz29_4
      try clear hcz31_0
      try clear hcz31_1
      try clear hcz37_0
      try clear hcz37_1
      try clear hcz37_2
      try clear hcz37_3
      try clear hcz37_4
      try clear hcz38_0
      try clear hcz38_1
      try clear hcz45_0
      try clear hcz45_1
      try clear hcz45_2
      try clear hcz45_3
      try clear hcz45_4
      try clear hcz48_0
      try clear hcz48_1
      try clear hcz48_2
      try clear hcz48_3
      try clear hcz48_4
      try clear hfz14_0
      try clear hfz14_1
      try clear hfz27_0
      try clear hfz27_1
      try clear hfz29_0
      try clear hfz29_1
      try clear hfz29_2
      try clear hfz29_3
      try clear hfz29_4
      try clear hfz31_0
      try clear hfz31_1
      try clear hfz37_0
      try clear hfz37_1
      try clear hfz37_2
      try clear hfz37_3
      try clear hfz37_4
      try clear hfz38_0
      try clear hfz38_1
      try clear hfz45_0
      try clear hfz45_1
      try clear hfz45_2
      try clear hfz45_3
      try clear hfz45_4
      try clear hfz48_0
      try clear hfz48_1
      try clear hfz48_2
      try clear hfz48_3
      try clear hfz48_4
      try clear p2
      obtain ⟨kq, x49_23, rfl, HA, HJ23, BK379, BK380, BK381, BK392, HB⟩ := hcut; cases kq with
      | zero => exact absurd HA.out (by simp [dioramalaw12_LimitGrows.j1])
      | succ kj23 =>
       have H := HA.out; clear HA; simp only [dioramalaw12_LimitGrows.j1] at H
       by_cases c50 : x49_23 = true
       ·subst c50; have H1 : (some false) = some r := by rw [if_pos rfl] at H; exact H
        clear H; have H := H1; clear H1; obtain rfl := Option.some.inj H; go_wp2
        go_ret
        exact ⟨by first | rfl | (simp [errW_none, errW_some] <;> rfl) | (simp [*, errW_none, errW_some] <;> rfl), BB HB⟩
       ·replace c50 := Bool.eq_false_iff.mpr c50; subst c50; have H1 : ((limit_Within.f a1_0 a1_1 a1_2 a1_3 a1_4 a2_0 a2_1 a2_2 a2_3 a2_4).bind fun t396 => (if t396 = true then ((limit_Right.f a2_0 a2_1 a2_2 a2_3 a2_4).bind fun t397 => (dioramalaw12_LimitGrows.j2 kj23 t397 l0_0 a0_1 a2_0 a2_1 a2_2 a2_3 a2_4 t387 t388 t389 t390 t391)) else (dioramalaw12_LimitGrows.j2 kj23 false l0_0 a0_1 a2_0 a2_1 a2_2 a2_3 a2_4 t387 t388 t389 t390 t391))) = some r := by rw [if_neg (show ¬ (false = true) by decide)] at H; exact H
        clear H; have H := H1; clear H1; have HC51 := AM H; clear H; go_upto_region 10 with (fail)
        go_cut [56] (fun v56 wc => ∃ (kq : Nat) (x56_50 : Bool), v56 = .bool x56_50 ∧ Aside0 (dioramalaw12_LimitGrows.j2 kq x56_50 l0_0 a0_1 a2_0 a2_1 a2_2 a2_3 a2_4 t387 t388 t389 t390 t391 = some r) ∧ Aside0 (kq ≤ kj23) ∧ Aside0 (wc.heap[gb379]? = some (.cells #[(.slice A0_0 l0_0.length c0_0), .int .i64 a0_1] 24 (0, 0))) ∧ Aside0 (wc.heap[gb380]? = some (.cells #[.int .i64 a1_0, .int .i64 a1_1, .int .i64 a1_2, .int .i64 a1_3, .int .i64 a1_4] 26 (0, 0))) ∧ Aside0 (wc.heap[gb381]? = some (.cells #[.int .i64 a2_0, .int .i64 a2_1, .int .i64 a2_2, .int .i64 a2_3, .int .i64 a2_4] 26 (0, 0))) ∧ Aside0 (wc.heap[gb392]? = some (.cells #[.int .i64 t387, .int .i64 t388, .int .i64 t389, .int .i64 t390, .int .i64 t391] 26 (0, 0))) ∧ Aside0 (Below w.heap.size w wc))
        case first =>
         have H := HC51.out; clear HC51; replace H := Option.bind_eq_some_iff.mp H; obtain ⟨t396, A520, H⟩ := H; replace H : (if t396 = true then ((limit_Right.f a2_0 a2_1 a2_2 a2_3 a2_4).bind fun t397 => (dioramalaw12_LimitGrows.j2 kj23 t397 l0_0 a0_1 a2_0 a2_1 a2_2 a2_3 a2_4 t387 t388 t389 t390 t391)) else (dioramalaw12_LimitGrows.j2 kj23 false l0_0 a0_1 a2_0 a2_1 a2_2 a2_3 a2_4 t387 t388 t389 t390 t391)) = some r := H
         have A52 := AM A520; clear A520; by_cases c53 : t396 = true
         ·subst c53; have H1 : ((limit_Right.f a2_0 a2_1 a2_2 a2_3 a2_4).bind fun t397 => (dioramalaw12_LimitGrows.j2 kj23 t397 l0_0 a0_1 a2_0 a2_1 a2_2 a2_3 a2_4 t387 t388 t389 t390 t391)) = some r := by rw [if_pos rfl] at H; exact H
          clear H; have H := H1; clear H1; replace H := Option.bind_eq_some_iff.mp H; obtain ⟨t397, A540, H⟩ := H; replace H : (dioramalaw12_LimitGrows.j2 kj23 t397 l0_0 a0_1 a2_0 a2_1 a2_2 a2_3 a2_4 t387 t388 t389 t390 t391) = some r := H; have A54 := AM A540; clear A540; have H' := AM H; clear H; have hnb55 := NB380_379.out; have hnc55 := NB379_380.out; have hnb56 := NB380_381.out; have hnc56 := NB381_380.out; have hnb57 := NB380_392.out; have hnc57 := NB392_380.out; have hcz58_0 := BC BK380 0 (.int .i64 a1_0) rfl; have hcz58_1 := BC BK380 1 (.int .i64 a1_1) rfl; have hcz58_2 := BC BK380 2 (.int .i64 a1_2) rfl; have hcz58_3 := BC BK380 3 (.int .i64 a1_3) rfl; have hcz58_4 := BC BK380 4 (.int .i64 a1_4) rfl; have hfz58_0 := BF BK380 0; have hfz58_1 := BF BK380 1; have hfz58_2 := BF BK380 2; have hfz58_3 := BF BK380 3; have hfz58_4 := BF BK380 4; have hnb59 := NB381_379.out; have hnc59 := NB379_381.out; have hnb60 := NB381_392.out; have hnc60 := NB392_381.out; have hcz61_0 := BC BK381 0 (.int .i64 a2_0) rfl; have hcz61_1 := BC BK381 1 (.int .i64 a2_1) rfl; have hcz61_2 := BC BK381 2 (.int .i64 a2_2) rfl; have hcz61_3 := BC BK381 3 (.int .i64 a2_3) rfl; have hcz61_4 := BC BK381 4 (.int .i64 a2_4) rfl; have hfz61_0 := BF BK381 0; have hfz61_1 := BF BK381 1; have hfz61_2 := BF BK381 2; have hfz61_3 := BF BK381 3; have hfz61_4 := BF BK381 4; go_wp2_with (first | ((with_reducible refine gate_callee (f := 24) rfl ?_); refine goesM_ (some 52) rfl rfl Tryd.func24 #[.agg #[.int .i64 a1_0, .int .i64 a1_1, .int .i64 a1_2, .int .i64 a1_3, .int .i64 a1_4], .agg #[.int .i64 a2_0, .int .i64 a2_1, .int .i64 a2_2, .int .i64 a2_3, .int .i64 a2_4]] rfl ?_; (with_reducible refine (limit_Within.calls a1_0 a1_1 a1_2 a1_3 a1_4 a2_0 a2_1 a2_2 a2_3 a2_4 true _ A52.out).mono ?_); rintro e w62 ⟨rfl, hb⟩; refine ⟨_, rfl, ?_⟩; replace BK379 := BE BK379 hb; replace BK380 := BE BK380 hb; replace BK381 := BE BK381 hb; replace BK392 := BE BK392 hb; replace HB := BS HB hb; (try clear hb); (try clear hb2); (try clear hk); (try clear hi); have hcz63_0 := BC BK381 0 (.int .i64 a2_0) rfl; have hcz63_1 := BC BK381 1 (.int .i64 a2_1) rfl; have hcz63_2 := BC BK381 2 (.int .i64 a2_2) rfl; have hcz63_3 := BC BK381 3 (.int .i64 a2_3) rfl; have hcz63_4 := BC BK381 4 (.int .i64 a2_4) rfl; have hfz63_0 := BF BK381 0; have hfz63_1 := BF BK381 1; have hfz63_2 := BF BK381 2; have hfz63_3 := BF BK381 3; have hfz63_4 := BF BK381 4) | (go_at_call 22; (with_reducible refine (limit_Right.calls a2_0 a2_1 a2_2 a2_3 a2_4 t397 _ A54.out).mono ?_); rintro e w64 ⟨rfl, hb⟩; replace BK379 := BE BK379 hb; replace BK380 := BE BK380 hb; replace BK381 := BE BK381 hb; replace BK392 := BE BK392 hb; replace HB := BS HB hb; (try clear hb); (try clear hb2); (try clear hk); (try clear hi)))
          go_meet
          case rel => exact ⟨_, (t397), (by first | rfl | (simp; done) | (simp [*]; done)), H', ⟨by have := HJ3.out; have := HJ23.out; first | omega | exact Nat.le_refl _⟩, ⟨BL BK379⟩, ⟨BL BK380⟩, ⟨BL BK381⟩, ⟨BL BK392⟩, ⟨BB HB⟩⟩
         ·replace c53 := Bool.eq_false_iff.mpr c53; subst c53; have H1 : (dioramalaw12_LimitGrows.j2 kj23 false l0_0 a0_1 a2_0 a2_1 a2_2 a2_3 a2_4 t387 t388 t389 t390 t391) = some r := by rw [if_neg (show ¬ (false = true) by decide)] at H; exact H
          clear H; have H := H1; clear H1; have H' := AM H; clear H; have hnb65 := NB380_379.out; have hnc65 := NB379_380.out; have hnb66 := NB380_381.out; have hnc66 := NB381_380.out; have hnb67 := NB380_392.out; have hnc67 := NB392_380.out; have hcz68_0 := BC BK380 0 (.int .i64 a1_0) rfl; have hcz68_1 := BC BK380 1 (.int .i64 a1_1) rfl; have hcz68_2 := BC BK380 2 (.int .i64 a1_2) rfl; have hcz68_3 := BC BK380 3 (.int .i64 a1_3) rfl; have hcz68_4 := BC BK380 4 (.int .i64 a1_4) rfl; have hfz68_0 := BF BK380 0; have hfz68_1 := BF BK380 1; have hfz68_2 := BF BK380 2; have hfz68_3 := BF BK380 3; have hfz68_4 := BF BK380 4; have hnb69 := NB381_379.out; have hnc69 := NB379_381.out; have hnb70 := NB381_392.out; have hnc70 := NB392_381.out; have hcz71_0 := BC BK381 0 (.int .i64 a2_0) rfl; have hcz71_1 := BC BK381 1 (.int .i64 a2_1) rfl; have hcz71_2 := BC BK381 2 (.int .i64 a2_2) rfl; have hcz71_3 := BC BK381 3 (.int .i64 a2_3) rfl; have hcz71_4 := BC BK381 4 (.int .i64 a2_4) rfl; have hfz71_0 := BF BK381 0; have hfz71_1 := BF BK381 1; have hfz71_2 := BF BK381 2; have hfz71_3 := BF BK381 3; have hfz71_4 := BF BK381 4; go_wp2_with (first | ((with_reducible refine gate_callee (f := 24) rfl ?_); refine goesM_ (some 52) rfl rfl Tryd.func24 #[.agg #[.int .i64 a1_0, .int .i64 a1_1, .int .i64 a1_2, .int .i64 a1_3, .int .i64 a1_4], .agg #[.int .i64 a2_0, .int .i64 a2_1, .int .i64 a2_2, .int .i64 a2_3, .int .i64 a2_4]] rfl ?_; (with_reducible refine (limit_Within.calls a1_0 a1_1 a1_2 a1_3 a1_4 a2_0 a2_1 a2_2 a2_3 a2_4 false _ A52.out).mono ?_); rintro e w72 ⟨rfl, hb⟩; refine ⟨_, rfl, ?_⟩; replace BK379 := BE BK379 hb; replace BK380 := BE BK380 hb; replace BK381 := BE BK381 hb; replace BK392 := BE BK392 hb; replace HB := BS HB hb; (try clear hb); (try clear hb2); (try clear hk); (try clear hi)))
          go_meet
          case rel => exact ⟨_, (false), (by first | rfl | (simp; done) | (simp [*]; done)), H', ⟨by have := HJ3.out; have := HJ23.out; first | omega | exact Nat.le_refl _⟩, ⟨BL BK379⟩, ⟨BL BK380⟩, ⟨BL BK381⟩, ⟨BL BK392⟩, ⟨BB HB⟩⟩
        case rest =>
         clear HC51; try clear c1
         try clear c2
         try clear p2
         try clear c3
         try clear c4
         try clear c5
         try clear c6
         try clear c7
         try clear c9
         try clear c12
         try clear c13
         try clear c15
         try clear c17
         try clear c20
         try clear c21
         try clear c21b0
         try clear c21b1
         try clear c24
         try clear c25
         try clear c26
         try clear c28
         try clear c34
         try clear c35
         try clear c36
         try clear c40
         try clear c40b0
         try clear c40b1
         try clear c42
         try clear c43
         try clear c44
         try clear c46
         try clear c47
         try clear c50
         try clear c53
         try clear c55
         try clear c56
         try clear c57
         try clear c59
         try clear c60
         try clear c65
         try clear c66
         try clear c67
         try clear c69
         try clear c70
         try clear hcz14_0
         try clear hcz14_1
         try clear hcz27_0
         try clear hcz27_1
         try clear hcz29_0
         try clear hcz29_1
         try clear hcz29_2
         try clear hcz29_3
         try clear hcz29_4
         try clear hcz31_0
         try clear hcz31_1
         try clear hcz37_0
         try clear hcz37_1
         try clear hcz37_2
         try clear hcz37_3
         try clear hcz37_4
         try clear hcz38_0
         try clear hcz38_1
         try clear hcz45_0
         try clear hcz45_1
         try clear hcz45_2
         try clear hcz45_3
         try clear hcz45_4
         try clear hcz48_0
         try clear hcz48_1
         try clear hcz48_2
         try clear hcz48_3
         try clear hcz48_4
         try clear hcz58_0
         try clear hcz58_1
         try clear hcz58_2
         try clear hcz58_3
         try clear hcz58_4
         try clear hcz61_0
         try clear hcz61_1
         try clear hcz61_2
         try clear hcz61_3
         try clear hcz61_4
         try clear hcz63_0
         try clear hcz63_1
         try clear hcz63_2
         try clear hcz63_3
         try clear hcz63_4
         try clear hcz68_0
         try clear hcz68_1
         try clear hcz68_2
         try clear hcz68_3
         try clear hcz68_4
         try clear hcz71_0
         try clear hcz71_1
         try clear hcz71_2
         try clear hcz71_3
         try clear hcz71_4
         try clear hfz14_0
         try clear hfz14_1
         try clear hfz27_0
         try clear hfz27_1
         try clear hfz29_0
         try clear hfz29_1
         try clear hfz29_2
         try clear hfz29_3
         try clear hfz29_4
         try clear hfz31_0
         try clear hfz31_1
         try clear hfz37_0
         try clear hfz37_1
         try clear hfz37_2
         try clear hfz37_3
         try clear hfz37_4
         try clear hfz38_0
         try clear hfz38_1
         try clear hfz45_0
         try clear hfz45_1
         try clear hfz45_2
         try clear hfz45_3
         try clear hfz45_4
         try clear hfz48_0
         try clear hfz48_1
         try clear hfz48_2
         try clear hfz48_3
         try clear hfz48_4
         try clear hfz58_0
         try clear hfz58_1
         try clear hfz58_2
         try clear hfz58_3
         try clear hfz58_4
         try clear hfz61_0
         try clear hfz61_1
         try clear hfz61_2
         try clear hfz61_3
         try clear hfz61_4
         try clear hfz63_0
         try clear hfz63_1
         try clear hfz63_2
         try clear hfz63_3
         try clear hfz63_4
         try clear hfz68_0
         try clear hfz68_1
         try clear hfz68_2
         try clear hfz68_3
         try clear hfz68_4
         try clear hfz71_0
         try clear hfz71_1
         try clear hfz71_2
         try clear hfz71_3
         try clear hfz71_4
         try clear p2
         obtain ⟨kq, x56_50, rfl, HA, HJ50, BK379, BK380, BK381, BK392, HB⟩ := hcut; cases kq with
         | zero => exact absurd HA.out (by simp [dioramalaw12_LimitGrows.j2])
         | succ kj50 =>
          have H := HA.out; clear HA; simp only [dioramalaw12_LimitGrows.j2] at H
          have HC73 := AM H; clear H; go_upto_if 56 with (fail)
          go_cut [] (fun wc => ∃ (kq : Nat), Aside0 (dioramalaw12_LimitGrows.j3 kq l0_0 a0_1 t387 t388 t389 t390 t391 = some r) ∧ Aside0 (kq ≤ kj50) ∧ Aside0 (wc.heap[gb379]? = some (.cells #[(.slice A0_0 l0_0.length c0_0), .int .i64 a0_1] 24 (0, 0))) ∧ Aside0 (wc.heap[gb380]? = some (.cells #[.int .i64 a1_0, .int .i64 a1_1, .int .i64 a1_2, .int .i64 a1_3, .int .i64 a1_4] 26 (0, 0))) ∧ Aside0 (wc.heap[gb381]? = some (.cells #[.int .i64 a2_0, .int .i64 a2_1, .int .i64 a2_2, .int .i64 a2_3, .int .i64 a2_4] 26 (0, 0))) ∧ Aside0 (wc.heap[gb392]? = some (.cells #[.int .i64 t387, .int .i64 t388, .int .i64 t389, .int .i64 t390, .int .i64 t391] 26 (0, 0))) ∧ Aside0 (Below w.heap.size w wc))
          case first =>
           have H := HC73.out; clear HC73; by_cases c74 : x56_50 = true
           ·subst c74; have H1 : ((limit_Valid.f kj50 l0_0 a0_1 a2_0 a2_1 a2_2 a2_3 a2_4).bind fun bt398 => (if bt398.1 = 0 then (dioramalaw12_LimitGrows.j3 kj50 l0_0 a0_1 t387 t388 t389 t390 t391) else (some false))) = some r := by rw [if_pos rfl] at H; exact H
            clear H; have H := H1; clear H1; replace H := Option.bind_eq_some_iff.mp H; obtain ⟨⟨t398, t399⟩, A750, H⟩ := H; replace H : (if t398 = 0 then (dioramalaw12_LimitGrows.j3 kj50 l0_0 a0_1 t387 t388 t389 t390 t391) else (some false)) = some r := H; have A75 := AM A750; clear A750; by_cases c76 : t398 = 0
            ·rw [if_pos c76] at H; have c76b0 : (t398 == 0) = true := beq_iff_eq.mpr c76; have c76b1 : (t398 != 0) = false := bne_eq_false_iff_eq.mpr c76; clear c76; (first | rw [c76b0] | (simp only [i64_w, i32_w]; rw [c76b0]) | skip)
             have H' := AM H; clear H; have hnb77 := NB379_380.out; have hnc77 := NB380_379.out; have hnb78 := NB379_381.out; have hnc78 := NB381_379.out; have hnb79 := NB379_392.out; have hnc79 := NB392_379.out; have hcz80_0 := BC BK379 0 (.slice A0_0 l0_0.length c0_0) rfl; have hcz80_1 := BC BK379 1 (.int .i64 a0_1) rfl; have hfz80_0 := BF BK379 0; have hfz80_1 := BF BK379 1; have hnb81 := NB381_380.out; have hnc81 := NB380_381.out; have hnb82 := NB381_392.out; have hnc82 := NB392_381.out; have hcz83_0 := BC BK381 0 (.int .i64 a2_0) rfl; have hcz83_1 := BC BK381 1 (.int .i64 a2_1) rfl; have hcz83_2 := BC BK381 2 (.int .i64 a2_2) rfl; have hcz83_3 := BC BK381 3 (.int .i64 a2_3) rfl; have hcz83_4 := BC BK381 4 (.int .i64 a2_4) rfl; have hfz83_0 := BF BK381 0; have hfz83_1 := BF BK381 1; have hfz83_2 := BF BK381 2; have hfz83_3 := BF BK381 3; have hfz83_4 := BF BK381 4; go_wp2_with (first | ((with_reducible refine gate_callee (f := 15) rfl ?_); refine goesM_ (some 60) rfl rfl Tryd.func15 #[.agg #[.slice A0_0 l0_0.length c0_0, .int .i64 a0_1], .agg #[.int .i64 a2_0, .int .i64 a2_1, .int .i64 a2_2, .int .i64 a2_3, .int .i64 a2_4]] rfl ?_; (with_reducible refine (limit_Valid.calls kj50 _ _ l0_0 a0_1 a2_0 a2_1 a2_2 a2_3 a2_4 t398 t399 _ ?sideT ?side1 ?side2 A75.out).mono ?_); (case sideT => exact fun w_ hb_ => HTB_.out w_ (below_step (BB HB) hb_)); (case side1 => exact Kd.C_below HR0_0.out (BB HB)); (case side2 => exact HC0_0.out); rintro e w84 ⟨rfl, hb⟩; refine ⟨_, rfl, ?_⟩; replace BK379 := BE BK379 hb; replace BK380 := BE BK380 hb; replace BK381 := BE BK381 hb; replace BK392 := BE BK392 hb; replace HB := BS HB hb; (try clear hb); (try clear hb2); (try clear hk); (try clear hi)))
             go_meet
             case rel => exact ⟨_, H', ⟨by have := HJ3.out; have := HJ23.out; have := HJ50.out; first | omega | exact Nat.le_refl _⟩, ⟨BL BK379⟩, ⟨BL BK380⟩, ⟨BL BK381⟩, ⟨BL BK392⟩, ⟨BB HB⟩⟩
            ·rw [if_neg c76] at H; have c76b0 : (t398 == 0) = false := beq_eq_false_iff_ne.mpr c76; have c76b1 : (t398 != 0) = true := bne_iff_ne.mpr c76; (first | rw [c76b0] | (simp only [i64_w, i32_w]; rw [c76b0]) | skip)
             obtain rfl := Option.some.inj H; have hnb85 := NB379_380.out; have hnc85 := NB380_379.out; have hnb86 := NB379_381.out; have hnc86 := NB381_379.out; have hnb87 := NB379_392.out; have hnc87 := NB392_379.out; have hcz88_0 := BC BK379 0 (.slice A0_0 l0_0.length c0_0) rfl; have hcz88_1 := BC BK379 1 (.int .i64 a0_1) rfl; have hfz88_0 := BF BK379 0; have hfz88_1 := BF BK379 1; have hnb89 := NB381_380.out; have hnc89 := NB380_381.out; have hnb90 := NB381_392.out; have hnc90 := NB392_381.out; have hcz91_0 := BC BK381 0 (.int .i64 a2_0) rfl; have hcz91_1 := BC BK381 1 (.int .i64 a2_1) rfl; have hcz91_2 := BC BK381 2 (.int .i64 a2_2) rfl; have hcz91_3 := BC BK381 3 (.int .i64 a2_3) rfl; have hcz91_4 := BC BK381 4 (.int .i64 a2_4) rfl; have hfz91_0 := BF BK381 0; have hfz91_1 := BF BK381 1; have hfz91_2 := BF BK381 2; have hfz91_3 := BF BK381 3; have hfz91_4 := BF BK381 4; go_wp2_with (first | ((with_reducible refine gate_callee (f := 15) rfl ?_); refine goesM_ (some 60) rfl rfl Tryd.func15 #[.agg #[.slice A0_0 l0_0.length c0_0, .int .i64 a0_1], .agg #[.int .i64 a2_0, .int .i64 a2_1, .int .i64 a2_2, .int .i64 a2_3, .int .i64 a2_4]] rfl ?_; (with_reducible refine (limit_Valid.calls kj50 _ _ l0_0 a0_1 a2_0 a2_1 a2_2 a2_3 a2_4 t398 t399 _ ?sideT ?side1 ?side2 A75.out).mono ?_); (case sideT => exact fun w_ hb_ => HTB_.out w_ (below_step (BB HB) hb_)); (case side1 => exact Kd.C_below HR0_0.out (BB HB)); (case side2 => exact HC0_0.out); rintro e w92 ⟨rfl, hb⟩; refine ⟨_, rfl, ?_⟩; replace BK379 := BE BK379 hb; replace BK380 := BE BK380 hb; replace BK381 := BE BK381 hb; replace BK392 := BE BK392 hb; replace HB := BS HB hb; (try clear hb); (try clear hb2); (try clear hk); (try clear hi)))
             go_ret
             exact ⟨by first | rfl | (simp [errW_none, errW_some] <;> rfl) | (simp [*, errW_none, errW_some] <;> rfl), BB HB⟩
           ·replace c74 := Bool.eq_false_iff.mpr c74; subst c74; have H1 : (dioramalaw12_LimitGrows.j3 kj50 l0_0 a0_1 t387 t388 t389 t390 t391) = some r := by rw [if_neg (show ¬ (false = true) by decide)] at H; exact H
            clear H; have H := H1; clear H1; have H' := AM H; clear H; go_wp2
            go_meet
            case rel => exact ⟨_, H', ⟨by have := HJ3.out; have := HJ23.out; have := HJ50.out; first | omega | exact Nat.le_refl _⟩, ⟨BL BK379⟩, ⟨BL BK380⟩, ⟨BL BK381⟩, ⟨BL BK392⟩, ⟨BB HB⟩⟩
          case rest =>
           clear HC73; try clear c1
           try clear c2
           try clear p2
           try clear c3
           try clear c4
           try clear c5
           try clear c6
           try clear c7
           try clear c8
           try clear c9
           try clear c12
           try clear c13
           try clear c15
           try clear c17
           try clear c20
           try clear c21
           try clear c21b0
           try clear c21b1
           try clear c24
           try clear c25
           try clear c26
           try clear c28
           try clear c34
           try clear c35
           try clear c36
           try clear c40
           try clear c40b0
           try clear c40b1
           try clear c42
           try clear c43
           try clear c44
           try clear c46
           try clear c47
           try clear c50
           try clear c53
           try clear c55
           try clear c56
           try clear c57
           try clear c59
           try clear c60
           try clear c65
           try clear c66
           try clear c67
           try clear c69
           try clear c70
           try clear c74
           try clear c76
           try clear c76b0
           try clear c76b1
           try clear c77
           try clear c78
           try clear c79
           try clear c81
           try clear c82
           try clear c85
           try clear c86
           try clear c87
           try clear c89
           try clear c90
           try clear hcz14_0
           try clear hcz14_1
           try clear hcz27_0
           try clear hcz27_1
           try clear hcz29_0
           try clear hcz29_1
           try clear hcz29_2
           try clear hcz29_3
           try clear hcz29_4
           try clear hcz31_0
           try clear hcz31_1
           try clear hcz37_0
           try clear hcz37_1
           try clear hcz37_2
           try clear hcz37_3
           try clear hcz37_4
           try clear hcz38_0
           try clear hcz38_1
           try clear hcz45_0
           try clear hcz45_1
           try clear hcz45_2
           try clear hcz45_3
           try clear hcz45_4
           try clear hcz48_0
           try clear hcz48_1
           try clear hcz48_2
           try clear hcz48_3
           try clear hcz48_4
           try clear hcz58_0
           try clear hcz58_1
           try clear hcz58_2
           try clear hcz58_3
           try clear hcz58_4
           try clear hcz61_0
           try clear hcz61_1
           try clear hcz61_2
           try clear hcz61_3
           try clear hcz61_4
           try clear hcz63_0
           try clear hcz63_1
           try clear hcz63_2
           try clear hcz63_3
           try clear hcz63_4
           try clear hcz68_0
           try clear hcz68_1
           try clear hcz68_2
           try clear hcz68_3
           try clear hcz68_4
           try clear hcz71_0
           try clear hcz71_1
           try clear hcz71_2
           try clear hcz71_3
           try clear hcz71_4
           try clear hcz80_0
           try clear hcz80_1
           try clear hcz83_0
           try clear hcz83_1
           try clear hcz83_2
           try clear hcz83_3
           try clear hcz83_4
           try clear hcz88_0
           try clear hcz88_1
           try clear hcz91_0
           try clear hcz91_1
           try clear hcz91_2
           try clear hcz91_3
           try clear hcz91_4
           try clear hfz14_0
           try clear hfz14_1
           try clear hfz27_0
           try clear hfz27_1
           try clear hfz29_0
           try clear hfz29_1
           try clear hfz29_2
           try clear hfz29_3
           try clear hfz29_4
           try clear hfz31_0
           try clear hfz31_1
           try clear hfz37_0
           try clear hfz37_1
           try clear hfz37_2
           try clear hfz37_3
           try clear hfz37_4
           try clear hfz38_0
           try clear hfz38_1
           try clear hfz45_0
           try clear hfz45_1
           try clear hfz45_2
           try clear hfz45_3
           try clear hfz45_4
           try clear hfz48_0
           try clear hfz48_1
           try clear hfz48_2
           try clear hfz48_3
           try clear hfz48_4
           try clear hfz58_0
           try clear hfz58_1
           try clear hfz58_2
           try clear hfz58_3
           try clear hfz58_4
           try clear hfz61_0
           try clear hfz61_1
           try clear hfz61_2
           try clear hfz61_3
           try clear hfz61_4
           try clear hfz63_0
           try clear hfz63_1
           try clear hfz63_2
           try clear hfz63_3
           try clear hfz63_4
           try clear hfz68_0
           try clear hfz68_1
           try clear hfz68_2
           try clear hfz68_3
           try clear hfz68_4
           try clear hfz71_0
           try clear hfz71_1
           try clear hfz71_2
           try clear hfz71_3
           try clear hfz71_4
           try clear hfz80_0
           try clear hfz80_1
           try clear hfz83_0
           try clear hfz83_1
           try clear hfz83_2
           try clear hfz83_3
           try clear hfz83_4
           try clear hfz88_0
           try clear hfz88_1
           try clear hfz91_0
           try clear hfz91_1
           try clear hfz91_2
           try clear hfz91_3
           try clear hfz91_4
           try clear p2
           obtain ⟨kq, HA, HJ72, BK379, BK380, BK381, BK392, HB⟩ := hcut; cases kq with
           | zero => exact absurd HA.out (by simp [dioramalaw12_LimitGrows.j3])
           | succ kj72 =>
            have H := HA.out; clear HA; simp only [dioramalaw12_LimitGrows.j3] at H
            obtain ⟨y400, hy400⟩ : ∃ y_ : List (S26), y_ = (([(⟨0, 1, 0, 0, 0⟩ : S26), (⟨0, 0, 1, 0, 0⟩ : S26), (⟨0, 0, 0, 1, 0⟩ : S26), (⟨0, 0, 0, 0, 1⟩ : S26)] : List (S26))) := ⟨_, rfl⟩; replace H : (dioramalaw12_LimitGrows.l0 kj72 y400 (y400.length : Int) 0 l0_0 a0_1 t387 t388 t389 t390 t391) = some r := by first | (rw [hy400]; with_reducible exact H) | (have H2_ := (Option.bind_some _ _).symm.trans H; rw [hy400]; with_reducible exact H2_) | (have H2_ := (Option.bind_some _ _).symm.trans H; with_reducible exact H2_) | with_reducible exact H | (rw [hy400]; exact H) | exact H
            have Ny400 := AM hy400; clear hy400; have H' := AM H; clear H; go_wp2_with (first | ((with_reducible refine gate_dst (N := 69) rfl ?_); refine Kd.R_lit k26 _ 26 ?hg (N := 69) ?hd (xs := ([(⟨0, 1, 0, 0, 0⟩ : S26), (⟨0, 0, 1, 0, 0⟩ : S26), (⟨0, 0, 0, 1, 0⟩ : S26), (⟨0, 0, 0, 0, 1⟩ : S26)] : List (S26))) (inner := [.int .i64 0, .int .i64 1, .int .i64 0, .int .i64 0, .int .i64 0, .int .i64 0, .int .i64 0, .int .i64 1, .int .i64 0, .int .i64 0, .int .i64 0, .int .i64 0, .int .i64 0, .int .i64 1, .int .i64 0, .int .i64 0, .int .i64 0, .int .i64 0, .int .i64 0, .int .i64 1]) (ok := fun _ => True) (okp := fun _ => True) ?hr ?hp (fun _ hk => hk) trivial (Below.refl _ _) (Nat.le_refl _) (by simp) ?_; (case hd => rfl); (case hg => rfl); (case hr => first | (go_simp; done) | (go_simp; rfl)); (case hp => exact (Reps.c5 (show Kd.M k26 _ _ _ (⟨0, 1, 0, 0, 0⟩ : S26) [.int .i64 0, .int .i64 1, .int .i64 0, .int .i64 0, .int .i64 0] from (k26_mkM _ _ _ (⟨0, 1, 0, 0, 0⟩ : S26) )) (Reps.c5 (show Kd.M k26 _ _ _ (⟨0, 0, 1, 0, 0⟩ : S26) [.int .i64 0, .int .i64 0, .int .i64 1, .int .i64 0, .int .i64 0] from (k26_mkM _ _ _ (⟨0, 0, 1, 0, 0⟩ : S26) )) (Reps.c5 (show Kd.M k26 _ _ _ (⟨0, 0, 0, 1, 0⟩ : S26) [.int .i64 0, .int .i64 0, .int .i64 0, .int .i64 1, .int .i64 0] from (k26_mkM _ _ _ (⟨0, 0, 0, 1, 0⟩ : S26) )) (Reps.c5 (show Kd.M k26 _ _ _ (⟨0, 0, 0, 0, 1⟩ : S26) [.int .i64 0, .int .i64 0, .int .i64 0, .int .i64 0, .int .i64 1] from (k26_mkM _ _ _ (⟨0, 0, 0, 0, 1⟩ : S26) )) (Reps.none _ _)))))); intro v401 w93 ho94 hb hg_ hnew_; clear hg_ hnew_; (first | rw [← Ny400.out] at ho94 | (simp only [Int.reduceToNat] at ho94; rw [← Ny400.out] at ho94)); have HO402 := AM (Kd.R_lower (Kd.R_newB (Kd.R_newB (Kd.R_newB ho94 (g := gb380) (o := .cells #[.int .i64 a1_0, .int .i64 a1_1, .int .i64 a1_2, .int .i64 a1_3, .int .i64 a1_4] 26 (0, 0)) (BL BK380)) (g := gb381) (o := .cells #[.int .i64 a2_0, .int .i64 a2_1, .int .i64 a2_2, .int .i64 a2_3, .int .i64 a2_4] 26 (0, 0)) (BL BK381)) (g := gb392) (o := .cells #[.int .i64 t387, .int .i64 t388, .int .i64 t389, .int .i64 t390, .int .i64 t391] 26 (0, 0)) (BL BK392)) (below_size (BB HB))); replace BK379 := BE BK379 hb; replace BK380 := BE BK380 hb; replace BK381 := BE BK381 hb; replace BK392 := BE BK392 hb; replace HB := BS HB hb; clear hb ho94; obtain ⟨Ao95, co95, eo95⟩ := Kd.R_slice HO402.out; subst eo95))
            go_loopg [71] kj72 (fun kq v71 w' => ∃ (x71_5 : Int), v71 = .int .i64 x71_5 ∧ Aside0 (dioramalaw12_LimitGrows.l0 kq y400 (y400.length : Int) x71_5 l0_0 a0_1 t387 t388 t389 t390 t391 = some r) ∧ Aside0 (kq ≤ kj72) ∧ Aside0 (Kd.R k26 26 w' w.heap.size (fun k_ => k_ ≠ gb380 ∧ k_ ≠ gb381 ∧ k_ ≠ gb392) (.slice Ao95 y400.length co95) y400) ∧ Aside0 (w'.heap[gb379]? = some (.cells #[(.slice A0_0 l0_0.length c0_0), .int .i64 a0_1] 24 (0, 0))) ∧ Aside0 (w'.heap[gb380]? = some (.cells #[.int .i64 a1_0, .int .i64 a1_1, .int .i64 a1_2, .int .i64 a1_3, .int .i64 a1_4] 26 (0, 0))) ∧ Aside0 (w'.heap[gb381]? = some (.cells #[.int .i64 a2_0, .int .i64 a2_1, .int .i64 a2_2, .int .i64 a2_3, .int .i64 a2_4] 26 (0, 0))) ∧ Aside0 (w'.heap[gb392]? = some (.cells #[.int .i64 t387, .int .i64 t388, .int .i64 t389, .int .i64 t390, .int .i64 t391] 26 (0, 0))) ∧ Aside0 (Below w.heap.size w w'))
            case atStart => exact ⟨(0), (by first | rfl | (simp; done) | (simp [*]; done)), H', ⟨Nat.le_refl _⟩, ⟨by (with_reducible repeat (first | apply Kd.R_alloc | apply Kd.R_drewN | apply Kd.R_drew)); exact Kd.R_mono HO402.out (fun _ hk => ⟨hk.1.1.2, ⟨hk.1.2, hk.2⟩⟩)⟩, ⟨BL BK379⟩, ⟨BL BK380⟩, ⟨BL BK381⟩, ⟨BL BK392⟩, ⟨BB HB⟩⟩
            case round =>
             clear H'; try clear c1
             try clear c2
             try clear p2
             try clear c3
             try clear c4
             try clear c5
             try clear c6
             try clear c7
             try clear c8
             try clear c9
             try clear c12
             try clear c13
             try clear c15
             try clear c17
             try clear c20
             try clear c21
             try clear c21b0
             try clear c21b1
             try clear c24
             try clear c25
             try clear c26
             try clear c28
             try clear c34
             try clear c35
             try clear c36
             try clear c40
             try clear c40b0
             try clear c40b1
             try clear c42
             try clear c43
             try clear c44
             try clear c46
             try clear c47
             try clear c50
             try clear c53
             try clear c55
             try clear c56
             try clear c57
             try clear c59
             try clear c60
             try clear c65
             try clear c66
             try clear c67
             try clear c69
             try clear c70
             try clear c74
             try clear c76
             try clear c76b0
             try clear c76b1
             try clear c77
             try clear c78
             try clear c79
             try clear c81
             try clear c82
             try clear c85
             try clear c86
             try clear c87
             try clear c89
             try clear c90
             try clear hcz14_0
             try clear hcz14_1
             try clear hcz27_0
             try clear hcz27_1
             try clear hcz29_0
             try clear hcz29_1
             try clear hcz29_2
             try clear hcz29_3
             try clear hcz29_4
             try clear hcz31_0
             try clear hcz31_1
             try clear hcz37_0
             try clear hcz37_1
             try clear hcz37_2
             try clear hcz37_3
             try clear hcz37_4
             try clear hcz38_0
             try clear hcz38_1
             try clear hcz45_0
             try clear hcz45_1
             try clear hcz45_2
             try clear hcz45_3
             try clear hcz45_4
             try clear hcz48_0
             try clear hcz48_1
             try clear hcz48_2
             try clear hcz48_3
             try clear hcz48_4
             try clear hcz58_0
             try clear hcz58_1
             try clear hcz58_2
             try clear hcz58_3
             try clear hcz58_4
             try clear hcz61_0
             try clear hcz61_1
             try clear hcz61_2
             try clear hcz61_3
             try clear hcz61_4
             try clear hcz63_0
             try clear hcz63_1
             try clear hcz63_2
             try clear hcz63_3
             try clear hcz63_4
             try clear hcz68_0
             try clear hcz68_1
             try clear hcz68_2
             try clear hcz68_3
             try clear hcz68_4
             try clear hcz71_0
             try clear hcz71_1
             try clear hcz71_2
             try clear hcz71_3
             try clear hcz71_4
             try clear hcz80_0
             try clear hcz80_1
             try clear hcz83_0
             try clear hcz83_1
             try clear hcz83_2
             try clear hcz83_3
             try clear hcz83_4
             try clear hcz88_0
             try clear hcz88_1
             try clear hcz91_0
             try clear hcz91_1
             try clear hcz91_2
             try clear hcz91_3
             try clear hcz91_4
             try clear hfz14_0
             try clear hfz14_1
             try clear hfz27_0
             try clear hfz27_1
             try clear hfz29_0
             try clear hfz29_1
             try clear hfz29_2
             try clear hfz29_3
             try clear hfz29_4
             try clear hfz31_0
             try clear hfz31_1
             try clear hfz37_0
             try clear hfz37_1
             try clear hfz37_2
             try clear hfz37_3
             try clear hfz37_4
             try clear hfz38_0
             try clear hfz38_1
             try clear hfz45_0
             try clear hfz45_1
             try clear hfz45_2
             try clear hfz45_3
             try clear hfz45_4
             try clear hfz48_0
             try clear hfz48_1
             try clear hfz48_2
             try clear hfz48_3
             try clear hfz48_4
             try clear hfz58_0
             try clear hfz58_1
             try clear hfz58_2
             try clear hfz58_3
             try clear hfz58_4
             try clear hfz61_0
             try clear hfz61_1
             try clear hfz61_2
             try clear hfz61_3
             try clear hfz61_4
             try clear hfz63_0
             try clear hfz63_1
             try clear hfz63_2
             try clear hfz63_3
             try clear hfz63_4
             try clear hfz68_0
             try clear hfz68_1
             try clear hfz68_2
             try clear hfz68_3
             try clear hfz68_4
             try clear hfz71_0
             try clear hfz71_1
             try clear hfz71_2
             try clear hfz71_3
             try clear hfz71_4
             try clear hfz80_0
             try clear hfz80_1
             try clear hfz83_0
             try clear hfz83_1
             try clear hfz83_2
             try clear hfz83_3
             try clear hfz83_4
             try clear hfz88_0
             try clear hfz88_1
             try clear hfz91_0
             try clear hfz91_1
             try clear hfz91_2
             try clear hfz91_3
             try clear hfz91_4
             try clear p2
             obtain ⟨x71_5, rfl, HA, HK5, HO_69, BK379, BK380, BK381, BK392, HB⟩ := hrel; cases gk with
             | zero => exact absurd HA.out (by simp [dioramalaw12_LimitGrows.l0])
             | succ k5 =>
              have H := HA.out; clear HA; simp only [dioramalaw12_LimitGrows.l0] at H
              by_cases c96 : x71_5 < (y400.length : Int)
              ·rw [if_pos c96] at H; have c96b0 : decide (x71_5 < (y400.length : Int)) = true := decide_eq_true c96; clear c96; by_cases c97 : 0 ≤ x71_5
               ·rw [if_pos c97] at H; have c97b0 : decide (0 ≤ x71_5) = true := decide_eq_true c97; clear c97; by_cases c98 : x71_5 < (y400.length : Int)
                ·rw [if_pos c98] at H; have c98b0 : decide (x71_5 < (y400.length : Int)) = true := decide_eq_true c98; clear c98; replace H := Option.bind_eq_some_iff.mp H; obtain ⟨t406, A990, H⟩ := H; replace H : (if t406 = true then ((limit_Valid.f k5 l0_0 a0_1 0 (wrap64 (t388 - ((rd_T26 y400 x71_5).f1))) (wrap64 (t389 - ((rd_T26 y400 x71_5).f2))) (wrap64 (t390 - ((rd_T26 y400 x71_5).f3))) (wrap64 (t391 - ((rd_T26 y400 x71_5).f4)))).bind fun bt407 => (if bt407.1 = 19 then (dioramalaw12_LimitGrows.l0 k5 y400 (y400.length : Int) (wrap64 (x71_5 + 1)) l0_0 a0_1 t387 t388 t389 t390 t391) else (some false))) else (dioramalaw12_LimitGrows.l0 k5 y400 (y400.length : Int) (wrap64 (x71_5 + 1)) l0_0 a0_1 t387 t388 t389 t390 t391)) = some r := H
                 have A99 := AM A990; clear A990; by_cases c100 : t406 = true
                 ·subst c100; have H1 : ((limit_Valid.f k5 l0_0 a0_1 0 (wrap64 (t388 - ((rd_T26 y400 x71_5).f1))) (wrap64 (t389 - ((rd_T26 y400 x71_5).f2))) (wrap64 (t390 - ((rd_T26 y400 x71_5).f3))) (wrap64 (t391 - ((rd_T26 y400 x71_5).f4)))).bind fun bt407 => (if bt407.1 = 19 then (dioramalaw12_LimitGrows.l0 k5 y400 (y400.length : Int) (wrap64 (x71_5 + 1)) l0_0 a0_1 t387 t388 t389 t390 t391) else (some false))) = some r := by rw [if_pos rfl] at H; exact H
                  clear H; have H := H1; clear H1; replace H := Option.bind_eq_some_iff.mp H; obtain ⟨⟨t407, t408⟩, A1010, H⟩ := H; replace H : (if t407 = 19 then (dioramalaw12_LimitGrows.l0 k5 y400 (y400.length : Int) (wrap64 (x71_5 + 1)) l0_0 a0_1 t387 t388 t389 t390 t391) else (some false)) = some r := H; have A101 := AM A1010; clear A1010; by_cases c102 : t407 = 19
                  ·rw [if_pos c102] at H; have c102b0 : (t407 == 19) = true := beq_iff_eq.mpr c102; have c102b1 : (t407 != 19) = false := bne_eq_false_iff_eq.mpr c102; clear c102; have H' := AM H; clear H; have p403 : 0 ≤ (x71_5 : Int) := of_decide_eq_true (by first | (with_reducible assumption) | assumption)
                   have q403 : x71_5 < (y400.length : Int) := of_decide_eq_true (by first | (with_reducible assumption) | assumption)
                   obtain ⟨ad403, e403, hx403_0, hx403_1, hx403_2, hx403_3, hx403_4⟩ := at_T26 (Kd.R_reads' HO_69.out).2.2 x71_5 p403 q403; cases e403
                   replace p403 := eq_true p403; replace q403 := eq_true q403; go_wp2_with (first | ((with_reducible refine gate_dst (N := 15) rfl ?_); refine box_event ?hg (N := 15) ?hd (cs := #[.int .i64 0, .int .i64 0, .int .i64 0, .int .i64 0, .int .i64 0]) (t := 26) ?hr ?_; (case hd => rfl); (case hg => rfl); (case hr => first | (go_simp; done) | (go_simp; rfl)); intro gb404 hg w103 hbox hb; replace HO_69 := AM (Kd.R_below (Kd.R_elderB (RL HO_69) gb404 (Nat.le_of_eq hg.symm)) hb); have BK404 := AM (hbox); have GW404 := GW HB hg; have GE404 := GW HB hg; replace HB := BS HB hb; have NB379_404 := NL BK379 hg; have NB404_379 := NG BK379 hg; replace BK379 := BE BK379 hb; have NB380_404 := NL BK380 hg; have NB404_380 := NG BK380 hg; replace BK380 := BE BK380 hb; have NB381_404 := NL BK381 hg; have NB404_381 := NG BK381 hg; replace BK381 := BE BK381 hb; have NB392_404 := NL BK392 hg; have NB404_392 := NG BK392 hg; replace BK392 := BE BK392 hb; clear hb hbox hg; have hnb104 := NB404_379.out; have hnc104 := NB379_404.out; have hnb105 := NB404_380.out; have hnc105 := NB380_404.out; have hnb106 := NB404_381.out; have hnc106 := NB381_404.out; have hnb107 := NB404_392.out; have hnc107 := NB392_404.out; have hcz108_0 := BC BK404 0 (.int .i64 0) rfl; have hcz108_1 := BC BK404 1 (.int .i64 0) rfl; have hcz108_2 := BC BK404 2 (.int .i64 0) rfl; have hcz108_3 := BC BK404 3 (.int .i64 0) rfl; have hcz108_4 := BC BK404 4 (.int .i64 0) rfl; have hfz108_0 := BF BK404 0; have hfz108_1 := BF BK404 1; have hfz108_2 := BF BK404 2; have hfz108_3 := BF BK404 3; have hfz108_4 := BF BK404 4; have hnb109 := NB392_379.out; have hnc109 := NB379_392.out; have hnb110 := NB392_380.out; have hnc110 := NB380_392.out; have hnb111 := NB392_381.out; have hnc111 := NB381_392.out; have hcz112_0 := BC BK392 0 (.int .i64 t387) rfl; have hcz112_1 := BC BK392 1 (.int .i64 t388) rfl; have hcz112_2 := BC BK392 2 (.int .i64 t389) rfl; have hcz112_3 := BC BK392 3 (.int .i64 t390) rfl; have hcz112_4 := BC BK392 4 (.int .i64 t391) rfl; have hfz112_0 := BF BK392 0; have hfz112_1 := BF BK392 1; have hfz112_2 := BF BK392 2; have hfz112_3 := BF BK392 3; have hfz112_4 := BF BK392 4) | ((with_reducible refine gate_dst (N := 16) rfl ?_); refine box_event ?hg (N := 16) ?hd (cs := #[.int .i64 0, .int .i64 0, .int .i64 0, .int .i64 0, .int .i64 0]) (t := 26) ?hr ?_; (case hd => rfl); (case hg => rfl); (case hr => first | (go_simp; done) | (go_simp; rfl)); intro gb405 hg w113 hbox hb; replace HO_69 := AM (Kd.R_below (Kd.R_elderB (by exact (Kd.R_mono (Kd.R_far (p := ⟨gb404, 4, none⟩) (Kd.R_far (p := ⟨gb404, 3, none⟩) (Kd.R_far (p := ⟨gb404, 2, none⟩) (Kd.R_far (p := ⟨gb404, 1, none⟩) (Kd.R_far (p := ⟨gb404, 0, none⟩) (Kd.R_mono HO_69.out (fun k_ hk => (⟨hk, hk.2⟩ : _ ∧ k_ ≠ gb404))) (fun _ hk => hk.2) (.int .i64 ((rd_T26 y400 x71_5).f0))) (fun _ hk => hk.2) (.int .i64 ((rd_T26 y400 x71_5).f1))) (fun _ hk => hk.2) (.int .i64 ((rd_T26 y400 x71_5).f2))) (fun _ hk => hk.2) (.int .i64 ((rd_T26 y400 x71_5).f3))) (fun _ hk => hk.2) (.int .i64 ((rd_T26 y400 x71_5).f4))) (fun _ h_ => h_.1))) gb405 (Nat.le_of_eq hg.symm)) hb); have BK405 := AM (hbox); have GW405 := GW HB hg; have GE405 := GW HB hg; replace HB := BS HB hb; have NB379_405 := AM ((by rw [hg]; exact Nat.ne_of_lt (blk_lt (g := gb379) (o := .cells #[.slice A0_0 l0_0.length c0_0, .int .i64 a0_1] 24 (0, 0)) (by (repeat refine blk_far ?_ NB379_404.out _); (with_reducible repeat (first | refine blk_drewN ?_ _ | refine blk_drew ?_ | refine blk_alloc ?_ _)); exact BK379.out)) : gb379 ≠ gb405)); have NB405_379 := AM ((by rw [hg]; exact Nat.ne_of_gt (blk_lt (g := gb379) (o := .cells #[.slice A0_0 l0_0.length c0_0, .int .i64 a0_1] 24 (0, 0)) (by (repeat refine blk_far ?_ NB379_404.out _); (with_reducible repeat (first | refine blk_drewN ?_ _ | refine blk_drew ?_ | refine blk_alloc ?_ _)); exact BK379.out)) : gb405 ≠ gb379)); replace BK379 := AM (blk_below (g := gb379) (o := .cells #[.slice A0_0 l0_0.length c0_0, .int .i64 a0_1] 24 (0, 0)) (by (repeat refine blk_far ?_ NB379_404.out _); (with_reducible repeat (first | refine blk_drewN ?_ _ | refine blk_drew ?_ | refine blk_alloc ?_ _)); exact BK379.out) hb); have NB380_405 := AM ((by rw [hg]; exact Nat.ne_of_lt (blk_lt (g := gb380) (o := .cells #[.int .i64 a1_0, .int .i64 a1_1, .int .i64 a1_2, .int .i64 a1_3, .int .i64 a1_4] 26 (0, 0)) (by (repeat refine blk_far ?_ NB380_404.out _); (with_reducible repeat (first | refine blk_drewN ?_ _ | refine blk_drew ?_ | refine blk_alloc ?_ _)); exact BK380.out)) : gb380 ≠ gb405)); have NB405_380 := AM ((by rw [hg]; exact Nat.ne_of_gt (blk_lt (g := gb380) (o := .cells #[.int .i64 a1_0, .int .i64 a1_1, .int .i64 a1_2, .int .i64 a1_3, .int .i64 a1_4] 26 (0, 0)) (by (repeat refine blk_far ?_ NB380_404.out _); (with_reducible repeat (first | refine blk_drewN ?_ _ | refine blk_drew ?_ | refine blk_alloc ?_ _)); exact BK380.out)) : gb405 ≠ gb380)); replace BK380 := AM (blk_below (g := gb380) (o := .cells #[.int .i64 a1_0, .int .i64 a1_1, .int .i64 a1_2, .int .i64 a1_3, .int .i64 a1_4] 26 (0, 0)) (by (repeat refine blk_far ?_ NB380_404.out _); (with_reducible repeat (first | refine blk_drewN ?_ _ | refine blk_drew ?_ | refine blk_alloc ?_ _)); exact BK380.out) hb); have NB381_405 := AM ((by rw [hg]; exact Nat.ne_of_lt (blk_lt (g := gb381) (o := .cells #[.int .i64 a2_0, .int .i64 a2_1, .int .i64 a2_2, .int .i64 a2_3, .int .i64 a2_4] 26 (0, 0)) (by (repeat refine blk_far ?_ NB381_404.out _); (with_reducible repeat (first | refine blk_drewN ?_ _ | refine blk_drew ?_ | refine blk_alloc ?_ _)); exact BK381.out)) : gb381 ≠ gb405)); have NB405_381 := AM ((by rw [hg]; exact Nat.ne_of_gt (blk_lt (g := gb381) (o := .cells #[.int .i64 a2_0, .int .i64 a2_1, .int .i64 a2_2, .int .i64 a2_3, .int .i64 a2_4] 26 (0, 0)) (by (repeat refine blk_far ?_ NB381_404.out _); (with_reducible repeat (first | refine blk_drewN ?_ _ | refine blk_drew ?_ | refine blk_alloc ?_ _)); exact BK381.out)) : gb405 ≠ gb381)); replace BK381 := AM (blk_below (g := gb381) (o := .cells #[.int .i64 a2_0, .int .i64 a2_1, .int .i64 a2_2, .int .i64 a2_3, .int .i64 a2_4] 26 (0, 0)) (by (repeat refine blk_far ?_ NB381_404.out _); (with_reducible repeat (first | refine blk_drewN ?_ _ | refine blk_drew ?_ | refine blk_alloc ?_ _)); exact BK381.out) hb); have NB392_405 := AM ((by rw [hg]; exact Nat.ne_of_lt (blk_lt (g := gb392) (o := .cells #[.int .i64 t387, .int .i64 t388, .int .i64 t389, .int .i64 t390, .int .i64 t391] 26 (0, 0)) (by (repeat refine blk_far ?_ NB392_404.out _); (with_reducible repeat (first | refine blk_drewN ?_ _ | refine blk_drew ?_ | refine blk_alloc ?_ _)); exact BK392.out)) : gb392 ≠ gb405)); have NB405_392 := AM ((by rw [hg]; exact Nat.ne_of_gt (blk_lt (g := gb392) (o := .cells #[.int .i64 t387, .int .i64 t388, .int .i64 t389, .int .i64 t390, .int .i64 t391] 26 (0, 0)) (by (repeat refine blk_far ?_ NB392_404.out _); (with_reducible repeat (first | refine blk_drewN ?_ _ | refine blk_drew ?_ | refine blk_alloc ?_ _)); exact BK392.out)) : gb405 ≠ gb392)); replace BK392 := AM (blk_below (g := gb392) (o := .cells #[.int .i64 t387, .int .i64 t388, .int .i64 t389, .int .i64 t390, .int .i64 t391] 26 (0, 0)) (by (repeat refine blk_far ?_ NB392_404.out _); (with_reducible repeat (first | refine blk_drewN ?_ _ | refine blk_drew ?_ | refine blk_alloc ?_ _)); exact BK392.out) hb); have NB404_405 := AM ((by rw [hg]; exact Nat.ne_of_lt (blk_lt (g := gb404) (o := .cells #[.int .i64 ((rd_T26 y400 x71_5).f0), .int .i64 ((rd_T26 y400 x71_5).f1), .int .i64 ((rd_T26 y400 x71_5).f2), .int .i64 ((rd_T26 y400 x71_5).f3), .int .i64 ((rd_T26 y400 x71_5).f4)] 26 (0, 0)) (by refine blk_put (cs := #[.int .i64 ((rd_T26 y400 x71_5).f0), .int .i64 ((rd_T26 y400 x71_5).f1), .int .i64 ((rd_T26 y400 x71_5).f2), .int .i64 ((rd_T26 y400 x71_5).f3), .int .i64 0]) ?_ 4 _ rfl; refine blk_put (cs := #[.int .i64 ((rd_T26 y400 x71_5).f0), .int .i64 ((rd_T26 y400 x71_5).f1), .int .i64 ((rd_T26 y400 x71_5).f2), .int .i64 0, .int .i64 0]) ?_ 3 _ rfl; refine blk_put (cs := #[.int .i64 ((rd_T26 y400 x71_5).f0), .int .i64 ((rd_T26 y400 x71_5).f1), .int .i64 0, .int .i64 0, .int .i64 0]) ?_ 2 _ rfl; refine blk_put (cs := #[.int .i64 ((rd_T26 y400 x71_5).f0), .int .i64 0, .int .i64 0, .int .i64 0, .int .i64 0]) ?_ 1 _ rfl; refine blk_put (cs := #[.int .i64 0, .int .i64 0, .int .i64 0, .int .i64 0, .int .i64 0]) ?_ 0 _ rfl; (with_reducible repeat (first | refine blk_drewN ?_ _ | refine blk_drew ?_ | refine blk_alloc ?_ _)); exact BK404.out)) : gb404 ≠ gb405)); have NB405_404 := AM ((by rw [hg]; exact Nat.ne_of_gt (blk_lt (g := gb404) (o := .cells #[.int .i64 ((rd_T26 y400 x71_5).f0), .int .i64 ((rd_T26 y400 x71_5).f1), .int .i64 ((rd_T26 y400 x71_5).f2), .int .i64 ((rd_T26 y400 x71_5).f3), .int .i64 ((rd_T26 y400 x71_5).f4)] 26 (0, 0)) (by refine blk_put (cs := #[.int .i64 ((rd_T26 y400 x71_5).f0), .int .i64 ((rd_T26 y400 x71_5).f1), .int .i64 ((rd_T26 y400 x71_5).f2), .int .i64 ((rd_T26 y400 x71_5).f3), .int .i64 0]) ?_ 4 _ rfl; refine blk_put (cs := #[.int .i64 ((rd_T26 y400 x71_5).f0), .int .i64 ((rd_T26 y400 x71_5).f1), .int .i64 ((rd_T26 y400 x71_5).f2), .int .i64 0, .int .i64 0]) ?_ 3 _ rfl; refine blk_put (cs := #[.int .i64 ((rd_T26 y400 x71_5).f0), .int .i64 ((rd_T26 y400 x71_5).f1), .int .i64 0, .int .i64 0, .int .i64 0]) ?_ 2 _ rfl; refine blk_put (cs := #[.int .i64 ((rd_T26 y400 x71_5).f0), .int .i64 0, .int .i64 0, .int .i64 0, .int .i64 0]) ?_ 1 _ rfl; refine blk_put (cs := #[.int .i64 0, .int .i64 0, .int .i64 0, .int .i64 0, .int .i64 0]) ?_ 0 _ rfl; (with_reducible repeat (first | refine blk_drewN ?_ _ | refine blk_drew ?_ | refine blk_alloc ?_ _)); exact BK404.out)) : gb405 ≠ gb404)); replace BK404 := AM (blk_below (g := gb404) (o := .cells #[.int .i64 ((rd_T26 y400 x71_5).f0), .int .i64 ((rd_T26 y400 x71_5).f1), .int .i64 ((rd_T26 y400 x71_5).f2), .int .i64 ((rd_T26 y400 x71_5).f3), .int .i64 ((rd_T26 y400 x71_5).f4)] 26 (0, 0)) (by refine blk_put (cs := #[.int .i64 ((rd_T26 y400 x71_5).f0), .int .i64 ((rd_T26 y400 x71_5).f1), .int .i64 ((rd_T26 y400 x71_5).f2), .int .i64 ((rd_T26 y400 x71_5).f3), .int .i64 0]) ?_ 4 _ rfl; refine blk_put (cs := #[.int .i64 ((rd_T26 y400 x71_5).f0), .int .i64 ((rd_T26 y400 x71_5).f1), .int .i64 ((rd_T26 y400 x71_5).f2), .int .i64 0, .int .i64 0]) ?_ 3 _ rfl; refine blk_put (cs := #[.int .i64 ((rd_T26 y400 x71_5).f0), .int .i64 ((rd_T26 y400 x71_5).f1), .int .i64 0, .int .i64 0, .int .i64 0]) ?_ 2 _ rfl; refine blk_put (cs := #[.int .i64 ((rd_T26 y400 x71_5).f0), .int .i64 0, .int .i64 0, .int .i64 0, .int .i64 0]) ?_ 1 _ rfl; refine blk_put (cs := #[.int .i64 0, .int .i64 0, .int .i64 0, .int .i64 0, .int .i64 0]) ?_ 0 _ rfl; (with_reducible repeat (first | refine blk_drewN ?_ _ | refine blk_drew ?_ | refine blk_alloc ?_ _)); exact BK404.out) hb); clear hb hbox hg; have hnb114 := NB405_379.out; have hnc114 := NB379_405.out; have hnb115 := NB405_380.out; have hnc115 := NB380_405.out; have hnb116 := NB405_381.out; have hnc116 := NB381_405.out; have hnb117 := NB405_392.out; have hnc117 := NB392_405.out; have hnb118 := NB405_404.out; have hnc118 := NB404_405.out; have hcz119_0 := BC BK405 0 (.int .i64 0) rfl; have hcz119_1 := BC BK405 1 (.int .i64 0) rfl; have hcz119_2 := BC BK405 2 (.int .i64 0) rfl; have hcz119_3 := BC BK405 3 (.int .i64 0) rfl; have hcz119_4 := BC BK405 4 (.int .i64 0) rfl; have hfz119_0 := BF BK405 0; have hfz119_1 := BF BK405 1; have hfz119_2 := BF BK405 2; have hfz119_3 := BF BK405 3; have hfz119_4 := BF BK405 4) | ((with_reducible refine gate_callee (f := 22) rfl ?_); refine goesM_ (some 97) rfl rfl Tryd.func22 #[.agg #[.int .i64 0, .int .i64 (wrap64 (t388 - ((rd_T26 y400 x71_5).f1))), .int .i64 (wrap64 (t389 - ((rd_T26 y400 x71_5).f2))), .int .i64 (wrap64 (t390 - ((rd_T26 y400 x71_5).f3))), .int .i64 (wrap64 (t391 - ((rd_T26 y400 x71_5).f4)))]] rfl ?_; (with_reducible refine (limit_Right.calls 0 (wrap64 (t388 - ((rd_T26 y400 x71_5).f1))) (wrap64 (t389 - ((rd_T26 y400 x71_5).f2))) (wrap64 (t390 - ((rd_T26 y400 x71_5).f3))) (wrap64 (t391 - ((rd_T26 y400 x71_5).f4))) true _ A99.out).mono ?_); rintro e w120 ⟨rfl, hb⟩; refine ⟨_, rfl, ?_⟩; replace HO_69 := AM (Kd.R_below (by exact (Kd.R_mono (Kd.R_far (p := ⟨gb405, 4, none⟩) (Kd.R_far (p := ⟨gb405, 3, none⟩) (Kd.R_far (p := ⟨gb405, 2, none⟩) (Kd.R_far (p := ⟨gb405, 1, none⟩) (Kd.R_far (p := ⟨gb405, 0, none⟩) (Kd.R_mono HO_69.out (fun k_ hk => (⟨hk, hk.2⟩ : _ ∧ k_ ≠ gb405))) (fun _ hk => hk.2) (.int .i64 0)) (fun _ hk => hk.2) (.int .i64 (wrap64 (t388 - ((rd_T26 y400 x71_5).f1))))) (fun _ hk => hk.2) (.int .i64 (wrap64 (t389 - ((rd_T26 y400 x71_5).f2))))) (fun _ hk => hk.2) (.int .i64 (wrap64 (t390 - ((rd_T26 y400 x71_5).f3))))) (fun _ hk => hk.2) (.int .i64 (wrap64 (t391 - ((rd_T26 y400 x71_5).f4))))) (fun _ h_ => h_.1))) hb); replace BK379 := AM (blk_below (g := gb379) (o := .cells #[.slice A0_0 l0_0.length c0_0, .int .i64 a0_1] 24 (0, 0)) (by (repeat refine blk_far ?_ NB379_405.out _); (with_reducible repeat (first | refine blk_drewN ?_ _ | refine blk_drew ?_ | refine blk_alloc ?_ _)); exact BK379.out) hb); replace BK380 := AM (blk_below (g := gb380) (o := .cells #[.int .i64 a1_0, .int .i64 a1_1, .int .i64 a1_2, .int .i64 a1_3, .int .i64 a1_4] 26 (0, 0)) (by (repeat refine blk_far ?_ NB380_405.out _); (with_reducible repeat (first | refine blk_drewN ?_ _ | refine blk_drew ?_ | refine blk_alloc ?_ _)); exact BK380.out) hb); replace BK381 := AM (blk_below (g := gb381) (o := .cells #[.int .i64 a2_0, .int .i64 a2_1, .int .i64 a2_2, .int .i64 a2_3, .int .i64 a2_4] 26 (0, 0)) (by (repeat refine blk_far ?_ NB381_405.out _); (with_reducible repeat (first | refine blk_drewN ?_ _ | refine blk_drew ?_ | refine blk_alloc ?_ _)); exact BK381.out) hb); replace BK392 := AM (blk_below (g := gb392) (o := .cells #[.int .i64 t387, .int .i64 t388, .int .i64 t389, .int .i64 t390, .int .i64 t391] 26 (0, 0)) (by (repeat refine blk_far ?_ NB392_405.out _); (with_reducible repeat (first | refine blk_drewN ?_ _ | refine blk_drew ?_ | refine blk_alloc ?_ _)); exact BK392.out) hb); replace BK404 := AM (blk_below (g := gb404) (o := .cells #[.int .i64 ((rd_T26 y400 x71_5).f0), .int .i64 ((rd_T26 y400 x71_5).f1), .int .i64 ((rd_T26 y400 x71_5).f2), .int .i64 ((rd_T26 y400 x71_5).f3), .int .i64 ((rd_T26 y400 x71_5).f4)] 26 (0, 0)) (by (repeat refine blk_far ?_ NB404_405.out _); (with_reducible repeat (first | refine blk_drewN ?_ _ | refine blk_drew ?_ | refine blk_alloc ?_ _)); exact BK404.out) hb); replace BK405 := AM (blk_below (g := gb405) (o := .cells #[.int .i64 0, .int .i64 (wrap64 (t388 - ((rd_T26 y400 x71_5).f1))), .int .i64 (wrap64 (t389 - ((rd_T26 y400 x71_5).f2))), .int .i64 (wrap64 (t390 - ((rd_T26 y400 x71_5).f3))), .int .i64 (wrap64 (t391 - ((rd_T26 y400 x71_5).f4)))] 26 (0, 0)) (by refine blk_put (cs := #[.int .i64 0, .int .i64 (wrap64 (t388 - ((rd_T26 y400 x71_5).f1))), .int .i64 (wrap64 (t389 - ((rd_T26 y400 x71_5).f2))), .int .i64 (wrap64 (t390 - ((rd_T26 y400 x71_5).f3))), .int .i64 0]) ?_ 4 _ rfl; refine blk_put (cs := #[.int .i64 0, .int .i64 (wrap64 (t388 - ((rd_T26 y400 x71_5).f1))), .int .i64 (wrap64 (t389 - ((rd_T26 y400 x71_5).f2))), .int .i64 0, .int .i64 0]) ?_ 3 _ rfl; refine blk_put (cs := #[.int .i64 0, .int .i64 (wrap64 (t388 - ((rd_T26 y400 x71_5).f1))), .int .i64 0, .int .i64 0, .int .i64 0]) ?_ 2 _ rfl; refine blk_put (cs := #[.int .i64 0, .int .i64 0, .int .i64 0, .int .i64 0, .int .i64 0]) ?_ 1 _ rfl; refine blk_put (cs := #[.int .i64 0, .int .i64 0, .int .i64 0, .int .i64 0, .int .i64 0]) ?_ 0 _ rfl; (with_reducible repeat (first | refine blk_drewN ?_ _ | refine blk_drew ?_ | refine blk_alloc ?_ _)); exact BK405.out) hb); replace HB := BS HB hb; (try clear hb); (try clear hb2); (try clear hk); (try clear hi); have hnb121 := NB379_380.out; have hnc121 := NB380_379.out; have hnb122 := NB379_381.out; have hnc122 := NB381_379.out; have hcz123_0 := BC BK379 0 (.slice A0_0 l0_0.length c0_0) rfl; have hcz123_1 := BC BK379 1 (.int .i64 a0_1) rfl; have hfz123_0 := BF BK379 0; have hfz123_1 := BF BK379 1; have hcz124_0 := BC BK405 0 (.int .i64 0) rfl; have hcz124_1 := BC BK405 1 (.int .i64 (wrap64 (t388 - ((rd_T26 y400 x71_5).f1)))) rfl; have hcz124_2 := BC BK405 2 (.int .i64 (wrap64 (t389 - ((rd_T26 y400 x71_5).f2)))) rfl; have hcz124_3 := BC BK405 3 (.int .i64 (wrap64 (t390 - ((rd_T26 y400 x71_5).f3)))) rfl; have hcz124_4 := BC BK405 4 (.int .i64 (wrap64 (t391 - ((rd_T26 y400 x71_5).f4)))) rfl; have hfz124_0 := BF BK405 0; have hfz124_1 := BF BK405 1; have hfz124_2 := BF BK405 2; have hfz124_3 := BF BK405 3; have hfz124_4 := BF BK405 4) | ((with_reducible refine gate_callee (f := 15) rfl ?_); refine goesM_ (some 102) rfl rfl Tryd.func15 #[.agg #[.slice A0_0 l0_0.length c0_0, .int .i64 a0_1], .agg #[.int .i64 0, .int .i64 (wrap64 (t388 - ((rd_T26 y400 x71_5).f1))), .int .i64 (wrap64 (t389 - ((rd_T26 y400 x71_5).f2))), .int .i64 (wrap64 (t390 - ((rd_T26 y400 x71_5).f3))), .int .i64 (wrap64 (t391 - ((rd_T26 y400 x71_5).f4)))]] rfl ?_; (with_reducible refine (limit_Valid.calls k5 _ _ l0_0 a0_1 0 (wrap64 (t388 - ((rd_T26 y400 x71_5).f1))) (wrap64 (t389 - ((rd_T26 y400 x71_5).f2))) (wrap64 (t390 - ((rd_T26 y400 x71_5).f3))) (wrap64 (t391 - ((rd_T26 y400 x71_5).f4))) t407 t408 _ ?sideT ?side1 ?side2 A101.out).mono ?_); (case sideT => exact fun w_ hb_ => HTB_.out w_ (below_step (BB HB) hb_)); (case side1 => exact Kd.C_below HR0_0.out (BB HB)); (case side2 => exact HC0_0.out); rintro e w125 ⟨rfl, hb⟩; refine ⟨_, rfl, ?_⟩; replace HO_69 := AM (Kd.R_below (RL HO_69) hb); replace BK379 := BE BK379 hb; replace BK380 := BE BK380 hb; replace BK381 := BE BK381 hb; replace BK392 := BE BK392 hb; replace BK404 := BE BK404 hb; replace BK405 := BE BK405 hb; replace HB := BS HB hb; (try clear hb); (try clear hb2); (try clear hk); (try clear hi)))
                   go_roundg k5
                   case measure => have := HJ3.out; have := HJ23.out; have := HJ50.out; have := HJ72.out; have := HK5.out; omega
                   case rel => exact ⟨(wrap64 (x71_5 + 1)), (by first | rfl | (simp; done) | (simp [*]; done)), H', ⟨by have := HJ3.out; have := HJ23.out; have := HJ50.out; have := HJ72.out; have := HK5.out; omega⟩, ⟨by (with_reducible repeat (first | apply Kd.R_alloc | apply Kd.R_drewN | apply Kd.R_drew)); exact Kd.R_mono HO_69.out (fun _ hk => ⟨hk.1.1.1, ⟨hk.1.1.2.1, hk.1.1.2.2⟩⟩)⟩, ⟨BL BK379⟩, ⟨BL BK380⟩, ⟨BL BK381⟩, ⟨BL BK392⟩, ⟨BB HB⟩⟩
                  ·rw [if_neg c102] at H; have c102b0 : (t407 == 19) = false := beq_eq_false_iff_ne.mpr c102; have c102b1 : (t407 != 19) = true := bne_iff_ne.mpr c102; obtain rfl := Option.some.inj H; have p403 : 0 ≤ (x71_5 : Int) := of_decide_eq_true (by first | (with_reducible assumption) | assumption)
                   have q403 : x71_5 < (y400.length : Int) := of_decide_eq_true (by first | (with_reducible assumption) | assumption)
                   obtain ⟨ad403, e403, hx403_0, hx403_1, hx403_2, hx403_3, hx403_4⟩ := at_T26 (Kd.R_reads' HO_69.out).2.2 x71_5 p403 q403; cases e403
                   replace p403 := eq_true p403; replace q403 := eq_true q403; go_wp2_with (first | ((with_reducible refine gate_dst (N := 15) rfl ?_); refine box_event ?hg (N := 15) ?hd (cs := #[.int .i64 0, .int .i64 0, .int .i64 0, .int .i64 0, .int .i64 0]) (t := 26) ?hr ?_; (case hd => rfl); (case hg => rfl); (case hr => first | (go_simp; done) | (go_simp; rfl)); intro gb404 hg w126 hbox hb; replace HO_69 := AM (Kd.R_below (Kd.R_elderB (RL HO_69) gb404 (Nat.le_of_eq hg.symm)) hb); have BK404 := AM (hbox); have GW404 := GW HB hg; have GE404 := GW HB hg; replace HB := BS HB hb; have NB379_404 := NL BK379 hg; have NB404_379 := NG BK379 hg; replace BK379 := BE BK379 hb; have NB380_404 := NL BK380 hg; have NB404_380 := NG BK380 hg; replace BK380 := BE BK380 hb; have NB381_404 := NL BK381 hg; have NB404_381 := NG BK381 hg; replace BK381 := BE BK381 hb; have NB392_404 := NL BK392 hg; have NB404_392 := NG BK392 hg; replace BK392 := BE BK392 hb; clear hb hbox hg; have hnb127 := NB404_379.out; have hnc127 := NB379_404.out; have hnb128 := NB404_380.out; have hnc128 := NB380_404.out; have hnb129 := NB404_381.out; have hnc129 := NB381_404.out; have hnb130 := NB404_392.out; have hnc130 := NB392_404.out; have hcz131_0 := BC BK404 0 (.int .i64 0) rfl; have hcz131_1 := BC BK404 1 (.int .i64 0) rfl; have hcz131_2 := BC BK404 2 (.int .i64 0) rfl; have hcz131_3 := BC BK404 3 (.int .i64 0) rfl; have hcz131_4 := BC BK404 4 (.int .i64 0) rfl; have hfz131_0 := BF BK404 0; have hfz131_1 := BF BK404 1; have hfz131_2 := BF BK404 2; have hfz131_3 := BF BK404 3; have hfz131_4 := BF BK404 4; have hnb132 := NB392_379.out; have hnc132 := NB379_392.out; have hnb133 := NB392_380.out; have hnc133 := NB380_392.out; have hnb134 := NB392_381.out; have hnc134 := NB381_392.out; have hcz135_0 := BC BK392 0 (.int .i64 t387) rfl; have hcz135_1 := BC BK392 1 (.int .i64 t388) rfl; have hcz135_2 := BC BK392 2 (.int .i64 t389) rfl; have hcz135_3 := BC BK392 3 (.int .i64 t390) rfl; have hcz135_4 := BC BK392 4 (.int .i64 t391) rfl; have hfz135_0 := BF BK392 0; have hfz135_1 := BF BK392 1; have hfz135_2 := BF BK392 2; have hfz135_3 := BF BK392 3; have hfz135_4 := BF BK392 4) | ((with_reducible refine gate_dst (N := 16) rfl ?_); refine box_event ?hg (N := 16) ?hd (cs := #[.int .i64 0, .int .i64 0, .int .i64 0, .int .i64 0, .int .i64 0]) (t := 26) ?hr ?_; (case hd => rfl); (case hg => rfl); (case hr => first | (go_simp; done) | (go_simp; rfl)); intro gb405 hg w136 hbox hb; replace HO_69 := AM (Kd.R_below (Kd.R_elderB (by exact (Kd.R_mono (Kd.R_far (p := ⟨gb404, 4, none⟩) (Kd.R_far (p := ⟨gb404, 3, none⟩) (Kd.R_far (p := ⟨gb404, 2, none⟩) (Kd.R_far (p := ⟨gb404, 1, none⟩) (Kd.R_far (p := ⟨gb404, 0, none⟩) (Kd.R_mono HO_69.out (fun k_ hk => (⟨hk, hk.2⟩ : _ ∧ k_ ≠ gb404))) (fun _ hk => hk.2) (.int .i64 ((rd_T26 y400 x71_5).f0))) (fun _ hk => hk.2) (.int .i64 ((rd_T26 y400 x71_5).f1))) (fun _ hk => hk.2) (.int .i64 ((rd_T26 y400 x71_5).f2))) (fun _ hk => hk.2) (.int .i64 ((rd_T26 y400 x71_5).f3))) (fun _ hk => hk.2) (.int .i64 ((rd_T26 y400 x71_5).f4))) (fun _ h_ => h_.1))) gb405 (Nat.le_of_eq hg.symm)) hb); have BK405 := AM (hbox); have GW405 := GW HB hg; have GE405 := GW HB hg; replace HB := BS HB hb; have NB379_405 := AM ((by rw [hg]; exact Nat.ne_of_lt (blk_lt (g := gb379) (o := .cells #[.slice A0_0 l0_0.length c0_0, .int .i64 a0_1] 24 (0, 0)) (by (repeat refine blk_far ?_ NB379_404.out _); (with_reducible repeat (first | refine blk_drewN ?_ _ | refine blk_drew ?_ | refine blk_alloc ?_ _)); exact BK379.out)) : gb379 ≠ gb405)); have NB405_379 := AM ((by rw [hg]; exact Nat.ne_of_gt (blk_lt (g := gb379) (o := .cells #[.slice A0_0 l0_0.length c0_0, .int .i64 a0_1] 24 (0, 0)) (by (repeat refine blk_far ?_ NB379_404.out _); (with_reducible repeat (first | refine blk_drewN ?_ _ | refine blk_drew ?_ | refine blk_alloc ?_ _)); exact BK379.out)) : gb405 ≠ gb379)); replace BK379 := AM (blk_below (g := gb379) (o := .cells #[.slice A0_0 l0_0.length c0_0, .int .i64 a0_1] 24 (0, 0)) (by (repeat refine blk_far ?_ NB379_404.out _); (with_reducible repeat (first | refine blk_drewN ?_ _ | refine blk_drew ?_ | refine blk_alloc ?_ _)); exact BK379.out) hb); have NB380_405 := AM ((by rw [hg]; exact Nat.ne_of_lt (blk_lt (g := gb380) (o := .cells #[.int .i64 a1_0, .int .i64 a1_1, .int .i64 a1_2, .int .i64 a1_3, .int .i64 a1_4] 26 (0, 0)) (by (repeat refine blk_far ?_ NB380_404.out _); (with_reducible repeat (first | refine blk_drewN ?_ _ | refine blk_drew ?_ | refine blk_alloc ?_ _)); exact BK380.out)) : gb380 ≠ gb405)); have NB405_380 := AM ((by rw [hg]; exact Nat.ne_of_gt (blk_lt (g := gb380) (o := .cells #[.int .i64 a1_0, .int .i64 a1_1, .int .i64 a1_2, .int .i64 a1_3, .int .i64 a1_4] 26 (0, 0)) (by (repeat refine blk_far ?_ NB380_404.out _); (with_reducible repeat (first | refine blk_drewN ?_ _ | refine blk_drew ?_ | refine blk_alloc ?_ _)); exact BK380.out)) : gb405 ≠ gb380)); replace BK380 := AM (blk_below (g := gb380) (o := .cells #[.int .i64 a1_0, .int .i64 a1_1, .int .i64 a1_2, .int .i64 a1_3, .int .i64 a1_4] 26 (0, 0)) (by (repeat refine blk_far ?_ NB380_404.out _); (with_reducible repeat (first | refine blk_drewN ?_ _ | refine blk_drew ?_ | refine blk_alloc ?_ _)); exact BK380.out) hb); have NB381_405 := AM ((by rw [hg]; exact Nat.ne_of_lt (blk_lt (g := gb381) (o := .cells #[.int .i64 a2_0, .int .i64 a2_1, .int .i64 a2_2, .int .i64 a2_3, .int .i64 a2_4] 26 (0, 0)) (by (repeat refine blk_far ?_ NB381_404.out _); (with_reducible repeat (first | refine blk_drewN ?_ _ | refine blk_drew ?_ | refine blk_alloc ?_ _)); exact BK381.out)) : gb381 ≠ gb405)); have NB405_381 := AM ((by rw [hg]; exact Nat.ne_of_gt (blk_lt (g := gb381) (o := .cells #[.int .i64 a2_0, .int .i64 a2_1, .int .i64 a2_2, .int .i64 a2_3, .int .i64 a2_4] 26 (0, 0)) (by (repeat refine blk_far ?_ NB381_404.out _); (with_reducible repeat (first | refine blk_drewN ?_ _ | refine blk_drew ?_ | refine blk_alloc ?_ _)); exact BK381.out)) : gb405 ≠ gb381)); replace BK381 := AM (blk_below (g := gb381) (o := .cells #[.int .i64 a2_0, .int .i64 a2_1, .int .i64 a2_2, .int .i64 a2_3, .int .i64 a2_4] 26 (0, 0)) (by (repeat refine blk_far ?_ NB381_404.out _); (with_reducible repeat (first | refine blk_drewN ?_ _ | refine blk_drew ?_ | refine blk_alloc ?_ _)); exact BK381.out) hb); have NB392_405 := AM ((by rw [hg]; exact Nat.ne_of_lt (blk_lt (g := gb392) (o := .cells #[.int .i64 t387, .int .i64 t388, .int .i64 t389, .int .i64 t390, .int .i64 t391] 26 (0, 0)) (by (repeat refine blk_far ?_ NB392_404.out _); (with_reducible repeat (first | refine blk_drewN ?_ _ | refine blk_drew ?_ | refine blk_alloc ?_ _)); exact BK392.out)) : gb392 ≠ gb405)); have NB405_392 := AM ((by rw [hg]; exact Nat.ne_of_gt (blk_lt (g := gb392) (o := .cells #[.int .i64 t387, .int .i64 t388, .int .i64 t389, .int .i64 t390, .int .i64 t391] 26 (0, 0)) (by (repeat refine blk_far ?_ NB392_404.out _); (with_reducible repeat (first | refine blk_drewN ?_ _ | refine blk_drew ?_ | refine blk_alloc ?_ _)); exact BK392.out)) : gb405 ≠ gb392)); replace BK392 := AM (blk_below (g := gb392) (o := .cells #[.int .i64 t387, .int .i64 t388, .int .i64 t389, .int .i64 t390, .int .i64 t391] 26 (0, 0)) (by (repeat refine blk_far ?_ NB392_404.out _); (with_reducible repeat (first | refine blk_drewN ?_ _ | refine blk_drew ?_ | refine blk_alloc ?_ _)); exact BK392.out) hb); have NB404_405 := AM ((by rw [hg]; exact Nat.ne_of_lt (blk_lt (g := gb404) (o := .cells #[.int .i64 ((rd_T26 y400 x71_5).f0), .int .i64 ((rd_T26 y400 x71_5).f1), .int .i64 ((rd_T26 y400 x71_5).f2), .int .i64 ((rd_T26 y400 x71_5).f3), .int .i64 ((rd_T26 y400 x71_5).f4)] 26 (0, 0)) (by refine blk_put (cs := #[.int .i64 ((rd_T26 y400 x71_5).f0), .int .i64 ((rd_T26 y400 x71_5).f1), .int .i64 ((rd_T26 y400 x71_5).f2), .int .i64 ((rd_T26 y400 x71_5).f3), .int .i64 0]) ?_ 4 _ rfl; refine blk_put (cs := #[.int .i64 ((rd_T26 y400 x71_5).f0), .int .i64 ((rd_T26 y400 x71_5).f1), .int .i64 ((rd_T26 y400 x71_5).f2), .int .i64 0, .int .i64 0]) ?_ 3 _ rfl; refine blk_put (cs := #[.int .i64 ((rd_T26 y400 x71_5).f0), .int .i64 ((rd_T26 y400 x71_5).f1), .int .i64 0, .int .i64 0, .int .i64 0]) ?_ 2 _ rfl; refine blk_put (cs := #[.int .i64 ((rd_T26 y400 x71_5).f0), .int .i64 0, .int .i64 0, .int .i64 0, .int .i64 0]) ?_ 1 _ rfl; refine blk_put (cs := #[.int .i64 0, .int .i64 0, .int .i64 0, .int .i64 0, .int .i64 0]) ?_ 0 _ rfl; (with_reducible repeat (first | refine blk_drewN ?_ _ | refine blk_drew ?_ | refine blk_alloc ?_ _)); exact BK404.out)) : gb404 ≠ gb405)); have NB405_404 := AM ((by rw [hg]; exact Nat.ne_of_gt (blk_lt (g := gb404) (o := .cells #[.int .i64 ((rd_T26 y400 x71_5).f0), .int .i64 ((rd_T26 y400 x71_5).f1), .int .i64 ((rd_T26 y400 x71_5).f2), .int .i64 ((rd_T26 y400 x71_5).f3), .int .i64 ((rd_T26 y400 x71_5).f4)] 26 (0, 0)) (by refine blk_put (cs := #[.int .i64 ((rd_T26 y400 x71_5).f0), .int .i64 ((rd_T26 y400 x71_5).f1), .int .i64 ((rd_T26 y400 x71_5).f2), .int .i64 ((rd_T26 y400 x71_5).f3), .int .i64 0]) ?_ 4 _ rfl; refine blk_put (cs := #[.int .i64 ((rd_T26 y400 x71_5).f0), .int .i64 ((rd_T26 y400 x71_5).f1), .int .i64 ((rd_T26 y400 x71_5).f2), .int .i64 0, .int .i64 0]) ?_ 3 _ rfl; refine blk_put (cs := #[.int .i64 ((rd_T26 y400 x71_5).f0), .int .i64 ((rd_T26 y400 x71_5).f1), .int .i64 0, .int .i64 0, .int .i64 0]) ?_ 2 _ rfl; refine blk_put (cs := #[.int .i64 ((rd_T26 y400 x71_5).f0), .int .i64 0, .int .i64 0, .int .i64 0, .int .i64 0]) ?_ 1 _ rfl; refine blk_put (cs := #[.int .i64 0, .int .i64 0, .int .i64 0, .int .i64 0, .int .i64 0]) ?_ 0 _ rfl; (with_reducible repeat (first | refine blk_drewN ?_ _ | refine blk_drew ?_ | refine blk_alloc ?_ _)); exact BK404.out)) : gb405 ≠ gb404)); replace BK404 := AM (blk_below (g := gb404) (o := .cells #[.int .i64 ((rd_T26 y400 x71_5).f0), .int .i64 ((rd_T26 y400 x71_5).f1), .int .i64 ((rd_T26 y400 x71_5).f2), .int .i64 ((rd_T26 y400 x71_5).f3), .int .i64 ((rd_T26 y400 x71_5).f4)] 26 (0, 0)) (by refine blk_put (cs := #[.int .i64 ((rd_T26 y400 x71_5).f0), .int .i64 ((rd_T26 y400 x71_5).f1), .int .i64 ((rd_T26 y400 x71_5).f2), .int .i64 ((rd_T26 y400 x71_5).f3), .int .i64 0]) ?_ 4 _ rfl; refine blk_put (cs := #[.int .i64 ((rd_T26 y400 x71_5).f0), .int .i64 ((rd_T26 y400 x71_5).f1), .int .i64 ((rd_T26 y400 x71_5).f2), .int .i64 0, .int .i64 0]) ?_ 3 _ rfl; refine blk_put (cs := #[.int .i64 ((rd_T26 y400 x71_5).f0), .int .i64 ((rd_T26 y400 x71_5).f1), .int .i64 0, .int .i64 0, .int .i64 0]) ?_ 2 _ rfl; refine blk_put (cs := #[.int .i64 ((rd_T26 y400 x71_5).f0), .int .i64 0, .int .i64 0, .int .i64 0, .int .i64 0]) ?_ 1 _ rfl; refine blk_put (cs := #[.int .i64 0, .int .i64 0, .int .i64 0, .int .i64 0, .int .i64 0]) ?_ 0 _ rfl; (with_reducible repeat (first | refine blk_drewN ?_ _ | refine blk_drew ?_ | refine blk_alloc ?_ _)); exact BK404.out) hb); clear hb hbox hg; have hnb137 := NB405_379.out; have hnc137 := NB379_405.out; have hnb138 := NB405_380.out; have hnc138 := NB380_405.out; have hnb139 := NB405_381.out; have hnc139 := NB381_405.out; have hnb140 := NB405_392.out; have hnc140 := NB392_405.out; have hnb141 := NB405_404.out; have hnc141 := NB404_405.out; have hcz142_0 := BC BK405 0 (.int .i64 0) rfl; have hcz142_1 := BC BK405 1 (.int .i64 0) rfl; have hcz142_2 := BC BK405 2 (.int .i64 0) rfl; have hcz142_3 := BC BK405 3 (.int .i64 0) rfl; have hcz142_4 := BC BK405 4 (.int .i64 0) rfl; have hfz142_0 := BF BK405 0; have hfz142_1 := BF BK405 1; have hfz142_2 := BF BK405 2; have hfz142_3 := BF BK405 3; have hfz142_4 := BF BK405 4) | ((with_reducible refine gate_callee (f := 22) rfl ?_); refine goesM_ (some 97) rfl rfl Tryd.func22 #[.agg #[.int .i64 0, .int .i64 (wrap64 (t388 - ((rd_T26 y400 x71_5).f1))), .int .i64 (wrap64 (t389 - ((rd_T26 y400 x71_5).f2))), .int .i64 (wrap64 (t390 - ((rd_T26 y400 x71_5).f3))), .int .i64 (wrap64 (t391 - ((rd_T26 y400 x71_5).f4)))]] rfl ?_; (with_reducible refine (limit_Right.calls 0 (wrap64 (t388 - ((rd_T26 y400 x71_5).f1))) (wrap64 (t389 - ((rd_T26 y400 x71_5).f2))) (wrap64 (t390 - ((rd_T26 y400 x71_5).f3))) (wrap64 (t391 - ((rd_T26 y400 x71_5).f4))) true _ A99.out).mono ?_); rintro e w143 ⟨rfl, hb⟩; refine ⟨_, rfl, ?_⟩; replace HO_69 := AM (Kd.R_below (by exact (Kd.R_mono (Kd.R_far (p := ⟨gb405, 4, none⟩) (Kd.R_far (p := ⟨gb405, 3, none⟩) (Kd.R_far (p := ⟨gb405, 2, none⟩) (Kd.R_far (p := ⟨gb405, 1, none⟩) (Kd.R_far (p := ⟨gb405, 0, none⟩) (Kd.R_mono HO_69.out (fun k_ hk => (⟨hk, hk.2⟩ : _ ∧ k_ ≠ gb405))) (fun _ hk => hk.2) (.int .i64 0)) (fun _ hk => hk.2) (.int .i64 (wrap64 (t388 - ((rd_T26 y400 x71_5).f1))))) (fun _ hk => hk.2) (.int .i64 (wrap64 (t389 - ((rd_T26 y400 x71_5).f2))))) (fun _ hk => hk.2) (.int .i64 (wrap64 (t390 - ((rd_T26 y400 x71_5).f3))))) (fun _ hk => hk.2) (.int .i64 (wrap64 (t391 - ((rd_T26 y400 x71_5).f4))))) (fun _ h_ => h_.1))) hb); replace BK379 := AM (blk_below (g := gb379) (o := .cells #[.slice A0_0 l0_0.length c0_0, .int .i64 a0_1] 24 (0, 0)) (by (repeat refine blk_far ?_ NB379_405.out _); (with_reducible repeat (first | refine blk_drewN ?_ _ | refine blk_drew ?_ | refine blk_alloc ?_ _)); exact BK379.out) hb); replace BK380 := AM (blk_below (g := gb380) (o := .cells #[.int .i64 a1_0, .int .i64 a1_1, .int .i64 a1_2, .int .i64 a1_3, .int .i64 a1_4] 26 (0, 0)) (by (repeat refine blk_far ?_ NB380_405.out _); (with_reducible repeat (first | refine blk_drewN ?_ _ | refine blk_drew ?_ | refine blk_alloc ?_ _)); exact BK380.out) hb); replace BK381 := AM (blk_below (g := gb381) (o := .cells #[.int .i64 a2_0, .int .i64 a2_1, .int .i64 a2_2, .int .i64 a2_3, .int .i64 a2_4] 26 (0, 0)) (by (repeat refine blk_far ?_ NB381_405.out _); (with_reducible repeat (first | refine blk_drewN ?_ _ | refine blk_drew ?_ | refine blk_alloc ?_ _)); exact BK381.out) hb); replace BK392 := AM (blk_below (g := gb392) (o := .cells #[.int .i64 t387, .int .i64 t388, .int .i64 t389, .int .i64 t390, .int .i64 t391] 26 (0, 0)) (by (repeat refine blk_far ?_ NB392_405.out _); (with_reducible repeat (first | refine blk_drewN ?_ _ | refine blk_drew ?_ | refine blk_alloc ?_ _)); exact BK392.out) hb); replace BK404 := AM (blk_below (g := gb404) (o := .cells #[.int .i64 ((rd_T26 y400 x71_5).f0), .int .i64 ((rd_T26 y400 x71_5).f1), .int .i64 ((rd_T26 y400 x71_5).f2), .int .i64 ((rd_T26 y400 x71_5).f3), .int .i64 ((rd_T26 y400 x71_5).f4)] 26 (0, 0)) (by (repeat refine blk_far ?_ NB404_405.out _); (with_reducible repeat (first | refine blk_drewN ?_ _ | refine blk_drew ?_ | refine blk_alloc ?_ _)); exact BK404.out) hb); replace BK405 := AM (blk_below (g := gb405) (o := .cells #[.int .i64 0, .int .i64 (wrap64 (t388 - ((rd_T26 y400 x71_5).f1))), .int .i64 (wrap64 (t389 - ((rd_T26 y400 x71_5).f2))), .int .i64 (wrap64 (t390 - ((rd_T26 y400 x71_5).f3))), .int .i64 (wrap64 (t391 - ((rd_T26 y400 x71_5).f4)))] 26 (0, 0)) (by refine blk_put (cs := #[.int .i64 0, .int .i64 (wrap64 (t388 - ((rd_T26 y400 x71_5).f1))), .int .i64 (wrap64 (t389 - ((rd_T26 y400 x71_5).f2))), .int .i64 (wrap64 (t390 - ((rd_T26 y400 x71_5).f3))), .int .i64 0]) ?_ 4 _ rfl; refine blk_put (cs := #[.int .i64 0, .int .i64 (wrap64 (t388 - ((rd_T26 y400 x71_5).f1))), .int .i64 (wrap64 (t389 - ((rd_T26 y400 x71_5).f2))), .int .i64 0, .int .i64 0]) ?_ 3 _ rfl; refine blk_put (cs := #[.int .i64 0, .int .i64 (wrap64 (t388 - ((rd_T26 y400 x71_5).f1))), .int .i64 0, .int .i64 0, .int .i64 0]) ?_ 2 _ rfl; refine blk_put (cs := #[.int .i64 0, .int .i64 0, .int .i64 0, .int .i64 0, .int .i64 0]) ?_ 1 _ rfl; refine blk_put (cs := #[.int .i64 0, .int .i64 0, .int .i64 0, .int .i64 0, .int .i64 0]) ?_ 0 _ rfl; (with_reducible repeat (first | refine blk_drewN ?_ _ | refine blk_drew ?_ | refine blk_alloc ?_ _)); exact BK405.out) hb); replace HB := BS HB hb; (try clear hb); (try clear hb2); (try clear hk); (try clear hi); have hnb144 := NB379_380.out; have hnc144 := NB380_379.out; have hnb145 := NB379_381.out; have hnc145 := NB381_379.out; have hcz146_0 := BC BK379 0 (.slice A0_0 l0_0.length c0_0) rfl; have hcz146_1 := BC BK379 1 (.int .i64 a0_1) rfl; have hfz146_0 := BF BK379 0; have hfz146_1 := BF BK379 1; have hcz147_0 := BC BK405 0 (.int .i64 0) rfl; have hcz147_1 := BC BK405 1 (.int .i64 (wrap64 (t388 - ((rd_T26 y400 x71_5).f1)))) rfl; have hcz147_2 := BC BK405 2 (.int .i64 (wrap64 (t389 - ((rd_T26 y400 x71_5).f2)))) rfl; have hcz147_3 := BC BK405 3 (.int .i64 (wrap64 (t390 - ((rd_T26 y400 x71_5).f3)))) rfl; have hcz147_4 := BC BK405 4 (.int .i64 (wrap64 (t391 - ((rd_T26 y400 x71_5).f4)))) rfl; have hfz147_0 := BF BK405 0; have hfz147_1 := BF BK405 1; have hfz147_2 := BF BK405 2; have hfz147_3 := BF BK405 3; have hfz147_4 := BF BK405 4) | ((with_reducible refine gate_callee (f := 15) rfl ?_); refine goesM_ (some 102) rfl rfl Tryd.func15 #[.agg #[.slice A0_0 l0_0.length c0_0, .int .i64 a0_1], .agg #[.int .i64 0, .int .i64 (wrap64 (t388 - ((rd_T26 y400 x71_5).f1))), .int .i64 (wrap64 (t389 - ((rd_T26 y400 x71_5).f2))), .int .i64 (wrap64 (t390 - ((rd_T26 y400 x71_5).f3))), .int .i64 (wrap64 (t391 - ((rd_T26 y400 x71_5).f4)))]] rfl ?_; (with_reducible refine (limit_Valid.calls k5 _ _ l0_0 a0_1 0 (wrap64 (t388 - ((rd_T26 y400 x71_5).f1))) (wrap64 (t389 - ((rd_T26 y400 x71_5).f2))) (wrap64 (t390 - ((rd_T26 y400 x71_5).f3))) (wrap64 (t391 - ((rd_T26 y400 x71_5).f4))) t407 t408 _ ?sideT ?side1 ?side2 A101.out).mono ?_); (case sideT => exact fun w_ hb_ => HTB_.out w_ (below_step (BB HB) hb_)); (case side1 => exact Kd.C_below HR0_0.out (BB HB)); (case side2 => exact HC0_0.out); rintro e w148 ⟨rfl, hb⟩; refine ⟨_, rfl, ?_⟩; replace HO_69 := AM (Kd.R_below (RL HO_69) hb); replace BK379 := BE BK379 hb; replace BK380 := BE BK380 hb; replace BK381 := BE BK381 hb; replace BK392 := BE BK392 hb; replace BK404 := BE BK404 hb; replace BK405 := BE BK405 hb; replace HB := BS HB hb; (try clear hb); (try clear hb2); (try clear hk); (try clear hi)))
                   go_ret
                   exact ⟨by first | rfl | (simp [errW_none, errW_some] <;> rfl) | (simp [*, errW_none, errW_some] <;> rfl), BB HB⟩
                 ·replace c100 := Bool.eq_false_iff.mpr c100; subst c100; have H1 : (dioramalaw12_LimitGrows.l0 k5 y400 (y400.length : Int) (wrap64 (x71_5 + 1)) l0_0 a0_1 t387 t388 t389 t390 t391) = some r := by rw [if_neg (show ¬ (false = true) by decide)] at H; exact H
                  clear H; have H := H1; clear H1; have H' := AM H; clear H; have p403 : 0 ≤ (x71_5 : Int) := of_decide_eq_true (by first | (with_reducible assumption) | assumption)
                  have q403 : x71_5 < (y400.length : Int) := of_decide_eq_true (by first | (with_reducible assumption) | assumption)
                  obtain ⟨ad403, e403, hx403_0, hx403_1, hx403_2, hx403_3, hx403_4⟩ := at_T26 (Kd.R_reads' HO_69.out).2.2 x71_5 p403 q403; cases e403
                  replace p403 := eq_true p403; replace q403 := eq_true q403; go_wp2_with (first | ((with_reducible refine gate_dst (N := 15) rfl ?_); refine box_event ?hg (N := 15) ?hd (cs := #[.int .i64 0, .int .i64 0, .int .i64 0, .int .i64 0, .int .i64 0]) (t := 26) ?hr ?_; (case hd => rfl); (case hg => rfl); (case hr => first | (go_simp; done) | (go_simp; rfl)); intro gb404 hg w149 hbox hb; replace HO_69 := AM (Kd.R_below (Kd.R_elderB (RL HO_69) gb404 (Nat.le_of_eq hg.symm)) hb); have BK404 := AM (hbox); have GW404 := GW HB hg; have GE404 := GW HB hg; replace HB := BS HB hb; have NB379_404 := NL BK379 hg; have NB404_379 := NG BK379 hg; replace BK379 := BE BK379 hb; have NB380_404 := NL BK380 hg; have NB404_380 := NG BK380 hg; replace BK380 := BE BK380 hb; have NB381_404 := NL BK381 hg; have NB404_381 := NG BK381 hg; replace BK381 := BE BK381 hb; have NB392_404 := NL BK392 hg; have NB404_392 := NG BK392 hg; replace BK392 := BE BK392 hb; clear hb hbox hg; have hnb150 := NB404_379.out; have hnc150 := NB379_404.out; have hnb151 := NB404_380.out; have hnc151 := NB380_404.out; have hnb152 := NB404_381.out; have hnc152 := NB381_404.out; have hnb153 := NB404_392.out; have hnc153 := NB392_404.out; have hcz154_0 := BC BK404 0 (.int .i64 0) rfl; have hcz154_1 := BC BK404 1 (.int .i64 0) rfl; have hcz154_2 := BC BK404 2 (.int .i64 0) rfl; have hcz154_3 := BC BK404 3 (.int .i64 0) rfl; have hcz154_4 := BC BK404 4 (.int .i64 0) rfl; have hfz154_0 := BF BK404 0; have hfz154_1 := BF BK404 1; have hfz154_2 := BF BK404 2; have hfz154_3 := BF BK404 3; have hfz154_4 := BF BK404 4; have hnb155 := NB392_379.out; have hnc155 := NB379_392.out; have hnb156 := NB392_380.out; have hnc156 := NB380_392.out; have hnb157 := NB392_381.out; have hnc157 := NB381_392.out; have hcz158_0 := BC BK392 0 (.int .i64 t387) rfl; have hcz158_1 := BC BK392 1 (.int .i64 t388) rfl; have hcz158_2 := BC BK392 2 (.int .i64 t389) rfl; have hcz158_3 := BC BK392 3 (.int .i64 t390) rfl; have hcz158_4 := BC BK392 4 (.int .i64 t391) rfl; have hfz158_0 := BF BK392 0; have hfz158_1 := BF BK392 1; have hfz158_2 := BF BK392 2; have hfz158_3 := BF BK392 3; have hfz158_4 := BF BK392 4) | ((with_reducible refine gate_dst (N := 16) rfl ?_); refine box_event ?hg (N := 16) ?hd (cs := #[.int .i64 0, .int .i64 0, .int .i64 0, .int .i64 0, .int .i64 0]) (t := 26) ?hr ?_; (case hd => rfl); (case hg => rfl); (case hr => first | (go_simp; done) | (go_simp; rfl)); intro gb405 hg w159 hbox hb; replace HO_69 := AM (Kd.R_below (Kd.R_elderB (by exact (Kd.R_mono (Kd.R_far (p := ⟨gb404, 4, none⟩) (Kd.R_far (p := ⟨gb404, 3, none⟩) (Kd.R_far (p := ⟨gb404, 2, none⟩) (Kd.R_far (p := ⟨gb404, 1, none⟩) (Kd.R_far (p := ⟨gb404, 0, none⟩) (Kd.R_mono HO_69.out (fun k_ hk => (⟨hk, hk.2⟩ : _ ∧ k_ ≠ gb404))) (fun _ hk => hk.2) (.int .i64 ((rd_T26 y400 x71_5).f0))) (fun _ hk => hk.2) (.int .i64 ((rd_T26 y400 x71_5).f1))) (fun _ hk => hk.2) (.int .i64 ((rd_T26 y400 x71_5).f2))) (fun _ hk => hk.2) (.int .i64 ((rd_T26 y400 x71_5).f3))) (fun _ hk => hk.2) (.int .i64 ((rd_T26 y400 x71_5).f4))) (fun _ h_ => h_.1))) gb405 (Nat.le_of_eq hg.symm)) hb); have BK405 := AM (hbox); have GW405 := GW HB hg; have GE405 := GW HB hg; replace HB := BS HB hb; have NB379_405 := AM ((by rw [hg]; exact Nat.ne_of_lt (blk_lt (g := gb379) (o := .cells #[.slice A0_0 l0_0.length c0_0, .int .i64 a0_1] 24 (0, 0)) (by (repeat refine blk_far ?_ NB379_404.out _); (with_reducible repeat (first | refine blk_drewN ?_ _ | refine blk_drew ?_ | refine blk_alloc ?_ _)); exact BK379.out)) : gb379 ≠ gb405)); have NB405_379 := AM ((by rw [hg]; exact Nat.ne_of_gt (blk_lt (g := gb379) (o := .cells #[.slice A0_0 l0_0.length c0_0, .int .i64 a0_1] 24 (0, 0)) (by (repeat refine blk_far ?_ NB379_404.out _); (with_reducible repeat (first | refine blk_drewN ?_ _ | refine blk_drew ?_ | refine blk_alloc ?_ _)); exact BK379.out)) : gb405 ≠ gb379)); replace BK379 := AM (blk_below (g := gb379) (o := .cells #[.slice A0_0 l0_0.length c0_0, .int .i64 a0_1] 24 (0, 0)) (by (repeat refine blk_far ?_ NB379_404.out _); (with_reducible repeat (first | refine blk_drewN ?_ _ | refine blk_drew ?_ | refine blk_alloc ?_ _)); exact BK379.out) hb); have NB380_405 := AM ((by rw [hg]; exact Nat.ne_of_lt (blk_lt (g := gb380) (o := .cells #[.int .i64 a1_0, .int .i64 a1_1, .int .i64 a1_2, .int .i64 a1_3, .int .i64 a1_4] 26 (0, 0)) (by (repeat refine blk_far ?_ NB380_404.out _); (with_reducible repeat (first | refine blk_drewN ?_ _ | refine blk_drew ?_ | refine blk_alloc ?_ _)); exact BK380.out)) : gb380 ≠ gb405)); have NB405_380 := AM ((by rw [hg]; exact Nat.ne_of_gt (blk_lt (g := gb380) (o := .cells #[.int .i64 a1_0, .int .i64 a1_1, .int .i64 a1_2, .int .i64 a1_3, .int .i64 a1_4] 26 (0, 0)) (by (repeat refine blk_far ?_ NB380_404.out _); (with_reducible repeat (first | refine blk_drewN ?_ _ | refine blk_drew ?_ | refine blk_alloc ?_ _)); exact BK380.out)) : gb405 ≠ gb380)); replace BK380 := AM (blk_below (g := gb380) (o := .cells #[.int .i64 a1_0, .int .i64 a1_1, .int .i64 a1_2, .int .i64 a1_3, .int .i64 a1_4] 26 (0, 0)) (by (repeat refine blk_far ?_ NB380_404.out _); (with_reducible repeat (first | refine blk_drewN ?_ _ | refine blk_drew ?_ | refine blk_alloc ?_ _)); exact BK380.out) hb); have NB381_405 := AM ((by rw [hg]; exact Nat.ne_of_lt (blk_lt (g := gb381) (o := .cells #[.int .i64 a2_0, .int .i64 a2_1, .int .i64 a2_2, .int .i64 a2_3, .int .i64 a2_4] 26 (0, 0)) (by (repeat refine blk_far ?_ NB381_404.out _); (with_reducible repeat (first | refine blk_drewN ?_ _ | refine blk_drew ?_ | refine blk_alloc ?_ _)); exact BK381.out)) : gb381 ≠ gb405)); have NB405_381 := AM ((by rw [hg]; exact Nat.ne_of_gt (blk_lt (g := gb381) (o := .cells #[.int .i64 a2_0, .int .i64 a2_1, .int .i64 a2_2, .int .i64 a2_3, .int .i64 a2_4] 26 (0, 0)) (by (repeat refine blk_far ?_ NB381_404.out _); (with_reducible repeat (first | refine blk_drewN ?_ _ | refine blk_drew ?_ | refine blk_alloc ?_ _)); exact BK381.out)) : gb405 ≠ gb381)); replace BK381 := AM (blk_below (g := gb381) (o := .cells #[.int .i64 a2_0, .int .i64 a2_1, .int .i64 a2_2, .int .i64 a2_3, .int .i64 a2_4] 26 (0, 0)) (by (repeat refine blk_far ?_ NB381_404.out _); (with_reducible repeat (first | refine blk_drewN ?_ _ | refine blk_drew ?_ | refine blk_alloc ?_ _)); exact BK381.out) hb); have NB392_405 := AM ((by rw [hg]; exact Nat.ne_of_lt (blk_lt (g := gb392) (o := .cells #[.int .i64 t387, .int .i64 t388, .int .i64 t389, .int .i64 t390, .int .i64 t391] 26 (0, 0)) (by (repeat refine blk_far ?_ NB392_404.out _); (with_reducible repeat (first | refine blk_drewN ?_ _ | refine blk_drew ?_ | refine blk_alloc ?_ _)); exact BK392.out)) : gb392 ≠ gb405)); have NB405_392 := AM ((by rw [hg]; exact Nat.ne_of_gt (blk_lt (g := gb392) (o := .cells #[.int .i64 t387, .int .i64 t388, .int .i64 t389, .int .i64 t390, .int .i64 t391] 26 (0, 0)) (by (repeat refine blk_far ?_ NB392_404.out _); (with_reducible repeat (first | refine blk_drewN ?_ _ | refine blk_drew ?_ | refine blk_alloc ?_ _)); exact BK392.out)) : gb405 ≠ gb392)); replace BK392 := AM (blk_below (g := gb392) (o := .cells #[.int .i64 t387, .int .i64 t388, .int .i64 t389, .int .i64 t390, .int .i64 t391] 26 (0, 0)) (by (repeat refine blk_far ?_ NB392_404.out _); (with_reducible repeat (first | refine blk_drewN ?_ _ | refine blk_drew ?_ | refine blk_alloc ?_ _)); exact BK392.out) hb); have NB404_405 := AM ((by rw [hg]; exact Nat.ne_of_lt (blk_lt (g := gb404) (o := .cells #[.int .i64 ((rd_T26 y400 x71_5).f0), .int .i64 ((rd_T26 y400 x71_5).f1), .int .i64 ((rd_T26 y400 x71_5).f2), .int .i64 ((rd_T26 y400 x71_5).f3), .int .i64 ((rd_T26 y400 x71_5).f4)] 26 (0, 0)) (by refine blk_put (cs := #[.int .i64 ((rd_T26 y400 x71_5).f0), .int .i64 ((rd_T26 y400 x71_5).f1), .int .i64 ((rd_T26 y400 x71_5).f2), .int .i64 ((rd_T26 y400 x71_5).f3), .int .i64 0]) ?_ 4 _ rfl; refine blk_put (cs := #[.int .i64 ((rd_T26 y400 x71_5).f0), .int .i64 ((rd_T26 y400 x71_5).f1), .int .i64 ((rd_T26 y400 x71_5).f2), .int .i64 0, .int .i64 0]) ?_ 3 _ rfl; refine blk_put (cs := #[.int .i64 ((rd_T26 y400 x71_5).f0), .int .i64 ((rd_T26 y400 x71_5).f1), .int .i64 0, .int .i64 0, .int .i64 0]) ?_ 2 _ rfl; refine blk_put (cs := #[.int .i64 ((rd_T26 y400 x71_5).f0), .int .i64 0, .int .i64 0, .int .i64 0, .int .i64 0]) ?_ 1 _ rfl; refine blk_put (cs := #[.int .i64 0, .int .i64 0, .int .i64 0, .int .i64 0, .int .i64 0]) ?_ 0 _ rfl; (with_reducible repeat (first | refine blk_drewN ?_ _ | refine blk_drew ?_ | refine blk_alloc ?_ _)); exact BK404.out)) : gb404 ≠ gb405)); have NB405_404 := AM ((by rw [hg]; exact Nat.ne_of_gt (blk_lt (g := gb404) (o := .cells #[.int .i64 ((rd_T26 y400 x71_5).f0), .int .i64 ((rd_T26 y400 x71_5).f1), .int .i64 ((rd_T26 y400 x71_5).f2), .int .i64 ((rd_T26 y400 x71_5).f3), .int .i64 ((rd_T26 y400 x71_5).f4)] 26 (0, 0)) (by refine blk_put (cs := #[.int .i64 ((rd_T26 y400 x71_5).f0), .int .i64 ((rd_T26 y400 x71_5).f1), .int .i64 ((rd_T26 y400 x71_5).f2), .int .i64 ((rd_T26 y400 x71_5).f3), .int .i64 0]) ?_ 4 _ rfl; refine blk_put (cs := #[.int .i64 ((rd_T26 y400 x71_5).f0), .int .i64 ((rd_T26 y400 x71_5).f1), .int .i64 ((rd_T26 y400 x71_5).f2), .int .i64 0, .int .i64 0]) ?_ 3 _ rfl; refine blk_put (cs := #[.int .i64 ((rd_T26 y400 x71_5).f0), .int .i64 ((rd_T26 y400 x71_5).f1), .int .i64 0, .int .i64 0, .int .i64 0]) ?_ 2 _ rfl; refine blk_put (cs := #[.int .i64 ((rd_T26 y400 x71_5).f0), .int .i64 0, .int .i64 0, .int .i64 0, .int .i64 0]) ?_ 1 _ rfl; refine blk_put (cs := #[.int .i64 0, .int .i64 0, .int .i64 0, .int .i64 0, .int .i64 0]) ?_ 0 _ rfl; (with_reducible repeat (first | refine blk_drewN ?_ _ | refine blk_drew ?_ | refine blk_alloc ?_ _)); exact BK404.out)) : gb405 ≠ gb404)); replace BK404 := AM (blk_below (g := gb404) (o := .cells #[.int .i64 ((rd_T26 y400 x71_5).f0), .int .i64 ((rd_T26 y400 x71_5).f1), .int .i64 ((rd_T26 y400 x71_5).f2), .int .i64 ((rd_T26 y400 x71_5).f3), .int .i64 ((rd_T26 y400 x71_5).f4)] 26 (0, 0)) (by refine blk_put (cs := #[.int .i64 ((rd_T26 y400 x71_5).f0), .int .i64 ((rd_T26 y400 x71_5).f1), .int .i64 ((rd_T26 y400 x71_5).f2), .int .i64 ((rd_T26 y400 x71_5).f3), .int .i64 0]) ?_ 4 _ rfl; refine blk_put (cs := #[.int .i64 ((rd_T26 y400 x71_5).f0), .int .i64 ((rd_T26 y400 x71_5).f1), .int .i64 ((rd_T26 y400 x71_5).f2), .int .i64 0, .int .i64 0]) ?_ 3 _ rfl; refine blk_put (cs := #[.int .i64 ((rd_T26 y400 x71_5).f0), .int .i64 ((rd_T26 y400 x71_5).f1), .int .i64 0, .int .i64 0, .int .i64 0]) ?_ 2 _ rfl; refine blk_put (cs := #[.int .i64 ((rd_T26 y400 x71_5).f0), .int .i64 0, .int .i64 0, .int .i64 0, .int .i64 0]) ?_ 1 _ rfl; refine blk_put (cs := #[.int .i64 0, .int .i64 0, .int .i64 0, .int .i64 0, .int .i64 0]) ?_ 0 _ rfl; (with_reducible repeat (first | refine blk_drewN ?_ _ | refine blk_drew ?_ | refine blk_alloc ?_ _)); exact BK404.out) hb); clear hb hbox hg; have hnb160 := NB405_379.out; have hnc160 := NB379_405.out; have hnb161 := NB405_380.out; have hnc161 := NB380_405.out; have hnb162 := NB405_381.out; have hnc162 := NB381_405.out; have hnb163 := NB405_392.out; have hnc163 := NB392_405.out; have hnb164 := NB405_404.out; have hnc164 := NB404_405.out; have hcz165_0 := BC BK405 0 (.int .i64 0) rfl; have hcz165_1 := BC BK405 1 (.int .i64 0) rfl; have hcz165_2 := BC BK405 2 (.int .i64 0) rfl; have hcz165_3 := BC BK405 3 (.int .i64 0) rfl; have hcz165_4 := BC BK405 4 (.int .i64 0) rfl; have hfz165_0 := BF BK405 0; have hfz165_1 := BF BK405 1; have hfz165_2 := BF BK405 2; have hfz165_3 := BF BK405 3; have hfz165_4 := BF BK405 4) | ((with_reducible refine gate_callee (f := 22) rfl ?_); refine goesM_ (some 97) rfl rfl Tryd.func22 #[.agg #[.int .i64 0, .int .i64 (wrap64 (t388 - ((rd_T26 y400 x71_5).f1))), .int .i64 (wrap64 (t389 - ((rd_T26 y400 x71_5).f2))), .int .i64 (wrap64 (t390 - ((rd_T26 y400 x71_5).f3))), .int .i64 (wrap64 (t391 - ((rd_T26 y400 x71_5).f4)))]] rfl ?_; (with_reducible refine (limit_Right.calls 0 (wrap64 (t388 - ((rd_T26 y400 x71_5).f1))) (wrap64 (t389 - ((rd_T26 y400 x71_5).f2))) (wrap64 (t390 - ((rd_T26 y400 x71_5).f3))) (wrap64 (t391 - ((rd_T26 y400 x71_5).f4))) false _ A99.out).mono ?_); rintro e w166 ⟨rfl, hb⟩; refine ⟨_, rfl, ?_⟩; replace HO_69 := AM (Kd.R_below (by exact (Kd.R_mono (Kd.R_far (p := ⟨gb405, 4, none⟩) (Kd.R_far (p := ⟨gb405, 3, none⟩) (Kd.R_far (p := ⟨gb405, 2, none⟩) (Kd.R_far (p := ⟨gb405, 1, none⟩) (Kd.R_far (p := ⟨gb405, 0, none⟩) (Kd.R_mono HO_69.out (fun k_ hk => (⟨hk, hk.2⟩ : _ ∧ k_ ≠ gb405))) (fun _ hk => hk.2) (.int .i64 0)) (fun _ hk => hk.2) (.int .i64 (wrap64 (t388 - ((rd_T26 y400 x71_5).f1))))) (fun _ hk => hk.2) (.int .i64 (wrap64 (t389 - ((rd_T26 y400 x71_5).f2))))) (fun _ hk => hk.2) (.int .i64 (wrap64 (t390 - ((rd_T26 y400 x71_5).f3))))) (fun _ hk => hk.2) (.int .i64 (wrap64 (t391 - ((rd_T26 y400 x71_5).f4))))) (fun _ h_ => h_.1))) hb); replace BK379 := AM (blk_below (g := gb379) (o := .cells #[.slice A0_0 l0_0.length c0_0, .int .i64 a0_1] 24 (0, 0)) (by (repeat refine blk_far ?_ NB379_405.out _); (with_reducible repeat (first | refine blk_drewN ?_ _ | refine blk_drew ?_ | refine blk_alloc ?_ _)); exact BK379.out) hb); replace BK380 := AM (blk_below (g := gb380) (o := .cells #[.int .i64 a1_0, .int .i64 a1_1, .int .i64 a1_2, .int .i64 a1_3, .int .i64 a1_4] 26 (0, 0)) (by (repeat refine blk_far ?_ NB380_405.out _); (with_reducible repeat (first | refine blk_drewN ?_ _ | refine blk_drew ?_ | refine blk_alloc ?_ _)); exact BK380.out) hb); replace BK381 := AM (blk_below (g := gb381) (o := .cells #[.int .i64 a2_0, .int .i64 a2_1, .int .i64 a2_2, .int .i64 a2_3, .int .i64 a2_4] 26 (0, 0)) (by (repeat refine blk_far ?_ NB381_405.out _); (with_reducible repeat (first | refine blk_drewN ?_ _ | refine blk_drew ?_ | refine blk_alloc ?_ _)); exact BK381.out) hb); replace BK392 := AM (blk_below (g := gb392) (o := .cells #[.int .i64 t387, .int .i64 t388, .int .i64 t389, .int .i64 t390, .int .i64 t391] 26 (0, 0)) (by (repeat refine blk_far ?_ NB392_405.out _); (with_reducible repeat (first | refine blk_drewN ?_ _ | refine blk_drew ?_ | refine blk_alloc ?_ _)); exact BK392.out) hb); replace BK404 := AM (blk_below (g := gb404) (o := .cells #[.int .i64 ((rd_T26 y400 x71_5).f0), .int .i64 ((rd_T26 y400 x71_5).f1), .int .i64 ((rd_T26 y400 x71_5).f2), .int .i64 ((rd_T26 y400 x71_5).f3), .int .i64 ((rd_T26 y400 x71_5).f4)] 26 (0, 0)) (by (repeat refine blk_far ?_ NB404_405.out _); (with_reducible repeat (first | refine blk_drewN ?_ _ | refine blk_drew ?_ | refine blk_alloc ?_ _)); exact BK404.out) hb); replace BK405 := AM (blk_below (g := gb405) (o := .cells #[.int .i64 0, .int .i64 (wrap64 (t388 - ((rd_T26 y400 x71_5).f1))), .int .i64 (wrap64 (t389 - ((rd_T26 y400 x71_5).f2))), .int .i64 (wrap64 (t390 - ((rd_T26 y400 x71_5).f3))), .int .i64 (wrap64 (t391 - ((rd_T26 y400 x71_5).f4)))] 26 (0, 0)) (by refine blk_put (cs := #[.int .i64 0, .int .i64 (wrap64 (t388 - ((rd_T26 y400 x71_5).f1))), .int .i64 (wrap64 (t389 - ((rd_T26 y400 x71_5).f2))), .int .i64 (wrap64 (t390 - ((rd_T26 y400 x71_5).f3))), .int .i64 0]) ?_ 4 _ rfl; refine blk_put (cs := #[.int .i64 0, .int .i64 (wrap64 (t388 - ((rd_T26 y400 x71_5).f1))), .int .i64 (wrap64 (t389 - ((rd_T26 y400 x71_5).f2))), .int .i64 0, .int .i64 0]) ?_ 3 _ rfl; refine blk_put (cs := #[.int .i64 0, .int .i64 (wrap64 (t388 - ((rd_T26 y400 x71_5).f1))), .int .i64 0, .int .i64 0, .int .i64 0]) ?_ 2 _ rfl; refine blk_put (cs := #[.int .i64 0, .int .i64 0, .int .i64 0, .int .i64 0, .int .i64 0]) ?_ 1 _ rfl; refine blk_put (cs := #[.int .i64 0, .int .i64 0, .int .i64 0, .int .i64 0, .int .i64 0]) ?_ 0 _ rfl; (with_reducible repeat (first | refine blk_drewN ?_ _ | refine blk_drew ?_ | refine blk_alloc ?_ _)); exact BK405.out) hb); replace HB := BS HB hb; (try clear hb); (try clear hb2); (try clear hk); (try clear hi)))
                  go_roundg k5
                  case measure => have := HJ3.out; have := HJ23.out; have := HJ50.out; have := HJ72.out; have := HK5.out; omega
                  case rel => exact ⟨(wrap64 (x71_5 + 1)), (by first | rfl | (simp; done) | (simp [*]; done)), H', ⟨by have := HJ3.out; have := HJ23.out; have := HJ50.out; have := HJ72.out; have := HK5.out; omega⟩, ⟨by (with_reducible repeat (first | apply Kd.R_alloc | apply Kd.R_drewN | apply Kd.R_drew)); exact Kd.R_mono HO_69.out (fun _ hk => ⟨hk.1.1.1, ⟨hk.1.1.2.1, hk.1.1.2.2⟩⟩)⟩, ⟨BL BK379⟩, ⟨BL BK380⟩, ⟨BL BK381⟩, ⟨BL BK392⟩, ⟨BB HB⟩⟩
                ·rw [if_neg c98] at H; exact absurd H (by simp)
               ·rw [if_neg c97] at H; exact absurd H (by simp)
              ·rw [if_neg c96] at H; have c96b0 : decide (x71_5 < (y400.length : Int)) = false := decide_eq_false c96; clear c96; obtain rfl := Option.some.inj H; go_wp2
               go_ret
               exact ⟨by first | rfl | (simp [errW_none, errW_some] <;> rfl) | (simp [*, errW_none, errW_some] <;> rfl), BB HB⟩
    ·rw [if_neg c21] at H; have c21b0 : (t385 == 0) = false := beq_eq_false_iff_ne.mpr c21; have c21b1 : (t385 != 0) = true := bne_iff_ne.mpr c21; obtain rfl := Option.some.inj H; have hnb167 := NB379_380.out; have hnc167 := NB380_379.out; have hnb168 := NB379_381.out; have hnc168 := NB381_379.out; have hcz169_0 := BC BK379 0 (.slice A0_0 l0_0.length c0_0) rfl; have hcz169_1 := BC BK379 1 (.int .i64 a0_1) rfl; have hfz169_0 := BF BK379 0; have hfz169_1 := BF BK379 1; have hnb170 := NB380_381.out; have hnc170 := NB381_380.out; have hcz171_0 := BC BK380 0 (.int .i64 a1_0) rfl; have hcz171_1 := BC BK380 1 (.int .i64 a1_1) rfl; have hcz171_2 := BC BK380 2 (.int .i64 a1_2) rfl; have hcz171_3 := BC BK380 3 (.int .i64 a1_3) rfl; have hcz171_4 := BC BK380 4 (.int .i64 a1_4) rfl; have hfz171_0 := BF BK380 0; have hfz171_1 := BF BK380 1; have hfz171_2 := BF BK380 2; have hfz171_3 := BF BK380 3; have hfz171_4 := BF BK380 4; go_wp2_with (first | ((with_reducible refine gate_callee (f := 15) rfl ?_); refine goesM_ (some 29) rfl rfl Tryd.func15 #[.agg #[.slice A0_0 l0_0.length c0_0, .int .i64 a0_1], .agg #[.int .i64 a1_0, .int .i64 a1_1, .int .i64 a1_2, .int .i64 a1_3, .int .i64 a1_4]] rfl ?_; (with_reducible refine (limit_Valid.calls kj3 _ _ l0_0 a0_1 a1_0 a1_1 a1_2 a1_3 a1_4 t385 t386 _ ?sideT ?side1 ?side2 A20.out).mono ?_); (case sideT => exact fun w_ hb_ => HTB_.out w_ (below_step (BB HB) hb_)); (case side1 => exact Kd.C_below HR0_0.out (BB HB)); (case side2 => exact HC0_0.out); rintro e w172 ⟨rfl, hb⟩; refine ⟨_, rfl, ?_⟩; replace BK379 := BE BK379 hb; replace BK380 := BE BK380 hb; replace BK381 := BE BK381 hb; replace HB := BS HB hb; (try clear hb); (try clear hb2); (try clear hk); (try clear hi)))
     go_ret
     exact ⟨by first | rfl | (simp [errW_none, errW_some] <;> rfl) | (simp [*, errW_none, errW_some] <;> rfl), BB HB⟩

end Go.Proofs.YtcphcaiiofeflaaDoor.GL
