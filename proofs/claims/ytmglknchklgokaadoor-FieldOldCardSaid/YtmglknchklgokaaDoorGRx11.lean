-- Printed by a program of the session (wip/gen/tprint.py, over a turned copy of the kit's print): Lean checks it.
import Derived.Test.YtmglknchklgokaaDoorGRx0
import Derived.Test.YtmglknchklgokaaDoorGRx3
import Derived.Test.YtmglknchklgokaaDoorGRx6
import Derived.Test.YtmglknchklgokaaDoorGRx9
import Derived.Test.YtmglknchklgokaaDoorGRx10
namespace Go.Proofs.YtmglknchklgokaaDoor.GR
open Go.RowKit Go.Proofs.YtmglknchklgokaaDoorW.PrintWords Go.Proofs.YtmglknchklgokaaDoorW.PrintLast Go.Proofs.YtmglknchklgokaaDoorW.PrintMore
attribute [local go_sem] max2_int min2_int max_two min_two max_three min_three max_four min_four   -- for this text's walks alone
set_option linter.unusedVariables false
set_option linter.unusedSimpArgs false

/-! ### dioramalaw08_FieldOld: function 7 -/
mutual
def dioramalaw08_FieldOld.j0 : Nat → Int → Bool → Int → List Int → List ByteArray → List Int → Option (Bool)
 | 0, _, _, _, _, _, _ => none
 | k + 1, x1, x16, x251000, x251001, x251002, x251003 => if x16 = true then ((dioramalaw08_awake.f k).bind fun t253 => (some t253)) else ((dioramaref08_Copy.f x251000 x251001 x251002 x251003).bind fun bt254 => ((field_Copy.f bt254.1 bt254.2.1 bt254.2.2.1 bt254.2.2.2).bind fun bt264 => ((dioramaref08_Copy.f x251000 x251001 x251002 x251003).bind fun bt275 => ((field_Copy.f bt275.1 bt275.2.1 bt275.2.2.1 bt275.2.2.2).bind fun bt286 => (dioramalaw08_FieldOld.l0 k x1 (bt286.2.1.length : Int) 0 x251000 x251001 x251002 x251003 bt264.1 bt264.2.1 bt264.2.2.1 bt264.2.2.2 bt275.1 bt275.2.1 bt275.2.2.1 bt275.2.2.2 bt286.1 bt286.2.1 bt286.2.2.1 bt286.2.2.2)))))
def dioramalaw08_FieldOld.l0 : Nat → Int → Int → Int → Int → List Int → List ByteArray → List Int → Int → List Int → List ByteArray → List Int → Int → List Int → List ByteArray → List Int → Int → List Int → List ByteArray → List Int → Option (Bool)
 | 0, _, _, _, _, _, _, _, _, _, _, _, _, _, _, _, _, _, _, _ => none
 | k + 1, x1, x27, x28, x251000, x251001, x251002, x251003, x275000, x275001, x275002, x275003, x286000, x286001, x286002, x286003, x297000, x297001, x297002, x297003 => if x28 < x27 then (if 0 ≤ x28 then (if x28 < (x297001.length : Int) then (dioramalaw08_FieldOld.l0 k x1 x27 (wrap64 (x28 + 1)) x251000 x251001 x251002 x251003 x275000 x275001 x275002 x275003 x286000 x286001 x286002 x286003 x297000 (x297001.set (x28 : Int).toNat x1) x297002 x297003) else (none)) else (none)) else (dioramalaw08_FieldOld.l1 k (x297002.length : Int) 0 x251000 x251001 x251002 x251003 x275000 x275001 x275002 x275003 x286000 x286001 x286002 x286003 x297000 x297001 x297002 x297003)
def dioramalaw08_FieldOld.l1 : Nat → Int → Int → Int → List Int → List ByteArray → List Int → Int → List Int → List ByteArray → List Int → Int → List Int → List ByteArray → List Int → Int → List Int → List ByteArray → List Int → Option (Bool)
 | 0, _, _, _, _, _, _, _, _, _, _, _, _, _, _, _, _, _, _ => none
 | k + 1, x39, x40, x251000, x251001, x251002, x251003, x275000, x275001, x275002, x275003, x286000, x286001, x286002, x286003, x297000, x297001, x297002, x297003 => if x40 < x39 then (if 0 ≤ x40 then (if x40 < (x297002.length : Int) then (dioramalaw08_FieldOld.l1 k x39 (wrap64 (x40 + 1)) x251000 x251001 x251002 x251003 x275000 x275001 x275002 x275003 x286000 x286001 x286002 x286003 x297000 x297001 (x297002.set (x40 : Int).toNat (⟨#[120]⟩ : ByteArray)) x297003) else (none)) else (none)) else (dioramalaw08_FieldOld.l2 k (x297003.length : Int) 0 x251000 x251001 x251002 x251003 x275000 x275001 x275002 x275003 x286000 x286001 x286002 x286003 x297000 x297001 x297002 x297003)
def dioramalaw08_FieldOld.l2 : Nat → Int → Int → Int → List Int → List ByteArray → List Int → Int → List Int → List ByteArray → List Int → Int → List Int → List ByteArray → List Int → Int → List Int → List ByteArray → List Int → Option (Bool)
 | 0, _, _, _, _, _, _, _, _, _, _, _, _, _, _, _, _, _, _ => none
 | k + 1, x50, x51, x251000, x251001, x251002, x251003, x275000, x275001, x275002, x275003, x286000, x286001, x286002, x286003, x297000, x297001, x297002, x297003 => if x51 < x50 then (if 0 ≤ x51 then (if x51 < (x297003.length : Int) then (dioramalaw08_FieldOld.l2 k x50 (wrap64 (x51 + 1)) x251000 x251001 x251002 x251003 x275000 x275001 x275002 x275003 x286000 x286001 x286002 x286003 x297000 x297001 x297002 (x297003.set (x51 : Int).toNat (-1))) else (none)) else (none)) else ((dioramaref08_Same.f k x275000 x275001 x275002 x275003 x251000 x251001 x251002 x251003).bind fun t300 => (if t300 = true then ((dioramaref08_Same.f k x286000 x286001 x286002 x286003 x251000 x251001 x251002 x251003).bind fun t301 => (some t301)) else (some false)))
end
def dioramalaw08_FieldOld.f (k : Nat) (a0_0 : Int) (l0_1 : List Int) (l0_2 : List ByteArray) (l0_3 : List Int) (a1 : Int) : Option (Bool) := (dioramalaw08_awake.f k).bind fun t251 => (if t251 = true then ((dioramaref08_Great.f k a0_0 l0_1 l0_2 l0_3).bind fun t252 => (dioramalaw08_FieldOld.j0 k a1 t252 a0_0 l0_1 l0_2 l0_3)) else (dioramalaw08_FieldOld.j0 k a1 true a0_0 l0_1 l0_2 l0_3))
theorem dioramalaw08_FieldOld.mono_l : ∀ k, (∀ y0 y1 y2 y3 y4 y5, LeO (dioramalaw08_FieldOld.j0 k y0 y1 y2 y3 y4 y5) (dioramalaw08_FieldOld.j0 (k + 1) y0 y1 y2 y3 y4 y5)) ∧ (∀ y0 y1 y2 y3 y4 y5 y6 y7 y8 y9 y10 y11 y12 y13 y14 y15 y16 y17 y18, LeO (dioramalaw08_FieldOld.l0 k y0 y1 y2 y3 y4 y5 y6 y7 y8 y9 y10 y11 y12 y13 y14 y15 y16 y17 y18) (dioramalaw08_FieldOld.l0 (k + 1) y0 y1 y2 y3 y4 y5 y6 y7 y8 y9 y10 y11 y12 y13 y14 y15 y16 y17 y18)) ∧ (∀ y0 y1 y2 y3 y4 y5 y6 y7 y8 y9 y10 y11 y12 y13 y14 y15 y16 y17, LeO (dioramalaw08_FieldOld.l1 k y0 y1 y2 y3 y4 y5 y6 y7 y8 y9 y10 y11 y12 y13 y14 y15 y16 y17) (dioramalaw08_FieldOld.l1 (k + 1) y0 y1 y2 y3 y4 y5 y6 y7 y8 y9 y10 y11 y12 y13 y14 y15 y16 y17)) ∧ (∀ y0 y1 y2 y3 y4 y5 y6 y7 y8 y9 y10 y11 y12 y13 y14 y15 y16 y17, LeO (dioramalaw08_FieldOld.l2 k y0 y1 y2 y3 y4 y5 y6 y7 y8 y9 y10 y11 y12 y13 y14 y15 y16 y17) (dioramalaw08_FieldOld.l2 (k + 1) y0 y1 y2 y3 y4 y5 y6 y7 y8 y9 y10 y11 y12 y13 y14 y15 y16 y17))
 | 0 => ⟨fun _ _ _ _ _ _ r h => by simp [dioramalaw08_FieldOld.j0] at h, fun _ _ _ _ _ _ _ _ _ _ _ _ _ _ _ _ _ _ _ r h => by simp [dioramalaw08_FieldOld.l0] at h, fun _ _ _ _ _ _ _ _ _ _ _ _ _ _ _ _ _ _ r h => by simp [dioramalaw08_FieldOld.l1] at h, fun _ _ _ _ _ _ _ _ _ _ _ _ _ _ _ _ _ _ r h => by simp [dioramalaw08_FieldOld.l2] at h⟩
 | k + 1 => by
  obtain ⟨ih0, ih1, ih2, ih3⟩ := dioramalaw08_FieldOld.mono_l k
  refine ⟨?_, ?_, ?_, ?_⟩
  ·intro y0 y1 y2 y3 y4 y5
   unfold dioramalaw08_FieldOld.j0
   repeat' first
   | (with_reducible exact ih0 _ _ _ _ _ _)
   | (with_reducible exact ih1 _ _ _ _ _ _ _ _ _ _ _ _ _ _ _ _ _ _ _)
   | (with_reducible exact ih2 _ _ _ _ _ _ _ _ _ _ _ _ _ _ _ _ _ _)
   | (with_reducible exact ih3 _ _ _ _ _ _ _ _ _ _ _ _ _ _ _ _ _ _)
   | (with_reducible exact dioramalaw08_awake.mono _)
   | (with_reducible exact dioramaref08_Great.mono _ _ _ _ _)
   | (with_reducible exact dioramaref08_Same.mono _ _ _ _ _ _ _ _ _)
   | (with_reducible exact LeO.refl _)
   | (with_reducible exact LeO.none _)
   | (with_reducible refine LeO.ite ?_ ?_)
   | (with_reducible refine LeO.bind ?_ (fun _ => ?_))
   | exact ih0 _ _ _ _ _ _
   | exact ih1 _ _ _ _ _ _ _ _ _ _ _ _ _ _ _ _ _ _ _
   | exact ih2 _ _ _ _ _ _ _ _ _ _ _ _ _ _ _ _ _ _
   | exact ih3 _ _ _ _ _ _ _ _ _ _ _ _ _ _ _ _ _ _
   | exact dioramalaw08_awake.mono _
   | exact dioramaref08_Great.mono _ _ _ _ _
   | exact dioramaref08_Same.mono _ _ _ _ _ _ _ _ _
   | exact LeO.none _
   | refine LeO.ite ?_ ?_
   | refine LeO.bind ?_ (fun _ => ?_)
  ·intro y0 y1 y2 y3 y4 y5 y6 y7 y8 y9 y10 y11 y12 y13 y14 y15 y16 y17 y18
   unfold dioramalaw08_FieldOld.l0
   repeat' first
   | (with_reducible exact ih0 _ _ _ _ _ _)
   | (with_reducible exact ih1 _ _ _ _ _ _ _ _ _ _ _ _ _ _ _ _ _ _ _)
   | (with_reducible exact ih2 _ _ _ _ _ _ _ _ _ _ _ _ _ _ _ _ _ _)
   | (with_reducible exact ih3 _ _ _ _ _ _ _ _ _ _ _ _ _ _ _ _ _ _)
   | (with_reducible exact dioramalaw08_awake.mono _)
   | (with_reducible exact dioramaref08_Great.mono _ _ _ _ _)
   | (with_reducible exact dioramaref08_Same.mono _ _ _ _ _ _ _ _ _)
   | (with_reducible exact LeO.refl _)
   | (with_reducible exact LeO.none _)
   | (with_reducible refine LeO.ite ?_ ?_)
   | (with_reducible refine LeO.bind ?_ (fun _ => ?_))
   | exact ih0 _ _ _ _ _ _
   | exact ih1 _ _ _ _ _ _ _ _ _ _ _ _ _ _ _ _ _ _ _
   | exact ih2 _ _ _ _ _ _ _ _ _ _ _ _ _ _ _ _ _ _
   | exact ih3 _ _ _ _ _ _ _ _ _ _ _ _ _ _ _ _ _ _
   | exact dioramalaw08_awake.mono _
   | exact dioramaref08_Great.mono _ _ _ _ _
   | exact dioramaref08_Same.mono _ _ _ _ _ _ _ _ _
   | exact LeO.none _
   | refine LeO.ite ?_ ?_
   | refine LeO.bind ?_ (fun _ => ?_)
  ·intro y0 y1 y2 y3 y4 y5 y6 y7 y8 y9 y10 y11 y12 y13 y14 y15 y16 y17
   unfold dioramalaw08_FieldOld.l1
   repeat' first
   | (with_reducible exact ih0 _ _ _ _ _ _)
   | (with_reducible exact ih1 _ _ _ _ _ _ _ _ _ _ _ _ _ _ _ _ _ _ _)
   | (with_reducible exact ih2 _ _ _ _ _ _ _ _ _ _ _ _ _ _ _ _ _ _)
   | (with_reducible exact ih3 _ _ _ _ _ _ _ _ _ _ _ _ _ _ _ _ _ _)
   | (with_reducible exact dioramalaw08_awake.mono _)
   | (with_reducible exact dioramaref08_Great.mono _ _ _ _ _)
   | (with_reducible exact dioramaref08_Same.mono _ _ _ _ _ _ _ _ _)
   | (with_reducible exact LeO.refl _)
   | (with_reducible exact LeO.none _)
   | (with_reducible refine LeO.ite ?_ ?_)
   | (with_reducible refine LeO.bind ?_ (fun _ => ?_))
   | exact ih0 _ _ _ _ _ _
   | exact ih1 _ _ _ _ _ _ _ _ _ _ _ _ _ _ _ _ _ _ _
   | exact ih2 _ _ _ _ _ _ _ _ _ _ _ _ _ _ _ _ _ _
   | exact ih3 _ _ _ _ _ _ _ _ _ _ _ _ _ _ _ _ _ _
   | exact dioramalaw08_awake.mono _
   | exact dioramaref08_Great.mono _ _ _ _ _
   | exact dioramaref08_Same.mono _ _ _ _ _ _ _ _ _
   | exact LeO.none _
   | refine LeO.ite ?_ ?_
   | refine LeO.bind ?_ (fun _ => ?_)
  ·intro y0 y1 y2 y3 y4 y5 y6 y7 y8 y9 y10 y11 y12 y13 y14 y15 y16 y17
   unfold dioramalaw08_FieldOld.l2
   repeat' first
   | (with_reducible exact ih0 _ _ _ _ _ _)
   | (with_reducible exact ih1 _ _ _ _ _ _ _ _ _ _ _ _ _ _ _ _ _ _ _)
   | (with_reducible exact ih2 _ _ _ _ _ _ _ _ _ _ _ _ _ _ _ _ _ _)
   | (with_reducible exact ih3 _ _ _ _ _ _ _ _ _ _ _ _ _ _ _ _ _ _)
   | (with_reducible exact dioramalaw08_awake.mono _)
   | (with_reducible exact dioramaref08_Great.mono _ _ _ _ _)
   | (with_reducible exact dioramaref08_Same.mono _ _ _ _ _ _ _ _ _)
   | (with_reducible exact LeO.refl _)
   | (with_reducible exact LeO.none _)
   | (with_reducible refine LeO.ite ?_ ?_)
   | (with_reducible refine LeO.bind ?_ (fun _ => ?_))
   | exact ih0 _ _ _ _ _ _
   | exact ih1 _ _ _ _ _ _ _ _ _ _ _ _ _ _ _ _ _ _ _
   | exact ih2 _ _ _ _ _ _ _ _ _ _ _ _ _ _ _ _ _ _
   | exact ih3 _ _ _ _ _ _ _ _ _ _ _ _ _ _ _ _ _ _
   | exact dioramalaw08_awake.mono _
   | exact dioramaref08_Great.mono _ _ _ _ _
   | exact dioramaref08_Same.mono _ _ _ _ _ _ _ _ _
   | exact LeO.none _
   | refine LeO.ite ?_ ?_
   | refine LeO.bind ?_ (fun _ => ?_)
theorem dioramalaw08_FieldOld.mono : ∀ a0 a1 a2 a3 a4 k, LeO (dioramalaw08_FieldOld.f k a0 a1 a2 a3 a4) (dioramalaw08_FieldOld.f (k + 1) a0 a1 a2 a3 a4) := by
 intro a0 a1 a2 a3 a4 k
 obtain ⟨ih0, ih1, ih2, ih3⟩ := dioramalaw08_FieldOld.mono_l k
 unfold dioramalaw08_FieldOld.f
 repeat' first
   | (with_reducible exact ih0 _ _ _ _ _ _)
   | (with_reducible exact ih1 _ _ _ _ _ _ _ _ _ _ _ _ _ _ _ _ _ _ _)
   | (with_reducible exact ih2 _ _ _ _ _ _ _ _ _ _ _ _ _ _ _ _ _ _)
   | (with_reducible exact ih3 _ _ _ _ _ _ _ _ _ _ _ _ _ _ _ _ _ _)
   | (with_reducible exact dioramalaw08_awake.mono _)
   | (with_reducible exact dioramaref08_Great.mono _ _ _ _ _)
   | (with_reducible exact dioramaref08_Same.mono _ _ _ _ _ _ _ _ _)
   | (with_reducible exact LeO.refl _)
   | (with_reducible exact LeO.none _)
   | (with_reducible refine LeO.ite ?_ ?_)
   | (with_reducible refine LeO.bind ?_ (fun _ => ?_))
   | exact ih0 _ _ _ _ _ _
   | exact ih1 _ _ _ _ _ _ _ _ _ _ _ _ _ _ _ _ _ _ _
   | exact ih2 _ _ _ _ _ _ _ _ _ _ _ _ _ _ _ _ _ _
   | exact ih3 _ _ _ _ _ _ _ _ _ _ _ _ _ _ _ _ _ _
   | exact dioramalaw08_awake.mono _
   | exact dioramaref08_Great.mono _ _ _ _ _
   | exact dioramaref08_Same.mono _ _ _ _ _ _ _ _ _
   | exact LeO.none _
   | refine LeO.ite ?_ ?_
   | refine LeO.bind ?_ (fun _ => ?_)
set_option maxHeartbeats 8000000 in
set_option maxRecDepth 100000 in
theorem dioramalaw08_FieldOld.calls (k : Nat) (a0_0 : Int) (A0_1 : Option Addr) (c0_1 : Nat) (l0_1 : List Int) (A0_2 : Option Addr) (c0_2 : Nat) (l0_2 : List ByteArray) (A0_3 : Option Addr) (c0_3 : Nat) (l0_3 : List Int) (a1 : Int) (r : Bool) (w : World) (ht_ : ∀ w', Below w.heap.size w w' → Go.Lib.Utf8Tabs 0 1 w') (hr0_1 : Kd.C (Kd.int .i64) w A0_1 l0_1.length l0_1) (hc0_1 : l0_1.length ≤ c0_1) (hr0_2 : Kd.C Kd.string w A0_2 l0_2.length l0_2) (hc0_2 : l0_2.length ≤ c0_2) (hr0_3 : Kd.C (Kd.int .i64) w A0_3 l0_3.length l0_3) (hc0_3 : l0_3.length ≤ c0_3) (h : dioramalaw08_FieldOld.f k a0_0 l0_1 l0_2 l0_3 a1 = some r) :
  Calls Tryd.prog 7 #[.agg #[.int .i64 a0_0, .slice A0_1 l0_1.length c0_1, .slice A0_2 l0_2.length c0_2, .slice A0_3 l0_3.length c0_3], .int .i64 a1] w fun e w' => e = .returned (.bool r) ∧ Below w.heap.size w w' := by
 have HTB_ := Aside0.mk ht_
 clear ht_
 have hu26 := Tryd.underlying26
 have HR0_1 := Aside0.mk hr0_1
 have HC0_1 := Aside0.mk hc0_1
 clear hr0_1 hc0_1
 have HR0_2 := Aside0.mk hr0_2
 have HC0_2 := Aside0.mk hc0_2
 clear hr0_2 hc0_2
 have HR0_3 := Aside0.mk hr0_3
 have HC0_3 := Aside0.mk hc0_3
 clear hr0_3 hc0_3
 have HB := Aside0.mk (Below.refl w.heap.size w)
 have H : ((dioramalaw08_awake.f k).bind fun t251 => (if t251 = true then ((dioramaref08_Great.f k a0_0 l0_1 l0_2 l0_3).bind fun t252 => (dioramalaw08_FieldOld.j0 k a1 t252 a0_0 l0_1 l0_2 l0_3)) else (dioramalaw08_FieldOld.j0 k a1 true a0_0 l0_1 l0_2 l0_3))) = some r := h
 clear h
 have HC3 := Aside0.mk H
 clear H
 go_enter Tryd.func7, Tryd.ntmps7
 go_upto_region 1 with (first | ((with_reducible refine gate_dst (N := 2) rfl ?_); refine box_event ?hg (N := 2) ?hd (cs := #[.int .i64 a0_0, .slice A0_1 l0_1.length c0_1, .slice A0_2 l0_2.length c0_2, .slice A0_3 l0_3.length c0_3]) (t := 26) ?hr ?_; (case hd => rfl); (case hg => rfl); (case hr => first | (go_simp; done) | (go_simp; rfl)); intro gb250 hg w4 hbox hb; have n0_ := Aside0.mk (below_step (BB HB) hb); have n1_ := Aside0.mk (hbox); have n2_ := Aside0.mk ((by rw [hg]; exact (below_size (BB HB)) : w.heap.size ≤ gb250)); have n3_ := Aside0.mk ((by rw [hg]; exact (below_size (BB HB)) : w.heap.size ≤ gb250)); clear HB; have HB := n0_; have BK250 := n1_; have GW250 := n2_; have GE250 := n3_; clear n0_ n1_ n2_ n3_; clear hb hbox hg))
 (try simp only [Act.put, List.setIfInBounds_toArray, List.set_cons_zero, List.set_cons_succ])
 go_cut [16] (fun v16 wc => ∃ (kq : Nat) (x16_2 : Bool), v16 = .bool x16_2 ∧ Aside0 (dioramalaw08_FieldOld.j0 kq a1 x16_2 a0_0 l0_1 l0_2 l0_3 = some r) ∧ Aside0 (kq ≤ k) ∧ Aside0 (wc.heap[gb250]? = some (.cells #[.int .i64 a0_0, (.slice A0_1 l0_1.length c0_1), (.slice A0_2 l0_2.length c0_2), (.slice A0_3 l0_3.length c0_3)] 26 (0, 0))) ∧ Aside0 (Below w.heap.size w wc))
 case first =>
  have H := HC3.out
  clear HC3
  replace H := Option.bind_eq_some_iff.mp H
  obtain ⟨t251, A50, H⟩ := H
  replace H : (if t251 = true then ((dioramaref08_Great.f k a0_0 l0_1 l0_2 l0_3).bind fun t252 => (dioramalaw08_FieldOld.j0 k a1 t252 a0_0 l0_1 l0_2 l0_3)) else (dioramalaw08_FieldOld.j0 k a1 true a0_0 l0_1 l0_2 l0_3)) = some r := H
  have A5 := Aside0.mk A50
  clear A50
  by_cases c6 : t251 = true
  ·subst c6
   have H1 : ((dioramaref08_Great.f k a0_0 l0_1 l0_2 l0_3).bind fun t252 => (dioramalaw08_FieldOld.j0 k a1 t252 a0_0 l0_1 l0_2 l0_3)) = some r := by rw [if_pos rfl] at H; exact H
   clear H
   have H := H1
   clear H1
   replace H := Option.bind_eq_some_iff.mp H
   obtain ⟨t252, A70, H⟩ := H
   replace H : (dioramalaw08_FieldOld.j0 k a1 t252 a0_0 l0_1 l0_2 l0_3) = some r := H
   have A7 := Aside0.mk A70
   clear A70
   have H' := Aside0.mk H
   clear H
   go_wp2_with (first | ((with_reducible refine gate_callee (f := 13) rfl ?_); refine goesL_ (some 11) rfl rfl Tryd.func13 (by kernel_rfl) rfl #[] rfl (by (try simp only [List.map_toArray, List.map_cons, List.map_nil]); first | done | rfl | (simp only [List.length_drop, List.length_take]; rfl)) ?_; (with_reducible refine (dioramalaw08_awake.calls k  true _ (fun w_ hb_ => HTB_.out w_ (below_step (BB HB) hb_)) A5.out).mono ?_); rintro e w8 ⟨rfl, hb⟩; refine ⟨_, rfl, ?_⟩; have n0_ := BE BK250 hb; have n1_ := Aside0.mk (below_step (BB HB) hb); clear BK250; clear HB; have BK250 := n0_; have HB := n1_; clear n0_ n1_; (try clear hb); (try clear hb2); (try clear hk); (try clear hi); have hcz9_0 : w8.cell? ⟨gb250, 0, none⟩ = some (.int .i64 a0_0) := (blk_cell BK250.out 0).trans rfl; have hcz9_1 : w8.cell? ⟨gb250, 1, none⟩ = some (.slice A0_1 l0_1.length c0_1) := (blk_cell BK250.out 1).trans rfl; have hcz9_2 : w8.cell? ⟨gb250, 2, none⟩ = some (.slice A0_2 l0_2.length c0_2) := (blk_cell BK250.out 2).trans rfl; have hcz9_3 : w8.cell? ⟨gb250, 3, none⟩ = some (.slice A0_3 l0_3.length c0_3) := (blk_cell BK250.out 3).trans rfl; have hfz9_0 := blk_frozen BK250.out 0; have hfz9_1 := blk_frozen BK250.out 1; have hfz9_2 := blk_frozen BK250.out 2; have hfz9_3 := blk_frozen BK250.out 3) | (go_at_call 14; (with_reducible refine (dioramaref08_Great.calls k a0_0 _ _ l0_1 _ _ l0_2 _ _ l0_3 t252 _ ?side1 ?side2 ?side3 ?side4 ?side5 ?side6 A7.out).mono ?_); (case side1 => repeat (first | exact (Kd.C_below HR0_1.out HB.out) | (with_reducible refine Kd.C_alloc ?_ _) | (with_reducible refine Kd.C_drewN ?_ _) | (with_reducible refine Kd.C_drew ?_))); (case side2 => exact HC0_1.out); (case side3 => repeat (first | exact (Kd.C_below HR0_2.out HB.out) | (with_reducible refine Kd.C_alloc ?_ _) | (with_reducible refine Kd.C_drewN ?_ _) | (with_reducible refine Kd.C_drew ?_))); (case side4 => exact HC0_2.out); (case side5 => repeat (first | exact (Kd.C_below HR0_3.out HB.out) | (with_reducible refine Kd.C_alloc ?_ _) | (with_reducible refine Kd.C_drewN ?_ _) | (with_reducible refine Kd.C_drew ?_))); (case side6 => exact HC0_3.out); rintro e w10 ⟨rfl, hb⟩; have n0_ := BE BK250 hb; have n1_ := Aside0.mk (below_step (BB HB) hb); clear BK250; clear HB; have BK250 := n0_; have HB := n1_; clear n0_ n1_; (try clear hb); (try clear hb2); (try clear hk); (try clear hi)))
   go_meet
   case rel => exact ⟨_, (t252), (by first | rfl | (simp; done) | (simp [*]; done)), H', ⟨by first | omega | exact Nat.le_refl _⟩, ⟨BL BK250⟩, ⟨BB HB⟩⟩
  ·replace c6 := Bool.eq_false_iff.mpr c6
   subst c6
   have H1 : (dioramalaw08_FieldOld.j0 k a1 true a0_0 l0_1 l0_2 l0_3) = some r := by rw [if_neg (show ¬ (false = true) by decide)] at H; exact H
   clear H
   have H := H1
   clear H1
   have H' := Aside0.mk H
   clear H
   go_wp2_with (first | ((with_reducible refine gate_callee (f := 13) rfl ?_); refine goesL_ (some 11) rfl rfl Tryd.func13 (by kernel_rfl) rfl #[] rfl (by (try simp only [List.map_toArray, List.map_cons, List.map_nil]); first | done | rfl | (simp only [List.length_drop, List.length_take]; rfl)) ?_; (with_reducible refine (dioramalaw08_awake.calls k  false _ (fun w_ hb_ => HTB_.out w_ (below_step (BB HB) hb_)) A5.out).mono ?_); rintro e w11 ⟨rfl, hb⟩; refine ⟨_, rfl, ?_⟩; have n0_ := BE BK250 hb; have n1_ := Aside0.mk (below_step (BB HB) hb); clear BK250; clear HB; have BK250 := n0_; have HB := n1_; clear n0_ n1_; (try clear hb); (try clear hb2); (try clear hk); (try clear hi)))
   go_meet
   case rel => exact ⟨_, (true), (by first | rfl | (simp; done) | (simp [*]; done)), H', ⟨by first | omega | exact Nat.le_refl _⟩, ⟨BL BK250⟩, ⟨BB HB⟩⟩
 case rest =>
  clear HC3
  try clear c1
  try clear p2
  try clear c6
  try clear c7
  try clear hcz9_0
  try clear hcz9_1
  try clear hcz9_2
  try clear hcz9_3
  try clear hfz9_0
  try clear hfz9_1
  try clear hfz9_2
  try clear hfz9_3
  obtain ⟨kq, x16_2, rfl, HA, HJ2, BK250, HB⟩ := hcut
  cases kq with
  | zero => exact absurd HA.out (by simp [dioramalaw08_FieldOld.j0])
  | succ kj2 =>
   have H := HA.out
   clear HA
   simp only [dioramalaw08_FieldOld.j0] at H
   by_cases c12 : x16_2 = true
   ·subst c12
    have H1 : ((dioramalaw08_awake.f kj2).bind fun t253 => (some t253)) = some r := by rw [if_pos rfl] at H; exact H
    clear H
    have H := H1
    clear H1
    replace H := Option.bind_eq_some_iff.mp H
    obtain ⟨t253, A130, H⟩ := H
    replace H : (some t253) = some r := H
    have A13 := Aside0.mk A130
    clear A130
    obtain rfl := Option.some.inj H
    go_wp2_with (first | ((with_reducible refine gate_callee (f := 13) rfl ?_); refine goesL_ (some 17) rfl rfl Tryd.func13 (by kernel_rfl) rfl #[] rfl (by (try simp only [List.map_toArray, List.map_cons, List.map_nil]); first | done | rfl | (simp only [List.length_drop, List.length_take]; rfl)) ?_; (with_reducible refine (dioramalaw08_awake.calls kj2  t253 _ (fun w_ hb_ => HTB_.out w_ (below_step (BB HB) hb_)) A13.out).mono ?_); rintro e w14 ⟨rfl, hb⟩; refine ⟨_, rfl, ?_⟩; have n0_ := BE BK250 hb; have n1_ := Aside0.mk (below_step (BB HB) hb); clear BK250; clear HB; have BK250 := n0_; have HB := n1_; clear n0_ n1_; (try clear hb); (try clear hb2); (try clear hk); (try clear hi)))
    go_ret
    exact ⟨by first | rfl | (simp [errW_none, errW_some] <;> rfl) | (simp [*, errW_none, errW_some] <;> rfl), BB HB⟩
   ·replace c12 := Bool.eq_false_iff.mpr c12
    subst c12
    have H1 : ((dioramaref08_Copy.f a0_0 l0_1 l0_2 l0_3).bind fun bt254 => ((field_Copy.f bt254.1 bt254.2.1 bt254.2.2.1 bt254.2.2.2).bind fun bt264 => ((dioramaref08_Copy.f a0_0 l0_1 l0_2 l0_3).bind fun bt275 => ((field_Copy.f bt275.1 bt275.2.1 bt275.2.2.1 bt275.2.2.2).bind fun bt286 => (dioramalaw08_FieldOld.l0 kj2 a1 (bt286.2.1.length : Int) 0 a0_0 l0_1 l0_2 l0_3 bt264.1 bt264.2.1 bt264.2.2.1 bt264.2.2.2 bt275.1 bt275.2.1 bt275.2.2.1 bt275.2.2.2 bt286.1 bt286.2.1 bt286.2.2.1 bt286.2.2.2))))) = some r := by rw [if_neg (show ¬ (false = true) by decide)] at H; exact H
    clear H
    have H := H1
    clear H1
    replace H := Option.bind_eq_some_iff.mp H
    obtain ⟨⟨t254, t255, t258, t261⟩, A150, H⟩ := H
    replace H : ((field_Copy.f t254 t255 t258 t261).bind fun bt264 => ((dioramaref08_Copy.f a0_0 l0_1 l0_2 l0_3).bind fun bt275 => ((field_Copy.f bt275.1 bt275.2.1 bt275.2.2.1 bt275.2.2.2).bind fun bt286 => (dioramalaw08_FieldOld.l0 kj2 a1 (bt286.2.1.length : Int) 0 a0_0 l0_1 l0_2 l0_3 bt264.1 bt264.2.1 bt264.2.2.1 bt264.2.2.2 bt275.1 bt275.2.1 bt275.2.2.1 bt275.2.2.2 bt286.1 bt286.2.1 bt286.2.2.1 bt286.2.2.2)))) = some r := H
    have A15 := Aside0.mk A150
    clear A150
    replace H := Option.bind_eq_some_iff.mp H
    obtain ⟨⟨t264, t265, t268, t271⟩, A160, H⟩ := H
    replace H : ((dioramaref08_Copy.f a0_0 l0_1 l0_2 l0_3).bind fun bt275 => ((field_Copy.f bt275.1 bt275.2.1 bt275.2.2.1 bt275.2.2.2).bind fun bt286 => (dioramalaw08_FieldOld.l0 kj2 a1 (bt286.2.1.length : Int) 0 a0_0 l0_1 l0_2 l0_3 t264 t265 t268 t271 bt275.1 bt275.2.1 bt275.2.2.1 bt275.2.2.2 bt286.1 bt286.2.1 bt286.2.2.1 bt286.2.2.2))) = some r := H
    have A16 := Aside0.mk A160
    clear A160
    replace H := Option.bind_eq_some_iff.mp H
    obtain ⟨⟨t275, t276, t279, t282⟩, A170, H⟩ := H
    replace H : ((field_Copy.f t275 t276 t279 t282).bind fun bt286 => (dioramalaw08_FieldOld.l0 kj2 a1 (bt286.2.1.length : Int) 0 a0_0 l0_1 l0_2 l0_3 t264 t265 t268 t271 t275 t276 t279 t282 bt286.1 bt286.2.1 bt286.2.2.1 bt286.2.2.2)) = some r := H
    have A17 := Aside0.mk A170
    clear A170
    replace H := Option.bind_eq_some_iff.mp H
    obtain ⟨⟨t286, t287, t290, t293⟩, A180, H⟩ := H
    replace H : (dioramalaw08_FieldOld.l0 kj2 a1 (t287.length : Int) 0 a0_0 l0_1 l0_2 l0_3 t264 t265 t268 t271 t275 t276 t279 t282 t286 t287 t290 t293) = some r := H
    have A18 := Aside0.mk A180
    clear A180
    have H' := Aside0.mk H
    clear H
    have hcz19_0 : wc.cell? ⟨gb250, 0, none⟩ = some (.int .i64 a0_0) := (blk_cell BK250.out 0).trans rfl
    have hcz19_1 : wc.cell? ⟨gb250, 1, none⟩ = some (.slice A0_1 l0_1.length c0_1) := (blk_cell BK250.out 1).trans rfl
    have hcz19_2 : wc.cell? ⟨gb250, 2, none⟩ = some (.slice A0_2 l0_2.length c0_2) := (blk_cell BK250.out 2).trans rfl
    have hcz19_3 : wc.cell? ⟨gb250, 3, none⟩ = some (.slice A0_3 l0_3.length c0_3) := (blk_cell BK250.out 3).trans rfl
    have hfz19_0 := blk_frozen BK250.out 0
    have hfz19_1 := blk_frozen BK250.out 1
    have hfz19_2 := blk_frozen BK250.out 2
    have hfz19_3 := blk_frozen BK250.out 3
    go_wp2_with (first | ((with_reducible refine gate_callee (f := 16) rfl ?_); refine goesL_ (some 19) rfl rfl Tryd.func16 (by kernel_rfl) rfl #[.agg #[.int .i64 a0_0, .slice A0_1 l0_1.length c0_1, .slice A0_2 l0_2.length c0_2, .slice A0_3 l0_3.length c0_3]] rfl (by (try simp only [List.map_toArray, List.map_cons, List.map_nil]); first | done | rfl | (simp only [List.length_drop, List.length_take]; rfl)) ?_; (with_reducible refine (dioramaref08_Copy.calls a0_0 _ _ l0_1 _ _ l0_2 _ _ l0_3 t254 t255 t258 t261 _ ?side1 ?side2 ?side3 ?side4 ?side5 ?side6 A15.out).mono ?_); (case side1 => repeat (first | exact (Kd.C_below HR0_1.out HB.out) | (with_reducible refine Kd.C_alloc ?_ _) | (with_reducible refine Kd.C_drewN ?_ _) | (with_reducible refine Kd.C_drew ?_))); (case side2 => exact HC0_1.out); (case side3 => repeat (first | exact (Kd.C_below HR0_2.out HB.out) | (with_reducible refine Kd.C_alloc ?_ _) | (with_reducible refine Kd.C_drewN ?_ _) | (with_reducible refine Kd.C_drew ?_))); (case side4 => exact HC0_2.out); (case side5 => repeat (first | exact (Kd.C_below HR0_3.out HB.out) | (with_reducible refine Kd.C_alloc ?_ _) | (with_reducible refine Kd.C_drewN ?_ _) | (with_reducible refine Kd.C_drew ?_))); (case side6 => exact HC0_3.out); rintro e w20 ⟨v256, v259, v262, rfl, ho0, ho1, ho2, hb⟩; refine ⟨_, rfl, ?_⟩; have n0_ := Aside0.mk (Kd.R_lower ho0 (below_size (BB HB))); have n1_ := Aside0.mk (Kd.R_lower ho1 (below_size (BB HB))); have n2_ := Aside0.mk (Kd.R_lower ho2 (below_size (BB HB))); have n3_ := BE BK250 hb; have n4_ := Aside0.mk (below_step (BB HB) hb); clear BK250; clear HB; have HO257 := n0_; have HO260 := n1_; have HO263 := n2_; have BK250 := n3_; have HB := n4_; clear n0_ n1_ n2_ n3_ n4_; (try clear hb); (try clear hb2); (try clear hk); (try clear hi); (try clear ho0); (try clear ho1); (try clear ho2); obtain ⟨Ao21, co21, eo21⟩ := Kd.R_slice HO257.out; subst eo21; obtain ⟨Ao22, co22, eo22⟩ := Kd.R_slice HO260.out; subst eo22; obtain ⟨Ao23, co23, eo23⟩ := Kd.R_slice HO263.out; subst eo23) | ((with_reducible refine gate_callee (f := 25) rfl ?_); refine goesL_ (some 20) rfl rfl Tryd.func25 (by kernel_rfl) rfl #[.agg #[.int .i64 t254, .slice Ao21 t255.length co21, .slice Ao22 t258.length co22, .slice Ao23 t261.length co23]] rfl (by (try simp only [List.map_toArray, List.map_cons, List.map_nil]); first | done | rfl | (simp only [List.length_drop, List.length_take]; rfl)) ?_; (with_reducible refine (field_Copy.calls t254 _ _ t255 _ _ t258 _ _ t261 t264 t265 t268 t271 _ ?side1 ?side2 ?side3 ?side4 ?side5 ?side6 A16.out).mono ?_); (case side1 => exact CR HO257); (case side2 => exact (Kd.R_reads' HO257.out).2.1); (case side3 => exact CR HO260); (case side4 => exact (Kd.R_reads' HO260.out).2.1); (case side5 => exact CR HO263); (case side6 => exact (Kd.R_reads' HO263.out).2.1); rintro e w24 ⟨v266, v269, v272, rfl, ho0, ho1, ho2, hb⟩; refine ⟨_, rfl, ?_⟩; have n0_ := Aside0.mk (Kd.R_elder' (RL HO257) (Kd.R_base ho0) hb); have n1_ := Aside0.mk (Kd.R_elder' (RL HO260) (Kd.R_base ho1) hb); have n2_ := Aside0.mk (Kd.R_elder' (RL HO263) (Kd.R_base ho2) hb); have n3_ := Aside0.mk (Kd.R_lower (Kd.R_new' ho0 (Kd.R_lt (RL HO257))) (below_size (BB HB))); have n4_ := Aside0.mk (Kd.R_lower (Kd.R_new' ho1 (Kd.R_lt (RL HO260))) (below_size (BB HB))); have n5_ := Aside0.mk (Kd.R_lower (Kd.R_new' ho2 (Kd.R_lt (RL HO263))) (below_size (BB HB))); have n6_ := BE BK250 hb; have n7_ := Aside0.mk (below_step (BB HB) hb); clear HO257; clear HO260; clear HO263; clear BK250; clear HB; have HO257 := n0_; have HO260 := n1_; have HO263 := n2_; have HO267 := n3_; have HO270 := n4_; have HO273 := n5_; have BK250 := n6_; have HB := n7_; clear n0_ n1_ n2_ n3_ n4_ n5_ n6_ n7_; (try clear hb); (try clear hb2); (try clear hk); (try clear hi); (try clear ho0); (try clear ho1); (try clear ho2)) | ((with_reducible refine gate_dst (N := 5) rfl ?_); refine box_event ?hg (N := 5) ?hd (cs := #[.int .i64 0, .slice none 0 0, .slice none 0 0, .slice none 0 0]) (t := 26) ?hr ?_; (case hd => rfl); (case hg => rfl); (case hr => first | (go_simp; done) | (go_simp; rfl)); intro gb274 hg w25 hbox hb; have n0_ := Aside0.mk (Kd.R_below (RL HO257) hb); have n1_ := Aside0.mk (Kd.R_below (RL HO260) hb); have n2_ := Aside0.mk (Kd.R_below (RL HO263) hb); have n3_ := Aside0.mk (Kd.R_below (RL HO267) hb); have n4_ := Aside0.mk (Kd.R_below (RL HO270) hb); have n5_ := Aside0.mk (Kd.R_below (RL HO273) hb); have n6_ := BE BK250 hb; have n7_ := Aside0.mk (below_step (BB HB) hb); have n8_ := Aside0.mk (hbox); have n9_ := Aside0.mk ((by rw [hg]; exact (below_size (BB HB)) : w.heap.size ≤ gb274)); have n10_ := Aside0.mk ((by rw [hg]; exact (below_size (BB HB)) : w.heap.size ≤ gb274)); have n11_ := Aside0.mk ((by rw [hg]; exact Nat.ne_of_lt (blk_lt (g := gb250) (o := .cells #[.int .i64 a0_0, .slice A0_1 l0_1.length c0_1, .slice A0_2 l0_2.length c0_2, .slice A0_3 l0_3.length c0_3] 26 (0, 0)) (BL BK250)) : gb250 ≠ gb274)); have n12_ := Aside0.mk ((by rw [hg]; exact Nat.ne_of_gt (blk_lt (g := gb250) (o := .cells #[.int .i64 a0_0, .slice A0_1 l0_1.length c0_1, .slice A0_2 l0_2.length c0_2, .slice A0_3 l0_3.length c0_3] 26 (0, 0)) (BL BK250)) : gb274 ≠ gb250)); clear HO257; clear HO260; clear HO263; clear HO267; clear HO270; clear HO273; clear BK250; clear HB; have HO257 := n0_; have HO260 := n1_; have HO263 := n2_; have HO267 := n3_; have HO270 := n4_; have HO273 := n5_; have BK250 := n6_; have HB := n7_; have BK274 := n8_; have GW274 := n9_; have GE274 := n10_; have NB250_274 := n11_; have NB274_250 := n12_; clear n0_ n1_ n2_ n3_ n4_ n5_ n6_ n7_ n8_ n9_ n10_ n11_ n12_; clear hb hbox hg; have hnb26 := NB274_250.out; have hnc26 := NB250_274.out; have hcz27_0 : w25.cell? ⟨gb274, 0, none⟩ = some (.int .i64 0) := (blk_cell BK274.out 0).trans rfl; have hcz27_1 : w25.cell? ⟨gb274, 1, none⟩ = some (.slice none 0 0) := (blk_cell BK274.out 1).trans rfl; have hcz27_2 : w25.cell? ⟨gb274, 2, none⟩ = some (.slice none 0 0) := (blk_cell BK274.out 2).trans rfl; have hcz27_3 : w25.cell? ⟨gb274, 3, none⟩ = some (.slice none 0 0) := (blk_cell BK274.out 3).trans rfl; have hfz27_0 := blk_frozen BK274.out 0; have hfz27_1 := blk_frozen BK274.out 1; have hfz27_2 := blk_frozen BK274.out 2; have hfz27_3 := blk_frozen BK274.out 3; obtain ⟨Ao28, co28, eo28⟩ := Kd.R_slice HO267.out; subst eo28; obtain ⟨Ao29, co29, eo29⟩ := Kd.R_slice HO270.out; subst eo29; obtain ⟨Ao30, co30, eo30⟩ := Kd.R_slice HO273.out; subst eo30; have hcz31_0 : w25.cell? ⟨gb250, 0, none⟩ = some (.int .i64 a0_0) := (blk_cell BK250.out 0).trans rfl; have hcz31_1 : w25.cell? ⟨gb250, 1, none⟩ = some (.slice A0_1 l0_1.length c0_1) := (blk_cell BK250.out 1).trans rfl; have hcz31_2 : w25.cell? ⟨gb250, 2, none⟩ = some (.slice A0_2 l0_2.length c0_2) := (blk_cell BK250.out 2).trans rfl; have hcz31_3 : w25.cell? ⟨gb250, 3, none⟩ = some (.slice A0_3 l0_3.length c0_3) := (blk_cell BK250.out 3).trans rfl; have hfz31_0 := blk_frozen BK250.out 0; have hfz31_1 := blk_frozen BK250.out 1; have hfz31_2 := blk_frozen BK250.out 2; have hfz31_3 := blk_frozen BK250.out 3) | ((with_reducible refine gate_callee (f := 16) rfl ?_); refine goesL_ (some 22) rfl rfl Tryd.func16 (by kernel_rfl) rfl #[.agg #[.int .i64 a0_0, .slice A0_1 l0_1.length c0_1, .slice A0_2 l0_2.length c0_2, .slice A0_3 l0_3.length c0_3]] rfl (by (try simp only [List.map_toArray, List.map_cons, List.map_nil]); first | done | rfl | (simp only [List.length_drop, List.length_take]; rfl)) ?_; (with_reducible refine (dioramaref08_Copy.calls a0_0 _ _ l0_1 _ _ l0_2 _ _ l0_3 t275 t276 t279 t282 _ ?side1 ?side2 ?side3 ?side4 ?side5 ?side6 A17.out).mono ?_); (case side1 => exact Kd.C_below HR0_1.out (BB HB)); (case side2 => exact HC0_1.out); (case side3 => exact Kd.C_below HR0_2.out (BB HB)); (case side4 => exact HC0_2.out); (case side5 => exact Kd.C_below HR0_3.out (BB HB)); (case side6 => exact HC0_3.out); rintro e w32 ⟨v277, v280, v283, rfl, ho0, ho1, ho2, hb⟩; refine ⟨_, rfl, ?_⟩; have n0_ := Aside0.mk (Kd.R_elder' (by (with_reducible repeat (first | apply Kd.R_alloc | apply Kd.R_drewN | apply Kd.R_drew)); exact (Kd.R_mono (Kd.R_far (p := ⟨gb274, 3, none⟩) (Kd.R_far (p := ⟨gb274, 2, none⟩) (Kd.R_far (p := ⟨gb274, 1, none⟩) (Kd.R_far (p := ⟨gb274, 0, none⟩) (Kd.R_types HO257.out BK274.out (by decide)) (fun _ hk => hk.2) (.int .i64 t264)) (fun _ hk => hk.2) (.slice Ao28 t265.length co28)) (fun _ hk => hk.2) (.slice Ao29 t268.length co29)) (fun _ hk => hk.2) (.slice Ao30 t271.length co30)) (fun _ h_ => h_.1))) (Kd.R_base ho0) hb); have n1_ := Aside0.mk (Kd.R_elder' (by (with_reducible repeat (first | apply Kd.R_alloc | apply Kd.R_drewN | apply Kd.R_drew)); exact (Kd.R_mono (Kd.R_far (p := ⟨gb274, 3, none⟩) (Kd.R_far (p := ⟨gb274, 2, none⟩) (Kd.R_far (p := ⟨gb274, 1, none⟩) (Kd.R_far (p := ⟨gb274, 0, none⟩) (Kd.R_types HO260.out BK274.out (by decide)) (fun _ hk => hk.2) (.int .i64 t264)) (fun _ hk => hk.2) (.slice Ao28 t265.length co28)) (fun _ hk => hk.2) (.slice Ao29 t268.length co29)) (fun _ hk => hk.2) (.slice Ao30 t271.length co30)) (fun _ h_ => h_.1))) (Kd.R_base ho1) hb); have n2_ := Aside0.mk (Kd.R_elder' (by (with_reducible repeat (first | apply Kd.R_alloc | apply Kd.R_drewN | apply Kd.R_drew)); exact (Kd.R_mono (Kd.R_far (p := ⟨gb274, 3, none⟩) (Kd.R_far (p := ⟨gb274, 2, none⟩) (Kd.R_far (p := ⟨gb274, 1, none⟩) (Kd.R_far (p := ⟨gb274, 0, none⟩) (Kd.R_types HO263.out BK274.out (by decide)) (fun _ hk => hk.2) (.int .i64 t264)) (fun _ hk => hk.2) (.slice Ao28 t265.length co28)) (fun _ hk => hk.2) (.slice Ao29 t268.length co29)) (fun _ hk => hk.2) (.slice Ao30 t271.length co30)) (fun _ h_ => h_.1))) (Kd.R_base ho2) hb); have n3_ := Aside0.mk (Kd.R_elder' (by (with_reducible repeat (first | apply Kd.R_alloc | apply Kd.R_drewN | apply Kd.R_drew)); exact (Kd.R_mono (Kd.R_far (p := ⟨gb274, 3, none⟩) (Kd.R_far (p := ⟨gb274, 2, none⟩) (Kd.R_far (p := ⟨gb274, 1, none⟩) (Kd.R_far (p := ⟨gb274, 0, none⟩) (Kd.R_types HO267.out BK274.out (by decide)) (fun _ hk => hk.2) (.int .i64 t264)) (fun _ hk => hk.2) (.slice Ao28 t265.length co28)) (fun _ hk => hk.2) (.slice Ao29 t268.length co29)) (fun _ hk => hk.2) (.slice Ao30 t271.length co30)) (fun _ h_ => h_.1))) (Kd.R_base ho0) hb); have n4_ := Aside0.mk (Kd.R_elder' (by (with_reducible repeat (first | apply Kd.R_alloc | apply Kd.R_drewN | apply Kd.R_drew)); exact (Kd.R_mono (Kd.R_far (p := ⟨gb274, 3, none⟩) (Kd.R_far (p := ⟨gb274, 2, none⟩) (Kd.R_far (p := ⟨gb274, 1, none⟩) (Kd.R_far (p := ⟨gb274, 0, none⟩) (Kd.R_types HO270.out BK274.out (by decide)) (fun _ hk => hk.2) (.int .i64 t264)) (fun _ hk => hk.2) (.slice Ao28 t265.length co28)) (fun _ hk => hk.2) (.slice Ao29 t268.length co29)) (fun _ hk => hk.2) (.slice Ao30 t271.length co30)) (fun _ h_ => h_.1))) (Kd.R_base ho1) hb); have n5_ := Aside0.mk (Kd.R_elder' (by (with_reducible repeat (first | apply Kd.R_alloc | apply Kd.R_drewN | apply Kd.R_drew)); exact (Kd.R_mono (Kd.R_far (p := ⟨gb274, 3, none⟩) (Kd.R_far (p := ⟨gb274, 2, none⟩) (Kd.R_far (p := ⟨gb274, 1, none⟩) (Kd.R_far (p := ⟨gb274, 0, none⟩) (Kd.R_types HO273.out BK274.out (by decide)) (fun _ hk => hk.2) (.int .i64 t264)) (fun _ hk => hk.2) (.slice Ao28 t265.length co28)) (fun _ hk => hk.2) (.slice Ao29 t268.length co29)) (fun _ hk => hk.2) (.slice Ao30 t271.length co30)) (fun _ h_ => h_.1))) (Kd.R_base ho2) hb); have n6_ := Aside0.mk (Kd.R_lower (Kd.R_new' (Kd.R_new' ho0 (Kd.R_lt (by (with_reducible repeat (first | apply Kd.R_alloc | apply Kd.R_drewN | apply Kd.R_drew)); exact (Kd.R_mono (Kd.R_far (p := ⟨gb274, 3, none⟩) (Kd.R_far (p := ⟨gb274, 2, none⟩) (Kd.R_far (p := ⟨gb274, 1, none⟩) (Kd.R_far (p := ⟨gb274, 0, none⟩) (Kd.R_types HO257.out BK274.out (by decide)) (fun _ hk => hk.2) (.int .i64 t264)) (fun _ hk => hk.2) (.slice Ao28 t265.length co28)) (fun _ hk => hk.2) (.slice Ao29 t268.length co29)) (fun _ hk => hk.2) (.slice Ao30 t271.length co30)) (fun _ h_ => h_.1))))) (Kd.R_lt (by (with_reducible repeat (first | apply Kd.R_alloc | apply Kd.R_drewN | apply Kd.R_drew)); exact (Kd.R_mono (Kd.R_far (p := ⟨gb274, 3, none⟩) (Kd.R_far (p := ⟨gb274, 2, none⟩) (Kd.R_far (p := ⟨gb274, 1, none⟩) (Kd.R_far (p := ⟨gb274, 0, none⟩) (Kd.R_types HO267.out BK274.out (by decide)) (fun _ hk => hk.2) (.int .i64 t264)) (fun _ hk => hk.2) (.slice Ao28 t265.length co28)) (fun _ hk => hk.2) (.slice Ao29 t268.length co29)) (fun _ hk => hk.2) (.slice Ao30 t271.length co30)) (fun _ h_ => h_.1))))) (below_size (BB HB))); have n7_ := Aside0.mk (Kd.R_lower (Kd.R_new' (Kd.R_new' ho1 (Kd.R_lt (by (with_reducible repeat (first | apply Kd.R_alloc | apply Kd.R_drewN | apply Kd.R_drew)); exact (Kd.R_mono (Kd.R_far (p := ⟨gb274, 3, none⟩) (Kd.R_far (p := ⟨gb274, 2, none⟩) (Kd.R_far (p := ⟨gb274, 1, none⟩) (Kd.R_far (p := ⟨gb274, 0, none⟩) (Kd.R_types HO260.out BK274.out (by decide)) (fun _ hk => hk.2) (.int .i64 t264)) (fun _ hk => hk.2) (.slice Ao28 t265.length co28)) (fun _ hk => hk.2) (.slice Ao29 t268.length co29)) (fun _ hk => hk.2) (.slice Ao30 t271.length co30)) (fun _ h_ => h_.1))))) (Kd.R_lt (by (with_reducible repeat (first | apply Kd.R_alloc | apply Kd.R_drewN | apply Kd.R_drew)); exact (Kd.R_mono (Kd.R_far (p := ⟨gb274, 3, none⟩) (Kd.R_far (p := ⟨gb274, 2, none⟩) (Kd.R_far (p := ⟨gb274, 1, none⟩) (Kd.R_far (p := ⟨gb274, 0, none⟩) (Kd.R_types HO270.out BK274.out (by decide)) (fun _ hk => hk.2) (.int .i64 t264)) (fun _ hk => hk.2) (.slice Ao28 t265.length co28)) (fun _ hk => hk.2) (.slice Ao29 t268.length co29)) (fun _ hk => hk.2) (.slice Ao30 t271.length co30)) (fun _ h_ => h_.1))))) (below_size (BB HB))); have n8_ := Aside0.mk (Kd.R_lower (Kd.R_new' (Kd.R_new' ho2 (Kd.R_lt (by (with_reducible repeat (first | apply Kd.R_alloc | apply Kd.R_drewN | apply Kd.R_drew)); exact (Kd.R_mono (Kd.R_far (p := ⟨gb274, 3, none⟩) (Kd.R_far (p := ⟨gb274, 2, none⟩) (Kd.R_far (p := ⟨gb274, 1, none⟩) (Kd.R_far (p := ⟨gb274, 0, none⟩) (Kd.R_types HO263.out BK274.out (by decide)) (fun _ hk => hk.2) (.int .i64 t264)) (fun _ hk => hk.2) (.slice Ao28 t265.length co28)) (fun _ hk => hk.2) (.slice Ao29 t268.length co29)) (fun _ hk => hk.2) (.slice Ao30 t271.length co30)) (fun _ h_ => h_.1))))) (Kd.R_lt (by (with_reducible repeat (first | apply Kd.R_alloc | apply Kd.R_drewN | apply Kd.R_drew)); exact (Kd.R_mono (Kd.R_far (p := ⟨gb274, 3, none⟩) (Kd.R_far (p := ⟨gb274, 2, none⟩) (Kd.R_far (p := ⟨gb274, 1, none⟩) (Kd.R_far (p := ⟨gb274, 0, none⟩) (Kd.R_types HO273.out BK274.out (by decide)) (fun _ hk => hk.2) (.int .i64 t264)) (fun _ hk => hk.2) (.slice Ao28 t265.length co28)) (fun _ hk => hk.2) (.slice Ao29 t268.length co29)) (fun _ hk => hk.2) (.slice Ao30 t271.length co30)) (fun _ h_ => h_.1))))) (below_size (BB HB))); have n9_ := Aside0.mk (blk_below (g := gb250) (o := .cells #[.int .i64 a0_0, .slice A0_1 l0_1.length c0_1, .slice A0_2 l0_2.length c0_2, .slice A0_3 l0_3.length c0_3] 26 (0, 0)) (by (with_reducible repeat (first | refine blk_drewN ?_ _ | refine blk_drew ?_ | refine blk_alloc ?_ _)); refine blk_far ?_ NB250_274.out _; (with_reducible repeat (first | refine blk_drewN ?_ _ | refine blk_drew ?_ | refine blk_alloc ?_ _)); refine blk_far ?_ NB250_274.out _; (with_reducible repeat (first | refine blk_drewN ?_ _ | refine blk_drew ?_ | refine blk_alloc ?_ _)); refine blk_far ?_ NB250_274.out _; (with_reducible repeat (first | refine blk_drewN ?_ _ | refine blk_drew ?_ | refine blk_alloc ?_ _)); refine blk_far ?_ NB250_274.out _; (with_reducible repeat (first | refine blk_drewN ?_ _ | refine blk_drew ?_ | refine blk_alloc ?_ _)); exact BK250.out) hb); have n10_ := Aside0.mk (blk_below (g := gb274) (o := .cells #[.int .i64 t264, .slice Ao28 t265.length co28, .slice Ao29 t268.length co29, .slice Ao30 t271.length co30] 26 (0, 0)) (by (with_reducible repeat (first | refine blk_drewN ?_ _ | refine blk_drew ?_ | refine blk_alloc ?_ _)); refine blk_put (cs := #[.int .i64 t264, .slice Ao28 t265.length co28, .slice Ao29 t268.length co29, .slice none 0 0]) ?_ 3 _ rfl; (with_reducible repeat (first | refine blk_drewN ?_ _ | refine blk_drew ?_ | refine blk_alloc ?_ _)); refine blk_put (cs := #[.int .i64 t264, .slice Ao28 t265.length co28, .slice none 0 0, .slice none 0 0]) ?_ 2 _ rfl; (with_reducible repeat (first | refine blk_drewN ?_ _ | refine blk_drew ?_ | refine blk_alloc ?_ _)); refine blk_put (cs := #[.int .i64 t264, .slice none 0 0, .slice none 0 0, .slice none 0 0]) ?_ 1 _ rfl; (with_reducible repeat (first | refine blk_drewN ?_ _ | refine blk_drew ?_ | refine blk_alloc ?_ _)); refine blk_put (cs := #[.int .i64 0, .slice none 0 0, .slice none 0 0, .slice none 0 0]) ?_ 0 _ rfl; (with_reducible repeat (first | refine blk_drewN ?_ _ | refine blk_drew ?_ | refine blk_alloc ?_ _)); exact BK274.out) hb); have n11_ := Aside0.mk (below_step (BB HB) hb); clear HO257; clear HO260; clear HO263; clear HO267; clear HO270; clear HO273; clear BK250; clear BK274; clear HB; have HO257 := n0_; have HO260 := n1_; have HO263 := n2_; have HO267 := n3_; have HO270 := n4_; have HO273 := n5_; have HO278 := n6_; have HO281 := n7_; have HO284 := n8_; have BK250 := n9_; have BK274 := n10_; have HB := n11_; clear n0_ n1_ n2_ n3_ n4_ n5_ n6_ n7_ n8_ n9_ n10_ n11_; (try clear hb); (try clear hb2); (try clear hk); (try clear hi); (try clear ho0); (try clear ho1); (try clear ho2)) | ((with_reducible refine gate_dst (N := 6) rfl ?_); refine box_event ?hg (N := 6) ?hd (cs := #[.int .i64 0, .slice none 0 0, .slice none 0 0, .slice none 0 0]) (t := 26) ?hr ?_; (case hd => rfl); (case hg => rfl); (case hr => first | (go_simp; done) | (go_simp; rfl)); intro gb285 hg w33 hbox hb; have n0_ := Aside0.mk (Kd.R_below (RL HO257) hb); have n1_ := Aside0.mk (Kd.R_below (RL HO260) hb); have n2_ := Aside0.mk (Kd.R_below (RL HO263) hb); have n3_ := Aside0.mk (Kd.R_below (RL HO267) hb); have n4_ := Aside0.mk (Kd.R_below (RL HO270) hb); have n5_ := Aside0.mk (Kd.R_below (RL HO273) hb); have n6_ := Aside0.mk (Kd.R_below (RL HO278) hb); have n7_ := Aside0.mk (Kd.R_below (RL HO281) hb); have n8_ := Aside0.mk (Kd.R_below (RL HO284) hb); have n9_ := BE BK250 hb; have n10_ := BE BK274 hb; have n11_ := Aside0.mk (below_step (BB HB) hb); have n12_ := Aside0.mk (hbox); have n13_ := Aside0.mk ((by rw [hg]; exact (below_size (BB HB)) : w.heap.size ≤ gb285)); have n14_ := Aside0.mk ((by rw [hg]; exact (below_size (BB HB)) : w.heap.size ≤ gb285)); have n15_ := Aside0.mk ((by rw [hg]; exact Nat.ne_of_lt (blk_lt (g := gb250) (o := .cells #[.int .i64 a0_0, .slice A0_1 l0_1.length c0_1, .slice A0_2 l0_2.length c0_2, .slice A0_3 l0_3.length c0_3] 26 (0, 0)) (BL BK250)) : gb250 ≠ gb285)); have n16_ := Aside0.mk ((by rw [hg]; exact Nat.ne_of_gt (blk_lt (g := gb250) (o := .cells #[.int .i64 a0_0, .slice A0_1 l0_1.length c0_1, .slice A0_2 l0_2.length c0_2, .slice A0_3 l0_3.length c0_3] 26 (0, 0)) (BL BK250)) : gb285 ≠ gb250)); have n17_ := Aside0.mk ((by rw [hg]; exact Nat.ne_of_lt (blk_lt (g := gb274) (o := .cells #[.int .i64 t264, .slice Ao28 t265.length co28, .slice Ao29 t268.length co29, .slice Ao30 t271.length co30] 26 (0, 0)) (BL BK274)) : gb274 ≠ gb285)); have n18_ := Aside0.mk ((by rw [hg]; exact Nat.ne_of_gt (blk_lt (g := gb274) (o := .cells #[.int .i64 t264, .slice Ao28 t265.length co28, .slice Ao29 t268.length co29, .slice Ao30 t271.length co30] 26 (0, 0)) (BL BK274)) : gb285 ≠ gb274)); clear HO257; clear HO260; clear HO263; clear HO267; clear HO270; clear HO273; clear HO278; clear HO281; clear HO284; clear BK250; clear BK274; clear HB; have HO257 := n0_; have HO260 := n1_; have HO263 := n2_; have HO267 := n3_; have HO270 := n4_; have HO273 := n5_; have HO278 := n6_; have HO281 := n7_; have HO284 := n8_; have BK250 := n9_; have BK274 := n10_; have HB := n11_; have BK285 := n12_; have GW285 := n13_; have GE285 := n14_; have NB250_285 := n15_; have NB285_250 := n16_; have NB274_285 := n17_; have NB285_274 := n18_; clear n0_ n1_ n2_ n3_ n4_ n5_ n6_ n7_ n8_ n9_ n10_ n11_ n12_ n13_ n14_ n15_ n16_ n17_ n18_; clear hb hbox hg; have hnb34 := NB285_250.out; have hnc34 := NB250_285.out; have hnb35 := NB285_274.out; have hnc35 := NB274_285.out; have hcz36_0 : w33.cell? ⟨gb285, 0, none⟩ = some (.int .i64 0) := (blk_cell BK285.out 0).trans rfl; have hcz36_1 : w33.cell? ⟨gb285, 1, none⟩ = some (.slice none 0 0) := (blk_cell BK285.out 1).trans rfl; have hcz36_2 : w33.cell? ⟨gb285, 2, none⟩ = some (.slice none 0 0) := (blk_cell BK285.out 2).trans rfl; have hcz36_3 : w33.cell? ⟨gb285, 3, none⟩ = some (.slice none 0 0) := (blk_cell BK285.out 3).trans rfl; have hfz36_0 := blk_frozen BK285.out 0; have hfz36_1 := blk_frozen BK285.out 1; have hfz36_2 := blk_frozen BK285.out 2; have hfz36_3 := blk_frozen BK285.out 3; obtain ⟨Ao37, co37, eo37⟩ := Kd.R_slice HO278.out; subst eo37; obtain ⟨Ao38, co38, eo38⟩ := Kd.R_slice HO281.out; subst eo38; obtain ⟨Ao39, co39, eo39⟩ := Kd.R_slice HO284.out; subst eo39) | ((with_reducible refine gate_callee (f := 25) rfl ?_); refine goesL_ (some 24) rfl rfl Tryd.func25 (by kernel_rfl) rfl #[.agg #[.int .i64 t275, .slice Ao37 t276.length co37, .slice Ao38 t279.length co38, .slice Ao39 t282.length co39]] rfl (by (try simp only [List.map_toArray, List.map_cons, List.map_nil]); first | done | rfl | (simp only [List.length_drop, List.length_take]; rfl)) ?_; (with_reducible refine (field_Copy.calls t275 _ _ t276 _ _ t279 _ _ t282 t286 t287 t290 t293 _ ?side1 ?side2 ?side3 ?side4 ?side5 ?side6 A18.out).mono ?_); (case side1 => refine (Kd.R_reads' (e := 2) (base := w.heap.size) (ok := fun k_ => ((True ∧ some k_ ≠ (.slice Ao21 t255.length co21 : Value).ownBlock) ∧ some k_ ≠ (.slice Ao28 t265.length co28 : Value).ownBlock)) (n := t276.length) (c := co37) ?_).2.2; exact (by (with_reducible repeat (first | apply Kd.R_alloc | apply Kd.R_drewN | apply Kd.R_drew)); exact (Kd.R_mono (Kd.R_far (p := ⟨gb285, 3, none⟩) (Kd.R_far (p := ⟨gb285, 2, none⟩) (Kd.R_far (p := ⟨gb285, 1, none⟩) (Kd.R_far (p := ⟨gb285, 0, none⟩) (Kd.R_types HO278.out BK285.out (by decide)) (fun _ hk => hk.2) (.int .i64 t275)) (fun _ hk => hk.2) (.slice Ao37 t276.length co37)) (fun _ hk => hk.2) (.slice Ao38 t279.length co38)) (fun _ hk => hk.2) (.slice Ao39 t282.length co39)) (fun _ h_ => h_.1)))); (case side2 => exact (Kd.R_reads' HO278.out).2.1); (case side3 => refine (Kd.R_reads' (e := 9) (base := w.heap.size) (ok := fun k_ => ((True ∧ some k_ ≠ (.slice Ao22 t258.length co22 : Value).ownBlock) ∧ some k_ ≠ (.slice Ao29 t268.length co29 : Value).ownBlock)) (n := t279.length) (c := co38) ?_).2.2; exact (by (with_reducible repeat (first | apply Kd.R_alloc | apply Kd.R_drewN | apply Kd.R_drew)); exact (Kd.R_mono (Kd.R_far (p := ⟨gb285, 3, none⟩) (Kd.R_far (p := ⟨gb285, 2, none⟩) (Kd.R_far (p := ⟨gb285, 1, none⟩) (Kd.R_far (p := ⟨gb285, 0, none⟩) (Kd.R_types HO281.out BK285.out (by decide)) (fun _ hk => hk.2) (.int .i64 t275)) (fun _ hk => hk.2) (.slice Ao37 t276.length co37)) (fun _ hk => hk.2) (.slice Ao38 t279.length co38)) (fun _ hk => hk.2) (.slice Ao39 t282.length co39)) (fun _ h_ => h_.1)))); (case side4 => exact (Kd.R_reads' HO281.out).2.1); (case side5 => refine (Kd.R_reads' (e := 3) (base := w.heap.size) (ok := fun k_ => ((True ∧ some k_ ≠ (.slice Ao23 t261.length co23 : Value).ownBlock) ∧ some k_ ≠ (.slice Ao30 t271.length co30 : Value).ownBlock)) (n := t282.length) (c := co39) ?_).2.2; exact (by (with_reducible repeat (first | apply Kd.R_alloc | apply Kd.R_drewN | apply Kd.R_drew)); exact (Kd.R_mono (Kd.R_far (p := ⟨gb285, 3, none⟩) (Kd.R_far (p := ⟨gb285, 2, none⟩) (Kd.R_far (p := ⟨gb285, 1, none⟩) (Kd.R_far (p := ⟨gb285, 0, none⟩) (Kd.R_types HO284.out BK285.out (by decide)) (fun _ hk => hk.2) (.int .i64 t275)) (fun _ hk => hk.2) (.slice Ao37 t276.length co37)) (fun _ hk => hk.2) (.slice Ao38 t279.length co38)) (fun _ hk => hk.2) (.slice Ao39 t282.length co39)) (fun _ h_ => h_.1)))); (case side6 => exact (Kd.R_reads' HO284.out).2.1); rintro e w40 ⟨v288, v291, v294, rfl, ho0, ho1, ho2, hb⟩; refine ⟨_, rfl, ?_⟩; have n0_ := Aside0.mk (Kd.R_elder' (by (with_reducible repeat (first | apply Kd.R_alloc | apply Kd.R_drewN | apply Kd.R_drew)); exact (Kd.R_mono (Kd.R_far (p := ⟨gb285, 3, none⟩) (Kd.R_far (p := ⟨gb285, 2, none⟩) (Kd.R_far (p := ⟨gb285, 1, none⟩) (Kd.R_far (p := ⟨gb285, 0, none⟩) (Kd.R_types HO257.out BK285.out (by decide)) (fun _ hk => hk.2) (.int .i64 t275)) (fun _ hk => hk.2) (.slice Ao37 t276.length co37)) (fun _ hk => hk.2) (.slice Ao38 t279.length co38)) (fun _ hk => hk.2) (.slice Ao39 t282.length co39)) (fun _ h_ => h_.1))) (Kd.R_base ho0) hb); have n1_ := Aside0.mk (Kd.R_elder' (by (with_reducible repeat (first | apply Kd.R_alloc | apply Kd.R_drewN | apply Kd.R_drew)); exact (Kd.R_mono (Kd.R_far (p := ⟨gb285, 3, none⟩) (Kd.R_far (p := ⟨gb285, 2, none⟩) (Kd.R_far (p := ⟨gb285, 1, none⟩) (Kd.R_far (p := ⟨gb285, 0, none⟩) (Kd.R_types HO260.out BK285.out (by decide)) (fun _ hk => hk.2) (.int .i64 t275)) (fun _ hk => hk.2) (.slice Ao37 t276.length co37)) (fun _ hk => hk.2) (.slice Ao38 t279.length co38)) (fun _ hk => hk.2) (.slice Ao39 t282.length co39)) (fun _ h_ => h_.1))) (Kd.R_base ho1) hb); have n2_ := Aside0.mk (Kd.R_elder' (by (with_reducible repeat (first | apply Kd.R_alloc | apply Kd.R_drewN | apply Kd.R_drew)); exact (Kd.R_mono (Kd.R_far (p := ⟨gb285, 3, none⟩) (Kd.R_far (p := ⟨gb285, 2, none⟩) (Kd.R_far (p := ⟨gb285, 1, none⟩) (Kd.R_far (p := ⟨gb285, 0, none⟩) (Kd.R_types HO263.out BK285.out (by decide)) (fun _ hk => hk.2) (.int .i64 t275)) (fun _ hk => hk.2) (.slice Ao37 t276.length co37)) (fun _ hk => hk.2) (.slice Ao38 t279.length co38)) (fun _ hk => hk.2) (.slice Ao39 t282.length co39)) (fun _ h_ => h_.1))) (Kd.R_base ho2) hb); have n3_ := Aside0.mk (Kd.R_elder' (by (with_reducible repeat (first | apply Kd.R_alloc | apply Kd.R_drewN | apply Kd.R_drew)); exact (Kd.R_mono (Kd.R_far (p := ⟨gb285, 3, none⟩) (Kd.R_far (p := ⟨gb285, 2, none⟩) (Kd.R_far (p := ⟨gb285, 1, none⟩) (Kd.R_far (p := ⟨gb285, 0, none⟩) (Kd.R_types HO267.out BK285.out (by decide)) (fun _ hk => hk.2) (.int .i64 t275)) (fun _ hk => hk.2) (.slice Ao37 t276.length co37)) (fun _ hk => hk.2) (.slice Ao38 t279.length co38)) (fun _ hk => hk.2) (.slice Ao39 t282.length co39)) (fun _ h_ => h_.1))) (Kd.R_base ho0) hb); have n4_ := Aside0.mk (Kd.R_elder' (by (with_reducible repeat (first | apply Kd.R_alloc | apply Kd.R_drewN | apply Kd.R_drew)); exact (Kd.R_mono (Kd.R_far (p := ⟨gb285, 3, none⟩) (Kd.R_far (p := ⟨gb285, 2, none⟩) (Kd.R_far (p := ⟨gb285, 1, none⟩) (Kd.R_far (p := ⟨gb285, 0, none⟩) (Kd.R_types HO270.out BK285.out (by decide)) (fun _ hk => hk.2) (.int .i64 t275)) (fun _ hk => hk.2) (.slice Ao37 t276.length co37)) (fun _ hk => hk.2) (.slice Ao38 t279.length co38)) (fun _ hk => hk.2) (.slice Ao39 t282.length co39)) (fun _ h_ => h_.1))) (Kd.R_base ho1) hb); have n5_ := Aside0.mk (Kd.R_elder' (by (with_reducible repeat (first | apply Kd.R_alloc | apply Kd.R_drewN | apply Kd.R_drew)); exact (Kd.R_mono (Kd.R_far (p := ⟨gb285, 3, none⟩) (Kd.R_far (p := ⟨gb285, 2, none⟩) (Kd.R_far (p := ⟨gb285, 1, none⟩) (Kd.R_far (p := ⟨gb285, 0, none⟩) (Kd.R_types HO273.out BK285.out (by decide)) (fun _ hk => hk.2) (.int .i64 t275)) (fun _ hk => hk.2) (.slice Ao37 t276.length co37)) (fun _ hk => hk.2) (.slice Ao38 t279.length co38)) (fun _ hk => hk.2) (.slice Ao39 t282.length co39)) (fun _ h_ => h_.1))) (Kd.R_base ho2) hb); have n6_ := Aside0.mk (Kd.R_elder' (by (with_reducible repeat (first | apply Kd.R_alloc | apply Kd.R_drewN | apply Kd.R_drew)); exact (Kd.R_mono (Kd.R_far (p := ⟨gb285, 3, none⟩) (Kd.R_far (p := ⟨gb285, 2, none⟩) (Kd.R_far (p := ⟨gb285, 1, none⟩) (Kd.R_far (p := ⟨gb285, 0, none⟩) (Kd.R_types HO278.out BK285.out (by decide)) (fun _ hk => hk.2) (.int .i64 t275)) (fun _ hk => hk.2) (.slice Ao37 t276.length co37)) (fun _ hk => hk.2) (.slice Ao38 t279.length co38)) (fun _ hk => hk.2) (.slice Ao39 t282.length co39)) (fun _ h_ => h_.1))) (Kd.R_base ho0) hb); have n7_ := Aside0.mk (Kd.R_elder' (by (with_reducible repeat (first | apply Kd.R_alloc | apply Kd.R_drewN | apply Kd.R_drew)); exact (Kd.R_mono (Kd.R_far (p := ⟨gb285, 3, none⟩) (Kd.R_far (p := ⟨gb285, 2, none⟩) (Kd.R_far (p := ⟨gb285, 1, none⟩) (Kd.R_far (p := ⟨gb285, 0, none⟩) (Kd.R_types HO281.out BK285.out (by decide)) (fun _ hk => hk.2) (.int .i64 t275)) (fun _ hk => hk.2) (.slice Ao37 t276.length co37)) (fun _ hk => hk.2) (.slice Ao38 t279.length co38)) (fun _ hk => hk.2) (.slice Ao39 t282.length co39)) (fun _ h_ => h_.1))) (Kd.R_base ho1) hb); have n8_ := Aside0.mk (Kd.R_elder' (by (with_reducible repeat (first | apply Kd.R_alloc | apply Kd.R_drewN | apply Kd.R_drew)); exact (Kd.R_mono (Kd.R_far (p := ⟨gb285, 3, none⟩) (Kd.R_far (p := ⟨gb285, 2, none⟩) (Kd.R_far (p := ⟨gb285, 1, none⟩) (Kd.R_far (p := ⟨gb285, 0, none⟩) (Kd.R_types HO284.out BK285.out (by decide)) (fun _ hk => hk.2) (.int .i64 t275)) (fun _ hk => hk.2) (.slice Ao37 t276.length co37)) (fun _ hk => hk.2) (.slice Ao38 t279.length co38)) (fun _ hk => hk.2) (.slice Ao39 t282.length co39)) (fun _ h_ => h_.1))) (Kd.R_base ho2) hb); have n9_ := Aside0.mk (Kd.R_lower (Kd.R_new' (Kd.R_new' (Kd.R_new' ho0 (Kd.R_lt (by (with_reducible repeat (first | apply Kd.R_alloc | apply Kd.R_drewN | apply Kd.R_drew)); exact (Kd.R_mono (Kd.R_far (p := ⟨gb285, 3, none⟩) (Kd.R_far (p := ⟨gb285, 2, none⟩) (Kd.R_far (p := ⟨gb285, 1, none⟩) (Kd.R_far (p := ⟨gb285, 0, none⟩) (Kd.R_types HO257.out BK285.out (by decide)) (fun _ hk => hk.2) (.int .i64 t275)) (fun _ hk => hk.2) (.slice Ao37 t276.length co37)) (fun _ hk => hk.2) (.slice Ao38 t279.length co38)) (fun _ hk => hk.2) (.slice Ao39 t282.length co39)) (fun _ h_ => h_.1))))) (Kd.R_lt (by (with_reducible repeat (first | apply Kd.R_alloc | apply Kd.R_drewN | apply Kd.R_drew)); exact (Kd.R_mono (Kd.R_far (p := ⟨gb285, 3, none⟩) (Kd.R_far (p := ⟨gb285, 2, none⟩) (Kd.R_far (p := ⟨gb285, 1, none⟩) (Kd.R_far (p := ⟨gb285, 0, none⟩) (Kd.R_types HO267.out BK285.out (by decide)) (fun _ hk => hk.2) (.int .i64 t275)) (fun _ hk => hk.2) (.slice Ao37 t276.length co37)) (fun _ hk => hk.2) (.slice Ao38 t279.length co38)) (fun _ hk => hk.2) (.slice Ao39 t282.length co39)) (fun _ h_ => h_.1))))) (Kd.R_lt (by (with_reducible repeat (first | apply Kd.R_alloc | apply Kd.R_drewN | apply Kd.R_drew)); exact (Kd.R_mono (Kd.R_far (p := ⟨gb285, 3, none⟩) (Kd.R_far (p := ⟨gb285, 2, none⟩) (Kd.R_far (p := ⟨gb285, 1, none⟩) (Kd.R_far (p := ⟨gb285, 0, none⟩) (Kd.R_types HO278.out BK285.out (by decide)) (fun _ hk => hk.2) (.int .i64 t275)) (fun _ hk => hk.2) (.slice Ao37 t276.length co37)) (fun _ hk => hk.2) (.slice Ao38 t279.length co38)) (fun _ hk => hk.2) (.slice Ao39 t282.length co39)) (fun _ h_ => h_.1))))) (below_size (BB HB))); have n10_ := Aside0.mk (Kd.R_lower (Kd.R_new' (Kd.R_new' (Kd.R_new' ho1 (Kd.R_lt (by (with_reducible repeat (first | apply Kd.R_alloc | apply Kd.R_drewN | apply Kd.R_drew)); exact (Kd.R_mono (Kd.R_far (p := ⟨gb285, 3, none⟩) (Kd.R_far (p := ⟨gb285, 2, none⟩) (Kd.R_far (p := ⟨gb285, 1, none⟩) (Kd.R_far (p := ⟨gb285, 0, none⟩) (Kd.R_types HO260.out BK285.out (by decide)) (fun _ hk => hk.2) (.int .i64 t275)) (fun _ hk => hk.2) (.slice Ao37 t276.length co37)) (fun _ hk => hk.2) (.slice Ao38 t279.length co38)) (fun _ hk => hk.2) (.slice Ao39 t282.length co39)) (fun _ h_ => h_.1))))) (Kd.R_lt (by (with_reducible repeat (first | apply Kd.R_alloc | apply Kd.R_drewN | apply Kd.R_drew)); exact (Kd.R_mono (Kd.R_far (p := ⟨gb285, 3, none⟩) (Kd.R_far (p := ⟨gb285, 2, none⟩) (Kd.R_far (p := ⟨gb285, 1, none⟩) (Kd.R_far (p := ⟨gb285, 0, none⟩) (Kd.R_types HO270.out BK285.out (by decide)) (fun _ hk => hk.2) (.int .i64 t275)) (fun _ hk => hk.2) (.slice Ao37 t276.length co37)) (fun _ hk => hk.2) (.slice Ao38 t279.length co38)) (fun _ hk => hk.2) (.slice Ao39 t282.length co39)) (fun _ h_ => h_.1))))) (Kd.R_lt (by (with_reducible repeat (first | apply Kd.R_alloc | apply Kd.R_drewN | apply Kd.R_drew)); exact (Kd.R_mono (Kd.R_far (p := ⟨gb285, 3, none⟩) (Kd.R_far (p := ⟨gb285, 2, none⟩) (Kd.R_far (p := ⟨gb285, 1, none⟩) (Kd.R_far (p := ⟨gb285, 0, none⟩) (Kd.R_types HO281.out BK285.out (by decide)) (fun _ hk => hk.2) (.int .i64 t275)) (fun _ hk => hk.2) (.slice Ao37 t276.length co37)) (fun _ hk => hk.2) (.slice Ao38 t279.length co38)) (fun _ hk => hk.2) (.slice Ao39 t282.length co39)) (fun _ h_ => h_.1))))) (below_size (BB HB))); have n11_ := Aside0.mk (Kd.R_lower (Kd.R_new' (Kd.R_new' (Kd.R_new' ho2 (Kd.R_lt (by (with_reducible repeat (first | apply Kd.R_alloc | apply Kd.R_drewN | apply Kd.R_drew)); exact (Kd.R_mono (Kd.R_far (p := ⟨gb285, 3, none⟩) (Kd.R_far (p := ⟨gb285, 2, none⟩) (Kd.R_far (p := ⟨gb285, 1, none⟩) (Kd.R_far (p := ⟨gb285, 0, none⟩) (Kd.R_types HO263.out BK285.out (by decide)) (fun _ hk => hk.2) (.int .i64 t275)) (fun _ hk => hk.2) (.slice Ao37 t276.length co37)) (fun _ hk => hk.2) (.slice Ao38 t279.length co38)) (fun _ hk => hk.2) (.slice Ao39 t282.length co39)) (fun _ h_ => h_.1))))) (Kd.R_lt (by (with_reducible repeat (first | apply Kd.R_alloc | apply Kd.R_drewN | apply Kd.R_drew)); exact (Kd.R_mono (Kd.R_far (p := ⟨gb285, 3, none⟩) (Kd.R_far (p := ⟨gb285, 2, none⟩) (Kd.R_far (p := ⟨gb285, 1, none⟩) (Kd.R_far (p := ⟨gb285, 0, none⟩) (Kd.R_types HO273.out BK285.out (by decide)) (fun _ hk => hk.2) (.int .i64 t275)) (fun _ hk => hk.2) (.slice Ao37 t276.length co37)) (fun _ hk => hk.2) (.slice Ao38 t279.length co38)) (fun _ hk => hk.2) (.slice Ao39 t282.length co39)) (fun _ h_ => h_.1))))) (Kd.R_lt (by (with_reducible repeat (first | apply Kd.R_alloc | apply Kd.R_drewN | apply Kd.R_drew)); exact (Kd.R_mono (Kd.R_far (p := ⟨gb285, 3, none⟩) (Kd.R_far (p := ⟨gb285, 2, none⟩) (Kd.R_far (p := ⟨gb285, 1, none⟩) (Kd.R_far (p := ⟨gb285, 0, none⟩) (Kd.R_types HO284.out BK285.out (by decide)) (fun _ hk => hk.2) (.int .i64 t275)) (fun _ hk => hk.2) (.slice Ao37 t276.length co37)) (fun _ hk => hk.2) (.slice Ao38 t279.length co38)) (fun _ hk => hk.2) (.slice Ao39 t282.length co39)) (fun _ h_ => h_.1))))) (below_size (BB HB))); have n12_ := Aside0.mk (blk_below (g := gb250) (o := .cells #[.int .i64 a0_0, .slice A0_1 l0_1.length c0_1, .slice A0_2 l0_2.length c0_2, .slice A0_3 l0_3.length c0_3] 26 (0, 0)) (by (with_reducible repeat (first | refine blk_drewN ?_ _ | refine blk_drew ?_ | refine blk_alloc ?_ _)); refine blk_far ?_ NB250_285.out _; (with_reducible repeat (first | refine blk_drewN ?_ _ | refine blk_drew ?_ | refine blk_alloc ?_ _)); refine blk_far ?_ NB250_285.out _; (with_reducible repeat (first | refine blk_drewN ?_ _ | refine blk_drew ?_ | refine blk_alloc ?_ _)); refine blk_far ?_ NB250_285.out _; (with_reducible repeat (first | refine blk_drewN ?_ _ | refine blk_drew ?_ | refine blk_alloc ?_ _)); refine blk_far ?_ NB250_285.out _; (with_reducible repeat (first | refine blk_drewN ?_ _ | refine blk_drew ?_ | refine blk_alloc ?_ _)); exact BK250.out) hb); have n13_ := Aside0.mk (blk_below (g := gb274) (o := .cells #[.int .i64 t264, .slice Ao28 t265.length co28, .slice Ao29 t268.length co29, .slice Ao30 t271.length co30] 26 (0, 0)) (by (with_reducible repeat (first | refine blk_drewN ?_ _ | refine blk_drew ?_ | refine blk_alloc ?_ _)); refine blk_far ?_ NB274_285.out _; (with_reducible repeat (first | refine blk_drewN ?_ _ | refine blk_drew ?_ | refine blk_alloc ?_ _)); refine blk_far ?_ NB274_285.out _; (with_reducible repeat (first | refine blk_drewN ?_ _ | refine blk_drew ?_ | refine blk_alloc ?_ _)); refine blk_far ?_ NB274_285.out _; (with_reducible repeat (first | refine blk_drewN ?_ _ | refine blk_drew ?_ | refine blk_alloc ?_ _)); refine blk_far ?_ NB274_285.out _; (with_reducible repeat (first | refine blk_drewN ?_ _ | refine blk_drew ?_ | refine blk_alloc ?_ _)); exact BK274.out) hb); have n14_ := Aside0.mk (blk_below (g := gb285) (o := .cells #[.int .i64 t275, .slice Ao37 t276.length co37, .slice Ao38 t279.length co38, .slice Ao39 t282.length co39] 26 (0, 0)) (by (with_reducible repeat (first | refine blk_drewN ?_ _ | refine blk_drew ?_ | refine blk_alloc ?_ _)); refine blk_put (cs := #[.int .i64 t275, .slice Ao37 t276.length co37, .slice Ao38 t279.length co38, .slice none 0 0]) ?_ 3 _ rfl; (with_reducible repeat (first | refine blk_drewN ?_ _ | refine blk_drew ?_ | refine blk_alloc ?_ _)); refine blk_put (cs := #[.int .i64 t275, .slice Ao37 t276.length co37, .slice none 0 0, .slice none 0 0]) ?_ 2 _ rfl; (with_reducible repeat (first | refine blk_drewN ?_ _ | refine blk_drew ?_ | refine blk_alloc ?_ _)); refine blk_put (cs := #[.int .i64 t275, .slice none 0 0, .slice none 0 0, .slice none 0 0]) ?_ 1 _ rfl; (with_reducible repeat (first | refine blk_drewN ?_ _ | refine blk_drew ?_ | refine blk_alloc ?_ _)); refine blk_put (cs := #[.int .i64 0, .slice none 0 0, .slice none 0 0, .slice none 0 0]) ?_ 0 _ rfl; (with_reducible repeat (first | refine blk_drewN ?_ _ | refine blk_drew ?_ | refine blk_alloc ?_ _)); exact BK285.out) hb); have n15_ := Aside0.mk (below_step (BB HB) hb); clear HO257; clear HO260; clear HO263; clear HO267; clear HO270; clear HO273; clear HO278; clear HO281; clear HO284; clear BK250; clear BK274; clear BK285; clear HB; have HO257 := n0_; have HO260 := n1_; have HO263 := n2_; have HO267 := n3_; have HO270 := n4_; have HO273 := n5_; have HO278 := n6_; have HO281 := n7_; have HO284 := n8_; have HO289 := n9_; have HO292 := n10_; have HO295 := n11_; have BK250 := n12_; have BK274 := n13_; have BK285 := n14_; have HB := n15_; clear n0_ n1_ n2_ n3_ n4_ n5_ n6_ n7_ n8_ n9_ n10_ n11_ n12_ n13_ n14_ n15_; (try clear hb); (try clear hb2); (try clear hk); (try clear hi); (try clear ho0); (try clear ho1); (try clear ho2)) | ((with_reducible refine gate_dst (N := 7) rfl ?_); refine box_event ?hg (N := 7) ?hd (cs := #[.int .i64 0, .slice none 0 0, .slice none 0 0, .slice none 0 0]) (t := 26) ?hr ?_; (case hd => rfl); (case hg => rfl); (case hr => first | (go_simp; done) | (go_simp; rfl)); intro gb296 hg w41 hbox hb; have n0_ := Aside0.mk (Kd.R_below (RL HO257) hb); have n1_ := Aside0.mk (Kd.R_below (RL HO260) hb); have n2_ := Aside0.mk (Kd.R_below (RL HO263) hb); have n3_ := Aside0.mk (Kd.R_below (RL HO267) hb); have n4_ := Aside0.mk (Kd.R_below (RL HO270) hb); have n5_ := Aside0.mk (Kd.R_below (RL HO273) hb); have n6_ := Aside0.mk (Kd.R_below (RL HO278) hb); have n7_ := Aside0.mk (Kd.R_below (RL HO281) hb); have n8_ := Aside0.mk (Kd.R_below (RL HO284) hb); have n9_ := Aside0.mk (Kd.R_below (RL HO289) hb); have n10_ := Aside0.mk (Kd.R_below (RL HO292) hb); have n11_ := Aside0.mk (Kd.R_below (RL HO295) hb); have n12_ := BE BK250 hb; have n13_ := BE BK274 hb; have n14_ := BE BK285 hb; have n15_ := Aside0.mk (below_step (BB HB) hb); have n16_ := Aside0.mk (hbox); have n17_ := Aside0.mk ((by rw [hg]; exact (below_size (BB HB)) : w.heap.size ≤ gb296)); have n18_ := Aside0.mk ((by rw [hg]; exact (below_size (BB HB)) : w.heap.size ≤ gb296)); have n19_ := Aside0.mk ((by rw [hg]; exact Nat.ne_of_lt (blk_lt (g := gb250) (o := .cells #[.int .i64 a0_0, .slice A0_1 l0_1.length c0_1, .slice A0_2 l0_2.length c0_2, .slice A0_3 l0_3.length c0_3] 26 (0, 0)) (BL BK250)) : gb250 ≠ gb296)); have n20_ := Aside0.mk ((by rw [hg]; exact Nat.ne_of_gt (blk_lt (g := gb250) (o := .cells #[.int .i64 a0_0, .slice A0_1 l0_1.length c0_1, .slice A0_2 l0_2.length c0_2, .slice A0_3 l0_3.length c0_3] 26 (0, 0)) (BL BK250)) : gb296 ≠ gb250)); have n21_ := Aside0.mk ((by rw [hg]; exact Nat.ne_of_lt (blk_lt (g := gb274) (o := .cells #[.int .i64 t264, .slice Ao28 t265.length co28, .slice Ao29 t268.length co29, .slice Ao30 t271.length co30] 26 (0, 0)) (BL BK274)) : gb274 ≠ gb296)); have n22_ := Aside0.mk ((by rw [hg]; exact Nat.ne_of_gt (blk_lt (g := gb274) (o := .cells #[.int .i64 t264, .slice Ao28 t265.length co28, .slice Ao29 t268.length co29, .slice Ao30 t271.length co30] 26 (0, 0)) (BL BK274)) : gb296 ≠ gb274)); have n23_ := Aside0.mk ((by rw [hg]; exact Nat.ne_of_lt (blk_lt (g := gb285) (o := .cells #[.int .i64 t275, .slice Ao37 t276.length co37, .slice Ao38 t279.length co38, .slice Ao39 t282.length co39] 26 (0, 0)) (BL BK285)) : gb285 ≠ gb296)); have n24_ := Aside0.mk ((by rw [hg]; exact Nat.ne_of_gt (blk_lt (g := gb285) (o := .cells #[.int .i64 t275, .slice Ao37 t276.length co37, .slice Ao38 t279.length co38, .slice Ao39 t282.length co39] 26 (0, 0)) (BL BK285)) : gb296 ≠ gb285)); clear HO257; clear HO260; clear HO263; clear HO267; clear HO270; clear HO273; clear HO278; clear HO281; clear HO284; clear HO289; clear HO292; clear HO295; clear BK250; clear BK274; clear BK285; clear HB; have HO257 := n0_; have HO260 := n1_; have HO263 := n2_; have HO267 := n3_; have HO270 := n4_; have HO273 := n5_; have HO278 := n6_; have HO281 := n7_; have HO284 := n8_; have HO289 := n9_; have HO292 := n10_; have HO295 := n11_; have BK250 := n12_; have BK274 := n13_; have BK285 := n14_; have HB := n15_; have BK296 := n16_; have GW296 := n17_; have GE296 := n18_; have NB250_296 := n19_; have NB296_250 := n20_; have NB274_296 := n21_; have NB296_274 := n22_; have NB285_296 := n23_; have NB296_285 := n24_; clear n0_ n1_ n2_ n3_ n4_ n5_ n6_ n7_ n8_ n9_ n10_ n11_ n12_ n13_ n14_ n15_ n16_ n17_ n18_ n19_ n20_ n21_ n22_ n23_ n24_; clear hb hbox hg; have hnb42 := NB296_250.out; have hnc42 := NB250_296.out; have hnb43 := NB296_274.out; have hnc43 := NB274_296.out; have hnb44 := NB296_285.out; have hnc44 := NB285_296.out; have hcz45_0 : w41.cell? ⟨gb296, 0, none⟩ = some (.int .i64 0) := (blk_cell BK296.out 0).trans rfl; have hcz45_1 : w41.cell? ⟨gb296, 1, none⟩ = some (.slice none 0 0) := (blk_cell BK296.out 1).trans rfl; have hcz45_2 : w41.cell? ⟨gb296, 2, none⟩ = some (.slice none 0 0) := (blk_cell BK296.out 2).trans rfl; have hcz45_3 : w41.cell? ⟨gb296, 3, none⟩ = some (.slice none 0 0) := (blk_cell BK296.out 3).trans rfl; have hfz45_0 := blk_frozen BK296.out 0; have hfz45_1 := blk_frozen BK296.out 1; have hfz45_2 := blk_frozen BK296.out 2; have hfz45_3 := blk_frozen BK296.out 3; obtain ⟨Ao46, co46, eo46⟩ := Kd.R_slice HO289.out; subst eo46; obtain ⟨Ao47, co47, eo47⟩ := Kd.R_slice HO292.out; subst eo47; obtain ⟨Ao48, co48, eo48⟩ := Kd.R_slice HO295.out; subst eo48))
    go_loopg [28] kj2 (fun kq v28 w' => ∃ (x28_2 : Int) (x275001_2 : List Int) (x286001_2 : List Int) (x297001_2 : List Int) (u275001 : Value) (u286001 : Value) (u297001 : Value), v28 = .int .i64 x28_2 ∧ Aside0 (dioramalaw08_FieldOld.l0 kq a1 (t287.length : Int) x28_2 a0_0 l0_1 l0_2 l0_3 t264 x275001_2 t268 t271 t275 x286001_2 t279 t282 t286 x297001_2 t290 t293 = some r) ∧ Aside0 (kq ≤ kj2) ∧ Aside0 (Kd.R (Kd.int .i64) 2 w' w.heap.size (fun k_ => some k_ ≠ (u286001 : Value).ownBlock ∧ some k_ ≠ (u297001 : Value).ownBlock) u275001 x275001_2) ∧ Aside0 (Kd.R Kd.string 9 w' w.heap.size (fun k_ => some k_ ≠ ((.slice Ao38 t279.length co38) : Value).ownBlock ∧ some k_ ≠ ((.slice Ao47 t290.length co47) : Value).ownBlock) (.slice Ao29 t268.length co29) t268) ∧ Aside0 (Kd.R (Kd.int .i64) 3 w' w.heap.size (fun k_ => some k_ ≠ ((.slice Ao39 t282.length co39) : Value).ownBlock ∧ some k_ ≠ ((.slice Ao48 t293.length co48) : Value).ownBlock) (.slice Ao30 t271.length co30) t271) ∧ Aside0 (Kd.R (Kd.int .i64) 2 w' w.heap.size (fun k_ => some k_ ≠ (u275001 : Value).ownBlock ∧ some k_ ≠ (u297001 : Value).ownBlock) u286001 x286001_2) ∧ Aside0 (Kd.R Kd.string 9 w' w.heap.size (fun k_ => some k_ ≠ ((.slice Ao29 t268.length co29) : Value).ownBlock ∧ some k_ ≠ ((.slice Ao47 t290.length co47) : Value).ownBlock) (.slice Ao38 t279.length co38) t279) ∧ Aside0 (Kd.R (Kd.int .i64) 3 w' w.heap.size (fun k_ => some k_ ≠ ((.slice Ao30 t271.length co30) : Value).ownBlock ∧ some k_ ≠ ((.slice Ao48 t293.length co48) : Value).ownBlock) (.slice Ao39 t282.length co39) t282) ∧ Aside0 (Kd.R (Kd.int .i64) 2 w' w.heap.size (fun k_ => some k_ ≠ (u275001 : Value).ownBlock ∧ some k_ ≠ (u286001 : Value).ownBlock) u297001 x297001_2) ∧ Aside0 (Kd.R Kd.string 9 w' w.heap.size (fun k_ => some k_ ≠ ((.slice Ao29 t268.length co29) : Value).ownBlock ∧ some k_ ≠ ((.slice Ao38 t279.length co38) : Value).ownBlock) (.slice Ao47 t290.length co47) t290) ∧ Aside0 (Kd.R (Kd.int .i64) 3 w' w.heap.size (fun k_ => some k_ ≠ ((.slice Ao30 t271.length co30) : Value).ownBlock ∧ some k_ ≠ ((.slice Ao39 t282.length co39) : Value).ownBlock) (.slice Ao48 t293.length co48) t293) ∧ Aside0 (w'.heap[gb250]? = some (.cells #[.int .i64 a0_0, (.slice A0_1 l0_1.length c0_1), (.slice A0_2 l0_2.length c0_2), (.slice A0_3 l0_3.length c0_3)] 26 (0, 0))) ∧ Aside0 (w'.heap[gb274]? = some (.cells #[.int .i64 t264, u275001, (.slice Ao29 t268.length co29), (.slice Ao30 t271.length co30)] 26 (0, 0))) ∧ Aside0 (w'.heap[gb285]? = some (.cells #[.int .i64 t275, u286001, (.slice Ao38 t279.length co38), (.slice Ao39 t282.length co39)] 26 (0, 0))) ∧ Aside0 (w'.heap[gb296]? = some (.cells #[.int .i64 t286, u297001, (.slice Ao47 t290.length co47), (.slice Ao48 t293.length co48)] 26 (0, 0))) ∧ Aside0 (Below w.heap.size w w'))
    case atStart => exact ⟨(0), (t265), (t276), (t287), (.slice Ao28 t265.length co28), (.slice Ao37 t276.length co37), (.slice Ao46 t287.length co46), (by first | rfl | (simp; done) | (simp [*]; done)), H', ⟨Nat.le_refl _⟩, ⟨by (with_reducible repeat (first | apply Kd.R_alloc | apply Kd.R_drewN | apply Kd.R_drew)); exact Kd.R_mono (Kd.R_far (p := ⟨gb296, 3, none⟩) (Kd.R_far (p := ⟨gb296, 2, none⟩) (Kd.R_far (p := ⟨gb296, 1, none⟩) (Kd.R_far (p := ⟨gb296, 0, none⟩) (Kd.R_types HO267.out BK296.out (by decide)) (fun _ hk => hk.2) (.int .i64 t286)) (fun _ hk => hk.2) (.slice Ao46 t287.length co46)) (fun _ hk => hk.2) (.slice Ao47 t290.length co47)) (fun _ hk => hk.2) (.slice Ao48 t293.length co48)) (fun _ hk => ⟨hk.1.1.2, hk.1.2⟩)⟩, ⟨by (with_reducible repeat (first | apply Kd.R_alloc | apply Kd.R_drewN | apply Kd.R_drew)); exact Kd.R_mono (Kd.R_far (p := ⟨gb296, 3, none⟩) (Kd.R_far (p := ⟨gb296, 2, none⟩) (Kd.R_far (p := ⟨gb296, 1, none⟩) (Kd.R_far (p := ⟨gb296, 0, none⟩) (Kd.R_types HO270.out BK296.out (by decide)) (fun _ hk => hk.2) (.int .i64 t286)) (fun _ hk => hk.2) (.slice Ao46 t287.length co46)) (fun _ hk => hk.2) (.slice Ao47 t290.length co47)) (fun _ hk => hk.2) (.slice Ao48 t293.length co48)) (fun _ hk => ⟨hk.1.1.2, hk.1.2⟩)⟩, ⟨by (with_reducible repeat (first | apply Kd.R_alloc | apply Kd.R_drewN | apply Kd.R_drew)); exact Kd.R_mono (Kd.R_far (p := ⟨gb296, 3, none⟩) (Kd.R_far (p := ⟨gb296, 2, none⟩) (Kd.R_far (p := ⟨gb296, 1, none⟩) (Kd.R_far (p := ⟨gb296, 0, none⟩) (Kd.R_types HO273.out BK296.out (by decide)) (fun _ hk => hk.2) (.int .i64 t286)) (fun _ hk => hk.2) (.slice Ao46 t287.length co46)) (fun _ hk => hk.2) (.slice Ao47 t290.length co47)) (fun _ hk => hk.2) (.slice Ao48 t293.length co48)) (fun _ hk => ⟨hk.1.1.2, hk.1.2⟩)⟩, ⟨by (with_reducible repeat (first | apply Kd.R_alloc | apply Kd.R_drewN | apply Kd.R_drew)); exact Kd.R_mono (Kd.R_far (p := ⟨gb296, 3, none⟩) (Kd.R_far (p := ⟨gb296, 2, none⟩) (Kd.R_far (p := ⟨gb296, 1, none⟩) (Kd.R_far (p := ⟨gb296, 0, none⟩) (Kd.R_types HO278.out BK296.out (by decide)) (fun _ hk => hk.2) (.int .i64 t286)) (fun _ hk => hk.2) (.slice Ao46 t287.length co46)) (fun _ hk => hk.2) (.slice Ao47 t290.length co47)) (fun _ hk => hk.2) (.slice Ao48 t293.length co48)) (fun _ hk => ⟨hk.1.1.2, hk.1.2⟩)⟩, ⟨by (with_reducible repeat (first | apply Kd.R_alloc | apply Kd.R_drewN | apply Kd.R_drew)); exact Kd.R_mono (Kd.R_far (p := ⟨gb296, 3, none⟩) (Kd.R_far (p := ⟨gb296, 2, none⟩) (Kd.R_far (p := ⟨gb296, 1, none⟩) (Kd.R_far (p := ⟨gb296, 0, none⟩) (Kd.R_types HO281.out BK296.out (by decide)) (fun _ hk => hk.2) (.int .i64 t286)) (fun _ hk => hk.2) (.slice Ao46 t287.length co46)) (fun _ hk => hk.2) (.slice Ao47 t290.length co47)) (fun _ hk => hk.2) (.slice Ao48 t293.length co48)) (fun _ hk => ⟨hk.1.1.2, hk.1.2⟩)⟩, ⟨by (with_reducible repeat (first | apply Kd.R_alloc | apply Kd.R_drewN | apply Kd.R_drew)); exact Kd.R_mono (Kd.R_far (p := ⟨gb296, 3, none⟩) (Kd.R_far (p := ⟨gb296, 2, none⟩) (Kd.R_far (p := ⟨gb296, 1, none⟩) (Kd.R_far (p := ⟨gb296, 0, none⟩) (Kd.R_types HO284.out BK296.out (by decide)) (fun _ hk => hk.2) (.int .i64 t286)) (fun _ hk => hk.2) (.slice Ao46 t287.length co46)) (fun _ hk => hk.2) (.slice Ao47 t290.length co47)) (fun _ hk => hk.2) (.slice Ao48 t293.length co48)) (fun _ hk => ⟨hk.1.1.2, hk.1.2⟩)⟩, ⟨by (with_reducible repeat (first | apply Kd.R_alloc | apply Kd.R_drewN | apply Kd.R_drew)); exact Kd.R_mono (Kd.R_far (p := ⟨gb296, 3, none⟩) (Kd.R_far (p := ⟨gb296, 2, none⟩) (Kd.R_far (p := ⟨gb296, 1, none⟩) (Kd.R_far (p := ⟨gb296, 0, none⟩) (Kd.R_types HO289.out BK296.out (by decide)) (fun _ hk => hk.2) (.int .i64 t286)) (fun _ hk => hk.2) (.slice Ao46 t287.length co46)) (fun _ hk => hk.2) (.slice Ao47 t290.length co47)) (fun _ hk => hk.2) (.slice Ao48 t293.length co48)) (fun _ hk => ⟨hk.1.1.2, hk.1.2⟩)⟩, ⟨by (with_reducible repeat (first | apply Kd.R_alloc | apply Kd.R_drewN | apply Kd.R_drew)); exact Kd.R_mono (Kd.R_far (p := ⟨gb296, 3, none⟩) (Kd.R_far (p := ⟨gb296, 2, none⟩) (Kd.R_far (p := ⟨gb296, 1, none⟩) (Kd.R_far (p := ⟨gb296, 0, none⟩) (Kd.R_types HO292.out BK296.out (by decide)) (fun _ hk => hk.2) (.int .i64 t286)) (fun _ hk => hk.2) (.slice Ao46 t287.length co46)) (fun _ hk => hk.2) (.slice Ao47 t290.length co47)) (fun _ hk => hk.2) (.slice Ao48 t293.length co48)) (fun _ hk => ⟨hk.1.1.2, hk.1.2⟩)⟩, ⟨by (with_reducible repeat (first | apply Kd.R_alloc | apply Kd.R_drewN | apply Kd.R_drew)); exact Kd.R_mono (Kd.R_far (p := ⟨gb296, 3, none⟩) (Kd.R_far (p := ⟨gb296, 2, none⟩) (Kd.R_far (p := ⟨gb296, 1, none⟩) (Kd.R_far (p := ⟨gb296, 0, none⟩) (Kd.R_types HO295.out BK296.out (by decide)) (fun _ hk => hk.2) (.int .i64 t286)) (fun _ hk => hk.2) (.slice Ao46 t287.length co46)) (fun _ hk => hk.2) (.slice Ao47 t290.length co47)) (fun _ hk => hk.2) (.slice Ao48 t293.length co48)) (fun _ hk => ⟨hk.1.1.2, hk.1.2⟩)⟩, ⟨by (with_reducible repeat (first | refine blk_drewN ?_ _ | refine blk_drew ?_ | refine blk_alloc ?_ _)); refine blk_far ?_ NB250_296.out _; (with_reducible repeat (first | refine blk_drewN ?_ _ | refine blk_drew ?_ | refine blk_alloc ?_ _)); refine blk_far ?_ NB250_296.out _; (with_reducible repeat (first | refine blk_drewN ?_ _ | refine blk_drew ?_ | refine blk_alloc ?_ _)); refine blk_far ?_ NB250_296.out _; (with_reducible repeat (first | refine blk_drewN ?_ _ | refine blk_drew ?_ | refine blk_alloc ?_ _)); refine blk_far ?_ NB250_296.out _; (with_reducible repeat (first | refine blk_drewN ?_ _ | refine blk_drew ?_ | refine blk_alloc ?_ _)); exact BK250.out⟩, ⟨by (with_reducible repeat (first | refine blk_drewN ?_ _ | refine blk_drew ?_ | refine blk_alloc ?_ _)); refine blk_far ?_ NB274_296.out _; (with_reducible repeat (first | refine blk_drewN ?_ _ | refine blk_drew ?_ | refine blk_alloc ?_ _)); refine blk_far ?_ NB274_296.out _; (with_reducible repeat (first | refine blk_drewN ?_ _ | refine blk_drew ?_ | refine blk_alloc ?_ _)); refine blk_far ?_ NB274_296.out _; (with_reducible repeat (first | refine blk_drewN ?_ _ | refine blk_drew ?_ | refine blk_alloc ?_ _)); refine blk_far ?_ NB274_296.out _; (with_reducible repeat (first | refine blk_drewN ?_ _ | refine blk_drew ?_ | refine blk_alloc ?_ _)); exact BK274.out⟩, ⟨by (with_reducible repeat (first | refine blk_drewN ?_ _ | refine blk_drew ?_ | refine blk_alloc ?_ _)); refine blk_far ?_ NB285_296.out _; (with_reducible repeat (first | refine blk_drewN ?_ _ | refine blk_drew ?_ | refine blk_alloc ?_ _)); refine blk_far ?_ NB285_296.out _; (with_reducible repeat (first | refine blk_drewN ?_ _ | refine blk_drew ?_ | refine blk_alloc ?_ _)); refine blk_far ?_ NB285_296.out _; (with_reducible repeat (first | refine blk_drewN ?_ _ | refine blk_drew ?_ | refine blk_alloc ?_ _)); refine blk_far ?_ NB285_296.out _; (with_reducible repeat (first | refine blk_drewN ?_ _ | refine blk_drew ?_ | refine blk_alloc ?_ _)); exact BK285.out⟩, ⟨by (with_reducible repeat (first | refine blk_drewN ?_ _ | refine blk_drew ?_ | refine blk_alloc ?_ _)); refine blk_put (cs := #[.int .i64 t286, .slice Ao46 t287.length co46, .slice Ao47 t290.length co47, .slice none 0 0]) ?_ 3 _ rfl; (with_reducible repeat (first | refine blk_drewN ?_ _ | refine blk_drew ?_ | refine blk_alloc ?_ _)); refine blk_put (cs := #[.int .i64 t286, .slice Ao46 t287.length co46, .slice none 0 0, .slice none 0 0]) ?_ 2 _ rfl; (with_reducible repeat (first | refine blk_drewN ?_ _ | refine blk_drew ?_ | refine blk_alloc ?_ _)); refine blk_put (cs := #[.int .i64 t286, .slice none 0 0, .slice none 0 0, .slice none 0 0]) ?_ 1 _ rfl; (with_reducible repeat (first | refine blk_drewN ?_ _ | refine blk_drew ?_ | refine blk_alloc ?_ _)); refine blk_put (cs := #[.int .i64 0, .slice none 0 0, .slice none 0 0, .slice none 0 0]) ?_ 0 _ rfl; (with_reducible repeat (first | refine blk_drewN ?_ _ | refine blk_drew ?_ | refine blk_alloc ?_ _)); exact BK296.out⟩, ⟨BB HB⟩⟩
    case round =>
     clear H'
     try clear c1
     try clear c2
     try clear p2
     try clear c3
     try clear c4
     try clear c6
     try clear c7
     try clear c12
     try clear c13
     try clear c16
     try clear c25
     try clear c26
     try clear c34
     try clear c35
     try clear c42
     try clear c43
     try clear c44
     try clear hcz19_0
     try clear hcz19_1
     try clear hcz19_2
     try clear hcz19_3
     try clear hcz27_0
     try clear hcz27_1
     try clear hcz27_2
     try clear hcz27_3
     try clear hcz31_0
     try clear hcz31_1
     try clear hcz31_2
     try clear hcz31_3
     try clear hcz36_0
     try clear hcz36_1
     try clear hcz36_2
     try clear hcz36_3
     try clear hcz45_0
     try clear hcz45_1
     try clear hcz45_2
     try clear hcz45_3
     try clear hcz9_0
     try clear hcz9_1
     try clear hcz9_2
     try clear hcz9_3
     try clear hfz19_0
     try clear hfz19_1
     try clear hfz19_2
     try clear hfz19_3
     try clear hfz27_0
     try clear hfz27_1
     try clear hfz27_2
     try clear hfz27_3
     try clear hfz31_0
     try clear hfz31_1
     try clear hfz31_2
     try clear hfz31_3
     try clear hfz36_0
     try clear hfz36_1
     try clear hfz36_2
     try clear hfz36_3
     try clear hfz45_0
     try clear hfz45_1
     try clear hfz45_2
     try clear hfz45_3
     try clear hfz9_0
     try clear hfz9_1
     try clear hfz9_2
     try clear hfz9_3
     try clear p2
     obtain ⟨x28_2, x275001_2, x286001_2, x297001_2, u275001, u286001, u297001, rfl, HA, HK2, HO_275001, HO_275002, HO_275003, HO_286001, HO_286002, HO_286003, HO_297001, HO_297002, HO_297003, BK250, BK274, BK285, BK296, HB⟩ := hrel
     cases gk with
     | zero => exact absurd HA.out (by simp [dioramalaw08_FieldOld.l0])
     | succ k2 =>
      have H := HA.out
      clear HA
      simp only [dioramalaw08_FieldOld.l0] at H
      by_cases c49 : x28_2 < (t287.length : Int)
      ·rw [if_pos c49] at H
       have c49b0 : decide (x28_2 < (t287.length : Int)) = true := decide_eq_true c49
       clear c49
       by_cases c50 : 0 ≤ x28_2
       ·rw [if_pos c50] at H
        have c50b0 : decide (0 ≤ x28_2) = true := decide_eq_true c50
        clear c50
        by_cases c51 : x28_2 < (x297001_2.length : Int)
        ·rw [if_pos c51] at H
         have c51b0 : decide (x28_2 < (x297001_2.length : Int)) = true := decide_eq_true c51
         clear c51
         obtain ⟨y297, hy297⟩ : ∃ y_ : List Int, y_ = (x297001_2.set (x28_2 : Int).toNat a1) := ⟨_, rfl⟩
         replace H : (dioramalaw08_FieldOld.l0 k2 a1 (t287.length : Int) (wrap64 (x28_2 + 1)) a0_0 l0_1 l0_2 l0_3 t264 x275001_2 t268 t271 t275 x286001_2 t279 t282 t286 y297 t290 t293) = some r := by first | (rw [hy297]; with_reducible exact H) | (have H2_ := (Option.bind_some _ _).symm.trans H; rw [hy297]; with_reducible exact H2_) | (have H2_ := (Option.bind_some _ _).symm.trans H; with_reducible exact H2_) | with_reducible exact H | (rw [hy297]; exact H) | exact H
         have Ny297 := Aside0.mk hy297
         clear hy297
         have H' := Aside0.mk H
         clear H
         have hnb53 := NB296_250.out
         have hnc53 := NB250_296.out
         have hnb54 := NB296_274.out
         have hnc54 := NB274_296.out
         have hnb55 := NB296_285.out
         have hnc55 := NB285_296.out
         have hcz56_0 : wr.cell? ⟨gb296, 0, none⟩ = some (.int .i64 t286) := (blk_cell BK296.out 0).trans rfl
         have hcz56_1 : wr.cell? ⟨gb296, 1, none⟩ = some (u297001) := (blk_cell BK296.out 1).trans rfl
         have hcz56_2 : wr.cell? ⟨gb296, 2, none⟩ = some (.slice Ao47 t290.length co47) := (blk_cell BK296.out 2).trans rfl
         have hcz56_3 : wr.cell? ⟨gb296, 3, none⟩ = some (.slice Ao48 t293.length co48) := (blk_cell BK296.out 3).trans rfl
         have hfz56_0 := blk_frozen BK296.out 0
         have hfz56_1 := blk_frozen BK296.out 1
         have hfz56_2 := blk_frozen BK296.out 2
         have hfz56_3 := blk_frozen BK296.out 3
         have p52 : 0 ≤ (x28_2 : Int) := of_decide_eq_true (by first | (with_reducible assumption) | assumption)
         have q52 : (x28_2 : Int) < ((x297001_2.length : Int) : Int) := of_decide_eq_true (by first | (with_reducible assumption) | assumption)
         obtain ⟨go52, co52, eo52, gb52, gl52, cl52, HG52⟩ := Kd.R_form HO_297001.out (by omega)
         (first | cases eo52 | (injection eo52 with ea_ en_ ec_; (first | subst ea_ | (injection ea_ with ea_; subst ea_)); subst ec_; clear en_))
         have GB52 := Aside0.mk gb52
         have GG52 := Aside0.mk HG52
         clear gb52 gl52 HG52
         obtain ⟨hx52_0, hf52_0⟩ := Kd.R_celln 0 HO_297001.out (x28_2 : Int) p52 q52
         replace p52 := eq_true p52
         replace q52 := eq_true q52
         have HP57 := Kd.R_putg HO_297001.out (x28_2 : Int) a1
         go_wp2_with (first | ((with_reducible refine gate_store (t := 2) (p := 35) rfl ?_); refine store_event (t := 2) (p := 35) (v := ?vo_w58) (w1 := (wr.setCell ⟨go52, (x28_2 : Int).toNat, none⟩ (.int .i64 a1))) ?hg ?ho ?hn ?hr ?_; (case ho => rfl); (case hg => rfl); (case hn => rfl); (case hr => first | (go_simp; done) | (go_simp; rfl)); intro w58 hw; have hg : wr.grownBy w58 (some go52) := (by rw [hw]; exact HP57.2); have hp_ : Kd.R (Kd.int .i64) 2 w58 w.heap.size (fun k_ => some k_ ≠ (u275001 : Value).ownBlock ∧ some k_ ≠ (u286001 : Value).ownBlock) (.slice (some ⟨go52, 0, none⟩) x297001_2.length co52) y297 := (by rw [hw, Ny297.out]; exact HP57.1); clear HP57; have n0_ := Aside0.mk (Kd.R_after (v := (.slice (some ⟨go52, 0, none⟩) x297001_2.length co52)) (v1 := (.slice (some ⟨go52, 0, none⟩) x297001_2.length co52)) (ok := (fun k_ => some k_ ≠ (u286001 : Value).ownBlock)) (RL HO_275001) hg (.inl rfl)); have n1_ := Aside0.mk (Kd.R_over' (v := (.slice (some ⟨go52, 0, none⟩) x297001_2.length co52)) (RL HO_275002) (Kd.R_typed HO_297001.out) (by decide) hg); have n2_ := Aside0.mk (Kd.R_over' (v := (.slice (some ⟨go52, 0, none⟩) x297001_2.length co52)) (RL HO_275003) (Kd.R_typed HO_297001.out) (by decide) hg); have n3_ := Aside0.mk (Kd.R_after (v := (.slice (some ⟨go52, 0, none⟩) x297001_2.length co52)) (v1 := (.slice (some ⟨go52, 0, none⟩) x297001_2.length co52)) (ok := (fun k_ => some k_ ≠ (u275001 : Value).ownBlock)) (RL HO_286001) hg (.inl rfl)); have n4_ := Aside0.mk (Kd.R_over' (v := (.slice (some ⟨go52, 0, none⟩) x297001_2.length co52)) (RL HO_286002) (Kd.R_typed HO_297001.out) (by decide) hg); have n5_ := Aside0.mk (Kd.R_over' (v := (.slice (some ⟨go52, 0, none⟩) x297001_2.length co52)) (RL HO_286003) (Kd.R_typed HO_297001.out) (by decide) hg); have n6_ := Aside0.mk (hp_); have n7_ := Aside0.mk (Kd.R_over' (v := (.slice (some ⟨go52, 0, none⟩) x297001_2.length co52)) (RL HO_297002) (Kd.R_typed HO_297001.out) (by decide) hg); have n8_ := Aside0.mk (Kd.R_over' (v := (.slice (some ⟨go52, 0, none⟩) x297001_2.length co52)) (RL HO_297003) (Kd.R_typed HO_297001.out) (by decide) hg); have n9_ := Aside0.mk (blk_grown (g := gb250) (o := .cells #[.int .i64 a0_0, .slice A0_1 l0_1.length c0_1, .slice A0_2 l0_2.length c0_2, .slice A0_3 l0_3.length c0_3] 26 (0, 0)) (BL BK250) hg (Kd.R_ne HO_297001.out BK250.out (by decide))); have n10_ := Aside0.mk (blk_grown (g := gb274) (o := .cells #[.int .i64 t264, u275001, .slice Ao29 t268.length co29, .slice Ao30 t271.length co30] 26 (0, 0)) (BL BK274) hg (Kd.R_ne HO_297001.out BK274.out (by decide))); have n11_ := Aside0.mk (blk_grown (g := gb285) (o := .cells #[.int .i64 t275, u286001, .slice Ao38 t279.length co38, .slice Ao39 t282.length co39] 26 (0, 0)) (BL BK285) hg (Kd.R_ne HO_297001.out BK285.out (by decide))); have n12_ := Aside0.mk (blk_grown (g := gb296) (o := .cells #[.int .i64 t286, .slice (some ⟨go52, 0, none⟩) x297001_2.length co52, .slice Ao47 t290.length co47, .slice Ao48 t293.length co48] 26 (0, 0)) (BL BK296) hg (Kd.R_ne HO_297001.out BK296.out (by decide))); have n13_ := Aside0.mk ((by rw [hw]; exact below_set (HB.out) GB52.out : Below w.heap.size w w58)); clear HO_275001; clear HO_275002; clear HO_275003; clear HO_286001; clear HO_286002; clear HO_286003; clear HO_297001; clear HO_297002; clear HO_297003; clear BK250; clear BK274; clear BK285; clear BK296; clear HB; have HO_275001 := n0_; have HO_275002 := n1_; have HO_275003 := n2_; have HO_286001 := n3_; have HO_286002 := n4_; have HO_286003 := n5_; have HO_297001 := n6_; have HO_297002 := n7_; have HO_297003 := n8_; have BK250 := n9_; have BK274 := n10_; have BK285 := n11_; have BK296 := n12_; have HB := n13_; clear n0_ n1_ n2_ n3_ n4_ n5_ n6_ n7_ n8_ n9_ n10_ n11_ n12_ n13_; clear hg hw hp_))
         go_roundg k2
         case measure => have := HJ2.out; have := HK2.out; omega
         case rel => exact ⟨(wrap64 (x28_2 + 1)), (x275001_2), (x286001_2), (y297), (u275001), (u286001), (.slice (some ⟨go52, 0, none⟩) x297001_2.length co52), (by first | rfl | (simp; done) | (simp [*]; done)), H', ⟨by have := HJ2.out; have := HK2.out; omega⟩, ⟨by (with_reducible repeat (first | apply Kd.R_alloc | apply Kd.R_drewN | apply Kd.R_drew)); exact HO_275001.out⟩, ⟨by (with_reducible repeat (first | apply Kd.R_alloc | apply Kd.R_drewN | apply Kd.R_drew)); exact HO_275002.out⟩, ⟨by (with_reducible repeat (first | apply Kd.R_alloc | apply Kd.R_drewN | apply Kd.R_drew)); exact HO_275003.out⟩, ⟨by (with_reducible repeat (first | apply Kd.R_alloc | apply Kd.R_drewN | apply Kd.R_drew)); exact HO_286001.out⟩, ⟨by (with_reducible repeat (first | apply Kd.R_alloc | apply Kd.R_drewN | apply Kd.R_drew)); exact HO_286002.out⟩, ⟨by (with_reducible repeat (first | apply Kd.R_alloc | apply Kd.R_drewN | apply Kd.R_drew)); exact HO_286003.out⟩, ⟨by (with_reducible repeat (first | apply Kd.R_alloc | apply Kd.R_drewN | apply Kd.R_drew)); exact HO_297001.out⟩, ⟨by (with_reducible repeat (first | apply Kd.R_alloc | apply Kd.R_drewN | apply Kd.R_drew)); exact HO_297002.out⟩, ⟨by (with_reducible repeat (first | apply Kd.R_alloc | apply Kd.R_drewN | apply Kd.R_drew)); exact HO_297003.out⟩, ⟨BL BK250⟩, ⟨BL BK274⟩, ⟨BL BK285⟩, ⟨BL BK296⟩, ⟨BB HB⟩⟩
        ·rw [if_neg c51] at H
         exact absurd H (by simp)
       ·rw [if_neg c50] at H
        exact absurd H (by simp)
      ·rw [if_neg c49] at H
       have c49b0 : decide (x28_2 < (t287.length : Int)) = false := decide_eq_false c49
       clear c49
       have H' := Aside0.mk H
       clear H
       have hnb59 := NB296_250.out
       have hnc59 := NB250_296.out
       have hnb60 := NB296_274.out
       have hnc60 := NB274_296.out
       have hnb61 := NB296_285.out
       have hnc61 := NB285_296.out
       have hcz62_0 : wr.cell? ⟨gb296, 0, none⟩ = some (.int .i64 t286) := (blk_cell BK296.out 0).trans rfl
       have hcz62_1 : wr.cell? ⟨gb296, 1, none⟩ = some (u297001) := (blk_cell BK296.out 1).trans rfl
       have hcz62_2 : wr.cell? ⟨gb296, 2, none⟩ = some (.slice Ao47 t290.length co47) := (blk_cell BK296.out 2).trans rfl
       have hcz62_3 : wr.cell? ⟨gb296, 3, none⟩ = some (.slice Ao48 t293.length co48) := (blk_cell BK296.out 3).trans rfl
       have hfz62_0 := blk_frozen BK296.out 0
       have hfz62_1 := blk_frozen BK296.out 1
       have hfz62_2 := blk_frozen BK296.out 2
       have hfz62_3 := blk_frozen BK296.out 3
       go_wp2
       go_loopg [40] k2 (fun kq v40 w' => ∃ (x40_3 : Int) (x275002_3 : List ByteArray) (x286002_3 : List ByteArray) (x297002_3 : List ByteArray) (u275002 : Value) (u286002 : Value) (u297002 : Value), v40 = .int .i64 x40_3 ∧ Aside0 (dioramalaw08_FieldOld.l1 kq (t290.length : Int) x40_3 a0_0 l0_1 l0_2 l0_3 t264 x275001_2 x275002_3 t271 t275 x286001_2 x286002_3 t282 t286 x297001_2 x297002_3 t293 = some r) ∧ Aside0 (kq ≤ k2) ∧ Aside0 (Kd.R (Kd.int .i64) 2 w' w.heap.size (fun k_ => some k_ ≠ (u286001 : Value).ownBlock ∧ some k_ ≠ (u297001 : Value).ownBlock) u275001 x275001_2) ∧ Aside0 (Kd.R Kd.string 9 w' w.heap.size (fun k_ => some k_ ≠ (u286002 : Value).ownBlock ∧ some k_ ≠ (u297002 : Value).ownBlock) u275002 x275002_3) ∧ Aside0 (Kd.R (Kd.int .i64) 3 w' w.heap.size (fun k_ => some k_ ≠ ((.slice Ao39 t282.length co39) : Value).ownBlock ∧ some k_ ≠ ((.slice Ao48 t293.length co48) : Value).ownBlock) (.slice Ao30 t271.length co30) t271) ∧ Aside0 (Kd.R (Kd.int .i64) 2 w' w.heap.size (fun k_ => some k_ ≠ (u275001 : Value).ownBlock ∧ some k_ ≠ (u297001 : Value).ownBlock) u286001 x286001_2) ∧ Aside0 (Kd.R Kd.string 9 w' w.heap.size (fun k_ => some k_ ≠ (u275002 : Value).ownBlock ∧ some k_ ≠ (u297002 : Value).ownBlock) u286002 x286002_3) ∧ Aside0 (Kd.R (Kd.int .i64) 3 w' w.heap.size (fun k_ => some k_ ≠ ((.slice Ao30 t271.length co30) : Value).ownBlock ∧ some k_ ≠ ((.slice Ao48 t293.length co48) : Value).ownBlock) (.slice Ao39 t282.length co39) t282) ∧ Aside0 (Kd.R (Kd.int .i64) 2 w' w.heap.size (fun k_ => some k_ ≠ (u275001 : Value).ownBlock ∧ some k_ ≠ (u286001 : Value).ownBlock) u297001 x297001_2) ∧ Aside0 (Kd.R Kd.string 9 w' w.heap.size (fun k_ => some k_ ≠ (u275002 : Value).ownBlock ∧ some k_ ≠ (u286002 : Value).ownBlock) u297002 x297002_3) ∧ Aside0 (Kd.R (Kd.int .i64) 3 w' w.heap.size (fun k_ => some k_ ≠ ((.slice Ao30 t271.length co30) : Value).ownBlock ∧ some k_ ≠ ((.slice Ao39 t282.length co39) : Value).ownBlock) (.slice Ao48 t293.length co48) t293) ∧ Aside0 (w'.heap[gb250]? = some (.cells #[.int .i64 a0_0, (.slice A0_1 l0_1.length c0_1), (.slice A0_2 l0_2.length c0_2), (.slice A0_3 l0_3.length c0_3)] 26 (0, 0))) ∧ Aside0 (w'.heap[gb274]? = some (.cells #[.int .i64 t264, u275001, u275002, (.slice Ao30 t271.length co30)] 26 (0, 0))) ∧ Aside0 (w'.heap[gb285]? = some (.cells #[.int .i64 t275, u286001, u286002, (.slice Ao39 t282.length co39)] 26 (0, 0))) ∧ Aside0 (w'.heap[gb296]? = some (.cells #[.int .i64 t286, u297001, u297002, (.slice Ao48 t293.length co48)] 26 (0, 0))) ∧ Aside0 (Below w.heap.size w w'))
       case atStart => exact ⟨(0), (t268), (t279), (t290), (.slice Ao29 t268.length co29), (.slice Ao38 t279.length co38), (.slice Ao47 t290.length co47), (by first | rfl | (simp; done) | (simp [*]; done)), H', ⟨Nat.le_refl _⟩, ⟨by (with_reducible repeat (first | apply Kd.R_alloc | apply Kd.R_drewN | apply Kd.R_drew)); exact HO_275001.out⟩, ⟨by (with_reducible repeat (first | apply Kd.R_alloc | apply Kd.R_drewN | apply Kd.R_drew)); exact HO_275002.out⟩, ⟨by (with_reducible repeat (first | apply Kd.R_alloc | apply Kd.R_drewN | apply Kd.R_drew)); exact HO_275003.out⟩, ⟨by (with_reducible repeat (first | apply Kd.R_alloc | apply Kd.R_drewN | apply Kd.R_drew)); exact HO_286001.out⟩, ⟨by (with_reducible repeat (first | apply Kd.R_alloc | apply Kd.R_drewN | apply Kd.R_drew)); exact HO_286002.out⟩, ⟨by (with_reducible repeat (first | apply Kd.R_alloc | apply Kd.R_drewN | apply Kd.R_drew)); exact HO_286003.out⟩, ⟨by (with_reducible repeat (first | apply Kd.R_alloc | apply Kd.R_drewN | apply Kd.R_drew)); exact HO_297001.out⟩, ⟨by (with_reducible repeat (first | apply Kd.R_alloc | apply Kd.R_drewN | apply Kd.R_drew)); exact HO_297002.out⟩, ⟨by (with_reducible repeat (first | apply Kd.R_alloc | apply Kd.R_drewN | apply Kd.R_drew)); exact HO_297003.out⟩, ⟨BL BK250⟩, ⟨BL BK274⟩, ⟨BL BK285⟩, ⟨BL BK296⟩, ⟨BB HB⟩⟩
       case round =>
        clear H'
        try clear c1
        try clear c2
        try clear p2
        try clear c3
        try clear c4
        try clear c5
        try clear p5
        try clear q5
        try clear hx5
        try clear hf5
        try clear c6
        try clear p6
        try clear c7
        try clear c12
        try clear c13
        try clear c16
        try clear c25
        try clear c26
        try clear c34
        try clear c35
        try clear c42
        try clear c43
        try clear c44
        try clear c49
        try clear c49b0
        try clear c50
        try clear c50b0
        try clear c51
        try clear c51b0
        try clear p52
        try clear q52
        try clear hx52
        try clear hf52
        try clear c53
        try clear c54
        try clear c55
        try clear c59
        try clear c60
        try clear c61
        try clear hcz19_0
        try clear hcz19_1
        try clear hcz19_2
        try clear hcz19_3
        try clear hcz27_0
        try clear hcz27_1
        try clear hcz27_2
        try clear hcz27_3
        try clear hcz31_0
        try clear hcz31_1
        try clear hcz31_2
        try clear hcz31_3
        try clear hcz36_0
        try clear hcz36_1
        try clear hcz36_2
        try clear hcz36_3
        try clear hcz45_0
        try clear hcz45_1
        try clear hcz45_2
        try clear hcz45_3
        try clear hcz56_0
        try clear hcz56_1
        try clear hcz56_2
        try clear hcz56_3
        try clear hcz62_0
        try clear hcz62_1
        try clear hcz62_2
        try clear hcz62_3
        try clear hcz9_0
        try clear hcz9_1
        try clear hcz9_2
        try clear hcz9_3
        try clear hfz19_0
        try clear hfz19_1
        try clear hfz19_2
        try clear hfz19_3
        try clear hfz27_0
        try clear hfz27_1
        try clear hfz27_2
        try clear hfz27_3
        try clear hfz31_0
        try clear hfz31_1
        try clear hfz31_2
        try clear hfz31_3
        try clear hfz36_0
        try clear hfz36_1
        try clear hfz36_2
        try clear hfz36_3
        try clear hfz45_0
        try clear hfz45_1
        try clear hfz45_2
        try clear hfz45_3
        try clear hfz56_0
        try clear hfz56_1
        try clear hfz56_2
        try clear hfz56_3
        try clear hfz62_0
        try clear hfz62_1
        try clear hfz62_2
        try clear hfz62_3
        try clear hfz9_0
        try clear hfz9_1
        try clear hfz9_2
        try clear hfz9_3
        try clear hx52_0
        try clear p2
        try clear p52
        try clear q52
        obtain ⟨x40_3, x275002_3, x286002_3, x297002_3, u275002, u286002, u297002, rfl, HA, HK3, HO_275001, HO_275002, HO_275003, HO_286001, HO_286002, HO_286003, HO_297001, HO_297002, HO_297003, BK250, BK274, BK285, BK296, HB⟩ := hrel
        cases gk with
        | zero => exact absurd HA.out (by simp [dioramalaw08_FieldOld.l1])
        | succ k3 =>
         have H := HA.out
         clear HA
         simp only [dioramalaw08_FieldOld.l1] at H
         by_cases c63 : x40_3 < (t290.length : Int)
         ·rw [if_pos c63] at H
          have c63b0 : decide (x40_3 < (t290.length : Int)) = true := decide_eq_true c63
          clear c63
          by_cases c64 : 0 ≤ x40_3
          ·rw [if_pos c64] at H
           have c64b0 : decide (0 ≤ x40_3) = true := decide_eq_true c64
           clear c64
           by_cases c65 : x40_3 < (x297002_3.length : Int)
           ·rw [if_pos c65] at H
            have c65b0 : decide (x40_3 < (x297002_3.length : Int)) = true := decide_eq_true c65
            clear c65
            obtain ⟨y298, hy298⟩ : ∃ y_ : List ByteArray, y_ = (x297002_3.set (x40_3 : Int).toNat (⟨#[120]⟩ : ByteArray)) := ⟨_, rfl⟩
            replace H : (dioramalaw08_FieldOld.l1 k3 (t290.length : Int) (wrap64 (x40_3 + 1)) a0_0 l0_1 l0_2 l0_3 t264 x275001_2 x275002_3 t271 t275 x286001_2 x286002_3 t282 t286 x297001_2 y298 t293) = some r := by first | (rw [hy298]; with_reducible exact H) | (have H2_ := (Option.bind_some _ _).symm.trans H; rw [hy298]; with_reducible exact H2_) | (have H2_ := (Option.bind_some _ _).symm.trans H; with_reducible exact H2_) | with_reducible exact H | (rw [hy298]; exact H) | exact H
            have Ny298 := Aside0.mk hy298
            clear hy298
            have H' := Aside0.mk H
            clear H
            have hnb67 := NB296_250.out
            have hnc67 := NB250_296.out
            have hnb68 := NB296_274.out
            have hnc68 := NB274_296.out
            have hnb69 := NB296_285.out
            have hnc69 := NB285_296.out
            have hcz70_0 : wr.cell? ⟨gb296, 0, none⟩ = some (.int .i64 t286) := (blk_cell BK296.out 0).trans rfl
            have hcz70_1 : wr.cell? ⟨gb296, 1, none⟩ = some (u297001) := (blk_cell BK296.out 1).trans rfl
            have hcz70_2 : wr.cell? ⟨gb296, 2, none⟩ = some (u297002) := (blk_cell BK296.out 2).trans rfl
            have hcz70_3 : wr.cell? ⟨gb296, 3, none⟩ = some (.slice Ao48 t293.length co48) := (blk_cell BK296.out 3).trans rfl
            have hfz70_0 := blk_frozen BK296.out 0
            have hfz70_1 := blk_frozen BK296.out 1
            have hfz70_2 := blk_frozen BK296.out 2
            have hfz70_3 := blk_frozen BK296.out 3
            have p66 : 0 ≤ (x40_3 : Int) := of_decide_eq_true (by first | (with_reducible assumption) | assumption)
            have q66 : (x40_3 : Int) < ((x297002_3.length : Int) : Int) := of_decide_eq_true (by first | (with_reducible assumption) | assumption)
            obtain ⟨go66, co66, eo66, gb66, gl66, cl66, HG66⟩ := Kd.R_form HO_297002.out (by omega)
            (first | cases eo66 | (injection eo66 with ea_ en_ ec_; (first | subst ea_ | (injection ea_ with ea_; subst ea_)); subst ec_; clear en_))
            have GB66 := Aside0.mk gb66
            have GG66 := Aside0.mk HG66
            clear gb66 gl66 HG66
            obtain ⟨hx66_0, hf66_0⟩ := Kd.R_celln (⟨#[]⟩ : ByteArray) HO_297002.out (x40_3 : Int) p66 q66
            replace p66 := eq_true p66
            replace q66 := eq_true q66
            have HP71 := Kd.R_putg HO_297002.out (x40_3 : Int) (⟨#[120]⟩ : ByteArray)
            go_wp2_with (first | ((with_reducible refine gate_store (t := 9) (p := 46) rfl ?_); refine store_event (t := 9) (p := 46) (v := ?vo_w72) (w1 := (wr.setCell ⟨go66, (x40_3 : Int).toNat, none⟩ (.string (⟨#[120]⟩ : ByteArray)))) ?hg ?ho ?hn ?hr ?_; (case ho => rfl); (case hg => rfl); (case hn => rfl); (case hr => first | (go_simp; done) | (go_simp; rfl)); intro w72 hw; have hg : wr.grownBy w72 (some go66) := (by rw [hw]; exact HP71.2); have hp_ : Kd.R Kd.string 9 w72 w.heap.size (fun k_ => some k_ ≠ (u275002 : Value).ownBlock ∧ some k_ ≠ (u286002 : Value).ownBlock) (.slice (some ⟨go66, 0, none⟩) x297002_3.length co66) y298 := (by rw [hw, Ny298.out]; exact HP71.1); clear HP71; have n0_ := Aside0.mk (Kd.R_over' (v := (.slice (some ⟨go66, 0, none⟩) x297002_3.length co66)) (RL HO_275001) (Kd.R_typed HO_297002.out) (by decide) hg); have n1_ := Aside0.mk (Kd.R_after (v := (.slice (some ⟨go66, 0, none⟩) x297002_3.length co66)) (v1 := (.slice (some ⟨go66, 0, none⟩) x297002_3.length co66)) (ok := (fun k_ => some k_ ≠ (u286002 : Value).ownBlock)) (RL HO_275002) hg (.inl rfl)); have n2_ := Aside0.mk (Kd.R_over' (v := (.slice (some ⟨go66, 0, none⟩) x297002_3.length co66)) (RL HO_275003) (Kd.R_typed HO_297002.out) (by decide) hg); have n3_ := Aside0.mk (Kd.R_over' (v := (.slice (some ⟨go66, 0, none⟩) x297002_3.length co66)) (RL HO_286001) (Kd.R_typed HO_297002.out) (by decide) hg); have n4_ := Aside0.mk (Kd.R_after (v := (.slice (some ⟨go66, 0, none⟩) x297002_3.length co66)) (v1 := (.slice (some ⟨go66, 0, none⟩) x297002_3.length co66)) (ok := (fun k_ => some k_ ≠ (u275002 : Value).ownBlock)) (RL HO_286002) hg (.inl rfl)); have n5_ := Aside0.mk (Kd.R_over' (v := (.slice (some ⟨go66, 0, none⟩) x297002_3.length co66)) (RL HO_286003) (Kd.R_typed HO_297002.out) (by decide) hg); have n6_ := Aside0.mk (Kd.R_over' (v := (.slice (some ⟨go66, 0, none⟩) x297002_3.length co66)) (RL HO_297001) (Kd.R_typed HO_297002.out) (by decide) hg); have n7_ := Aside0.mk (hp_); have n8_ := Aside0.mk (Kd.R_over' (v := (.slice (some ⟨go66, 0, none⟩) x297002_3.length co66)) (RL HO_297003) (Kd.R_typed HO_297002.out) (by decide) hg); have n9_ := Aside0.mk (blk_grown (g := gb250) (o := .cells #[.int .i64 a0_0, .slice A0_1 l0_1.length c0_1, .slice A0_2 l0_2.length c0_2, .slice A0_3 l0_3.length c0_3] 26 (0, 0)) (BL BK250) hg (Kd.R_ne HO_297002.out BK250.out (by decide))); have n10_ := Aside0.mk (blk_grown (g := gb274) (o := .cells #[.int .i64 t264, u275001, u275002, .slice Ao30 t271.length co30] 26 (0, 0)) (BL BK274) hg (Kd.R_ne HO_297002.out BK274.out (by decide))); have n11_ := Aside0.mk (blk_grown (g := gb285) (o := .cells #[.int .i64 t275, u286001, u286002, .slice Ao39 t282.length co39] 26 (0, 0)) (BL BK285) hg (Kd.R_ne HO_297002.out BK285.out (by decide))); have n12_ := Aside0.mk (blk_grown (g := gb296) (o := .cells #[.int .i64 t286, u297001, .slice (some ⟨go66, 0, none⟩) x297002_3.length co66, .slice Ao48 t293.length co48] 26 (0, 0)) (BL BK296) hg (Kd.R_ne HO_297002.out BK296.out (by decide))); have n13_ := Aside0.mk ((by rw [hw]; exact below_set (HB.out) GB66.out : Below w.heap.size w w72)); clear HO_275001; clear HO_275002; clear HO_275003; clear HO_286001; clear HO_286002; clear HO_286003; clear HO_297001; clear HO_297002; clear HO_297003; clear BK250; clear BK274; clear BK285; clear BK296; clear HB; have HO_275001 := n0_; have HO_275002 := n1_; have HO_275003 := n2_; have HO_286001 := n3_; have HO_286002 := n4_; have HO_286003 := n5_; have HO_297001 := n6_; have HO_297002 := n7_; have HO_297003 := n8_; have BK250 := n9_; have BK274 := n10_; have BK285 := n11_; have BK296 := n12_; have HB := n13_; clear n0_ n1_ n2_ n3_ n4_ n5_ n6_ n7_ n8_ n9_ n10_ n11_ n12_ n13_; clear hg hw hp_))
            go_roundg k3
            case measure => have := HJ2.out; have := HK2.out; have := HK3.out; omega
            case rel => exact ⟨(wrap64 (x40_3 + 1)), (x275002_3), (x286002_3), (y298), (u275002), (u286002), (.slice (some ⟨go66, 0, none⟩) x297002_3.length co66), (by first | rfl | (simp; done) | (simp [*]; done)), H', ⟨by have := HJ2.out; have := HK2.out; have := HK3.out; omega⟩, ⟨by (with_reducible repeat (first | apply Kd.R_alloc | apply Kd.R_drewN | apply Kd.R_drew)); exact HO_275001.out⟩, ⟨by (with_reducible repeat (first | apply Kd.R_alloc | apply Kd.R_drewN | apply Kd.R_drew)); exact HO_275002.out⟩, ⟨by (with_reducible repeat (first | apply Kd.R_alloc | apply Kd.R_drewN | apply Kd.R_drew)); exact HO_275003.out⟩, ⟨by (with_reducible repeat (first | apply Kd.R_alloc | apply Kd.R_drewN | apply Kd.R_drew)); exact HO_286001.out⟩, ⟨by (with_reducible repeat (first | apply Kd.R_alloc | apply Kd.R_drewN | apply Kd.R_drew)); exact HO_286002.out⟩, ⟨by (with_reducible repeat (first | apply Kd.R_alloc | apply Kd.R_drewN | apply Kd.R_drew)); exact HO_286003.out⟩, ⟨by (with_reducible repeat (first | apply Kd.R_alloc | apply Kd.R_drewN | apply Kd.R_drew)); exact HO_297001.out⟩, ⟨by (with_reducible repeat (first | apply Kd.R_alloc | apply Kd.R_drewN | apply Kd.R_drew)); exact HO_297002.out⟩, ⟨by (with_reducible repeat (first | apply Kd.R_alloc | apply Kd.R_drewN | apply Kd.R_drew)); exact HO_297003.out⟩, ⟨BL BK250⟩, ⟨BL BK274⟩, ⟨BL BK285⟩, ⟨BL BK296⟩, ⟨BB HB⟩⟩
           ·rw [if_neg c65] at H
            exact absurd H (by simp)
          ·rw [if_neg c64] at H
           exact absurd H (by simp)
         ·rw [if_neg c63] at H
          have c63b0 : decide (x40_3 < (t290.length : Int)) = false := decide_eq_false c63
          clear c63
          have H' := Aside0.mk H
          clear H
          have hnb73 := NB296_250.out
          have hnc73 := NB250_296.out
          have hnb74 := NB296_274.out
          have hnc74 := NB274_296.out
          have hnb75 := NB296_285.out
          have hnc75 := NB285_296.out
          have hcz76_0 : wr.cell? ⟨gb296, 0, none⟩ = some (.int .i64 t286) := (blk_cell BK296.out 0).trans rfl
          have hcz76_1 : wr.cell? ⟨gb296, 1, none⟩ = some (u297001) := (blk_cell BK296.out 1).trans rfl
          have hcz76_2 : wr.cell? ⟨gb296, 2, none⟩ = some (u297002) := (blk_cell BK296.out 2).trans rfl
          have hcz76_3 : wr.cell? ⟨gb296, 3, none⟩ = some (.slice Ao48 t293.length co48) := (blk_cell BK296.out 3).trans rfl
          have hfz76_0 := blk_frozen BK296.out 0
          have hfz76_1 := blk_frozen BK296.out 1
          have hfz76_2 := blk_frozen BK296.out 2
          have hfz76_3 := blk_frozen BK296.out 3
          go_wp2
          go_loopg [51] k3 (fun kq v51 w' => ∃ (x51_4 : Int) (x275003_4 : List Int) (x286003_4 : List Int) (x297003_4 : List Int) (u275003 : Value) (u286003 : Value) (u297003 : Value), v51 = .int .i64 x51_4 ∧ Aside0 (dioramalaw08_FieldOld.l2 kq (t293.length : Int) x51_4 a0_0 l0_1 l0_2 l0_3 t264 x275001_2 x275002_3 x275003_4 t275 x286001_2 x286002_3 x286003_4 t286 x297001_2 x297002_3 x297003_4 = some r) ∧ Aside0 (kq ≤ k3) ∧ Aside0 (Kd.R (Kd.int .i64) 2 w' w.heap.size (fun k_ => some k_ ≠ (u286001 : Value).ownBlock ∧ some k_ ≠ (u297001 : Value).ownBlock) u275001 x275001_2) ∧ Aside0 (Kd.R Kd.string 9 w' w.heap.size (fun k_ => some k_ ≠ (u286002 : Value).ownBlock ∧ some k_ ≠ (u297002 : Value).ownBlock) u275002 x275002_3) ∧ Aside0 (Kd.R (Kd.int .i64) 3 w' w.heap.size (fun k_ => some k_ ≠ (u286003 : Value).ownBlock ∧ some k_ ≠ (u297003 : Value).ownBlock) u275003 x275003_4) ∧ Aside0 (Kd.R (Kd.int .i64) 2 w' w.heap.size (fun k_ => some k_ ≠ (u275001 : Value).ownBlock ∧ some k_ ≠ (u297001 : Value).ownBlock) u286001 x286001_2) ∧ Aside0 (Kd.R Kd.string 9 w' w.heap.size (fun k_ => some k_ ≠ (u275002 : Value).ownBlock ∧ some k_ ≠ (u297002 : Value).ownBlock) u286002 x286002_3) ∧ Aside0 (Kd.R (Kd.int .i64) 3 w' w.heap.size (fun k_ => some k_ ≠ (u275003 : Value).ownBlock ∧ some k_ ≠ (u297003 : Value).ownBlock) u286003 x286003_4) ∧ Aside0 (Kd.R (Kd.int .i64) 2 w' w.heap.size (fun k_ => some k_ ≠ (u275001 : Value).ownBlock ∧ some k_ ≠ (u286001 : Value).ownBlock) u297001 x297001_2) ∧ Aside0 (Kd.R Kd.string 9 w' w.heap.size (fun k_ => some k_ ≠ (u275002 : Value).ownBlock ∧ some k_ ≠ (u286002 : Value).ownBlock) u297002 x297002_3) ∧ Aside0 (Kd.R (Kd.int .i64) 3 w' w.heap.size (fun k_ => some k_ ≠ (u275003 : Value).ownBlock ∧ some k_ ≠ (u286003 : Value).ownBlock) u297003 x297003_4) ∧ Aside0 (w'.heap[gb250]? = some (.cells #[.int .i64 a0_0, (.slice A0_1 l0_1.length c0_1), (.slice A0_2 l0_2.length c0_2), (.slice A0_3 l0_3.length c0_3)] 26 (0, 0))) ∧ Aside0 (w'.heap[gb274]? = some (.cells #[.int .i64 t264, u275001, u275002, u275003] 26 (0, 0))) ∧ Aside0 (w'.heap[gb285]? = some (.cells #[.int .i64 t275, u286001, u286002, u286003] 26 (0, 0))) ∧ Aside0 (w'.heap[gb296]? = some (.cells #[.int .i64 t286, u297001, u297002, u297003] 26 (0, 0))) ∧ Aside0 (Below w.heap.size w w'))
          case atStart => exact ⟨(0), (t271), (t282), (t293), (.slice Ao30 t271.length co30), (.slice Ao39 t282.length co39), (.slice Ao48 t293.length co48), (by first | rfl | (simp; done) | (simp [*]; done)), H', ⟨Nat.le_refl _⟩, ⟨by (with_reducible repeat (first | apply Kd.R_alloc | apply Kd.R_drewN | apply Kd.R_drew)); exact HO_275001.out⟩, ⟨by (with_reducible repeat (first | apply Kd.R_alloc | apply Kd.R_drewN | apply Kd.R_drew)); exact HO_275002.out⟩, ⟨by (with_reducible repeat (first | apply Kd.R_alloc | apply Kd.R_drewN | apply Kd.R_drew)); exact HO_275003.out⟩, ⟨by (with_reducible repeat (first | apply Kd.R_alloc | apply Kd.R_drewN | apply Kd.R_drew)); exact HO_286001.out⟩, ⟨by (with_reducible repeat (first | apply Kd.R_alloc | apply Kd.R_drewN | apply Kd.R_drew)); exact HO_286002.out⟩, ⟨by (with_reducible repeat (first | apply Kd.R_alloc | apply Kd.R_drewN | apply Kd.R_drew)); exact HO_286003.out⟩, ⟨by (with_reducible repeat (first | apply Kd.R_alloc | apply Kd.R_drewN | apply Kd.R_drew)); exact HO_297001.out⟩, ⟨by (with_reducible repeat (first | apply Kd.R_alloc | apply Kd.R_drewN | apply Kd.R_drew)); exact HO_297002.out⟩, ⟨by (with_reducible repeat (first | apply Kd.R_alloc | apply Kd.R_drewN | apply Kd.R_drew)); exact HO_297003.out⟩, ⟨BL BK250⟩, ⟨BL BK274⟩, ⟨BL BK285⟩, ⟨BL BK296⟩, ⟨BB HB⟩⟩
          case round =>
           clear H'
           try clear c1
           try clear c2
           try clear p2
           try clear c3
           try clear c4
           try clear c5
           try clear p5
           try clear q5
           try clear hx5
           try clear hf5
           try clear c6
           try clear p6
           try clear q6
           try clear hx6
           try clear hf6
           try clear c7
           try clear c12
           try clear c13
           try clear c16
           try clear c25
           try clear c26
           try clear c34
           try clear c35
           try clear c42
           try clear c43
           try clear c44
           try clear c49
           try clear c49b0
           try clear c50
           try clear c50b0
           try clear c51
           try clear c51b0
           try clear p52
           try clear q52
           try clear hx52
           try clear hf52
           try clear c53
           try clear c54
           try clear c55
           try clear c59
           try clear c60
           try clear c61
           try clear c63
           try clear c63b0
           try clear c64
           try clear c64b0
           try clear p64
           try clear c65
           try clear c65b0
           try clear p66
           try clear q66
           try clear hx66
           try clear hf66
           try clear c67
           try clear c68
           try clear c69
           try clear c73
           try clear c74
           try clear c75
           try clear hcz19_0
           try clear hcz19_1
           try clear hcz19_2
           try clear hcz19_3
           try clear hcz27_0
           try clear hcz27_1
           try clear hcz27_2
           try clear hcz27_3
           try clear hcz31_0
           try clear hcz31_1
           try clear hcz31_2
           try clear hcz31_3
           try clear hcz36_0
           try clear hcz36_1
           try clear hcz36_2
           try clear hcz36_3
           try clear hcz45_0
           try clear hcz45_1
           try clear hcz45_2
           try clear hcz45_3
           try clear hcz56_0
           try clear hcz56_1
           try clear hcz56_2
           try clear hcz56_3
           try clear hcz62_0
           try clear hcz62_1
           try clear hcz62_2
           try clear hcz62_3
           try clear hcz70_0
           try clear hcz70_1
           try clear hcz70_2
           try clear hcz70_3
           try clear hcz76_0
           try clear hcz76_1
           try clear hcz76_2
           try clear hcz76_3
           try clear hcz9_0
           try clear hcz9_1
           try clear hcz9_2
           try clear hcz9_3
           try clear hfz19_0
           try clear hfz19_1
           try clear hfz19_2
           try clear hfz19_3
           try clear hfz27_0
           try clear hfz27_1
           try clear hfz27_2
           try clear hfz27_3
           try clear hfz31_0
           try clear hfz31_1
           try clear hfz31_2
           try clear hfz31_3
           try clear hfz36_0
           try clear hfz36_1
           try clear hfz36_2
           try clear hfz36_3
           try clear hfz45_0
           try clear hfz45_1
           try clear hfz45_2
           try clear hfz45_3
           try clear hfz56_0
           try clear hfz56_1
           try clear hfz56_2
           try clear hfz56_3
           try clear hfz62_0
           try clear hfz62_1
           try clear hfz62_2
           try clear hfz62_3
           try clear hfz70_0
           try clear hfz70_1
           try clear hfz70_2
           try clear hfz70_3
           try clear hfz76_0
           try clear hfz76_1
           try clear hfz76_2
           try clear hfz76_3
           try clear hfz9_0
           try clear hfz9_1
           try clear hfz9_2
           try clear hfz9_3
           try clear hx52_0
           try clear hx66_0
           try clear p2
           try clear p5
           try clear p52
           try clear p6
           try clear p66
           try clear q5
           try clear q52
           try clear q66
           obtain ⟨x51_4, x275003_4, x286003_4, x297003_4, u275003, u286003, u297003, rfl, HA, HK4, HO_275001, HO_275002, HO_275003, HO_286001, HO_286002, HO_286003, HO_297001, HO_297002, HO_297003, BK250, BK274, BK285, BK296, HB⟩ := hrel
           cases gk with
           | zero => exact absurd HA.out (by simp [dioramalaw08_FieldOld.l2])
           | succ k4 =>
            have H := HA.out
            clear HA
            simp only [dioramalaw08_FieldOld.l2] at H
            by_cases c77 : x51_4 < (t293.length : Int)
            ·rw [if_pos c77] at H
             have c77b0 : decide (x51_4 < (t293.length : Int)) = true := decide_eq_true c77
             clear c77
             by_cases c78 : 0 ≤ x51_4
             ·rw [if_pos c78] at H
              have c78b0 : decide (0 ≤ x51_4) = true := decide_eq_true c78
              clear c78
              by_cases c79 : x51_4 < (x297003_4.length : Int)
              ·rw [if_pos c79] at H
               have c79b0 : decide (x51_4 < (x297003_4.length : Int)) = true := decide_eq_true c79
               clear c79
               obtain ⟨y299, hy299⟩ : ∃ y_ : List Int, y_ = (x297003_4.set (x51_4 : Int).toNat (-1)) := ⟨_, rfl⟩
               replace H : (dioramalaw08_FieldOld.l2 k4 (t293.length : Int) (wrap64 (x51_4 + 1)) a0_0 l0_1 l0_2 l0_3 t264 x275001_2 x275002_3 x275003_4 t275 x286001_2 x286002_3 x286003_4 t286 x297001_2 x297002_3 y299) = some r := by first | (rw [hy299]; with_reducible exact H) | (have H2_ := (Option.bind_some _ _).symm.trans H; rw [hy299]; with_reducible exact H2_) | (have H2_ := (Option.bind_some _ _).symm.trans H; with_reducible exact H2_) | with_reducible exact H | (rw [hy299]; exact H) | exact H
               have Ny299 := Aside0.mk hy299
               clear hy299
               have H' := Aside0.mk H
               clear H
               have hnb81 := NB296_250.out
               have hnc81 := NB250_296.out
               have hnb82 := NB296_274.out
               have hnc82 := NB274_296.out
               have hnb83 := NB296_285.out
               have hnc83 := NB285_296.out
               have hcz84_0 : wr.cell? ⟨gb296, 0, none⟩ = some (.int .i64 t286) := (blk_cell BK296.out 0).trans rfl
               have hcz84_1 : wr.cell? ⟨gb296, 1, none⟩ = some (u297001) := (blk_cell BK296.out 1).trans rfl
               have hcz84_2 : wr.cell? ⟨gb296, 2, none⟩ = some (u297002) := (blk_cell BK296.out 2).trans rfl
               have hcz84_3 : wr.cell? ⟨gb296, 3, none⟩ = some (u297003) := (blk_cell BK296.out 3).trans rfl
               have hfz84_0 := blk_frozen BK296.out 0
               have hfz84_1 := blk_frozen BK296.out 1
               have hfz84_2 := blk_frozen BK296.out 2
               have hfz84_3 := blk_frozen BK296.out 3
               have p80 : 0 ≤ (x51_4 : Int) := of_decide_eq_true (by first | (with_reducible assumption) | assumption)
               have q80 : (x51_4 : Int) < ((x297003_4.length : Int) : Int) := of_decide_eq_true (by first | (with_reducible assumption) | assumption)
               obtain ⟨go80, co80, eo80, gb80, gl80, cl80, HG80⟩ := Kd.R_form HO_297003.out (by omega)
               (first | cases eo80 | (injection eo80 with ea_ en_ ec_; (first | subst ea_ | (injection ea_ with ea_; subst ea_)); subst ec_; clear en_))
               have GB80 := Aside0.mk gb80
               have GG80 := Aside0.mk HG80
               clear gb80 gl80 HG80
               obtain ⟨hx80_0, hf80_0⟩ := Kd.R_celln 0 HO_297003.out (x51_4 : Int) p80 q80
               replace p80 := eq_true p80
               replace q80 := eq_true q80
               have HP85 := Kd.R_putg HO_297003.out (x51_4 : Int) (-1)
               go_wp2_with (first | ((with_reducible refine gate_store (t := 3) (p := 57) rfl ?_); refine store_event (t := 3) (p := 57) (v := ?vo_w86) (w1 := (wr.setCell ⟨go80, (x51_4 : Int).toNat, none⟩ (.int .i64 (-1)))) ?hg ?ho ?hn ?hr ?_; (case ho => rfl); (case hg => rfl); (case hn => rfl); (case hr => first | (go_simp; done) | (go_simp; rfl)); intro w86 hw; have hg : wr.grownBy w86 (some go80) := (by rw [hw]; exact HP85.2); have hp_ : Kd.R (Kd.int .i64) 3 w86 w.heap.size (fun k_ => some k_ ≠ (u275003 : Value).ownBlock ∧ some k_ ≠ (u286003 : Value).ownBlock) (.slice (some ⟨go80, 0, none⟩) x297003_4.length co80) y299 := (by rw [hw, Ny299.out]; exact HP85.1); clear HP85; have n0_ := Aside0.mk (Kd.R_over' (v := (.slice (some ⟨go80, 0, none⟩) x297003_4.length co80)) (RL HO_275001) (Kd.R_typed HO_297003.out) (by decide) hg); have n1_ := Aside0.mk (Kd.R_over' (v := (.slice (some ⟨go80, 0, none⟩) x297003_4.length co80)) (RL HO_275002) (Kd.R_typed HO_297003.out) (by decide) hg); have n2_ := Aside0.mk (Kd.R_after (v := (.slice (some ⟨go80, 0, none⟩) x297003_4.length co80)) (v1 := (.slice (some ⟨go80, 0, none⟩) x297003_4.length co80)) (ok := (fun k_ => some k_ ≠ (u286003 : Value).ownBlock)) (RL HO_275003) hg (.inl rfl)); have n3_ := Aside0.mk (Kd.R_over' (v := (.slice (some ⟨go80, 0, none⟩) x297003_4.length co80)) (RL HO_286001) (Kd.R_typed HO_297003.out) (by decide) hg); have n4_ := Aside0.mk (Kd.R_over' (v := (.slice (some ⟨go80, 0, none⟩) x297003_4.length co80)) (RL HO_286002) (Kd.R_typed HO_297003.out) (by decide) hg); have n5_ := Aside0.mk (Kd.R_after (v := (.slice (some ⟨go80, 0, none⟩) x297003_4.length co80)) (v1 := (.slice (some ⟨go80, 0, none⟩) x297003_4.length co80)) (ok := (fun k_ => some k_ ≠ (u275003 : Value).ownBlock)) (RL HO_286003) hg (.inl rfl)); have n6_ := Aside0.mk (Kd.R_over' (v := (.slice (some ⟨go80, 0, none⟩) x297003_4.length co80)) (RL HO_297001) (Kd.R_typed HO_297003.out) (by decide) hg); have n7_ := Aside0.mk (Kd.R_over' (v := (.slice (some ⟨go80, 0, none⟩) x297003_4.length co80)) (RL HO_297002) (Kd.R_typed HO_297003.out) (by decide) hg); have n8_ := Aside0.mk (hp_); have n9_ := Aside0.mk (blk_grown (g := gb250) (o := .cells #[.int .i64 a0_0, .slice A0_1 l0_1.length c0_1, .slice A0_2 l0_2.length c0_2, .slice A0_3 l0_3.length c0_3] 26 (0, 0)) (BL BK250) hg (Kd.R_ne HO_297003.out BK250.out (by decide))); have n10_ := Aside0.mk (blk_grown (g := gb274) (o := .cells #[.int .i64 t264, u275001, u275002, u275003] 26 (0, 0)) (BL BK274) hg (Kd.R_ne HO_297003.out BK274.out (by decide))); have n11_ := Aside0.mk (blk_grown (g := gb285) (o := .cells #[.int .i64 t275, u286001, u286002, u286003] 26 (0, 0)) (BL BK285) hg (Kd.R_ne HO_297003.out BK285.out (by decide))); have n12_ := Aside0.mk (blk_grown (g := gb296) (o := .cells #[.int .i64 t286, u297001, u297002, .slice (some ⟨go80, 0, none⟩) x297003_4.length co80] 26 (0, 0)) (BL BK296) hg (Kd.R_ne HO_297003.out BK296.out (by decide))); have n13_ := Aside0.mk ((by rw [hw]; exact below_set (HB.out) GB80.out : Below w.heap.size w w86)); clear HO_275001; clear HO_275002; clear HO_275003; clear HO_286001; clear HO_286002; clear HO_286003; clear HO_297001; clear HO_297002; clear HO_297003; clear BK250; clear BK274; clear BK285; clear BK296; clear HB; have HO_275001 := n0_; have HO_275002 := n1_; have HO_275003 := n2_; have HO_286001 := n3_; have HO_286002 := n4_; have HO_286003 := n5_; have HO_297001 := n6_; have HO_297002 := n7_; have HO_297003 := n8_; have BK250 := n9_; have BK274 := n10_; have BK285 := n11_; have BK296 := n12_; have HB := n13_; clear n0_ n1_ n2_ n3_ n4_ n5_ n6_ n7_ n8_ n9_ n10_ n11_ n12_ n13_; clear hg hw hp_))
               go_roundg k4
               case measure => have := HJ2.out; have := HK2.out; have := HK3.out; have := HK4.out; omega
               case rel => exact ⟨(wrap64 (x51_4 + 1)), (x275003_4), (x286003_4), (y299), (u275003), (u286003), (.slice (some ⟨go80, 0, none⟩) x297003_4.length co80), (by first | rfl | (simp; done) | (simp [*]; done)), H', ⟨by have := HJ2.out; have := HK2.out; have := HK3.out; have := HK4.out; omega⟩, ⟨by (with_reducible repeat (first | apply Kd.R_alloc | apply Kd.R_drewN | apply Kd.R_drew)); exact HO_275001.out⟩, ⟨by (with_reducible repeat (first | apply Kd.R_alloc | apply Kd.R_drewN | apply Kd.R_drew)); exact HO_275002.out⟩, ⟨by (with_reducible repeat (first | apply Kd.R_alloc | apply Kd.R_drewN | apply Kd.R_drew)); exact HO_275003.out⟩, ⟨by (with_reducible repeat (first | apply Kd.R_alloc | apply Kd.R_drewN | apply Kd.R_drew)); exact HO_286001.out⟩, ⟨by (with_reducible repeat (first | apply Kd.R_alloc | apply Kd.R_drewN | apply Kd.R_drew)); exact HO_286002.out⟩, ⟨by (with_reducible repeat (first | apply Kd.R_alloc | apply Kd.R_drewN | apply Kd.R_drew)); exact HO_286003.out⟩, ⟨by (with_reducible repeat (first | apply Kd.R_alloc | apply Kd.R_drewN | apply Kd.R_drew)); exact HO_297001.out⟩, ⟨by (with_reducible repeat (first | apply Kd.R_alloc | apply Kd.R_drewN | apply Kd.R_drew)); exact HO_297002.out⟩, ⟨by (with_reducible repeat (first | apply Kd.R_alloc | apply Kd.R_drewN | apply Kd.R_drew)); exact HO_297003.out⟩, ⟨BL BK250⟩, ⟨BL BK274⟩, ⟨BL BK285⟩, ⟨BL BK296⟩, ⟨BB HB⟩⟩
              ·rw [if_neg c79] at H
               exact absurd H (by simp)
             ·rw [if_neg c78] at H
              exact absurd H (by simp)
            ·rw [if_neg c77] at H
             have c77b0 : decide (x51_4 < (t293.length : Int)) = false := decide_eq_false c77
             clear c77
             replace H := Option.bind_eq_some_iff.mp H
             obtain ⟨t300, A870, H⟩ := H
             replace H : (if t300 = true then ((dioramaref08_Same.f k4 t275 x286001_2 x286002_3 x286003_4 a0_0 l0_1 l0_2 l0_3).bind fun t301 => (some t301)) else (some false)) = some r := H
             have A87 := Aside0.mk A870
             clear A870
             by_cases c88 : t300 = true
             ·subst c88
              have H1 : ((dioramaref08_Same.f k4 t275 x286001_2 x286002_3 x286003_4 a0_0 l0_1 l0_2 l0_3).bind fun t301 => (some t301)) = some r := by rw [if_pos rfl] at H; exact H
              clear H
              have H := H1
              clear H1
              replace H := Option.bind_eq_some_iff.mp H
              obtain ⟨t301, A890, H⟩ := H
              replace H : (some t301) = some r := H
              have A89 := Aside0.mk A890
              clear A890
              obtain rfl := Option.some.inj H
              have hnb90 := NB274_250.out
              have hnc90 := NB250_274.out
              have hnb91 := NB274_285.out
              have hnc91 := NB285_274.out
              have hnb92 := NB274_296.out
              have hnc92 := NB296_274.out
              have hcz93_0 : wr.cell? ⟨gb274, 0, none⟩ = some (.int .i64 t264) := (blk_cell BK274.out 0).trans rfl
              have hcz93_1 : wr.cell? ⟨gb274, 1, none⟩ = some (u275001) := (blk_cell BK274.out 1).trans rfl
              have hcz93_2 : wr.cell? ⟨gb274, 2, none⟩ = some (u275002) := (blk_cell BK274.out 2).trans rfl
              have hcz93_3 : wr.cell? ⟨gb274, 3, none⟩ = some (u275003) := (blk_cell BK274.out 3).trans rfl
              have hfz93_0 := blk_frozen BK274.out 0
              have hfz93_1 := blk_frozen BK274.out 1
              have hfz93_2 := blk_frozen BK274.out 2
              have hfz93_3 := blk_frozen BK274.out 3
              have hnb94 := NB250_285.out
              have hnc94 := NB285_250.out
              have hnb95 := NB250_296.out
              have hnc95 := NB296_250.out
              have hcz96_0 : wr.cell? ⟨gb250, 0, none⟩ = some (.int .i64 a0_0) := (blk_cell BK250.out 0).trans rfl
              have hcz96_1 : wr.cell? ⟨gb250, 1, none⟩ = some (.slice A0_1 l0_1.length c0_1) := (blk_cell BK250.out 1).trans rfl
              have hcz96_2 : wr.cell? ⟨gb250, 2, none⟩ = some (.slice A0_2 l0_2.length c0_2) := (blk_cell BK250.out 2).trans rfl
              have hcz96_3 : wr.cell? ⟨gb250, 3, none⟩ = some (.slice A0_3 l0_3.length c0_3) := (blk_cell BK250.out 3).trans rfl
              have hfz96_0 := blk_frozen BK250.out 0
              have hfz96_1 := blk_frozen BK250.out 1
              have hfz96_2 := blk_frozen BK250.out 2
              have hfz96_3 := blk_frozen BK250.out 3
              obtain ⟨Ao97, co97, eo97⟩ := Kd.R_slice HO_275001.out
              subst eo97
              obtain ⟨Ao98, co98, eo98⟩ := Kd.R_slice HO_275002.out
              subst eo98
              obtain ⟨Ao99, co99, eo99⟩ := Kd.R_slice HO_275003.out
              subst eo99
              go_wp2_with (first | ((with_reducible refine gate_callee (f := 20) rfl ?_); refine goesL_ (some 61) rfl rfl Tryd.func20 (by kernel_rfl) rfl #[.agg #[.int .i64 t264, .slice Ao97 x275001_2.length co97, .slice Ao98 x275002_3.length co98, .slice Ao99 x275003_4.length co99], .agg #[.int .i64 a0_0, .slice A0_1 l0_1.length c0_1, .slice A0_2 l0_2.length c0_2, .slice A0_3 l0_3.length c0_3]] rfl (by (try simp only [List.map_toArray, List.map_cons, List.map_nil]); first | done | rfl | (simp only [List.length_drop, List.length_take]; rfl)) ?_; (with_reducible refine (dioramaref08_Same.calls k4 t264 _ _ x275001_2 _ _ x275002_3 _ _ x275003_4 a0_0 _ _ l0_1 _ _ l0_2 _ _ l0_3 true _ ?side1 ?side2 ?side3 ?side4 ?side5 ?side6 ?side7 ?side8 ?side9 ?side10 ?side11 ?side12 A87.out).mono ?_); (case side1 => exact CR HO_275001); (case side2 => exact (Kd.R_reads' HO_275001.out).2.1); (case side3 => exact CR HO_275002); (case side4 => exact (Kd.R_reads' HO_275002.out).2.1); (case side5 => exact CR HO_275003); (case side6 => exact (Kd.R_reads' HO_275003.out).2.1); (case side7 => repeat (first | exact (Kd.C_below HR0_1.out HB.out) | (with_reducible refine Kd.C_alloc ?_ _) | (with_reducible refine Kd.C_drewN ?_ _) | (with_reducible refine Kd.C_drew ?_))); (case side8 => exact HC0_1.out); (case side9 => repeat (first | exact (Kd.C_below HR0_2.out HB.out) | (with_reducible refine Kd.C_alloc ?_ _) | (with_reducible refine Kd.C_drewN ?_ _) | (with_reducible refine Kd.C_drew ?_))); (case side10 => exact HC0_2.out); (case side11 => repeat (first | exact (Kd.C_below HR0_3.out HB.out) | (with_reducible refine Kd.C_alloc ?_ _) | (with_reducible refine Kd.C_drewN ?_ _) | (with_reducible refine Kd.C_drew ?_))); (case side12 => exact HC0_3.out); rintro e w100 ⟨rfl, hb⟩; refine ⟨_, rfl, ?_⟩; have n0_ := Aside0.mk (Kd.R_below (RL HO_275001) hb); have n1_ := Aside0.mk (Kd.R_below (RL HO_275002) hb); have n2_ := Aside0.mk (Kd.R_below (RL HO_275003) hb); have n3_ := Aside0.mk (Kd.R_below (RL HO_286001) hb); have n4_ := Aside0.mk (Kd.R_below (RL HO_286002) hb); have n5_ := Aside0.mk (Kd.R_below (RL HO_286003) hb); have n6_ := Aside0.mk (Kd.R_below (RL HO_297001) hb); have n7_ := Aside0.mk (Kd.R_below (RL HO_297002) hb); have n8_ := Aside0.mk (Kd.R_below (RL HO_297003) hb); have n9_ := BE BK250 hb; have n10_ := BE BK274 hb; have n11_ := BE BK285 hb; have n12_ := BE BK296 hb; have n13_ := Aside0.mk (below_step (BB HB) hb); clear HO_275001; clear HO_275002; clear HO_275003; clear HO_286001; clear HO_286002; clear HO_286003; clear HO_297001; clear HO_297002; clear HO_297003; clear BK250; clear BK274; clear BK285; clear BK296; clear HB; have HO_275001 := n0_; have HO_275002 := n1_; have HO_275003 := n2_; have HO_286001 := n3_; have HO_286002 := n4_; have HO_286003 := n5_; have HO_297001 := n6_; have HO_297002 := n7_; have HO_297003 := n8_; have BK250 := n9_; have BK274 := n10_; have BK285 := n11_; have BK296 := n12_; have HB := n13_; clear n0_ n1_ n2_ n3_ n4_ n5_ n6_ n7_ n8_ n9_ n10_ n11_ n12_ n13_; (try clear hb); (try clear hb2); (try clear hk); (try clear hi); have hnb101 := NB285_296.out; have hnc101 := NB296_285.out; have hcz102_0 : w100.cell? ⟨gb285, 0, none⟩ = some (.int .i64 t275) := (blk_cell BK285.out 0).trans rfl; have hcz102_1 : w100.cell? ⟨gb285, 1, none⟩ = some (u286001) := (blk_cell BK285.out 1).trans rfl; have hcz102_2 : w100.cell? ⟨gb285, 2, none⟩ = some (u286002) := (blk_cell BK285.out 2).trans rfl; have hcz102_3 : w100.cell? ⟨gb285, 3, none⟩ = some (u286003) := (blk_cell BK285.out 3).trans rfl; have hfz102_0 := blk_frozen BK285.out 0; have hfz102_1 := blk_frozen BK285.out 1; have hfz102_2 := blk_frozen BK285.out 2; have hfz102_3 := blk_frozen BK285.out 3; have hcz103_0 : w100.cell? ⟨gb250, 0, none⟩ = some (.int .i64 a0_0) := (blk_cell BK250.out 0).trans rfl; have hcz103_1 : w100.cell? ⟨gb250, 1, none⟩ = some (.slice A0_1 l0_1.length c0_1) := (blk_cell BK250.out 1).trans rfl; have hcz103_2 : w100.cell? ⟨gb250, 2, none⟩ = some (.slice A0_2 l0_2.length c0_2) := (blk_cell BK250.out 2).trans rfl; have hcz103_3 : w100.cell? ⟨gb250, 3, none⟩ = some (.slice A0_3 l0_3.length c0_3) := (blk_cell BK250.out 3).trans rfl; have hfz103_0 := blk_frozen BK250.out 0; have hfz103_1 := blk_frozen BK250.out 1; have hfz103_2 := blk_frozen BK250.out 2; have hfz103_3 := blk_frozen BK250.out 3; obtain ⟨Ao104, co104, eo104⟩ := Kd.R_slice HO_286001.out; subst eo104; obtain ⟨Ao105, co105, eo105⟩ := Kd.R_slice HO_286002.out; subst eo105; obtain ⟨Ao106, co106, eo106⟩ := Kd.R_slice HO_286003.out; subst eo106) | (go_at_call 20; (with_reducible refine (dioramaref08_Same.calls k4 t275 _ _ x286001_2 _ _ x286002_3 _ _ x286003_4 a0_0 _ _ l0_1 _ _ l0_2 _ _ l0_3 t301 _ ?side1 ?side2 ?side3 ?side4 ?side5 ?side6 ?side7 ?side8 ?side9 ?side10 ?side11 ?side12 A89.out).mono ?_); (case side1 => exact CR HO_286001); (case side2 => exact (Kd.R_reads' HO_286001.out).2.1); (case side3 => exact CR HO_286002); (case side4 => exact (Kd.R_reads' HO_286002.out).2.1); (case side5 => exact CR HO_286003); (case side6 => exact (Kd.R_reads' HO_286003.out).2.1); (case side7 => repeat (first | exact (Kd.C_below HR0_1.out HB.out) | (with_reducible refine Kd.C_alloc ?_ _) | (with_reducible refine Kd.C_drewN ?_ _) | (with_reducible refine Kd.C_drew ?_))); (case side8 => exact HC0_1.out); (case side9 => repeat (first | exact (Kd.C_below HR0_2.out HB.out) | (with_reducible refine Kd.C_alloc ?_ _) | (with_reducible refine Kd.C_drewN ?_ _) | (with_reducible refine Kd.C_drew ?_))); (case side10 => exact HC0_2.out); (case side11 => repeat (first | exact (Kd.C_below HR0_3.out HB.out) | (with_reducible refine Kd.C_alloc ?_ _) | (with_reducible refine Kd.C_drewN ?_ _) | (with_reducible refine Kd.C_drew ?_))); (case side12 => exact HC0_3.out); rintro e w107 ⟨rfl, hb⟩; have n0_ := Aside0.mk (Kd.R_below (RL HO_275001) hb); have n1_ := Aside0.mk (Kd.R_below (RL HO_275002) hb); have n2_ := Aside0.mk (Kd.R_below (RL HO_275003) hb); have n3_ := Aside0.mk (Kd.R_below (RL HO_286001) hb); have n4_ := Aside0.mk (Kd.R_below (RL HO_286002) hb); have n5_ := Aside0.mk (Kd.R_below (RL HO_286003) hb); have n6_ := Aside0.mk (Kd.R_below (RL HO_297001) hb); have n7_ := Aside0.mk (Kd.R_below (RL HO_297002) hb); have n8_ := Aside0.mk (Kd.R_below (RL HO_297003) hb); have n9_ := BE BK250 hb; have n10_ := BE BK274 hb; have n11_ := BE BK285 hb; have n12_ := BE BK296 hb; have n13_ := Aside0.mk (below_step (BB HB) hb); clear HO_275001; clear HO_275002; clear HO_275003; clear HO_286001; clear HO_286002; clear HO_286003; clear HO_297001; clear HO_297002; clear HO_297003; clear BK250; clear BK274; clear BK285; clear BK296; clear HB; have HO_275001 := n0_; have HO_275002 := n1_; have HO_275003 := n2_; have HO_286001 := n3_; have HO_286002 := n4_; have HO_286003 := n5_; have HO_297001 := n6_; have HO_297002 := n7_; have HO_297003 := n8_; have BK250 := n9_; have BK274 := n10_; have BK285 := n11_; have BK296 := n12_; have HB := n13_; clear n0_ n1_ n2_ n3_ n4_ n5_ n6_ n7_ n8_ n9_ n10_ n11_ n12_ n13_; (try clear hb); (try clear hb2); (try clear hk); (try clear hi)))
              go_ret
              exact ⟨by first | rfl | (simp [errW_none, errW_some] <;> rfl) | (simp [*, errW_none, errW_some] <;> rfl), BB HB⟩
             ·replace c88 := Bool.eq_false_iff.mpr c88
              subst c88
              have H1 : (some false) = some r := by rw [if_neg (show ¬ (false = true) by decide)] at H; exact H
              clear H
              have H := H1
              clear H1
              obtain rfl := Option.some.inj H
              have hnb108 := NB274_250.out
              have hnc108 := NB250_274.out
              have hnb109 := NB274_285.out
              have hnc109 := NB285_274.out
              have hnb110 := NB274_296.out
              have hnc110 := NB296_274.out
              have hcz111_0 : wr.cell? ⟨gb274, 0, none⟩ = some (.int .i64 t264) := (blk_cell BK274.out 0).trans rfl
              have hcz111_1 : wr.cell? ⟨gb274, 1, none⟩ = some (u275001) := (blk_cell BK274.out 1).trans rfl
              have hcz111_2 : wr.cell? ⟨gb274, 2, none⟩ = some (u275002) := (blk_cell BK274.out 2).trans rfl
              have hcz111_3 : wr.cell? ⟨gb274, 3, none⟩ = some (u275003) := (blk_cell BK274.out 3).trans rfl
              have hfz111_0 := blk_frozen BK274.out 0
              have hfz111_1 := blk_frozen BK274.out 1
              have hfz111_2 := blk_frozen BK274.out 2
              have hfz111_3 := blk_frozen BK274.out 3
              have hnb112 := NB250_285.out
              have hnc112 := NB285_250.out
              have hnb113 := NB250_296.out
              have hnc113 := NB296_250.out
              have hcz114_0 : wr.cell? ⟨gb250, 0, none⟩ = some (.int .i64 a0_0) := (blk_cell BK250.out 0).trans rfl
              have hcz114_1 : wr.cell? ⟨gb250, 1, none⟩ = some (.slice A0_1 l0_1.length c0_1) := (blk_cell BK250.out 1).trans rfl
              have hcz114_2 : wr.cell? ⟨gb250, 2, none⟩ = some (.slice A0_2 l0_2.length c0_2) := (blk_cell BK250.out 2).trans rfl
              have hcz114_3 : wr.cell? ⟨gb250, 3, none⟩ = some (.slice A0_3 l0_3.length c0_3) := (blk_cell BK250.out 3).trans rfl
              have hfz114_0 := blk_frozen BK250.out 0
              have hfz114_1 := blk_frozen BK250.out 1
              have hfz114_2 := blk_frozen BK250.out 2
              have hfz114_3 := blk_frozen BK250.out 3
              obtain ⟨Ao115, co115, eo115⟩ := Kd.R_slice HO_275001.out
              subst eo115
              obtain ⟨Ao116, co116, eo116⟩ := Kd.R_slice HO_275002.out
              subst eo116
              obtain ⟨Ao117, co117, eo117⟩ := Kd.R_slice HO_275003.out
              subst eo117
              go_wp2_with (first | ((with_reducible refine gate_callee (f := 20) rfl ?_); refine goesL_ (some 61) rfl rfl Tryd.func20 (by kernel_rfl) rfl #[.agg #[.int .i64 t264, .slice Ao115 x275001_2.length co115, .slice Ao116 x275002_3.length co116, .slice Ao117 x275003_4.length co117], .agg #[.int .i64 a0_0, .slice A0_1 l0_1.length c0_1, .slice A0_2 l0_2.length c0_2, .slice A0_3 l0_3.length c0_3]] rfl (by (try simp only [List.map_toArray, List.map_cons, List.map_nil]); first | done | rfl | (simp only [List.length_drop, List.length_take]; rfl)) ?_; (with_reducible refine (dioramaref08_Same.calls k4 t264 _ _ x275001_2 _ _ x275002_3 _ _ x275003_4 a0_0 _ _ l0_1 _ _ l0_2 _ _ l0_3 false _ ?side1 ?side2 ?side3 ?side4 ?side5 ?side6 ?side7 ?side8 ?side9 ?side10 ?side11 ?side12 A87.out).mono ?_); (case side1 => exact CR HO_275001); (case side2 => exact (Kd.R_reads' HO_275001.out).2.1); (case side3 => exact CR HO_275002); (case side4 => exact (Kd.R_reads' HO_275002.out).2.1); (case side5 => exact CR HO_275003); (case side6 => exact (Kd.R_reads' HO_275003.out).2.1); (case side7 => repeat (first | exact (Kd.C_below HR0_1.out HB.out) | (with_reducible refine Kd.C_alloc ?_ _) | (with_reducible refine Kd.C_drewN ?_ _) | (with_reducible refine Kd.C_drew ?_))); (case side8 => exact HC0_1.out); (case side9 => repeat (first | exact (Kd.C_below HR0_2.out HB.out) | (with_reducible refine Kd.C_alloc ?_ _) | (with_reducible refine Kd.C_drewN ?_ _) | (with_reducible refine Kd.C_drew ?_))); (case side10 => exact HC0_2.out); (case side11 => repeat (first | exact (Kd.C_below HR0_3.out HB.out) | (with_reducible refine Kd.C_alloc ?_ _) | (with_reducible refine Kd.C_drewN ?_ _) | (with_reducible refine Kd.C_drew ?_))); (case side12 => exact HC0_3.out); rintro e w118 ⟨rfl, hb⟩; refine ⟨_, rfl, ?_⟩; have n0_ := Aside0.mk (Kd.R_below (RL HO_275001) hb); have n1_ := Aside0.mk (Kd.R_below (RL HO_275002) hb); have n2_ := Aside0.mk (Kd.R_below (RL HO_275003) hb); have n3_ := Aside0.mk (Kd.R_below (RL HO_286001) hb); have n4_ := Aside0.mk (Kd.R_below (RL HO_286002) hb); have n5_ := Aside0.mk (Kd.R_below (RL HO_286003) hb); have n6_ := Aside0.mk (Kd.R_below (RL HO_297001) hb); have n7_ := Aside0.mk (Kd.R_below (RL HO_297002) hb); have n8_ := Aside0.mk (Kd.R_below (RL HO_297003) hb); have n9_ := BE BK250 hb; have n10_ := BE BK274 hb; have n11_ := BE BK285 hb; have n12_ := BE BK296 hb; have n13_ := Aside0.mk (below_step (BB HB) hb); clear HO_275001; clear HO_275002; clear HO_275003; clear HO_286001; clear HO_286002; clear HO_286003; clear HO_297001; clear HO_297002; clear HO_297003; clear BK250; clear BK274; clear BK285; clear BK296; clear HB; have HO_275001 := n0_; have HO_275002 := n1_; have HO_275003 := n2_; have HO_286001 := n3_; have HO_286002 := n4_; have HO_286003 := n5_; have HO_297001 := n6_; have HO_297002 := n7_; have HO_297003 := n8_; have BK250 := n9_; have BK274 := n10_; have BK285 := n11_; have BK296 := n12_; have HB := n13_; clear n0_ n1_ n2_ n3_ n4_ n5_ n6_ n7_ n8_ n9_ n10_ n11_ n12_ n13_; (try clear hb); (try clear hb2); (try clear hk); (try clear hi)))
              go_ret
              exact ⟨by first | rfl | (simp [errW_none, errW_some] <;> rfl) | (simp [*, errW_none, errW_some] <;> rfl), BB HB⟩

end Go.Proofs.YtmglknchklgokaaDoor.GR
