/- The reference's cursor, called: each function does what the plain functions say, and turns nothing but the cursor. -/
import Derived.Test.YtoigkneoaemcfaaDoorRxDCurV
import Derived.RegionTactic
namespace Go.Proofs.YtoigkneoaemcfaaDoor.Cur
open Go.RowKit Go.Proofs.YtoigkneoaemcfaaDoorW.PrintWords Go.Proofs.YtoigkneoaemcfaaDoorW.PrintLast Go.Proofs.YtoigkneoaemcfaaDoorW.PrintMore Go.Proofs.YtoigkneoaemcfaaDoor.VM Go.Proofs.YtoigkneoaemcfaaDoor.B
set_option linter.unusedVariables false
set_option linter.unusedSimpArgs false
/-- Block g is the reference's cursor c. -/
def IsM (w : World) (g : Nat) (c : Cur) : Prop := w.heap[g]? = some (.cells #[.string c.b, .int .i64 c.at', .int .i64 c.e] 58 (0, 0))
section
variable {w w' : World} {g : Nat} {c : Cur}
theorem IsM.c0 (h : IsM w g c) : w.cell? ⟨g, 0, none⟩ = some (.string c.b) := (blk_cell h 0).trans rfl
theorem IsM.c1 (h : IsM w g c) : w.cell? ⟨g, 1, none⟩ = some (.int .i64 c.at') := (blk_cell h 1).trans rfl
theorem IsM.c2 (h : IsM w g c) : w.cell? ⟨g, 2, none⟩ = some (.int .i64 c.e) := (blk_cell h 2).trans rfl
theorem IsM.f1 (h : IsM w g c) : w.frozen? ⟨g, 1, none⟩ = false := blk_frozen h 1
theorem IsM.f2 (h : IsM w g c) : w.frozen? ⟨g, 2, none⟩ = false := blk_frozen h 2
theorem IsM.lt (h : IsM w g c) : g < w.heap.size := blk_lt h
theorem IsM.drewN (h : IsM w g c) (n : Nat) : IsM (w.drewN n) g c := h
theorem IsM.drawn (h : IsM w g c) (d : Drawn0 w w') : IsM w' g c := by obtain ⟨n, rfl⟩ := d; exact h
theorem IsM.mv {S : Nat → Prop} (h : IsM w g c) (m : Mv S w w') (hg : ¬ S g) : IsM w' g c := m.keep h hg
theorem IsM.below (h : IsM w g c) (m : Below w.heap.size w w') : IsM w' g c := (Mv.of_below (S := nil) m).keep h (fun h => h)
theorem IsM.setAt (h : IsM w g c) (n : Nat) : IsM (w.setCell ⟨g, 1, none⟩ (.int .i64 n)) g { c with at' := n } := by
  have := blk_set h 1 (.int .i64 n)
  simpa [IsM] using this
theorem IsM.setErr (h : IsM w g c) (e : Int) : IsM (w.setCell ⟨g, 2, none⟩ (.int .i64 e)) g { c with e := e } := by
  have := blk_set h 2 (.int .i64 e)
  simpa [IsM] using this
theorem mm_set {w w1 : World} {g : Nat} (h : Mv (one g) w w1) (o : Nat) (v : Value) : Mv (one g) w (w1.setCell ⟨g, o, none⟩ v) := h.setCell (p := ⟨g, o, none⟩) (.inl rfl) v
end

theorem muint_calls (g : Nat) (c : Cur) (most : Int) (w : World) (h : IsM w g c) (ok : c.ok) (m0 : 0 ≤ most) :
    Calls Tryd.prog 59 #[.pointer (some ⟨g, 0, none⟩), .int .u64 most] w fun en w' => en = .returned (.int .i64 (c.uint most).1) ∧ IsM w' g (c.uint most).2 ∧ Mv (one g) w w' := by
  have c0 := h.c0
  have c1 := h.c1
  have c2 := h.c2
  have f1 := h.f1
  have f2 := h.f2
  by_cases he : c.e = 0
  · have z0 : (c.e != 0) = false := bne_eq_false_iff_eq.mpr he
    have hc := gt_cases c.b c.at'
    have HG := Lib.hid (fun W => refget_calls c.b ok.2 c.at' ok.1 W)
    have hu : c.uint most = (if (gt c.b c.at').2.2 ≠ 0 then (0, { c with e := (gt c.b c.at').2.2 }) else if (gt c.b c.at').1 > most ∨ (gt c.b c.at').1 > 16777216 then (0, { c with e := 19 }) else ((gt c.b c.at').1, { c with at' := (gt c.b c.at').2.1.toNat })) := by
      unfold Cur.uint; rw [if_neg (by simpa using he)]
    generalize hr : gt c.b c.at' = r at hc hu
    obtain ⟨x, y, er⟩ := r
    rw [hr] at HG
    clear hr
    have H := Lib.hid h
    have HU := Lib.hid hu
    have r0 : 0 ≤ x ∧ x ≤ 18446744073709551615 ∧ 0 ≤ y ∧ y ≤ 9223372036854775807 := by
      rcases hc with ⟨v, n, e, h3, h4, _⟩ | e | e
      all_goals (simp only [Prod.mk.injEq] at e; obtain ⟨rfl, rfl, rfl⟩ := e; obtain ⟨k1, k2⟩ := ok; omega)
    clear h hu he hc ok
    obtain ⟨r1, r2, r3, r4⟩ := r0
    obtain ⟨y, rfl⟩ := Int.eq_ofNat_of_zero_le r3
    by_cases hz : er = 0
    · have z1 : (er == 0) = true := beq_iff_eq.mpr hz
      have z2 : (er != 0) = false := bne_eq_false_iff_eq.mpr hz
      have HZ := Lib.hid hz
      clear hz
      by_cases ha : most < x
      · have d1 : decide (most < x) = true := decide_eq_true ha
        go_enter Tryd.func59, Tryd.ntmps59
        go_wp2_with (fail)
        go_quiet ((go_at_call 86; exact quietD (HG.out _)))
        go_wp2_with (fail)
        go_ret
        have hu2 := HU.out
        rw [if_neg (by rw [HZ.out]; simp), if_pos (.inl ha)] at hu2
        exact ⟨by rw [hu2]; rfl, by rw [hu2]; exact (IsM.drewN H.out _).setErr 19, mm_set ((Mv.refl _ _).drewN _) _ _⟩
      · have d1 : decide (most < x) = false := decide_eq_false ha
        by_cases hb : 16777216 < x
        · have d2 : decide (16777216 < x) = true := decide_eq_true hb
          go_enter Tryd.func59, Tryd.ntmps59
          go_wp2_with (fail)
          go_quiet ((go_at_call 86; exact quietD (HG.out _)))
          go_wp2_with (fail)
          go_ret
          have hu2 := HU.out
          rw [if_neg (by rw [HZ.out]; simp), if_pos (.inr hb)] at hu2
          exact ⟨by rw [hu2]; rfl, by rw [hu2]; exact (IsM.drewN H.out _).setErr 19, mm_set ((Mv.refl _ _).drewN _) _ _⟩
        · have d2 : decide (16777216 < x) = false := decide_eq_false hb
          go_enter Tryd.func59, Tryd.ntmps59
          go_wp2_with (fail)
          go_quiet ((go_at_call 86; exact quietD (HG.out _)))
          go_wp2_with (fail)
          go_ret
          have hu2 := HU.out
          rw [if_neg (by rw [HZ.out]; simp), if_neg (by omega)] at hu2
          exact ⟨by rw [hu2]; rfl, by rw [hu2]; exact (IsM.drewN H.out _).setAt _, mm_set ((Mv.refl _ _).drewN _) _ _⟩
    · have z1 : (er == 0) = false := beq_eq_false_iff_ne.mpr hz
      have z2 : (er != 0) = true := bne_iff_ne.mpr hz
      have HZ := Lib.hid hz
      clear hz
      go_enter Tryd.func59, Tryd.ntmps59
      go_wp2_with (fail)
      go_quiet ((go_at_call 86; exact quietD (HG.out _)))
      go_wp2_with (fail)
      go_ret
      have hu2 := HU.out
      rw [if_pos HZ.out] at hu2
      exact ⟨by rw [hu2]; rfl, by rw [hu2]; exact (IsM.drewN H.out _).setErr er, mm_set ((Mv.refl _ _).drewN _) _ _⟩
  · have z0 : (c.e != 0) = true := bne_iff_ne.mpr he
    have hf : c.uint most = (0, c) := by unfold Cur.uint; rw [if_pos (by simpa using he)]
    have H := Lib.hid h
    have HF := Lib.hid hf
    clear h hf he
    go_enter Tryd.func59, Tryd.ntmps59
    go_wp2_with (fail)
    go_ret
    exact ⟨by rw [HF.out]; rfl, by rw [HF.out]; exact H.out, Mv.refl _ _⟩

theorem mint_calls (g : Nat) (c : Cur) (w : World) (h : IsM w g c) (ok : c.ok) :
    Calls Tryd.prog 61 #[.pointer (some ⟨g, 0, none⟩)] w fun en w' => en = .returned (.int .i64 c.int.1) ∧ IsM w' g c.int.2 ∧ Mv (one g) w w' := by
  have c0 := h.c0
  have c1 := h.c1
  have c2 := h.c2
  have f1 := h.f1
  have f2 := h.f2
  by_cases he : c.e = 0
  · have z0 : (c.e != 0) = false := bne_eq_false_iff_eq.mpr he
    have hc := gt_cases c.b c.at'
    have HG := Lib.hid (fun W => refget_calls c.b ok.2 c.at' ok.1 W)
    have hu : c.int = (if (gt c.b c.at').2.2 ≠ 0 then (0, { c with e := (gt c.b c.at').2.2 }) else (zag (gt c.b c.at').1, { c with at' := (gt c.b c.at').2.1.toNat })) := by
      unfold Cur.int; rw [if_neg (by simpa using he)]
    generalize hr : gt c.b c.at' = r at hc hu
    obtain ⟨x, y, er⟩ := r
    rw [hr] at HG
    clear hr
    have H := Lib.hid h
    have HU := Lib.hid hu
    have r0 : 0 ≤ x ∧ x ≤ 18446744073709551615 ∧ 0 ≤ y ∧ y ≤ 9223372036854775807 := by
      rcases hc with ⟨v, n, e, h3, h4, _⟩ | e | e
      all_goals (simp only [Prod.mk.injEq] at e; obtain ⟨rfl, rfl, rfl⟩ := e; obtain ⟨k1, k2⟩ := ok; omega)
    clear h hu he hc ok
    obtain ⟨r1, r2, r3, r4⟩ := r0
    have HZG := Lib.hid (fun W => refzag_calls x r1 (by omega) W)
    obtain ⟨y, rfl⟩ := Int.eq_ofNat_of_zero_le r3
    by_cases hz : er = 0
    · have z2 : (er != 0) = false := bne_eq_false_iff_eq.mpr hz
      have HZ := Lib.hid hz
      clear hz r2
      go_enter Tryd.func61, Tryd.ntmps61
      go_wp2_with (fail)
      go_quiet ((go_at_call 86; exact quietD (HG.out _)))
      go_wp2_with (fail)
      refine (HZG.out _).mono ?_
      rintro e w2 ⟨rfl, hd⟩
      go_wp2_with (fail)
      go_ret
      have hu2 := HU.out
      rw [if_neg (by rw [HZ.out]; simp)] at hu2
      exact ⟨by rw [hu2]; rfl, by rw [hu2]; exact ((IsM.drewN H.out _).setAt _).drawn hd, (mm_set ((Mv.refl _ _).drewN _) _ _).step (Mv.of_drawn hd)⟩
    · have z2 : (er != 0) = true := bne_iff_ne.mpr hz
      have HZ := Lib.hid hz
      clear hz r2
      go_enter Tryd.func61, Tryd.ntmps61
      go_wp2_with (fail)
      go_quiet ((go_at_call 86; exact quietD (HG.out _)))
      go_wp2_with (fail)
      go_ret
      have hu2 := HU.out
      rw [if_pos HZ.out] at hu2
      exact ⟨by rw [hu2]; rfl, by rw [hu2]; exact (IsM.drewN H.out _).setErr er, mm_set ((Mv.refl _ _).drewN _) _ _⟩
  · have z0 : (c.e != 0) = true := bne_iff_ne.mpr he
    have hf : c.int = (0, c) := by unfold Cur.int; rw [if_pos (by simpa using he)]
    have H := Lib.hid h
    have HF := Lib.hid hf
    clear h hf he
    go_enter Tryd.func61, Tryd.ntmps61
    go_wp2_with (fail)
    go_ret
    exact ⟨by rw [HF.out]; rfl, by rw [HF.out]; exact H.out, Mv.refl _ _⟩
theorem mfail_calls (g : Nat) (c : Cur) (e : Int) (w : World) (h : IsM w g c) :
    Calls Tryd.prog 60 #[.pointer (some ⟨g, 0, none⟩), .int .i64 e] w fun en w' => en = .returned (.tuple #[]) ∧ IsM w' g (c.fail e) ∧ Mv (one g) w w' := by
  have k2 := h.c2
  have f2 := h.f2
  by_cases he : c.e = 0
  · have t0 : (c.e == 0) = true := by simpa using he
    have hf : c.fail e = { c with e := e } := by unfold Cur.fail; rw [if_pos he]
    have HF := Lib.hid hf
    have H := Lib.hid h
    clear hf h
    go_enter Tryd.func60, Tryd.ntmps60
    go_wp2_with (fail)
    go_end0
    exact ⟨rfl, by rw [HF.out]; exact H.out.setErr e, mm_set (Mv.refl _ _) 2 _⟩
  · have t0 : (c.e == 0) = false := by simpa using he
    have hf : c.fail e = c := by unfold Cur.fail; rw [if_neg he]
    have HF := Lib.hid hf
    have H := Lib.hid h
    clear hf h
    go_enter Tryd.func60, Tryd.ntmps60
    go_wp2_with (fail)
    go_end0
    exact ⟨rfl, by rw [HF.out]; exact H.out, Mv.refl _ _⟩
theorem IsM.new (w : World) (b : ByteArray) (a : Nat) : IsM (w.alloc (.cells #[.string b, .int .i64 a, .int .i64 0] 58)) w.heap.size ⟨b, a, 0⟩ := by
  have := heap_alloc_new w (.cells #[.string b, .int .i64 a, .int .i64 0] 58)
  simpa [IsM] using this

end Go.Proofs.YtoigkneoaemcfaaDoor.Cur
