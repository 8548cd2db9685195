/- The reference's cursor, called: each function does what the plain functions say, and turns nothing but the cursor. -/
import Derived.Test.YtmglknchklgokaaDoorDCurV
import Derived.RegionTactic
namespace Go.Proofs.YtmglknchklgokaaDoor.Cur
open Go.RowKit Go.Proofs.YtmglknchklgokaaDoorW.PrintWords Go.Proofs.YtmglknchklgokaaDoorW.PrintLast Go.Proofs.YtmglknchklgokaaDoorW.PrintMore Go.Proofs.YtmglknchklgokaaDoor.VM Go.Proofs.YtmglknchklgokaaDoor.B
set_option linter.unusedVariables false
set_option linter.unusedSimpArgs false
/-- Block g is the reference's cursor c. -/
def IsM (w : World) (g : Nat) (c : Cur) : Prop := w.heap[g]? = some (.cells #[.string c.b, .int .i64 c.at', .int .i64 c.e] 103 (0, 0))
section
variable {w w' : World} {g : Nat} {c : Cur}
theorem IsM.c0 (h : IsM w g c) : w.cell? ⟨g, 0, none⟩ = some (.string c.b) := (blk_cell h 0).trans rfl
theorem IsM.c1 (h : IsM w g c) : w.cell? ⟨g, 1, none⟩ = some (.int .i64 c.at') := (blk_cell h 1).trans rfl
theorem IsM.c2 (h : IsM w g c) : w.cell? ⟨g, 2, none⟩ = some (.int .i64 c.e) := (blk_cell h 2).trans rfl
theorem IsM.f1 (h : IsM w g c) : w.frozen? ⟨g, 1, none⟩ = false := blk_frozen h 1
theorem IsM.f2 (h : IsM w g c) : w.frozen? ⟨g, 2, none⟩ = false := blk_frozen h 2
theorem IsM.lt (h : IsM w g c) : g < w.heap.size := blk_lt h
theorem IsM.drewN (h : IsM w g c) (n : Nat) : IsM (w.drewN n) g c := h
theorem IsM.drawn (h : IsM w g c) (d : Drawn0 w w') : IsM w' g c := by obtain ⟨n, rfl⟩ := d; exact h
theorem IsM.mv {S : Nat → Prop} (h : IsM w g c) (m : Mv S w w') (hg : ¬ S g) : IsM w' g c := m.keep h hg
theorem IsM.below (h : IsM w g c) (m : Below w.heap.size w w') : IsM w' g c := (Mv.of_below (S := nil) m).keep h (fun h => h)
theorem IsM.setAt (h : IsM w g c) (n : Nat) : IsM (w.setCell ⟨g, 1, none⟩ (.int .i64 n)) g { c with at' := n } := by
  have := blk_set h 1 (.int .i64 n)
  simpa [IsM] using this
theorem IsM.setErr (h : IsM w g c) (e : Int) : IsM (w.setCell ⟨g, 2, none⟩ (.int .i64 e)) g { c with e := e } := by
  have := blk_set h 2 (.int .i64 e)
  simpa [IsM] using this
theorem mm_set {w w1 : World} {g : Nat} (h : Mv (one g) w w1) (o : Nat) (v : Value) : Mv (one g) w (w1.setCell ⟨g, o, none⟩ v) := h.setCell (p := ⟨g, o, none⟩) (.inl rfl) v
end

theorem mbytes_calls (g : Nat) (c : Cur) (n : Int) (w : World) (h : IsM w g c) (ok : c.ok) (n1 : n ≤ 9223372036854775807) :
    Calls Tryd.prog 75 #[.pointer (some ⟨g, 0, none⟩), .int .i64 n] w fun en w' => en = .returned (.string (c.bytes n).1) ∧ IsM w' g (c.bytes n).2 ∧ Mv (one g) w w' := by
  have c2 := h.c2
  have f2 := h.f2
  by_cases he : c.e = 0
  · have z0 : (c.e != 0) = false := bne_eq_false_iff_eq.mpr he
    by_cases hz : n < 0
    · have hf : c.bytes n = (⟨#[]⟩, { c with e := 1 }) := by unfold Cur.bytes; rw [if_neg (by simpa using he), if_pos hz]
      have H := Lib.hid h
      have HF := Lib.hid hf
      have z : decide (n < 0) = true := decide_eq_true hz
      clear h hf he
      go_enter Tryd.func75, Tryd.ntmps75
      go_wp2_with (fail)
      go_ret
      exact ⟨by rw [HF.out]; rfl, by rw [HF.out]; exact H.out.setErr 1, mm_set (Mv.refl _ _) _ _⟩
    · have z : decide (n < 0) = false := decide_eq_false hz
      have c0 := h.c0
      have c1 := h.c1
      have f1 := h.f1
      by_cases hl : c.left < n
      · have hf : c.bytes n = (⟨#[]⟩, { c with e := 2 }) := by unfold Cur.bytes; rw [if_neg (by simpa using he), if_neg hz, if_pos hl]
        have H := Lib.hid h
        have HF := Lib.hid hf
        obtain ⟨k1, k2⟩ := ok
        obtain ⟨b, a, er⟩ := c
        simp only [Cur.left] at *
        have z2 : decide ((b.size : Int) - (a : Int) < n) = true := decide_eq_true hl
        clear h hf he
        go_enter Tryd.func75, Tryd.ntmps75
        go_wp2_with (fail)
        go_quiet (fail)
        go_wp2_with (fail)
        go_ret
        exact ⟨by rw [HF.out]; rfl, by rw [HF.out]; exact (IsM.drewN H.out _).setErr 2, mm_set ((Mv.refl _ _).drewN _) _ _⟩
      · have hf : c.bytes n = (c.b.extract c.at' (c.at' + n.toNat), { c with at' := c.at' + n.toNat }) := by unfold Cur.bytes; rw [if_neg (by simpa using he), if_neg hz, if_neg hl]
        have H := Lib.hid h
        have HF := Lib.hid hf
        obtain ⟨k1, k2⟩ := ok
        obtain ⟨m, rfl⟩ := Int.eq_ofNat_of_zero_le (show 0 ≤ n by omega)
        obtain ⟨b, a, er⟩ := c
        simp only [Cur.left] at *
        have z2 : decide ((b.size : Int) - (a : Int) < (m : Int)) = false := decide_eq_false hl
        have k3 : a + m ≤ b.size := by omega
        have hsl := fun W => slice_str (P := Tryd.prog) Tryd.underlying9 b a (a + m) (by omega) (by omega) (x := (a : Int)) (y := (a : Int) + (m : Int)) rfl (by omega) W
        clear h hf he hl hz
        go_enter Tryd.func75, Tryd.ntmps75
        go_wp2_with (fail)
        go_quiet (fail)
        go_wp2_with (fail)
        go_quiet (fail)
        go_wp2_with (fail)
        go_ret
        exact ⟨by rw [HF.out]; rfl, by rw [HF.out]; exact (IsM.drewN H.out _).setAt _, (mm_set ((Mv.refl _ _).drewN _) _ _).drewN _⟩
  · have z0 : (c.e != 0) = true := bne_iff_ne.mpr he
    have hf : c.bytes n = (⟨#[]⟩, c) := by unfold Cur.bytes; rw [if_pos (by simpa using he)]
    have H := Lib.hid h
    have HF := Lib.hid hf
    clear h hf he
    go_enter Tryd.func75, Tryd.ntmps75
    go_wp2_with (fail)
    go_ret
    exact ⟨by rw [HF.out]; rfl, by rw [HF.out]; exact H.out, Mv.refl _ _⟩

theorem muint_calls (g : Nat) (c : Cur) (most : Int) (w : World) (h : IsM w g c) (ok : c.ok) (m0 : 0 ≤ most) :
    Calls Tryd.prog 63 #[.pointer (some ⟨g, 0, none⟩), .int .u64 most] w fun en w' => en = .returned (.int .i64 (c.uint most).1) ∧ IsM w' g (c.uint most).2 ∧ Mv (one g) w w' := by
  have c0 := h.c0
  have c1 := h.c1
  have c2 := h.c2
  have f1 := h.f1
  have f2 := h.f2
  by_cases he : c.e = 0
  · have z0 : (c.e != 0) = false := bne_eq_false_iff_eq.mpr he
    have hc := gt_cases c.b c.at'
    have HG := Lib.hid (fun W => refget_calls c.b ok.2 c.at' ok.1 W)
    have hu : c.uint most = (if (gt c.b c.at').2.2 ≠ 0 then (0, { c with e := (gt c.b c.at').2.2 }) else if (gt c.b c.at').1 > most ∨ (gt c.b c.at').1 > 16777216 then (0, { c with e := 19 }) else ((gt c.b c.at').1, { c with at' := (gt c.b c.at').2.1.toNat })) := by
      unfold Cur.uint; rw [if_neg (by simpa using he)]
    generalize hr : gt c.b c.at' = r at hc hu
    obtain ⟨x, y, er⟩ := r
    rw [hr] at HG
    clear hr
    have H := Lib.hid h
    have HU := Lib.hid hu
    have r0 : 0 ≤ x ∧ x ≤ 18446744073709551615 ∧ 0 ≤ y ∧ y ≤ 9223372036854775807 := by
      rcases hc with ⟨v, n, e, h3, h4, _⟩ | e | e
      all_goals (simp only [Prod.mk.injEq] at e; obtain ⟨rfl, rfl, rfl⟩ := e; obtain ⟨k1, k2⟩ := ok; omega)
    clear h hu he hc ok
    obtain ⟨r1, r2, r3, r4⟩ := r0
    obtain ⟨y, rfl⟩ := Int.eq_ofNat_of_zero_le r3
    by_cases hz : er = 0
    · have z1 : (er == 0) = true := beq_iff_eq.mpr hz
      have z2 : (er != 0) = false := bne_eq_false_iff_eq.mpr hz
      have HZ := Lib.hid hz
      clear hz
      by_cases ha : most < x
      · have d1 : decide (most < x) = true := decide_eq_true ha
        go_enter Tryd.func63, Tryd.ntmps63
        go_wp2_with (fail)
        go_quiet ((go_at_call 74; exact quietD (HG.out _)))
        go_wp2_with (fail)
        go_ret
        have hu2 := HU.out
        rw [if_neg (by rw [HZ.out]; simp), if_pos (.inl ha)] at hu2
        exact ⟨by rw [hu2]; rfl, by rw [hu2]; exact (IsM.drewN H.out _).setErr 19, mm_set ((Mv.refl _ _).drewN _) _ _⟩
      · have d1 : decide (most < x) = false := decide_eq_false ha
        by_cases hb : 16777216 < x
        · have d2 : decide (16777216 < x) = true := decide_eq_true hb
          go_enter Tryd.func63, Tryd.ntmps63
          go_wp2_with (fail)
          go_quiet ((go_at_call 74; exact quietD (HG.out _)))
          go_wp2_with (fail)
          go_ret
          have hu2 := HU.out
          rw [if_neg (by rw [HZ.out]; simp), if_pos (.inr hb)] at hu2
          exact ⟨by rw [hu2]; rfl, by rw [hu2]; exact (IsM.drewN H.out _).setErr 19, mm_set ((Mv.refl _ _).drewN _) _ _⟩
        · have d2 : decide (16777216 < x) = false := decide_eq_false hb
          go_enter Tryd.func63, Tryd.ntmps63
          go_wp2_with (fail)
          go_quiet ((go_at_call 74; exact quietD (HG.out _)))
          go_wp2_with (fail)
          go_ret
          have hu2 := HU.out
          rw [if_neg (by rw [HZ.out]; simp), if_neg (by omega)] at hu2
          exact ⟨by rw [hu2]; rfl, by rw [hu2]; exact (IsM.drewN H.out _).setAt _, mm_set ((Mv.refl _ _).drewN _) _ _⟩
    · have z1 : (er == 0) = false := beq_eq_false_iff_ne.mpr hz
      have z2 : (er != 0) = true := bne_iff_ne.mpr hz
      have HZ := Lib.hid hz
      clear hz
      go_enter Tryd.func63, Tryd.ntmps63
      go_wp2_with (fail)
      go_quiet ((go_at_call 74; exact quietD (HG.out _)))
      go_wp2_with (fail)
      go_ret
      have hu2 := HU.out
      rw [if_pos HZ.out] at hu2
      exact ⟨by rw [hu2]; rfl, by rw [hu2]; exact (IsM.drewN H.out _).setErr er, mm_set ((Mv.refl _ _).drewN _) _ _⟩
  · have z0 : (c.e != 0) = true := bne_iff_ne.mpr he
    have hf : c.uint most = (0, c) := by unfold Cur.uint; rw [if_pos (by simpa using he)]
    have H := Lib.hid h
    have HF := Lib.hid hf
    clear h hf he
    go_enter Tryd.func63, Tryd.ntmps63
    go_wp2_with (fail)
    go_ret
    exact ⟨by rw [HF.out]; rfl, by rw [HF.out]; exact H.out, Mv.refl _ _⟩

theorem IsM.new (w : World) (b : ByteArray) (a : Nat) : IsM (w.alloc (.cells #[.string b, .int .i64 a, .int .i64 0] 103)) w.heap.size ⟨b, a, 0⟩ := by
  have := heap_alloc_new w (.cells #[.string b, .int .i64 a, .int .i64 0] 103)
  simpa [IsM] using this

theorem mtext_walk1 (g : Nat) (b : ByteArray) (a : Nat) (c1 c2 : Cur) (most n : Int) (s : ByteArray) (w : World) (h : IsM w g ⟨b, a, 0⟩) (ok : Cur.ok ⟨b, a, 0⟩) (i1 : most ≤ 9223372036854775807) (i0 : 0 ≤ most)
    (hu : Cur.uint ⟨b, a, 0⟩ most = (n, c1)) (n0 : 0 ≤ n) (n1 : n ≤ 16777216) (hb : c1.bytes n = (s, c2)) (ok1 : c1.ok) :
    Calls Tryd.prog 64 #[.pointer (some ⟨g, 0, none⟩), .int .i64 most] w fun en w' => en = .returned (.string (Cur.textOf ⟨b, a, 0⟩ (s, c2)).1) ∧ IsM w' g (Cur.textOf ⟨b, a, 0⟩ (s, c2)).2 ∧ Mv (one g) w w' := by
  have H := Lib.hid h
  have k0 := h.c0
  have k1 := h.c1
  have k2 := h.c2
  have f1 := h.f1
  have f2 := h.f2
  have hlt : ¬ one w.heap.size g := by have := h.lt; intro e; rw [show g = w.heap.size from e] at this; omega
  have HU := Lib.hid hu
  have HB := Lib.hid hb
  clear h hu hb
  have hd : decide (most < 0) = false := decide_eq_false (by omega)
  by_cases he : c2.e = 0
  · have z : (c2.e != 0) = false := bne_eq_false_iff_eq.mpr he
    have HE := Lib.hid he
    clear he
    go_enter Tryd.func64, Tryd.ntmps64
    go_wp2_with (fail)
    go_region
    go_wp2_with (fail)
    have hn : IsM ((w.alloc (.cells #[.string b, .int .i64 a, .int .i64 0] 103)).drew) w.heap.size ⟨b, a, 0⟩ := IsM.new w b a
    have hm : Mv (one g) w ((w.alloc (.cells #[.string b, .int .i64 a, .int .i64 0] 103)).drew) := ((Mv.refl _ _).alloc _).drew
    refine (muint_calls w.heap.size ⟨b, a, 0⟩ most _ hn ok (by omega)).mono ?_
    rw [HU.out]
    rintro e w1 ⟨rfl, h1, h2⟩
    have g1 : IsM w1 g ⟨b, a, 0⟩ := h2.keep ((Below.heap_alloc w _ g H.out.lt).trans H.out) hlt
    have hm1 : Mv (one g) w w1 := hm.trans h2 (fun k hk => .inr (by rw [show k = w.heap.size from hk]; exact Nat.le_refl _))
    clear hm hn
    go_wp2_with (fail)
    refine (mbytes_calls w.heap.size c1 n _ h1 ok1 (by omega)).mono ?_
    rw [HB.out]
    rintro e w2 ⟨rfl, h3, h4⟩
    have g2 : IsM w2 g ⟨b, a, 0⟩ := h4.keep g1 hlt
    have hm2 : Mv (one g) w w2 := hm1.trans h4 (fun k hk => .inr (by rw [show k = w.heap.size from hk]; exact Nat.le_refl _))
    clear hm1 g1 h1 h2 h4
    have q1 := h3.c1
    have q2 := h3.c2
    have f1' := g2.f1
    have f2' := g2.f2
    have e1 := g2.c1
    have e2 := g2.c2
    have G2 := Lib.hid g2
    clear h3 g2
    go_wp2_with (fail)
    go_ret
    have ht : Cur.textOf ⟨b, a, 0⟩ (s, c2) = (s, c2) := by unfold Cur.textOf; rw [if_neg (by simpa using HE.out)]
    have hb2 : c2.b = b := by have e1 := bytes_b (c := c1) n; rw [HB.out] at e1; have e2 := uint_b (c := ⟨b, a, 0⟩) most; rw [HU.out] at e2; exact e1.trans e2
    rw [ht]
    refine ⟨rfl, ?_, mm_set hm2 _ _⟩
    have := G2.out.setAt c2.at'
    obtain ⟨b2, a2, er2⟩ := c2
    have he2 : er2 = 0 := HE.out
    simp only at hb2
    rw [hb2, he2]
    exact this
  · have z : (c2.e != 0) = true := bne_iff_ne.mpr he
    have HE := Lib.hid he
    clear he
    go_enter Tryd.func64, Tryd.ntmps64
    go_wp2_with (fail)
    go_region
    go_wp2_with (fail)
    have hn : IsM ((w.alloc (.cells #[.string b, .int .i64 a, .int .i64 0] 103)).drew) w.heap.size ⟨b, a, 0⟩ := IsM.new w b a
    have hm : Mv (one g) w ((w.alloc (.cells #[.string b, .int .i64 a, .int .i64 0] 103)).drew) := ((Mv.refl _ _).alloc _).drew
    refine (muint_calls w.heap.size ⟨b, a, 0⟩ most _ hn ok (by omega)).mono ?_
    rw [HU.out]
    rintro e w1 ⟨rfl, h1, h2⟩
    have g1 : IsM w1 g ⟨b, a, 0⟩ := h2.keep ((Below.heap_alloc w _ g H.out.lt).trans H.out) hlt
    have hm1 : Mv (one g) w w1 := hm.trans h2 (fun k hk => .inr (by rw [show k = w.heap.size from hk]; exact Nat.le_refl _))
    clear hm hn
    go_wp2_with (fail)
    refine (mbytes_calls w.heap.size c1 n _ h1 ok1 (by omega)).mono ?_
    rw [HB.out]
    rintro e w2 ⟨rfl, h3, h4⟩
    have g2 : IsM w2 g ⟨b, a, 0⟩ := h4.keep g1 hlt
    have hm2 : Mv (one g) w w2 := hm1.trans h4 (fun k hk => .inr (by rw [show k = w.heap.size from hk]; exact Nat.le_refl _))
    clear hm1 g1 h1 h2 h4
    have q1 := h3.c1
    have q2 := h3.c2
    have f1' := g2.f1
    have f2' := g2.f2
    have e1 := g2.c1
    have e2 := g2.c2
    have G2 := Lib.hid g2
    clear h3 g2
    go_wp2_with (fail)
    go_ret
    have ht : Cur.textOf ⟨b, a, 0⟩ (s, c2) = (⟨#[]⟩, ⟨b, a, c2.e⟩) := by unfold Cur.textOf; rw [if_pos (by simpa using HE.out)]
    rw [ht]
    exact ⟨rfl, G2.out.setErr _, mm_set hm2 _ _⟩
theorem mtext_walk2 (g : Nat) (b : ByteArray) (a : Nat) (c1 c2 : Cur) (most n : Int) (s : ByteArray) (w : World) (h : IsM w g ⟨b, a, 0⟩) (ok : Cur.ok ⟨b, a, 0⟩) (i1 : most ≤ 9223372036854775807) (i0 : most < 0)
    (hu : Cur.uint ⟨b, a, 0⟩ 0 = (n, c1)) (n0 : 0 ≤ n) (n1 : n ≤ 16777216) (hb : c1.bytes n = (s, c2)) (ok1 : c1.ok) :
    Calls Tryd.prog 64 #[.pointer (some ⟨g, 0, none⟩), .int .i64 most] w fun en w' => en = .returned (.string (Cur.textOf ⟨b, a, 0⟩ (s, c2)).1) ∧ IsM w' g (Cur.textOf ⟨b, a, 0⟩ (s, c2)).2 ∧ Mv (one g) w w' := by
  have H := Lib.hid h
  have k0 := h.c0
  have k1 := h.c1
  have k2 := h.c2
  have f1 := h.f1
  have f2 := h.f2
  have hlt : ¬ one w.heap.size g := by have := h.lt; intro e; rw [show g = w.heap.size from e] at this; omega
  have HU := Lib.hid hu
  have HB := Lib.hid hb
  clear h hu hb
  have hd : decide (most < 0) = true := decide_eq_true i0
  by_cases he : c2.e = 0
  · have z : (c2.e != 0) = false := bne_eq_false_iff_eq.mpr he
    have HE := Lib.hid he
    clear he
    go_enter Tryd.func64, Tryd.ntmps64
    go_wp2_with (fail)
    go_region
    go_wp2_with (fail)
    have hn : IsM ((w.alloc (.cells #[.string b, .int .i64 a, .int .i64 0] 103)).drew) w.heap.size ⟨b, a, 0⟩ := IsM.new w b a
    have hm : Mv (one g) w ((w.alloc (.cells #[.string b, .int .i64 a, .int .i64 0] 103)).drew) := ((Mv.refl _ _).alloc _).drew
    refine (muint_calls w.heap.size ⟨b, a, 0⟩ 0 _ hn ok (by omega)).mono ?_
    rw [HU.out]
    rintro e w1 ⟨rfl, h1, h2⟩
    have g1 : IsM w1 g ⟨b, a, 0⟩ := h2.keep ((Below.heap_alloc w _ g H.out.lt).trans H.out) hlt
    have hm1 : Mv (one g) w w1 := hm.trans h2 (fun k hk => .inr (by rw [show k = w.heap.size from hk]; exact Nat.le_refl _))
    clear hm hn
    go_wp2_with (fail)
    refine (mbytes_calls w.heap.size c1 n _ h1 ok1 (by omega)).mono ?_
    rw [HB.out]
    rintro e w2 ⟨rfl, h3, h4⟩
    have g2 : IsM w2 g ⟨b, a, 0⟩ := h4.keep g1 hlt
    have hm2 : Mv (one g) w w2 := hm1.trans h4 (fun k hk => .inr (by rw [show k = w.heap.size from hk]; exact Nat.le_refl _))
    clear hm1 g1 h1 h2 h4
    have q1 := h3.c1
    have q2 := h3.c2
    have f1' := g2.f1
    have f2' := g2.f2
    have e1 := g2.c1
    have e2 := g2.c2
    have G2 := Lib.hid g2
    clear h3 g2
    go_wp2_with (fail)
    go_ret
    have ht : Cur.textOf ⟨b, a, 0⟩ (s, c2) = (s, c2) := by unfold Cur.textOf; rw [if_neg (by simpa using HE.out)]
    have hb2 : c2.b = b := by have e1 := bytes_b (c := c1) n; rw [HB.out] at e1; have e2 := uint_b (c := ⟨b, a, 0⟩) 0; rw [HU.out] at e2; exact e1.trans e2
    rw [ht]
    refine ⟨rfl, ?_, mm_set hm2 _ _⟩
    have := G2.out.setAt c2.at'
    obtain ⟨b2, a2, er2⟩ := c2
    have he2 : er2 = 0 := HE.out
    simp only at hb2
    rw [hb2, he2]
    exact this
  · have z : (c2.e != 0) = true := bne_iff_ne.mpr he
    have HE := Lib.hid he
    clear he
    go_enter Tryd.func64, Tryd.ntmps64
    go_wp2_with (fail)
    go_region
    go_wp2_with (fail)
    have hn : IsM ((w.alloc (.cells #[.string b, .int .i64 a, .int .i64 0] 103)).drew) w.heap.size ⟨b, a, 0⟩ := IsM.new w b a
    have hm : Mv (one g) w ((w.alloc (.cells #[.string b, .int .i64 a, .int .i64 0] 103)).drew) := ((Mv.refl _ _).alloc _).drew
    refine (muint_calls w.heap.size ⟨b, a, 0⟩ 0 _ hn ok (by omega)).mono ?_
    rw [HU.out]
    rintro e w1 ⟨rfl, h1, h2⟩
    have g1 : IsM w1 g ⟨b, a, 0⟩ := h2.keep ((Below.heap_alloc w _ g H.out.lt).trans H.out) hlt
    have hm1 : Mv (one g) w w1 := hm.trans h2 (fun k hk => .inr (by rw [show k = w.heap.size from hk]; exact Nat.le_refl _))
    clear hm hn
    go_wp2_with (fail)
    refine (mbytes_calls w.heap.size c1 n _ h1 ok1 (by omega)).mono ?_
    rw [HB.out]
    rintro e w2 ⟨rfl, h3, h4⟩
    have g2 : IsM w2 g ⟨b, a, 0⟩ := h4.keep g1 hlt
    have hm2 : Mv (one g) w w2 := hm1.trans h4 (fun k hk => .inr (by rw [show k = w.heap.size from hk]; exact Nat.le_refl _))
    clear hm1 g1 h1 h2 h4
    have q1 := h3.c1
    have q2 := h3.c2
    have f1' := g2.f1
    have f2' := g2.f2
    have e1 := g2.c1
    have e2 := g2.c2
    have G2 := Lib.hid g2
    clear h3 g2
    go_wp2_with (fail)
    go_ret
    have ht : Cur.textOf ⟨b, a, 0⟩ (s, c2) = (⟨#[]⟩, ⟨b, a, c2.e⟩) := by unfold Cur.textOf; rw [if_pos (by simpa using HE.out)]
    rw [ht]
    exact ⟨rfl, G2.out.setErr _, mm_set hm2 _ _⟩
theorem mtext_calls (g : Nat) (c : Cur) (most : Int) (w : World) (h : IsM w g c) (ok : c.ok) (i0 : -9223372036854775808 ≤ most) (i1 : most ≤ 9223372036854775807) :
    Calls Tryd.prog 64 #[.pointer (some ⟨g, 0, none⟩), .int .i64 most] w fun en w' => en = .returned (.string (c.text most).1) ∧ IsM w' g (c.text most).2 ∧ Mv (one g) w w' := by
  by_cases he : c.e = 0
  · obtain ⟨b, a, er⟩ := c
    simp only at he
    subst he
    have hr := uint_range (c := ⟨b, a, 0⟩) (if most < 0 then 0 else most)
    have hk := uint_ok ok (if most < 0 then 0 else most)
    have ht : Cur.text ⟨b, a, 0⟩ most = Cur.textOf ⟨b, a, 0⟩ ((Cur.uint ⟨b, a, 0⟩ (if most < 0 then 0 else most)).2.bytes (Cur.uint ⟨b, a, 0⟩ (if most < 0 then 0 else most)).1) := by
      unfold Cur.text; rw [if_neg (by simp)]
    rw [ht]
    generalize hu : Cur.uint ⟨b, a, 0⟩ (if most < 0 then 0 else most) = u at *
    obtain ⟨n, c1⟩ := u
    simp only at hr hk
    simp only
    generalize hb : c1.bytes n = v at *
    obtain ⟨s, c2⟩ := v
    by_cases hm : most < 0
    · rw [if_pos hm] at hu
      exact mtext_walk2 g b a c1 c2 most n s w h ok i1 hm hu hr.1 hr.2 hb hk
    · rw [if_neg hm] at hu
      exact mtext_walk1 g b a c1 c2 most n s w h ok i1 (by omega) hu hr.1 hr.2 hb hk
  · have z0 : (c.e != 0) = true := bne_iff_ne.mpr he
    have c2 := h.c2
    have hf : c.text most = (⟨#[]⟩, c) := by unfold Cur.text; rw [if_pos (by simpa using he)]
    have H := Lib.hid h
    have HF := Lib.hid hf
    clear h hf he
    go_enter Tryd.func64, Tryd.ntmps64
    go_wp2_with (fail)
    go_ret
    exact ⟨by rw [HF.out]; rfl, by rw [HF.out]; exact H.out, Mv.refl _ _⟩
end Go.Proofs.YtmglknchklgokaaDoor.Cur
