/- CanonTurned: the walk. -/
import Derived.Test.YtlfjjapndlkamaaCtCTurnI
import Derived.Test.YtlfjjapndlkamaaCtGHx5
import Derived.Test.YtlfjjapndlkamaaCtGHx12
import Derived.Test.YtlfjjapndlkamaaCtGHx9
import Derived.Test.YtlfjjapndlkamaaCtGHx6
import Derived.Test.YtlfjjapndlkamaaCtGHx13
namespace Go.Proofs.Ytlfjjapndlkamaa.GH
open Go.RowKit Go.Lib Go.Proofs.YtlfjjapndlkamaaW.PrintWords Go.Proofs.YtlfjjapndlkamaaW.PrintLast Go.Proofs.YtlfjjapndlkamaaW.PrintMore
set_option linter.unusedVariables false
set_option linter.unusedSimpArgs false
/-- A scene's box. -/
def TBox (w : World) (g : Nat) (A : Option Addr) (n c : Nat) (r : Int) : Prop := w.heap[g]? = some (.cells #[.slice A n c, .int .i64 r] 24 (0, 0))
theorem TBox.below {w w' : World} {g : Nat} {A : Option Addr} {n c : Nat} {r : Int} (h : TBox w g A n c r) (hb : Below w.heap.size w w') : TBox w' g A n c r := (hb.block g (blk_lt h)).trans h
theorem TBox.cells {w : World} {g : Nat} {A : Option Addr} {n c : Nat} {r : Int} (h : TBox w g A n c r) : w.cell? ⟨g, 0, none⟩ = some (.slice A n c) ∧ w.cell? ⟨g, 1, none⟩ = some (.int .i64 r) := ⟨(blk_cell h 0).trans rfl, (blk_cell h 1).trans rfl⟩
section
variable (A0 : Option Addr) (c0 : Nat) (l0 : List (S40)) (rt p q : Int) (w : World)
/- One of the four questions says stop. -/
set_option maxHeartbeats 8000000 in
set_option maxRecDepth 100000 in
theorem cturn_stop (k : Nat) (hr0 : Kd.C k40 w A0 l0.length l0) (hc0 : l0.length ≤ c0) (gr rg pa pb : Bool) (hgr : dioramaref09_Great.f k l0 rt = some gr) (hrg : gr = false → dioramaref09_Right.f k l0 rt = some rg)
    (hpa : dioramaref09_Place.f l0 rt p = some pa) (hpb : dioramaref09_Place.f l0 rt q = some pb) (haw : dioramalaw10_awake.f k = some true) (hs : gr = true ∨ rg = false ∨ pa = false ∨ pb = false) :
    Calls Try.prog 6 #[.agg #[.slice A0 l0.length c0, .int .i64 rt], .int .i64 p, .int .i64 q] w fun e w' => e = .returned (.bool true) ∧ Below w.heap.size w w' := by
  have HR := Lib.hid hr0
  have HS := Lib.hid hs
  have HRG := Lib.hid hrg
  clear hr0 hs hrg
  go_enter Try.func6, Try.ntmps6
  go_wp2_with (fail)
  have hX0 : TBox (w.alloc (.cells #[.slice A0 l0.length c0, .int .i64 rt] 24)) w.heap.size A0 l0.length c0 rt := heap_alloc_new w _
  have hD0 : Below w.heap.size w (w.alloc (.cells #[.slice A0 l0.length c0, .int .i64 rt] 24)) := (Below.refl _ w).alloc (Nat.le_refl _) _
  generalize (w.alloc (.cells #[.slice A0 l0.length c0, .int .i64 rt] 24)) = w1 at hX0 hD0 ⊢
  have X1 := Lib.hid hX0
  have D1 := Lib.hid hD0
  clear hX0 hD0
  refine (dioramalaw10_awake.calls k true _ haw).mono ?_
  rintro e w2 ⟨rfl, hb2⟩
  have X2 := Lib.hid (X1.out.below hb2)
  have D2 := Lib.hid (below_step D1.out hb2)
  obtain ⟨x0, x1⟩ := X2.out.cells
  clear hb2 X1 D1
  go_wp2_with (fail)
  refine (dioramaref09_Great.calls k A0 c0 l0 rt gr w2 (Kd.C_below HR.out D2.out) hc0 hgr).mono ?_
  rintro e w3 ⟨rfl, hb3⟩
  have X3 := Lib.hid (X2.out.below hb3)
  have D3 := Lib.hid (below_step D2.out hb3)
  obtain ⟨y0, y1⟩ := X3.out.cells
  clear hb3 X2 D2 x0 x1
  cases gr with
  | true =>
    go_wp2_with (fail)
    refine (dioramalaw10_awake.calls k true _ haw).mono ?_
    rintro e w4 ⟨rfl, hb4⟩
    have D4 := Lib.hid (below_step D3.out hb4)
    clear hb4
    go_wp2_with (fail)
    go_ret
    exact ⟨rfl, D4.out⟩
  | false =>
  go_wp2_with (fail)
  refine (dioramaref09_Right.calls k A0 c0 l0 rt rg w3 (Kd.C_below HR.out D3.out) hc0 (HRG.out (by trivial))).mono ?_
  rintro e w4 ⟨rfl, hb4⟩
  have X4 := Lib.hid (X3.out.below hb4)
  have D4 := Lib.hid (below_step D3.out hb4)
  obtain ⟨x0, x1⟩ := X4.out.cells
  clear hb4 X3 D3 y0 y1
  cases rg with
  | false =>
    go_wp2_with (fail)
    refine (dioramalaw10_awake.calls k true _ haw).mono ?_
    rintro e w5 ⟨rfl, hb5⟩
    have D5 := Lib.hid (below_step D4.out hb5)
    clear hb5
    go_wp2_with (fail)
    go_ret
    exact ⟨rfl, D5.out⟩
  | true =>
  go_wp2_with (fail)
  refine (dioramaref09_Place.calls A0 c0 l0 rt p pa w4 (Kd.C_below HR.out D4.out) hc0 hpa).mono ?_
  rintro e w5 ⟨rfl, hb5⟩
  have X5 := Lib.hid (X4.out.below hb5)
  have D5 := Lib.hid (below_step D4.out hb5)
  obtain ⟨y0, y1⟩ := X5.out.cells
  clear hb5 X4 D4 x0 x1
  cases pa with
  | false =>
    go_wp2_with (fail)
    refine (dioramalaw10_awake.calls k true _ haw).mono ?_
    rintro e w6 ⟨rfl, hb6⟩
    have D6 := Lib.hid (below_step D5.out hb6)
    clear hb6
    go_wp2_with (fail)
    go_ret
    exact ⟨rfl, D6.out⟩
  | true =>
  have hb1 : pb = false := by
    rcases HS.out with h | h | h | h
    · cases h
    · cases h
    · cases h
    · exact h
  subst hb1
  go_wp2_with (fail)
  refine (dioramaref09_Place.calls A0 c0 l0 rt q false w5 (Kd.C_below HR.out D5.out) hc0 hpb).mono ?_
  rintro e w6 ⟨rfl, hb6⟩
  have D6 := Lib.hid (below_step D5.out hb6)
  clear hb6
  go_wp2_with (fail)
  refine (dioramalaw10_awake.calls k true _ haw).mono ?_
  rintro e w7 ⟨rfl, hb7⟩
  have D7 := Lib.hid (below_step D6.out hb7)
  clear hb7
  go_wp2_with (fail)
  go_ret
  exact ⟨rfl, D7.out⟩
end
end Go.Proofs.Ytlfjjapndlkamaa.GH
