/- Renumbered scenes have one canonical scene. -/
import Derived.Test.YtlfjjapndlkamaaCtGrK
namespace Go.Proofs.Ytlfjjapndlkamaa.GH
open Go.RowKit Go.Proofs.YtlfjjapndlkamaaW.PrintWords Go.Proofs.YtlfjjapndlkamaaW.PrintLast Go.Proofs.YtlfjjapndlkamaaW.PrintMore
set_option linter.unusedVariables false
set_option linter.unusedSimpArgs false
theorem canon_ren {l0 l1 : List (S40)} {a1 b1 : Int} (hM0 : Mod l0) (hM1 : Mod l1) (hc0 : (checkP l0 a1).1 = 0) (hc1 : (checkP l1 b1).1 = 0) {s : Nat → Nat} (hren : GT.Ren (GT.toG (kidsI l0)) (GT.toG (kidsI l1)) s) (hb : b1.toNat = s a1.toNat)
    (hnode : ∀ x : Nat, x < l0.length → (rd_T40 l1 ((s x : Nat) : Int)).f0 = (rd_T40 l0 (x : Int)).f0 ∧ (rd_T40 l1 ((s x : Nat) : Int)).f1 = (rd_T40 l0 (x : Int)).f1 ∧ (rd_T40 l1 ((s x : Nat) : Int)).f2 = (rd_T40 l0 (x : Int)).f2) : cNodes l1 b1 = cNodes l0 a1 := by
  obtain ⟨h0, h1, hgood0, _, _⟩ := checkP_zero hM0.sum hc0
  obtain ⟨_, _, hgood1, _, _⟩ := checkP_zero hM1.sum hc1
  obtain ⟨c0, _⟩ := cn_of hM0.len hM0.sum hc0
  have hW := GT.wf_of_firstBad hgood0
  have hg0 := toG_len l0
  have hg1 := toG_len l1
  have hl := hren.len
  have hcl : cl l1 b1 = (cl l0 a1).map s := by
    unfold cl
    rw [hb, show l1.length = l0.length by omega]
    exact hren.meetL hW l0.length a1.toNat [] (by omega) (fun y hy => by cases hy)
  unfold cNodes
  rw [hcl, List.map_map]
  refine List.map_congr_left fun x hx => ?_
  have hxl := c0.lt x hx
  rw [hg0] at hxl
  obtain ⟨e0, e1, e2⟩ := hnode x hxl
  have k0 := ren_kids (a1 := a1) hgood0 x
  have k1 := ren_kids (a1 := b1) hgood1 (s x)
  have e3 : (renN (tlOf l1 b1) (rd_T40 l1 ((s x : Nat) : Int))).f3 = (renN (tlOf l0 a1) (rd_T40 l0 (x : Int))).f3 := by
    rw [k0, k1, hren.kids x (by omega), hcl, List.map_map]
    congr 1
    refine List.map_congr_left fun y hy => ?_
    exact GT.find_map (n := (GT.toG (kidsI l0)).length) hren.inj (cl l0 a1) y (hW x y hy) (fun z hz => c0.lt z hz)
  show renN (tlOf l1 b1) (rd_T40 l1 ((s x : Nat) : Int)) = _
  unfold renN at e3 ⊢
  simp only at e3
  rw [e0, e1, e2, e3]
end Go.Proofs.Ytlfjjapndlkamaa.GH
