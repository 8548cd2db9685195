/- Steps of a drawn region that the kit's words lack. -/
import Derived.Test.YtlfjjapndlkamaaCtCTurnW
namespace Go.Proofs.Ytlfjjapndlkamaa.GH
open Go.RowKit Go.Lib Go.Proofs.YtlfjjapndlkamaaW.PrintWords Go.Proofs.YtlfjjapndlkamaaW.PrintLast Go.Proofs.YtlfjjapndlkamaaW.PrintMore
variable {P : Program} {md : Region.Mode} {ops : Array Oper} {Q : Exit → Act → World → Prop} {S : World → Prop} {ds : List Nat}
/-- One operation outside ds; S needs only to be kept, not to hold. -/
theorem still_ {i : Nat} {N : Option Tmp} {oi : Oper} {fuel : Nat} {l : Array Bool} {a : Act} {w : World} (l' : Array Bool) (hi : ops[i]? = some oi) (hN : oi.dst = N) (hc : readyB md ops l l' i = true)
    (h : ∀ K : Act → World → Prop, Shut (∀ a' w', (S w → S w') → wpAnyLast P md ops Q S ds fuel l' a' w' → K a' w') → if Region.wanted oi (yielded ops a.tmps) = true then Oper.wp P oi a w K Q else K (a.put N undef) w) :
    wpAnyLast P md ops Q S ds (fuel + 1) l a w := by
  subst hN
  simp only [readyB, Bool.and_eq_true, beq_iff_eq] at hc
  obtain ⟨h1, h2⟩ := hc
  subst h2
  refine wpAnyLast_ready h1 (by simp) (fun j hj => ?_)
  obtain rfl := List.mem_singleton.1 hj
  exact wpOp_step hi (fun K' hK => h K' (fun a w hS hW => hK a w ⟨fun _ => hS, hW⟩))
/-- Two may come up, one of them of ds. -/
theorem two_last_ {i j : Nat} {Ni Nj : Option Tmp} {oi oj : Oper} {fuel : Nat} {l : Array Bool} {a : Act} {w : World} (li lj : Array Bool) (hi : ops[i]? = some oi) (hj : ops[j]? = some oj) (hNi : oi.dst = Ni) (hNj : oj.dst = Nj)
    (hc : (Region.ready md ops l == [i, j] && l.setIfInBounds i true == li && l.setIfInBounds j true == lj) = true) (hdi : i ∉ ds) (hdj : j ∈ ds)
    (h1 : ∀ K : Act → World → Prop, Shut (∀ a' w', S w' → (S w' → wpAnyLast P md ops Q S ds fuel li a' w') → K a' w') → if Region.wanted oi (yielded ops a.tmps) = true then Oper.wp P oi a w K Q else K (a.put Ni undef) w)
    (h2 : ∀ K : Act → World → Prop, Shut (∀ a' w', wpAnyLast P md ops Q S ds fuel lj a' w' → K a' w') → if Region.wanted oj (yielded ops a.tmps) = true then Oper.wp P oj a w K Q else K (a.put Nj undef) w) :
    wpAnyLast P md ops Q S ds (fuel + 1) l a w := by
  subst hNi
  subst hNj
  simp only [Bool.and_eq_true, beq_iff_eq] at hc
  obtain ⟨⟨h3, h4⟩, h5⟩ := hc
  subst h4
  subst h5
  exact wpAnyLast_ready h3 (by simp) (AllReadyL.cons hi hdi (fun K hK => h1 K hK) (AllReadyL.cons_last hj hdj (fun K hK => h2 K hK) AllReadyL.nil))
end Go.Proofs.Ytlfjjapndlkamaa.GH
