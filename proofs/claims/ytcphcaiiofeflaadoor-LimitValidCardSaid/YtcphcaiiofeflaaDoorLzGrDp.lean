import Derived.Test.YtcphcaiiofeflaaDoorLzGrV
import Derived.Test.YtcphcaiiofeflaaDoorLzGrD
import Derived.Test.YtcphcaiiofeflaaDoorLzGLx15
namespace Go.Proofs.YtcphcaiiofeflaaDoor.GL
open Go.RowKit Go.Proofs.YtcphcaiiofeflaaDoorW.PrintWords Go.Proofs.YtcphcaiiofeflaaDoorW.PrintLast Go.Proofs.YtcphcaiiofeflaaDoorW.PrintMore
set_option linter.unusedVariables false
set_option linter.unusedSimpArgs false
def Bd (l0:List (S53)) (r i:Nat) (deep:List Int):Prop :=
  deep.length = l0.length∧∀ j,j < l0.length→∃ v:Nat,deep.getD j 0 = (v:Int)∧v≤H l0 j∧(if j < i then GT.ht (GT.toG (kidsI l0)) (r+1) j else GT.ht (GT.toG (kidsI l0)) r j)≤v
theorem ht_at_least {l0:List (S53)} {r i:Nat} {deep:List Int} (h:Bd l0 r i deep) {j:Nat} (hj:j < l0.length):∃ v:Nat,deep.getD j 0 = (v:Int)∧v≤H l0 j∧GT.ht (GT.toG (kidsI l0)) r j≤v:=by
  obtain ⟨v,h1,h2,h3⟩:=h.2 j hj
  refine ⟨v,h1,h2,?_⟩
  by_cases e:j < i
  · rw [if_pos e] at h3
    have:=GT.ht_mono (GT.toG (kidsI l0)) r j
    omega
  · rw [if_neg e] at h3;exact h3
theorem rdepth_l2 {l0:List (S53)} (hgood:GT.firstBad (kidsI l0) = none) (hn:l0.length≤1000000) (hE:((kidsI l0).map List.length).sum≤1000000) {R:Nat→Nat} (hR:GT.Ranked (GT.toG (kidsI l0)) R) (hRl:∀ x,x < l0.length→R x < l0.length) (a1:Int) {r i:Nat} (hi:i < l0.length) (deep:List Int) (hB:Bd l0 r i deep) :
    ∀ (e t m:Nat),t+e = (GT.kids (GT.toG (kidsI l0)) i).length→m+1≤H l0 i→(∀ k ∈ (GT.kids (GT.toG (kidsI l0)) i).take t,GT.ht (GT.toG (kidsI l0)) r k≤m) →
    ∃ deep',Bd l0 r (i+1) deep'∧∀ k,r09_Depths.l2 (k+e+1) deep (r:Int) (i:Int) (m:Int) (t:Int) l0 a1 = r09_Depths.l1 k deep' (r:Int) ((i+1:Nat):Int) l0 a1:=by
  have hGl:(GT.toG (kidsI l0)).length = l0.length:=by rw [GT.length_toG,kids_len]
  have hW:=GT.wf_of_firstBad hgood
  have hEd:GT.edges (GT.toG (kidsI l0)) = ((kidsI l0).map List.length).sum:=GT.edges_toG _
  have hk3:=GT.rest_kid (G:=GT.toG (kidsI l0)) (i:=i) (by omega)
  have hHx:=H_step hR hRl hi
  have hHl:=H_le l0 i
  intro e
  induction e with
  | zero =>
    intro t m ht hm hk
    rw [List.take_of_length_le (by omega)] at hk
    have hm2:GT.ht (GT.toG (kidsI l0)) (r+1) i≤m+1:=by
      rw [GT.ht]
      have:=GT.mxL_le (l:=(GT.kids (GT.toG (kidsI l0)) i).map (GT.ht (GT.toG (kidsI l0)) r)) (b:=m) (fun x hx => by obtain ⟨k,h1,rfl⟩:=List.mem_map.1 hx;exact hk k h1)
      omega
    obtain ⟨v,h1,h2,h3⟩:=hB.2 i hi
    have hrun:∀ k,r09_Depths.l2 (k+0+1) deep (r:Int) (i:Int) (m:Int) (t:Int) l0 a1 = if ((m+1:Nat):Int) > (v:Int) then r09_Depths.l1 k (deep.set i ((m+1:Nat):Int)) (r:Int) ((i+1:Nat):Int) l0 a1 else r09_Depths.l1 k deep (r:Int) ((i+1:Nat):Int) l0 a1:=by
      intro k
      rw [r09_Depths.l2,if_pos (by omega),if_pos (by omega),kid_ints hgood i,intsOf_len,if_neg (by omega),if_pos (by rw [hB.1];omega),rd_nat,h1,w64 (n:=(i:Int)+1) (by omega) (by omega),w64 (by omega) (by omega),Int.toNat_natCast]
      rfl
    by_cases hgt:((m+1:Nat):Int) > (v:Int)
    · refine ⟨deep.set i ((m+1:Nat):Int),⟨by rw [List.length_set];exact hB.1,fun j hj => ?_⟩,fun k => by rw [hrun,if_pos hgt]⟩
      by_cases ej:j = i
      · subst ej
        exact ⟨m+1,getD_set_self _ _ _ _ (by rw [hB.1];omega),hm,by rw [if_pos (by omega)];exact hm2⟩
      · obtain ⟨v',g1,g2,g3⟩:=hB.2 j hj
        refine ⟨v',by rw [getD_set_other _ _ _ _ _ ej];exact g1,g2,?_⟩
        by_cases hji:j < i
        · rw [if_pos hji] at g3;rw [if_pos (by omega)];exact g3
        · rw [if_neg hji] at g3;rw [if_neg (by omega)];exact g3
    · refine ⟨deep,⟨hB.1,fun j hj => ?_⟩,fun k => by rw [hrun,if_neg hgt]⟩
      by_cases ej:j = i
      · subst ej
        exact ⟨v,h1,h2,by rw [if_pos (by omega)];omega⟩
      · obtain ⟨v',g1,g2,g3⟩:=hB.2 j hj
        refine ⟨v',g1,g2,?_⟩
        by_cases hji:j < i
        · rw [if_pos hji] at g3;rw [if_pos (by omega)];exact g3
        · rw [if_neg hji] at g3;rw [if_neg (by omega)];exact g3
  | succ e ih =>
    intro t m ht hm hk
    have htl:t < (GT.kids (GT.toG (kidsI l0)) i).length:=by omega
    have hmm:(GT.kids (GT.toG (kidsI l0)) i).getD t 0 ∈ GT.kids (GT.toG (kidsI l0)) i:=by
      rw [List.getD_eq_getElem?_getD,List.getElem?_eq_getElem htl];exact List.getElem_mem htl
    have hq:(GT.kids (GT.toG (kidsI l0)) i).getD t 0 < l0.length:=by have:=hW i _ hmm;omega
    have htk:(GT.kids (GT.toG (kidsI l0)) i).take (t+1) = (GT.kids (GT.toG (kidsI l0)) i).take t ++ [(GT.kids (GT.toG (kidsI l0)) i).getD t 0]:=by
      rw [List.take_succ_eq_append_getElem htl,List.getD_eq_getElem?_getD,List.getElem?_eq_getElem htl];rfl
    have hrd:=intsOf_get (GT.kids (GT.toG (kidsI l0)) i) t htl
    have hHk:H l0 ((GT.kids (GT.toG (kidsI l0)) i).getD t 0)≤GT.mxL ((GT.kids (GT.toG (kidsI l0)) i).map (H l0)):=GT.le_mxL (List.mem_map.2 ⟨_,hmm,rfl⟩)
    generalize (GT.kids (GT.toG (kidsI l0)) i).getD t 0 = q at *
    obtain ⟨v,h1,h2,h3⟩:=ht_at_least hB hq
    have hrun:∀ k,r09_Depths.l2 (k+(e+1)+1) deep (r:Int) (i:Int) (m:Int) (t:Int) l0 a1 = if (v:Int) > (m:Int) then r09_Depths.l2 (k+e+1) deep (r:Int) (i:Int) (v:Int) ((t+1:Nat):Int) l0 a1 else r09_Depths.l2 (k+e+1) deep (r:Int) (i:Int) (m:Int) ((t+1:Nat):Int) l0 a1:=by
      intro k
      rw [show k+(e+1)+1 = (k+e+1)+1 by omega,r09_Depths.l2,if_pos (by omega),if_pos (by omega),kid_ints hgood i,intsOf_len,if_pos (by omega),if_pos (by omega),hrd,if_pos (by omega),if_pos (by rw [hB.1];omega),rd_nat,h1,w64 (n:=(t:Int)+1) (by omega) (by omega)]
      rfl
    by_cases hgt:(v:Int) > (m:Int)
    · obtain ⟨deep',p1,p2⟩:=ih (t+1) v (by omega) (by omega) (fun k hkk => by
        rw [htk,List.mem_append,List.mem_singleton] at hkk
        rcases hkk with hkk | rfl
        · have:=hk k hkk;omega
        · exact h3)
      exact ⟨deep',p1,fun k => by rw [hrun,if_pos hgt];exact p2 k⟩
    · obtain ⟨deep',p1,p2⟩:=ih (t+1) m (by omega) hm (fun k hkk => by
        rw [htk,List.mem_append,List.mem_singleton] at hkk
        rcases hkk with hkk | rfl
        · exact hk k hkk
        · omega)
      exact ⟨deep',p1,fun k => by rw [hrun,if_neg hgt];exact p2 k⟩
theorem rdepth_l1 {l0:List (S53)} (hgood:GT.firstBad (kidsI l0) = none) (hn:l0.length≤1000000) (hE:((kidsI l0).map List.length).sum≤1000000) {R:Nat→Nat} (hR:GT.Ranked (GT.toG (kidsI l0)) R) (hRl:∀ x,x < l0.length→R x < l0.length) (a1:Int) {r:Nat} (hr:r≤1000001) :
    ∀ (d i:Nat) (deep:List Int),i+d = l0.length→Bd l0 r i deep→∃ K deep',Bd l0 (r+1) 0 deep'∧∀ k,r09_Depths.l1 (k+K) deep (r:Int) (i:Int) l0 a1 = r09_Depths.l0 k deep' ((r+1:Nat):Int) l0 a1:=by
  intro d
  induction d with
  | zero =>
    intro i deep hi hB
    refine ⟨1,deep,⟨hB.1,fun j hj => ?_⟩,fun k => ?_⟩
    · obtain ⟨v,h1,h2,h3⟩:=hB.2 j hj
      rw [if_pos (by omega)] at h3
      exact ⟨v,h1,h2,by rw [if_neg (by omega)];exact h3⟩
    · rw [r09_Depths.l1,if_neg (by omega),w64 (by omega) (by omega)]
      rfl
  | succ d ih =>
    intro i deep hi hB
    obtain ⟨deep1,p1,p2⟩:=rdepth_l2 hgood hn hE hR hRl a1 (r:=r) (i:=i) (by omega) deep hB (GT.kids (GT.toG (kidsI l0)) i).length 0 0 (by omega) (by rw [H_step hR hRl (by omega)];omega) (fun k hk => by rw [List.take_zero] at hk;cases hk)
    obtain ⟨K,deep',q1,q2⟩:=ih (i+1) deep1 (by omega) p1
    refine ⟨K+(GT.kids (GT.toG (kidsI l0)) i).length+1+1,deep',q1,fun k => ?_⟩
    rw [show k+(K+(GT.kids (GT.toG (kidsI l0)) i).length+1+1) = ((k+K)+(GT.kids (GT.toG (kidsI l0)) i).length+1)+1 by omega,r09_Depths.l1,if_pos (by omega)]
    exact (p2 (k+K)).trans (q2 k)
theorem rdepth_l0 {l0:List (S53)} (hgood:GT.firstBad (kidsI l0) = none) (hn:l0.length≤1000000) (hE:((kidsI l0).map List.length).sum≤1000000) {R:Nat→Nat} (hR:GT.Ranked (GT.toG (kidsI l0)) R) (hRl:∀ x,x < l0.length→R x < l0.length) (a1:Int) :
    ∀ (d r:Nat) (deep:List Int),r+d = l0.length+1→Bd l0 r 0 deep→∃ K deep',Bd l0 (l0.length+1) 0 deep'∧∀ k,r09_Depths.l0 (k+K) deep (r:Int) l0 a1 = some deep':=by
  intro d
  induction d with
  | zero =>
    intro r deep hr hB
    obtain rfl:r = l0.length+1:=by omega
    refine ⟨1,deep,hB,fun k => ?_⟩
    rw [r09_Depths.l0,if_neg (by omega)]
  | succ d ih =>
    intro r deep hr hB
    obtain ⟨K,deep1,p1,p2⟩:=rdepth_l1 hgood hn hE hR hRl a1 (r:=r) (by omega) l0.length 0 deep (by omega) hB
    obtain ⟨K2,deep',q1,q2⟩:=ih (r+1) deep1 (by omega) p1
    refine ⟨K2+K+1,deep',q1,fun k => ?_⟩
    rw [show k+(K2+K+1) = ((k+K2)+K)+1 by omega,r09_Depths.l0,if_pos (by omega)]
    exact (p2 (k+K2)).trans (q2 k)
theorem rdepth {l0:List (S53)} (hgood:GT.firstBad (kidsI l0) = none) (hn:l0.length≤1000000) (hE:((kidsI l0).map List.length).sum≤1000000) {R:Nat→Nat} (hR:GT.Ranked (GT.toG (kidsI l0)) R) (hRl:∀ x,x < l0.length→R x < l0.length) (a1:Int) :
    ∃ K deep,deep.length = l0.length∧(∀ j,j < l0.length→deep.getD j 0 = (H l0 j:Int))∧∀ k,r09_Depths.f (k+K) l0 a1 = some deep:=by
  have hrep:∀ j:Nat,(List.replicate l0.length (0:Int)).getD j 0 = 0:=by
    intro j
    rw [List.getD_eq_getElem?_getD,List.getElem?_replicate]
    split <;> rfl
  obtain ⟨K,deep,h1,h2⟩:=rdepth_l0 hgood hn hE hR hRl a1 (l0.length+1) 0 (List.replicate l0.length 0) (by omega) ⟨List.length_replicate,fun j hj => ⟨0,hrep j,Nat.zero_le _,by rw [if_neg (by omega)];exact Nat.le_refl _⟩⟩
  refine ⟨K,deep,h1.1,fun j hj => ?_,fun k => ?_⟩
  · obtain ⟨v,g1,g2,g3⟩:=h1.2 j hj
    rw [if_neg (by omega)] at g3
    have h5:=hRl j hj
    have h6:=GT.ht_fuel hR l0.length (l0.length+1) j h5 (by omega)
    rw [g1]
    unfold H at g2 ⊢
    omega
  · rw [r09_Depths.f,if_pos (by omega),Int.toNat_natCast,if_pos (by omega)]
    exact h2 k
end Go.Proofs.YtcphcaiiofeflaaDoor.GL
