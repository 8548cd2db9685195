/- Texts of the claim, one behind the other. -/
import Derived.Test.YtoigkneoaemcfaaDoorNoM2
import Derived.Test.YtoigkneoaemcfaaDoorNoGrO
import Derived.Test.YtoigkneoaemcfaaDoorNoM10

namespace Go.Proofs.YtoigkneoaemcfaaDoor.GN
open Go.RowKit Go.Proofs.YtoigkneoaemcfaaDoorW.PrintWords Go.Proofs.YtoigkneoaemcfaaDoorW.PrintLast Go.Proofs.YtoigkneoaemcfaaDoorW.PrintMore
attribute [local go_sem] max2_int min2_int max_two min_two max_three min_three max_four min_four
set_option linter.unusedVariables false
set_option linter.unusedSimpArgs false
mutual
def r08_Great.j0:Nat→Bool→Int→List Int→List ByteArray→List Int→Option (Bool)
 | 0,_,_,_,_,_ => none
 | k+1,x19,x274000,x274001,x274002,x274003 => if x19 = true then (some true) else (r08_Great.l0 k 0 x274000 x274001 x274002 x274003)
def r08_Great.l0:Nat→Int→Int→List Int→List ByteArray→List Int→Option (Bool)
 | 0,_,_,_,_,_ => none
 | k+1,x3,x274000,x274001,x274002,x274003 => if x3 < (x274002.length:Int) then (if 0≤x3 then (if ((rdOf ByteArray.empty x274002 x3).size:Int) > 500 then (some true) else (r08_Great.l0 k (wrap64 (x3+1)) x274000 x274001 x274002 x274003)) else (none)) else (some false)
end
def r08_Great.f (k:Nat) (a0_0:Int) (l0_1:List Int) (l0_2:List ByteArray) (l0_3:List Int):Option (Bool):=if (l0_1.length:Int) > 100 then (r08_Great.j0 k true a0_0 l0_1 l0_2 l0_3) else (if (l0_2.length:Int) > 100 then (r08_Great.j0 k true a0_0 l0_1 l0_2 l0_3) else (r08_Great.j0 k (decide ((l0_3.length:Int) > 300)) a0_0 l0_1 l0_2 l0_3))
section
open Go.Lib
def r08_Copy.f (a0_0:Int) (l0_1:List Int) (l0_2:List ByteArray) (l0_3:List Int):Option (Int × List Int × List ByteArray × List Int) :=
 if l0_1.length < 17592186044416∧l0_2.length < 8796093022208∧l0_3.length < 17592186044416 then some (a0_0,l0_1,l0_2,l0_3) else none
def r08_Copy.T1:Bool × List (List Nat × List Nat):=(true,[([],[]),([0],[0]),([],[]),([],[]),([3],[3]),([2,4],[2,4]),([],[]),([],[]),([7],[7]),([6,8,5],[6,8]),([],[]),([],[]),([11],[11]),([10,12,9],[10,12]),([1,5,9,13],[1,5,9,13]),([14,13,0,1,2,3,4,5,6,7,8,9,10,11,12,13,14],[14])])
theorem r08_Copy.tab1:rtab .any (opsOf Tryd.f18 1) = r08_Copy.T1:=by kernel_rfl
def r08_Copy.L (p q r:Nat):Array Bool:=#[true,true,decide (1≤p),true,true,decide (2≤p),decide (1≤q),true,true,decide (2≤q),decide (1≤r),true,true,decide (2≤r),false,false]
end
end Go.Proofs.YtoigkneoaemcfaaDoor.GN
namespace Go.Proofs.YtoigkneoaemcfaaDoor.GN
open Go.RowKit Go.Proofs.YtoigkneoaemcfaaDoorW.PrintWords Go.Proofs.YtoigkneoaemcfaaDoorW.PrintLast Go.Proofs.YtoigkneoaemcfaaDoorW.PrintMore
set_option linter.unusedVariables false
set_option linter.unusedSimpArgs false
theorem rdT_get {l0:List (S40)} {i:Nat} (h:i < l0.length):rd_T40 l0 (i:Int) = l0[i]:=by
  unfold rd_T40;rw [Int.toNat_natCast,List.getD_eq_getElem?_getD,List.getElem?_eq_getElem h];rfl
def restK (l0:List (S40)) (i:Nat):Nat:=(((kidsI l0).drop i).map List.length).sum
theorem restK_step {l0:List (S40)} {i:Nat} (h:i < l0.length):restK l0 i = ((rd_T40 l0 (i:Int)).f3).length+restK l0 (i+1):=by
  have h2:i < (kidsI l0).length:=by rw [kids_len];exact h
  have:=kidsI_at l0 (i:Int)
  rw [Int.toNat_natCast,List.getD_eq_getElem?_getD,List.getElem?_eq_getElem h2] at this
  unfold restK
  rw [List.drop_eq_getElem_cons h2,List.map_cons,List.sum_cons,← this]
  rfl
theorem restK_end {l0:List (S40)} {i:Nat} (h:l0.length≤i):restK l0 i = 0:=by
  unfold restK
  rw [List.drop_of_length_le (by rw [kids_len];exact h)]
  rfl
theorem gedges_run (l0:List (S40)) (a1:Int) (hn:l0.length≤1000000):∀ (d i:Nat) (x3:Int),i+d = l0.length→0≤x3→x3+restK l0 i≤1000000000000→∀ k,graph_Edges.l0 (k+d+1) x3 l0 l0.length i = some (x3+restK l0 i):=by
  intro d
  induction d with
  | zero =>
    intro i x3 hi h3 h4 k
    rw [graph_Edges.l0,if_neg (by omega),restK_end (by omega)]
    simp
  | succ d ih =>
    intro i x3 hi h3 h4 k
    have hs:=restK_step (l0:=l0) (i:=i) (by omega)
    rw [show k+(d+1)+1 = (k+d+1)+1 by omega,graph_Edges.l0,if_pos (by omega),if_pos (by omega),if_pos (by omega),w64 (n:=(i:Int)+1) (by omega) (by omega),w64 (by omega) (by omega)]
    refine (ih (i+1) _ (by omega) (by omega) (by omega) k).trans ?_
    rw [hs]
    congr 1
    omega
structure Small (l0:List (S40)):Prop where
  len:l0.length≤60
  one:∀ i:Nat,i < l0.length→((rd_T40 l0 (i:Int)).f1).length≤100∧((rd_T40 l0 (i:Int)).f2).length≤100∧((rd_T40 l0 (i:Int)).f3).length≤300
  sum:restK l0 0≤300
end Go.Proofs.YtoigkneoaemcfaaDoor.GN
namespace Go.Proofs.YtoigkneoaemcfaaDoor.GN
open Go.RowKit Go.Proofs.YtoigkneoaemcfaaDoorW.PrintWords Go.Proofs.YtoigkneoaemcfaaDoorW.PrintLast Go.Proofs.YtoigkneoaemcfaaDoorW.PrintMore
set_option linter.unusedVariables false
set_option linter.unusedSimpArgs false
theorem cycAt_led {l0:List (S40)} (hgood:GT.firstBad (kidsI l0) = none) (hE:((kidsI l0).map List.length).sum≤1000000) {i:Nat} (hi:i < l0.length):GT.cycAt (GT.toG (kidsI l0)) i = true↔GT.Led (GT.toG (kidsI l0)) i i:=by
  have hGl:(GT.toG (kidsI l0)).length = l0.length:=by rw [GT.length_toG,kids_len]
  have hW:=GT.wf_of_firstBad hgood
  have hEd:GT.edges (GT.toG (kidsI l0)) = ((kidsI l0).map List.length).sum:=GT.edges_toG _
  have hk:=GT.rest_kid (G:=GT.toG (kidsI l0)) (i:=i) (by omega)
  unfold GT.cycAt
  rw [decide_eq_true_eq,GT.mem_reachS hW (fun x hx => hW i x hx) (by omega)]
  rfl
theorem looseAt_led {l0:List (S40)} (hgood:GT.firstBad (kidsI l0) = none) (hE:((kidsI l0).map List.length).sum≤1000000) {r:Nat} (hr:r < l0.length) (i:Nat):GT.looseAt (GT.toG (kidsI l0)) r i = true↔¬ (i = r ∨ GT.Led (GT.toG (kidsI l0)) r i):=by
  have hGl:(GT.toG (kidsI l0)).length = l0.length:=by rw [GT.length_toG,kids_len]
  have hW:=GT.wf_of_firstBad hgood
  have hEd:GT.edges (GT.toG (kidsI l0)) = ((kidsI l0).map List.length).sum:=GT.edges_toG _
  unfold GT.looseAt
  rw [Bool.not_eq_true',decide_eq_false_iff_not,GT.mem_reachS hW (fun x hx => by rw [List.mem_singleton] at hx;omega) (by simp;omega)]
  refine not_congr ⟨?_,?_⟩
  · rintro ⟨f,hf,p⟩
    rw [List.mem_singleton] at hf
    subst hf
    exact (GT.led_or_path p).imp Eq.symm id
  · rintro (rfl | ⟨f,hf,p⟩)
    · exact ⟨i,List.mem_singleton.2 rfl,.refl _⟩
    · exact ⟨r,List.mem_singleton.2 rfl,.step hf p⟩
def checkP (l0:List (S40)) (a1:Int):Int × Int :=
  if a1 < 0 ∨ (l0.length:Int)≤a1 then (13,-1)
  else match GT.firstBad (kidsI l0) with
    | some i => (13,(i:Int))
    | none => match GT.firstCyc (GT.toG (kidsI l0)) with
      | some i => (14,(i:Int))
      | none => match GT.firstLoose (GT.toG (kidsI l0)) a1.toNat with
        | some i => (15,(i:Int))
        | none => (0,0)
theorem gcheck (l0:List (S40)) (a1:Int) (hn:l0.length≤1000000) (hE:((kidsI l0).map List.length).sum≤1000000):∃ K,∀ k,graph_Check.f (k+K) l0 a1 = some (checkP l0 a1):=by
  have hGl:(GT.toG (kidsI l0)).length = l0.length:=by rw [GT.length_toG,kids_len]
  by_cases hr:a1 < 0 ∨ (l0.length:Int)≤a1
  · refine ⟨0,fun k => ?_⟩
    rw [graph_Check.f,if_pos ⟨hn,hE⟩,if_pos hr,checkP,if_pos hr]
  · cases hb:GT.firstBad (kidsI l0) with
    | some i =>
      refine ⟨0,fun k => ?_⟩
      rw [graph_Check.f,if_pos ⟨hn,hE⟩,if_neg hr,checkP,if_neg hr,hb]
    | none =>
      have hW:=GT.wf_of_firstBad hb
      obtain ⟨K,out,h1,h2⟩:=order_tells l0 a1 hb hn hE
      refine ⟨K,fun k => ?_⟩
      rw [graph_Check.f,if_pos ⟨hn,hE⟩,if_neg hr,checkP,if_neg hr,hb]
      simp only [h2,Option.bind_some,intsOf_len]
      congr 1
      unfold GT.checkG
      by_cases hs:(out.length:Int) < (l0.length:Int)
      · rw [decide_eq_true hs,if_pos rfl]
        cases GT.firstCyc (GT.toG (kidsI l0)) with
        | some i => rfl
        | none => cases GT.firstLoose (GT.toG (kidsI l0)) a1.toNat <;> rfl
      · rw [decide_eq_false hs,if_neg (by simp)]
        have hA:=h1.acyc (by omega)
        have hcyc:GT.firstCyc (GT.toG (kidsI l0)) = none:=by
          cases hf:GT.firstCyc (GT.toG (kidsI l0)) with
          | none => rfl
          | some i =>
            obtain ⟨_,h3,h4,_⟩:=GT.scan_some hf
            exact absurd ((cycAt_led hb hE (i:=i) (by omega)).1 h4) (hA.acyc i)
        rw [hcyc]
        cases GT.firstLoose (GT.toG (kidsI l0)) a1.toNat <;> rfl
theorem checkP_zero {l0:List (S40)} {a1:Int} (hE:((kidsI l0).map List.length).sum≤1000000) (h:(checkP l0 a1).1 = 0):0≤a1∧a1 < (l0.length:Int)∧GT.firstBad (kidsI l0) = none∧GT.Acyc (GT.toG (kidsI l0))∧∀ i,i < l0.length→i = a1.toNat ∨ GT.Led (GT.toG (kidsI l0)) a1.toNat i:=by
  have hGl:(GT.toG (kidsI l0)).length = l0.length:=by rw [GT.length_toG,kids_len]
  unfold checkP at h
  by_cases hr:a1 < 0 ∨ (l0.length:Int)≤a1
  · rw [if_pos hr] at h;simp at h
  · rw [if_neg hr] at h
    cases hb:GT.firstBad (kidsI l0) with
    | some i => rw [hb] at h;simp at h
    | none =>
      rw [hb] at h
      simp only at h
      cases hc:GT.firstCyc (GT.toG (kidsI l0)) with
      | some i => rw [hc] at h;simp at h
      | none =>
        rw [hc] at h
        simp only at h
        cases hl:GT.firstLoose (GT.toG (kidsI l0)) a1.toNat with
        | some i => rw [hl] at h;simp at h
        | none =>
          refine ⟨by omega,by omega,rfl,fun i hi => ?_,fun i hi => ?_⟩
          · by_cases hil:i < l0.length
            · have:=GT.scan_none hc i (by omega) (by omega)
              rw [(cycAt_led hb hE hil).2 hi] at this
              cases this
            · obtain ⟨k,hk,_⟩:=hi
              have:=GT.lt_of_kid hk
              omega
          · have:=GT.scan_none hl i (by omega) (by omega)
            apply Classical.byContradiction
            intro hn
            rw [(looseAt_led hb hE (r:=a1.toNat) (by omega) i).2 hn] at this
            cases this
end Go.Proofs.YtoigkneoaemcfaaDoor.GN
