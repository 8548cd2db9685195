/- The plain texts of the claim, one behind the other. -/
import Derived.Test.YtcphcaiiofeflaaDoorOmGOx10
import Derived.Test.YtcphcaiiofeflaaDoorOmGU
import Derived.Test.YtcphcaiiofeflaaDoorOmGOx2
import Derived.Test.YtcphcaiiofeflaaDoorOmGOx11
import Derived.Test.YtcphcaiiofeflaaDoorOmGOx3
import Derived.Test.YtcphcaiiofeflaaDoorOmGOx18
import Derived.Test.YtcphcaiiofeflaaDoorOmGOx19
import Derived.Test.YtcphcaiiofeflaaDoorOmGOx20
import Derived.Test.YtcphcaiiofeflaaDoorOmGOx21
import Derived.Test.YtcphcaiiofeflaaDoorOmGOx22
import Derived.Test.YtcphcaiiofeflaaDoorOmUtfF
import Derived.Test.YtcphcaiiofeflaaDoorOmGOx7
import Derived.Lib.RuneCountTail
import Derived.Lib.DecodeN
import Derived.Lib.RuneBytes
import Derived.Lib.Small
import Derived.Test.YtcphcaiiofeflaaDoorOmGOx13
import Derived.Test.YtcphcaiiofeflaaDoorOmGOx14
import Derived.Test.YtcphcaiiofeflaaDoorOmGOx12
import Derived.Test.YtcphcaiiofeflaaDoorOmGOx24
import Derived.Test.YtcphcaiiofeflaaDoorOmGOx23
import Derived.Test.YtcphcaiiofeflaaDoorOmGOx8
import Derived.Test.YtcphcaiiofeflaaDoorOmGOx16
import Derived.Test.YtcphcaiiofeflaaDoorOmGOx32
import Derived.Test.YtcphcaiiofeflaaDoorOmGOx30
import Derived.Test.YtcphcaiiofeflaaDoorOmGOx31
import Derived.Test.YtcphcaiiofeflaaDoorOmGOx29
import Derived.Test.YtcphcaiiofeflaaDoorOmGOx27
import Derived.Test.YtcphcaiiofeflaaDoorOmGOx17
import Derived.Test.YtcphcaiiofeflaaDoorOmGOx26
import Derived.Test.YtcphcaiiofeflaaDoorOmGOx35
namespace Go.Proofs.YtcphcaiiofeflaaDoor.GO
open Go.RowKit Go.Proofs.YtcphcaiiofeflaaDoorW.PrintWords Go.Proofs.YtcphcaiiofeflaaDoorW.PrintLast Go.Proofs.YtcphcaiiofeflaaDoorW.PrintMore
set_option linter.unusedVariables false
set_option linter.unusedSimpArgs false
theorem w64 {n:Int} (h:-9223372036854775808≤n) (h2:n≤9223372036854775807):wrap64 n = n:=by unfold wrap64;omega
theorem rdL_eq (xs:List (List Int)) (i:Int):rd_L4 xs i = xs.getD i.toNat []:=rfl
theorem rd_nat (xs:List Int) (i:Nat):rd xs (i:Int) = xs.getD i 0:=by unfold rd;rw [Int.toNat_natCast]
theorem getD_set_self {α:Type} (xs:List α) (i:Nat) (v d:α) (h:i < xs.length):(xs.set i v).getD i d = v:=by
  rw [List.getD_eq_getElem?_getD,List.getElem?_set_self h];rfl
theorem getD_set_other {α:Type} (xs:List α) (i j:Nat) (v d:α) (h:j≠i):(xs.set i v).getD j d = xs.getD j d:=by
  rw [List.getD_eq_getElem?_getD,List.getElem?_set_ne (Ne.symm h),List.getD_eq_getElem?_getD]
theorem intsOf_append (a b:List Nat):intsOf (a ++ b) = intsOf a ++ intsOf b:=by unfold intsOf;rw [List.map_append]
theorem intsOf_get (l:List Nat) (i:Nat) (h:i < l.length):rd (intsOf l) (i:Int) = ((l.getD i 0:Nat):Int):=by
  rw [rd_nat]
  unfold intsOf
  rw [List.getD_eq_getElem?_getD,List.getElem?_map,List.getD_eq_getElem?_getD,List.getElem?_eq_getElem h]
  rfl
theorem kid_ints {l0:List (S53)} (hgood:GT.firstBad (kidsI l0) = none) (i:Nat):(rd_T53 l0 (i:Int)).f3 = intsOf (GT.kids (GT.toG (kidsI l0)) i):=by
  have:=kids_ints hgood (i:Int)
  rw [Int.toNat_natCast] at this
  exact this.symm
section
variable (l0:List (S53)) (G:List (List Nat)) (n E:Nat)
def P1 (i t:Nat) (x3:List (List Int)):Prop :=
  x3.length = n∧∀ k,k < n→∃ row:List Nat,x3.getD k [] = intsOf row∧(∀ z ∈ row,z < n) ∧
    (∀ j,row.count j = if j < i then (GT.kids G j).count k else if j = i then ((GT.kids G i).take t).count k else 0)∧row.length+GT.esum G i≤E+t
def Q4 (i:Nat) (x4:List Int):Prop:=x4.length = n∧∀ j,j < n→x4.getD j 0 = if j < i then ((GT.kids G j).length:Int) else 0
def Q5 (i:Nat) (out:List Nat):Prop:=out.Nodup∧∀ j,j ∈ out↔j < i∧GT.kids G j = []
end
theorem P1.tell {G:List (List Nat)} {n E i t:Nat} {x3:List (List Int)} (h:P1 G n E i t x3) (hi:i < n) (ht:t < (GT.kids G i).length) (hk:(GT.kids G i).getD t 0 < n) :
    P1 G n E i (t+1) (x3.set ((GT.kids G i).getD t 0) (x3.getD ((GT.kids G i).getD t 0) [] ++ [(i:Int)])):=by
  have htk:(GT.kids G i).take (t+1) = (GT.kids G i).take t ++ [(GT.kids G i).getD t 0]:=by
    rw [List.take_succ_eq_append_getElem ht,List.getD_eq_getElem?_getD,List.getElem?_eq_getElem ht];rfl
  generalize (GT.kids G i).getD t 0 = q at *
  obtain ⟨hl,h⟩:=h
  refine ⟨by rw [List.length_set];exact hl,fun k hkn => ?_⟩
  obtain ⟨row,h1,h2,h3,h4⟩:=h k hkn
  by_cases e:k = q
  · subst e
    refine ⟨row ++ [i],?_,?_,?_,?_⟩
    · rw [getD_set_self _ _ _ _ (by omega),h1,intsOf_append];rfl
    · intro z hz
      rcases List.mem_append.1 hz with hz | hz
      · exact h2 z hz
      · rw [List.mem_singleton] at hz;omega
    · intro j
      rw [List.count_append,h3 j,htk,List.count_append]
      by_cases hj:j < i
      · have:j≠i:=by omega
        simp [hj,List.count_singleton,Ne.symm this]
      · by_cases hj2:j = i
        · subst hj2;simp
        · simp [hj,hj2,List.count_singleton,Ne.symm hj2]
    · rw [List.length_append,List.length_singleton];omega
  · refine ⟨row,?_,h2,?_,by omega⟩
    · rw [getD_set_other _ _ _ _ _ e,h1]
    · intro j
      rw [h3 j,htk,List.count_append,List.count_singleton]
      simp [Ne.symm e]
theorem P1.next {G:List (List Nat)} {n E i:Nat} {x3:List (List Int)} (hG:G.length = n) (h:P1 G n E i (GT.kids G i).length x3) (hi:i < n):P1 G n E (i+1) 0 x3:=by
  obtain ⟨hl,h⟩:=h
  refine ⟨hl,fun k hk => ?_⟩
  obtain ⟨row,h1,h2,h3,h4⟩:=h k hk
  refine ⟨row,h1,h2,fun j => ?_,?_⟩
  · rw [h3 j,List.take_length,List.take_zero]
    by_cases hj:j < i
    · rw [if_pos hj,if_pos (by omega)]
    · by_cases hj2:j = i
      · subst hj2;rw [if_neg hj,if_pos rfl,if_pos (by omega)]
      · rw [if_neg hj,if_neg hj2,if_neg (by omega)];simp
  · have:=GT.esum_step (G:=G) (i:=i) (by omega)
    omega
theorem order_l1 {l0:List (S53)} {E:Nat} (hgood:GT.firstBad (kidsI l0) = none) (hn:l0.length≤1000000) (hE:E≤1000000) (hEd:GT.edges (GT.toG (kidsI l0))≤E) {i:Nat} (hi:i < l0.length) (x4:List Int) (hx4:x4.length = l0.length) (out:List Nat) (hout:out.length≤1000000) :
    ∀ (e t:Nat) (x3:List (List Int)),t+e = (GT.kids (GT.toG (kidsI l0)) i).length→P1 (GT.toG (kidsI l0)) l0.length E i t x3 →
    ∃ x3',P1 (GT.toG (kidsI l0)) l0.length E i (GT.kids (GT.toG (kidsI l0)) i).length x3'∧∀ k,graph_order.l1 (k+e+1) x3 x4 (intsOf out) i l0 l0.length i ((rd_T53 l0 (i:Int)).f3) ((rd_T53 l0 (i:Int)).f3).length t =
      (if rd x4 i = 0 then graph_order.l0 k x3' x4 (intsOf (out ++ [i])) l0 l0.length ((i+1:Nat):Int) else graph_order.l0 k x3' x4 (intsOf out) l0 l0.length ((i+1:Nat):Int)):=by
  have hW:=GT.wf_of_firstBad hgood
  have hGl:(GT.toG (kidsI l0)).length = l0.length:=by rw [GT.length_toG,kids_len]
  rw [kid_ints hgood i,intsOf_len]
  intro e
  induction e with
  | zero =>
    intro t x3 ht h
    refine ⟨x3,by rw [← ht];exact h,fun k => ?_⟩
    rw [graph_order.l1,if_neg (by omega),if_pos (by omega),if_pos (by omega),w64 (by omega) (by omega),intsOf_append,if_pos (show (intsOf out).length < 17592186044416 by rw [intsOf_len];omega)]
    rfl
  | succ e ih =>
    intro t x3 ht h
    have htl:t < (GT.kids (GT.toG (kidsI l0)) i).length:=by omega
    have hm:(GT.kids (GT.toG (kidsI l0)) i).getD t 0 ∈ GT.kids (GT.toG (kidsI l0)) i:=by
      rw [List.getD_eq_getElem?_getD,List.getElem?_eq_getElem htl]
      exact List.getElem_mem htl
    have hkn:(GT.kids (GT.toG (kidsI l0)) i).getD t 0 < l0.length:=by have:=hW i _ hm;omega
    obtain ⟨row,r1,r2,r3,r4⟩:=h.2 _ hkn
    obtain ⟨x3',p1,p2⟩:=ih (t+1) _ (by omega) (h.tell hi htl hkn)
    refine ⟨x3',p1,fun k => ?_⟩
    rw [show k+(e+1)+1 = (k+e+1)+1 by omega,graph_order.l1,if_pos (by omega),if_pos (by omega),if_pos (by rw [intsOf_len];omega),intsOf_get _ t htl,if_pos (by omega),if_pos (by rw [h.1];omega),rdL_eq,Int.toNat_natCast]
    have hE2:=GT.esum_step (G:=GT.toG (kidsI l0)) (i:=i) (by omega)
    have hE3:=GT.rest_kid (G:=GT.toG (kidsI l0)) (i:=i) (by omega)
    rw [if_pos (by rw [r1,intsOf_len];omega),w64 (by omega) (by omega)]
    exact p2 k
theorem order_l0 {l0:List (S53)} {E:Nat} (hgood:GT.firstBad (kidsI l0) = none) (hn:l0.length≤1000000) (hE:E≤1000000) (hEd:GT.edges (GT.toG (kidsI l0))≤E) :
    ∀ (d i:Nat) (x3:List (List Int)) (x4:List Int) (out:List Nat),i+d = l0.length→P1 (GT.toG (kidsI l0)) l0.length E i 0 x3→Q4 (GT.toG (kidsI l0)) l0.length i x4→Q5 (GT.toG (kidsI l0)) i out →
    ∃ K x3' x4' out',P1 (GT.toG (kidsI l0)) l0.length E l0.length 0 x3'∧Q4 (GT.toG (kidsI l0)) l0.length l0.length x4'∧Q5 (GT.toG (kidsI l0)) l0.length out' ∧
      ∀ k,graph_order.l0 (k+K) x3 x4 (intsOf out) l0 l0.length i = graph_order.l2 k x3' x4' (intsOf out') 0:=by
  have hGl:(GT.toG (kidsI l0)).length = l0.length:=by rw [GT.length_toG,kids_len]
  intro d
  induction d with
  | zero =>
    intro i x3 x4 out hi h3 h4 h5
    obtain rfl:i = l0.length:=by omega
    refine ⟨1,x3,x4,out,h3,h4,h5,fun k => ?_⟩
    rw [graph_order.l0,if_neg (by omega)]
  | succ d ih =>
    intro i x3 x4 out hi h3 h4 h5
    have hil:i < l0.length:=by omega
    have hlout:out.length≤1000000:=by
      have:=GT.length_le_of_nodup (n:=l0.length) h5.1 (fun x hx => by have:=((h5.2 x).1 hx).1;omega)
      omega
    obtain ⟨x3',p1,p2⟩:=order_l1 (l0:=l0) (E:=E) hgood hn hE hEd hil (x4.set i ((GT.kids (GT.toG (kidsI l0)) i).length:Int)) (by rw [List.length_set];exact h4.1) out hlout (GT.kids (GT.toG (kidsI l0)) i).length 0 x3 (by omega) h3
    have h4':Q4 (GT.toG (kidsI l0)) l0.length (i+1) (x4.set i ((GT.kids (GT.toG (kidsI l0)) i).length:Int)):=by
      refine ⟨by rw [List.length_set];exact h4.1,fun j hj => ?_⟩
      by_cases e:j = i
      · subst e;rw [getD_set_self _ _ _ _ (by rw [h4.1];exact hj),if_pos (by omega)]
      · rw [getD_set_other _ _ _ _ _ e,h4.2 j hj]
        by_cases hji:j < i
        · rw [if_pos hji,if_pos (by omega)]
        · rw [if_neg hji,if_neg (by omega)]
    have hrd:rd (x4.set i ((GT.kids (GT.toG (kidsI l0)) i).length:Int)) (i:Int) = ((GT.kids (GT.toG (kidsI l0)) i).length:Int):=by rw [rd_nat,getD_set_self _ _ _ _ (by rw [h4.1];exact hil)]
    have hstep:∀ k,graph_order.l0 (k+1) x3 x4 (intsOf out) l0 l0.length i = graph_order.l1 k x3 (x4.set i ((GT.kids (GT.toG (kidsI l0)) i).length:Int)) (intsOf out) i l0 l0.length i ((rd_T53 l0 (i:Int)).f3) ((rd_T53 l0 (i:Int)).f3).length ((0:Nat):Int):=by
      intro k
      rw [graph_order.l0,if_pos (by omega),if_pos (by omega),if_pos (by omega),if_pos (by rw [h4.1];omega),Int.toNat_natCast]
      have:(((rd_T53 l0 (i:Int)).f3).length:Int) = ((GT.kids (GT.toG (kidsI l0)) i).length:Int):=by rw [kid_ints hgood i,intsOf_len]
      rw [this]
      rfl
    by_cases hz:GT.kids (GT.toG (kidsI l0)) i = []
    · have h5':Q5 (GT.toG (kidsI l0)) (i+1) (out ++ [i]):=by
        refine ⟨?_,fun j => ?_⟩
        · rw [List.nodup_append]
          refine ⟨h5.1,by simp,fun a ha b hb => ?_⟩
          rw [List.mem_singleton] at hb
          rintro rfl
          have:=((h5.2 a).1 ha).1
          omega
        · rw [List.mem_append,h5.2,List.mem_singleton]
          constructor
          · rintro (⟨h1,h2⟩ | rfl)
            · exact ⟨by omega,h2⟩
            · exact ⟨by omega,hz⟩
          · rintro ⟨h1,h2⟩
            by_cases e:j = i
            · exact .inr e
            · exact .inl ⟨by omega,h2⟩
      obtain ⟨K,y3,y4,yo,q1,q2,q3,q4⟩:=ih (i+1) x3' _ (out ++ [i]) (by omega) (p1.next hGl hil) h4' h5'
      refine ⟨K+(GT.kids (GT.toG (kidsI l0)) i).length+1+1,y3,y4,yo,q1,q2,q3,fun k => ?_⟩
      rw [show k+(K+(GT.kids (GT.toG (kidsI l0)) i).length+1+1) = ((k+K)+(GT.kids (GT.toG (kidsI l0)) i).length+1)+1 by omega,hstep,p2,hrd,if_pos (by rw [hz];rfl)]
      exact q4 k
    · have h5':Q5 (GT.toG (kidsI l0)) (i+1) out:=by
        refine ⟨h5.1,fun j => ?_⟩
        rw [h5.2]
        constructor
        · rintro ⟨h1,h2⟩;exact ⟨by omega,h2⟩
        · rintro ⟨h1,h2⟩
          by_cases e:j = i
          · subst e;exact absurd h2 hz
          · exact ⟨by omega,h2⟩
      obtain ⟨K,y3,y4,yo,q1,q2,q3,q4⟩:=ih (i+1) x3' _ out (by omega) (p1.next hGl hil) h4' h5'
      refine ⟨K+(GT.kids (GT.toG (kidsI l0)) i).length+1+1,y3,y4,yo,q1,q2,q3,fun k => ?_⟩
      have hnz:¬ ((GT.kids (GT.toG (kidsI l0)) i).length:Int) = 0:=by
        intro e
        exact hz (List.eq_nil_of_length_eq_zero (by omega))
      rw [show k+(K+(GT.kids (GT.toG (kidsI l0)) i).length+1+1) = ((k+K)+(GT.kids (GT.toG (kidsI l0)) i).length+1)+1 by omega,hstep,p2,hrd,if_neg hnz]
      exact q4 k
theorem order_l3 {G:List (List Nat)} {n E i:Nat} (hGl:G.length = n) (hn:n≤1000000) (hE:E≤1000000) (hEd:GT.edges G≤E) (x3:List (List Int)) (row:List Nat) (hrow:∀ z ∈ row,z < n) (hrl:row.length≤E) :
    ∀ (e t:Nat) (x4:List Int) (out:List Nat),t+e = row.length→x4.length = n→i < out.length→GT.KInv G (out.take (i+1)) (row.drop t) (fun j => x4.getD j 0) out →
    ∃ x4' out',x4'.length = n∧i < out'.length∧GT.KInv G (out'.take (i+1)) [] (fun j => x4'.getD j 0) out' ∧
      ∀ k,graph_order.l3 (k+e+1) x3 x4 (intsOf out) i (intsOf row) row.length t = graph_order.l2 k x3 x4' (intsOf out') ((i+1:Nat):Int):=by
  intro e
  induction e with
  | zero =>
    intro t x4 out ht h4 hi h
    refine ⟨x4,out,h4,hi,?_,fun k => ?_⟩
    · rw [List.drop_of_length_le (by omega)] at h;exact h
    · have hol:=GT.length_le_of_nodup h.nodup h.lt
      rw [graph_order.l3,if_neg (by omega),w64 (by omega) (by omega)]
      rfl
  | succ e ih =>
    intro t x4 out ht h4 hi h
    have htl:t < row.length:=by omega
    have hd:row.drop t = row.getD t 0 :: row.drop (t+1):=by
      rw [List.drop_eq_getElem_cons htl,List.getD_eq_getElem?_getD,List.getElem?_eq_getElem htl];rfl
    have hq:row.getD t 0 < n:=hrow _ (by rw [List.getD_eq_getElem?_getD,List.getElem?_eq_getElem htl];exact List.getElem_mem htl)
    have hol:=GT.length_le_of_nodup h.nodup h.lt
    have hrd:=intsOf_get row t htl
    have hc:=h.cnt (row.getD t 0) (by omega)
    have hc1:((GT.kids G (row.getD t 0)).countP fun y => decide (y ∉ out.take (i+1)))≤(GT.kids G (row.getD t 0)).length:=List.countP_le_length
    have hc2:(row.drop t).count (row.getD t 0)≤(row.drop t).length:=List.count_le_length
    have hc3:=GT.rest_kid (G:=G) (i:=row.getD t 0) (by omega)
    have hc4:0 < (row.drop t).count (row.getD t 0):=by rw [hd];exact List.count_pos_iff.2 (List.mem_cons_self ..)
    rw [List.length_drop] at hc2
    rw [hd] at h
    generalize row.getD t 0 = q at *
    have hx4q:rd x4 (q:Int) = x4.getD q 0:=rd_nat x4 q
    have hset:(x4.set q (x4.getD q 0 - 1)).length = n:=by rw [List.length_set];exact h4
    have hrd2:rd (x4.set q (x4.getD q 0 - 1)) (q:Int) = x4.getD q 0 - 1:=by rw [rd_nat,getD_set_self _ _ _ _ (by omega)]
    have hstep:=h.tell (op':=fun j => (x4.set q (x4.getD q 0 - 1)).getD j 0) (by omega) (getD_set_self _ _ _ _ (by omega)) (fun j hj => getD_set_other _ _ _ _ _ hj)
    have hhead:∀ k,graph_order.l3 (k+(e+1)+1) x3 x4 (intsOf out) i (intsOf row) row.length t =
        (if x4.getD q 0 - 1 = 0 then graph_order.l3 (k+e+1) x3 (x4.set q (x4.getD q 0 - 1)) (intsOf (out ++ [q])) i (intsOf row) row.length ((t+1:Nat):Int) else graph_order.l3 (k+e+1) x3 (x4.set q (x4.getD q 0 - 1)) (intsOf out) i (intsOf row) row.length ((t+1:Nat):Int)):=by
      intro k
      rw [show k+(e+1)+1 = (k+e+1)+1 by omega,graph_order.l3,if_pos (by omega),if_pos (by omega),if_pos (by rw [intsOf_len];omega),hrd,if_pos (by omega),if_pos (by rw [h4];omega),hx4q,Int.toNat_natCast,w64 (n:=x4.getD q 0 - 1) (by omega) (by omega),Option.bind_some,hrd2,w64 (n:=(t:Int)+1) (by omega) (by omega),if_pos (show (intsOf out).length < 17592186044416 by rw [intsOf_len];omega),intsOf_append]
      rfl
    by_cases hz:x4.getD q 0 - 1 = 0
    · have h2:=hstep.1 (by rw [getD_set_self _ _ _ _ (by omega)];exact hz)
      have htk:(out ++ [q]).take (i+1) = out.take (i+1):=List.take_append_of_le_length (by omega)
      obtain ⟨y4,yo,p1,p2,p3,p4⟩:=ih (t+1) _ (out ++ [q]) (by omega) hset (by rw [List.length_append];omega) (by rw [htk];exact h2)
      refine ⟨y4,yo,p1,p2,p3,fun k => ?_⟩
      rw [hhead,if_pos hz]
      exact p4 k
    · have h2:=hstep.2 (by rw [getD_set_self _ _ _ _ (by omega)];exact hz)
      obtain ⟨y4,yo,p1,p2,p3,p4⟩:=ih (t+1) _ out (by omega) hset hi h2
      refine ⟨y4,yo,p1,p2,p3,fun k => ?_⟩
      rw [hhead,if_neg hz]
      exact p4 k
theorem order_l2 {G:List (List Nat)} {n E:Nat} (hGl:G.length = n) (hn:n≤1000000) (hE:E≤1000000) (hEd:GT.edges G≤E) (x3:List (List Int)) (h3:P1 G n E n 0 x3) :
    ∀ (d i:Nat) (x4:List Int) (out:List Nat),n≤i+d→i≤out.length→x4.length = n→GT.KInv G (out.take i) [] (fun j => x4.getD j 0) out →
    ∃ K out',GT.Ord G out'∧∀ k,graph_order.l2 (k+K) x3 x4 (intsOf out) i = some (intsOf out'):=by
  have hdone:∀ (i:Nat) (x4:List Int) (out:List Nat),i = out.length→GT.KInv G (out.take i) [] (fun j => x4.getD j 0) out→∃ K out',GT.Ord G out'∧∀ k,graph_order.l2 (k+K) x3 x4 (intsOf out) i = some (intsOf out'):=by
    intro i x4 out hi h
    rw [hi,List.take_length] at h
    refine ⟨1,out,⟨h.lt,h.nodup,h.post,fun j hj hk => h.done hj hk⟩,fun k => ?_⟩
    rw [graph_order.l2,if_neg (by rw [intsOf_len];omega)]
  intro d
  induction d with
  | zero =>
    intro i x4 out hi hio h4 h
    have hol:=GT.length_le_of_nodup h.nodup h.lt
    exact hdone i x4 out (by omega) h
  | succ d ih =>
    intro i x4 out hi hio h4 h
    have hol:=GT.length_le_of_nodup h.nodup h.lt
    by_cases hil:i < out.length
    · have hm:out.getD i 0 ∈ out:=by rw [List.getD_eq_getElem?_getD,List.getElem?_eq_getElem hil];exact List.getElem_mem hil
      have hx:out.getD i 0 < n:=by have:=h.lt _ hm;omega
      obtain ⟨row,r1,r2,r3,r4⟩:=h3.2 _ hx
      have hcount:∀ j,j < G.length→row.count j = (GT.kids G j).count (out.getD i 0):=fun j hj => by rw [r3 j,if_pos (by omega)]
      have h2:=h.next hil hcount
      obtain ⟨y4,yo,p1,p2,p3,p4⟩:=order_l3 (i:=i) hGl hn hE hEd x3 row r2 (by omega) row.length 0 x4 out (by omega) h4 hil (by rw [List.drop_zero];exact h2)
      obtain ⟨K,o2,q1,q2⟩:=ih (i+1) y4 yo (by omega) (by omega) p1 p3
      refine ⟨K+row.length+1+1,o2,q1,fun k => ?_⟩
      have hrd:=intsOf_get out i hil
      rw [show k+(K+row.length+1+1) = ((k+K)+row.length+1)+1 by omega,graph_order.l2,if_pos (by rw [intsOf_len];omega),if_pos (by omega),hrd,if_pos (by omega),if_pos (by rw [h3.1];omega),rdL_eq,Int.toNat_natCast,r1,intsOf_len]
      exact (p4 (k+K)).trans (q2 k)
    · exact hdone i x4 out (by omega) h
theorem order_tells (l0:List (S53)) (a1:Int) (hgood:GT.firstBad (kidsI l0) = none) (hn:l0.length≤1000000) (hE:((kidsI l0).map List.length).sum≤1000000) :
    ∃ K out,GT.Ord (GT.toG (kidsI l0)) out∧∀ k,graph_order.f (k+K) l0 a1 = some (intsOf out):=by
  have hGl:(GT.toG (kidsI l0)).length = l0.length:=by rw [GT.length_toG,kids_len]
  have hW:=GT.wf_of_firstBad hgood
  have hEd:GT.edges (GT.toG (kidsI l0)) = ((kidsI l0).map List.length).sum:=GT.edges_toG _
  have hrep:∀ (d:List Int) (k:Nat),(List.replicate l0.length ([]:List Int)).getD k d = if k < l0.length then [] else d:=by
    intro d k
    rw [List.getD_eq_getElem?_getD,List.getElem?_replicate]
    split <;> rfl
  have h3:P1 (GT.toG (kidsI l0)) l0.length (GT.edges (GT.toG (kidsI l0))) 0 0 (List.replicate l0.length []):=by
    refine ⟨List.length_replicate,fun k hk => ⟨[],?_,(fun z hz => by cases hz),fun j => ?_,?_⟩⟩
    · rw [hrep,if_pos hk];rfl
    · by_cases hj:j = 0
      · rw [if_neg (by omega),if_pos hj];simp
      · rw [if_neg (by omega),if_neg hj];simp
    · rw [GT.esum_zero];simp
  have h4:Q4 (GT.toG (kidsI l0)) l0.length 0 (List.replicate l0.length (0:Int)):=by
    refine ⟨List.length_replicate,fun j hj => ?_⟩
    rw [List.getD_eq_getElem?_getD,List.getElem?_replicate,if_pos hj,if_neg (by omega)]
    rfl
  have h5:Q5 (GT.toG (kidsI l0)) 0 []:=⟨List.nodup_nil,fun j => ⟨(fun h => by cases h),fun h => absurd h.1 (by omega)⟩⟩
  obtain ⟨K,x3,x4,out,p3,p4,p5,hrun⟩:=order_l0 (l0:=l0) (E:=GT.edges (GT.toG (kidsI l0))) hgood hn (by omega) (Nat.le_refl _) l0.length 0 _ _ [] (by omega) h3 h4 h5
  have hK:GT.KInv (GT.toG (kidsI l0)) (out.take 0) [] (fun j => x4.getD j 0) out:=by
    refine ⟨(fun j hj => by have:=((p5.2 j).1 hj).1;omega),p5.1,(fun j hj => by rw [List.take_zero] at hj;cases hj),fun j hj => ?_,fun j hj => ?_,?_⟩
    · rw [p4.2 j (by omega),if_pos (by omega)]
      have:(GT.kids (GT.toG (kidsI l0)) j).countP (fun y => decide (y ∉ out.take 0)) = (GT.kids (GT.toG (kidsI l0)) j).length:=by
        rw [List.countP_eq_length]
        intro a _
        simp
      rw [this]
      simp
    · rw [p5.2,p4.2 j (by omega),if_pos (by omega)]
      constructor
      · rintro ⟨_,h⟩;rw [h];rfl
      · intro h;exact ⟨by omega,List.eq_nil_of_length_eq_zero (by omega)⟩
    · intro a x b hl k hk
      have:=(p5.2 x).1 (by rw [hl];simp)
      rw [this.2] at hk
      cases hk
  obtain ⟨K2,o2,q1,q2⟩:=order_l2 hGl hn (by omega) (Nat.le_refl _) x3 p3 l0.length 0 x4 out (by omega) (by omega) p4.1 hK
  refine ⟨K2+K,o2,q1,fun k => ?_⟩
  rw [graph_order.f,if_pos (by omega),Int.toNat_natCast,if_pos (by omega),if_pos (by omega),← Nat.add_assoc]
  exact (hrun (k+K2)).trans (q2 k)
end Go.Proofs.YtcphcaiiofeflaaDoor.GO
namespace Go.Proofs.YtcphcaiiofeflaaDoor.GO
open Go.RowKit Go.Proofs.YtcphcaiiofeflaaDoorW.PrintWords Go.Proofs.YtcphcaiiofeflaaDoorW.PrintLast Go.Proofs.YtcphcaiiofeflaaDoorW.PrintMore
set_option linter.unusedVariables false
set_option linter.unusedSimpArgs false
theorem rdT_get {l0:List (S53)} {i:Nat} (h:i < l0.length):rd_T53 l0 (i:Int) = l0[i]:=by
  unfold rd_T53;rw [Int.toNat_natCast,List.getD_eq_getElem?_getD,List.getElem?_eq_getElem h];rfl
def restK (l0:List (S53)) (i:Nat):Nat:=(((kidsI l0).drop i).map List.length).sum
theorem restK_step {l0:List (S53)} {i:Nat} (h:i < l0.length):restK l0 i = ((rd_T53 l0 (i:Int)).f3).length+restK l0 (i+1):=by
  have h2:i < (kidsI l0).length:=by rw [kids_len];exact h
  have:=kidsI_at l0 (i:Int)
  rw [Int.toNat_natCast,List.getD_eq_getElem?_getD,List.getElem?_eq_getElem h2] at this
  unfold restK
  rw [List.drop_eq_getElem_cons h2,List.map_cons,List.sum_cons,← this]
  rfl
theorem restK_end {l0:List (S53)} {i:Nat} (h:l0.length≤i):restK l0 i = 0:=by
  unfold restK
  rw [List.drop_of_length_le (by rw [kids_len];exact h)]
  rfl
theorem redges_run (l0:List (S53)) (a1:Int) (hn:l0.length≤1000000):∀ (d i:Nat) (x3:Int),i+d = l0.length→∃ v,(∀ k,r09_Edges.l0 (k+d+1) x3 i l0 a1 = some v)∧(0≤x3→x3+restK l0 i≤1000000000000→v = x3+restK l0 i):=by
  intro d
  induction d with
  | zero =>
    intro i x3 hi
    refine ⟨x3,fun k => ?_,fun _ _ => ?_⟩
    · rw [r09_Edges.l0,if_neg (by omega)]
    · rw [restK_end (by omega)];simp
  | succ d ih =>
    intro i x3 hi
    obtain ⟨v,h1,h2⟩:=ih (i+1) (wrap64 (x3+(((rd_T53 l0 (i:Int)).f3).length:Int))) (by omega)
    have hs:=restK_step (l0:=l0) (i:=i) (by omega)
    refine ⟨v,fun k => ?_,fun h3 h4 => ?_⟩
    · rw [show k+(d+1)+1 = (k+d+1)+1 by omega,r09_Edges.l0,if_pos (by omega),if_pos (by omega),w64 (n:=(i:Int)+1) (by omega) (by omega)]
      exact h1 k
    · rw [w64 (by omega) (by omega)] at h2
      rw [h2 (by omega) (by omega),hs]
      omega
theorem gedges_run (l0:List (S53)) (a1:Int) (hn:l0.length≤1000000):∀ (d i:Nat) (x3:Int),i+d = l0.length→0≤x3→x3+restK l0 i≤1000000000000→∀ k,graph_Edges.l0 (k+d+1) x3 l0 l0.length i = some (x3+restK l0 i):=by
  intro d
  induction d with
  | zero =>
    intro i x3 hi h3 h4 k
    rw [graph_Edges.l0,if_neg (by omega),restK_end (by omega)]
    simp
  | succ d ih =>
    intro i x3 hi h3 h4 k
    have hs:=restK_step (l0:=l0) (i:=i) (by omega)
    rw [show k+(d+1)+1 = (k+d+1)+1 by omega,graph_Edges.l0,if_pos (by omega),if_pos (by omega),if_pos (by omega),w64 (n:=(i:Int)+1) (by omega) (by omega),w64 (by omega) (by omega)]
    refine (ih (i+1) _ (by omega) (by omega) (by omega) k).trans ?_
    rw [hs]
    congr 1
    omega
theorem great8_loop (a0:Int) (l1:List Int) (l2:List ByteArray) (l3:List Int) (h2:l2.length≤100):∀ d i:Nat,i+d = l2.length→∃ b,∀ k,r08_Great.l0 (k+d+1) (i:Int) a0 l1 l2 l3 = some b:=by
  intro d
  induction d with
  | zero =>
    intro i hi
    refine ⟨false,fun k => ?_⟩
    rw [r08_Great.l0,if_neg (by omega)]
  | succ d ih =>
    intro i hi
    obtain ⟨b,h⟩:=ih (i+1) (by omega)
    by_cases hc:((rdOf ByteArray.empty l2 i).size:Int) > 500
    · refine ⟨true,fun k => ?_⟩
      rw [r08_Great.l0,if_pos (by omega),if_pos (by omega),if_pos hc]
    · refine ⟨b,fun k => ?_⟩
      rw [show k+(d+1)+1 = (k+d+1)+1 by omega,r08_Great.l0,if_pos (by omega),if_pos (by omega),if_neg hc,w64 (by omega) (by omega)]
      exact h k
theorem great8 (a0:Int) (l1:List Int) (l2:List ByteArray) (l3:List Int):∃ K b,(∀ k,r08_Great.f (k+K) a0 l1 l2 l3 = some b)∧(b = false→l1.length≤100∧l2.length≤100∧l3.length≤300):=by
  have htrue:∀ k,r08_Great.j0 (k+1) true a0 l1 l2 l3 = some true:=fun k => by rw [r08_Great.j0,if_pos rfl]
  by_cases h1:(l1.length:Int) > 100
  · refine ⟨1,true,fun k => ?_,fun h => by cases h⟩
    rw [r08_Great.f,if_pos h1];exact htrue k
  · by_cases h2:(l2.length:Int) > 100
    · refine ⟨1,true,fun k => ?_,fun h => by cases h⟩
      rw [r08_Great.f,if_neg h1,if_pos h2];exact htrue k
    · by_cases h3:(l3.length:Int) > 300
      · refine ⟨1,true,fun k => ?_,fun h => by cases h⟩
        rw [r08_Great.f,if_neg h1,if_neg h2,decide_eq_true h3];exact htrue k
      · obtain ⟨b,h⟩:=great8_loop a0 l1 l2 l3 (by omega) l2.length 0 (by omega)
        refine ⟨l2.length+1+1,b,fun k => ?_,fun _ => ⟨by omega,by omega,by omega⟩⟩
        rw [r08_Great.f,if_neg h1,if_neg h2,decide_eq_false h3,show k+(l2.length+1+1) = (k+l2.length+1)+1 by omega,r08_Great.j0,if_neg (by simp)]
        exact h k
structure Small (l0:List (S53)):Prop where
  len:l0.length≤60
  one:∀ i:Nat,i < l0.length→((rd_T53 l0 (i:Int)).f1).length≤100∧((rd_T53 l0 (i:Int)).f2).length≤100∧((rd_T53 l0 (i:Int)).f3).length≤300
  sum:restK l0 0≤300
theorem great9_loop (l0:List (S53)) (a1:Int) (hn:l0.length≤60):∀ d i:Nat,i+d = l0.length→∃ K b,(∀ k,r09_Great.l0 (k+K) (i:Int) l0 a1 = some b) ∧
    (b = false→∀ j:Nat,i≤j→j < l0.length→((rd_T53 l0 (j:Int)).f1).length≤100∧((rd_T53 l0 (j:Int)).f2).length≤100∧((rd_T53 l0 (j:Int)).f3).length≤300):=by
  intro d
  induction d with
  | zero =>
    intro i hi
    refine ⟨1,false,fun k => ?_,fun _ j h1 h2 => by omega⟩
    rw [r09_Great.l0,if_neg (by omega)]
  | succ d ih =>
    intro i hi
    obtain ⟨K,b,h1,h2⟩:=ih (i+1) (by omega)
    obtain ⟨K2,b2,h3,h4⟩:=great8 (rd_T53 l0 (i:Int)).f0 (rd_T53 l0 (i:Int)).f1 (rd_T53 l0 (i:Int)).f2 (rd_T53 l0 (i:Int)).f3
    have hstep:∀ k,r09_Great.l0 (k+(K+K2+1)) (i:Int) l0 a1 = if b2 = true then some true else some b:=by
      intro k
      rw [show k+(K+K2+1) = ((k+K)+K2)+1 by omega,r09_Great.l0,if_pos (by omega),if_pos (by omega),h3,Option.bind_some,w64 (by omega) (by omega)]
      have:=h1 (k+K2)
      rw [show k+K+K2 = k+K2+K by omega]
      rw [show ((i:Int)+1) = ((i+1:Nat):Int) by omega,this]
    cases b2 with
    | true => exact ⟨_,true,fun k => hstep k,fun h => by cases h⟩
    | false =>
      refine ⟨_,b,fun k => hstep k,fun hb j hj hjl => ?_⟩
      by_cases e:j = i
      · subst e;exact h4 rfl
      · exact h2 hb j (by omega) hjl
theorem great9 (l0:List (S53)) (a1:Int):∃ K b,(∀ k,r09_Great.f (k+K) l0 a1 = some b)∧(b = false→Small l0):=by
  have htrue:∀ k,r09_Great.j0 (k+1) true l0 a1 = some true:=fun k => by rw [r09_Great.j0,if_pos rfl]
  by_cases h1:(l0.length:Int) > 60
  · refine ⟨1,true,fun k => ?_,fun h => by cases h⟩
    rw [r09_Great.f,if_pos h1];exact htrue k
  · obtain ⟨v,h2,h3⟩:=redges_run l0 a1 (by omega) l0.length 0 0 (by omega)
    obtain ⟨K,b,h4,h5⟩:=great9_loop l0 a1 (by omega) l0.length 0 (by omega)
    by_cases hv:v > 300
    · refine ⟨l0.length+1,true,fun k => ?_,fun h => by cases h⟩
      rw [r09_Great.f,if_neg h1,r09_Edges.f]
      have:=h2 k
      rw [Nat.add_assoc] at this
      rw [show ((0:Nat):Int) = 0 from rfl] at this
      rw [this,Option.bind_some,decide_eq_true hv]
      exact htrue _
    · refine ⟨K+l0.length+1,b,fun k => ?_,fun hb => ?_⟩
      · rw [r09_Great.f,if_neg h1,r09_Edges.f]
        have:=h2 (k+K)
        rw [show ((0:Nat):Int) = 0 from rfl] at this
        rw [show k+(K+l0.length+1) = k+K+l0.length+1 by omega,this,Option.bind_some,decide_eq_false hv,r09_Great.j0,if_neg (by simp)]
        have:=h4 (k+l0.length)
        rw [show ((0:Nat):Int) = 0 from rfl] at this
        rw [show k+K+l0.length = k+l0.length+K by omega]
        exact this
      · have hone:=h5 hb
        have hb2:∀ d i:Nat,i+d = l0.length→restK l0 i≤300 * d:=by
          intro d
          induction d with
          | zero => intro i hi;rw [restK_end (by omega)];omega
          | succ d ih =>
            intro i hi
            have:=ih (i+1) (by omega)
            have h6:=(hone i (by omega) (by omega)).2.2
            rw [restK_step (by omega)]
            omega
        have h7:=hb2 l0.length 0 (by omega)
        have h8:=h3 (by omega) (by omega)
        exact ⟨by omega,fun i hi => hone i (by omega) hi,by omega⟩
theorem copy8 (a0:Int) (l1:List Int) (l2:List ByteArray) (l3:List Int) (h1:l1.length≤100) (h2:l2.length≤100) (h3:l3.length≤300):r08_Copy.f a0 l1 l2 l3 = some (a0,l1,l2,l3):=by
  unfold r08_Copy.f
  first | (rw [if_pos ⟨by omega,by omega,by omega⟩];done) | (simp only [Option.bind_some,List.length_nil,Nat.zero_add,List.nil_append];rw [if_pos (by omega),if_pos (by omega),if_pos (by omega)])
theorem redges {l0:List (S53)} (hS:Small l0) (a1:Int) (k:Nat):r09_Edges.f (k+l0.length+1) l0 a1 = some (restK l0 0:Int):=by
  have h1:=hS.len
  have h2:=hS.sum
  obtain ⟨v,h3,h4⟩:=redges_run l0 a1 (by omega) l0.length 0 0 (by omega)
  have h5:=h4 (by omega) (by omega)
  rw [Int.zero_add] at h5
  rw [← h5]
  exact h3 k
theorem gedges {l0:List (S53)} (hS:Small l0) (a1:Int) (k:Nat):graph_Edges.f (k+l0.length+1) l0 a1 = some (restK l0 0:Int):=by
  have h1:=hS.len
  have h2:=hS.sum
  have:=gedges_run l0 a1 (by omega) l0.length 0 0 (by omega) (by omega) (by omega) k
  rw [Int.zero_add] at this
  exact this
theorem place9 (l0:List (S53)) (a1 v:Int):r09_Place.f l0 a1 v = some (!GT.badKid l0.length v):=by
  unfold r09_Place.f GT.badKid
  by_cases h:v ≥ 0
  · rw [if_pos h]
    have h1:decide (v < 0) = false:=decide_eq_false (by omega)
    rw [h1,Bool.false_or]
    by_cases h2:v < (l0.length:Int)
    · rw [decide_eq_true h2,decide_eq_false (by omega)];rfl
    · rw [decide_eq_false h2,decide_eq_true (by omega)];rfl
  · rw [if_neg h,decide_eq_true (show v < 0 by omega)];rfl
theorem refs_l1 {l0:List (S53)} (hn:l0.length≤1000000) (a1:Int) {i:Nat} (hi:i < l0.length) (hl:((rd_T53 l0 (i:Int)).f3).length≤1000000):∀ (e j:Nat),j+e = ((rd_T53 l0 (i:Int)).f3).length→∀ k,
    r09_Refs.l1 (k+e+1) (i:Int) j l0 a1 = if (((rd_T53 l0 (i:Int)).f3).drop j).any (GT.badKid l0.length) = true then some (i:Int) else r09_Refs.l0 (if (((rd_T53 l0 (i:Int)).f3).drop j).any (GT.badKid l0.length) = true then 0 else k) ((i+1:Nat):Int) l0 a1:=by
  intro e
  induction e with
  | zero =>
    intro j hj k
    rw [List.drop_of_length_le (by omega),List.any_nil,if_neg (by simp),if_neg (by simp),r09_Refs.l1,if_pos (by omega),if_pos (by omega),if_neg (by omega),w64 (by omega) (by omega)]
    rfl
  | succ e ih =>
    intro j hj k
    have hj2:j < ((rd_T53 l0 (i:Int)).f3).length:=by omega
    have hx:rd ((rd_T53 l0 (i:Int)).f3) (j:Int) = ((rd_T53 l0 (i:Int)).f3)[j]:=by
      rw [rd_nat,List.getD_eq_getElem?_getD,List.getElem?_eq_getElem hj2];rfl
    rw [show k+(e+1)+1 = (k+e+1)+1 by omega,r09_Refs.l1,if_pos (by omega),if_pos (by omega),if_pos (by omega),if_pos (by omega),place9,Option.bind_some,hx,List.drop_eq_getElem_cons hj2,List.any_cons]
    by_cases hb:GT.badKid l0.length ((rd_T53 l0 (i:Int)).f3)[j] = true
    · rw [hb];simp
    · rw [Bool.not_eq_true] at hb
      rw [hb,Bool.false_or,if_pos (by simp),w64 (by omega) (by omega)]
      exact ih (j+1) (by omega) k
theorem refs_l0 {l0:List (S53)} (hn:l0.length≤1000000) (hl:∀ i:Nat,i < l0.length→((rd_T53 l0 (i:Int)).f3).length≤1000000) (a1:Int):∀ d i:Nat,i+d = l0.length→∃ K,∀ k,r09_Refs.l0 (k+K) (i:Int) l0 a1 = some (idxN l0.length ((kidsI l0).drop i) i):=by
  intro d
  induction d with
  | zero =>
    intro i hi
    refine ⟨1,fun k => ?_⟩
    rw [r09_Refs.l0,if_neg (by omega),List.drop_of_length_le (by rw [kids_len];omega),idxN]
  | succ d ih =>
    intro i hi
    have hil:i < (kidsI l0).length:=by rw [kids_len];omega
    obtain ⟨K,h⟩:=ih (i+1) (by omega)
    have h1:=refs_l1 hn a1 (i:=i) (by omega) (hl i (by omega)) ((rd_T53 l0 (i:Int)).f3).length 0 (by omega)
    have hx:(kidsI l0)[i] = (rd_T53 l0 (i:Int)).f3:=by
      have:=kidsI_at l0 (i:Int)
      rw [Int.toNat_natCast,List.getD_eq_getElem?_getD,List.getElem?_eq_getElem hil] at this
      exact this
    refine ⟨K+((rd_T53 l0 (i:Int)).f3).length+1+1,fun k => ?_⟩
    rw [show k+(K+((rd_T53 l0 (i:Int)).f3).length+1+1) = ((k+K)+((rd_T53 l0 (i:Int)).f3).length+1)+1 by omega,r09_Refs.l0,if_pos (by omega)]
    refine (h1 (k+K)).trans ?_
    rw [List.drop_zero,List.drop_eq_getElem_cons hil,idxN,hx]
    by_cases hb:((rd_T53 l0 (i:Int)).f3).any (GT.badKid l0.length) = true
    · rw [if_pos hb,if_pos hb]
    · rw [if_neg hb,if_neg hb,if_neg hb]
      exact h k
theorem refs9 {l0:List (S53)} (hn:l0.length≤1000000) (hl:∀ i:Nat,i < l0.length→((rd_T53 l0 (i:Int)).f3).length≤1000000) (a1:Int):∃ K,∀ k,r09_Refs.f (k+K) l0 a1 = some (refsZ (kidsI l0)):=by
  obtain ⟨K,h⟩:=refs_l0 hn hl a1 l0.length 0 (by omega)
  refine ⟨K,fun k => (h k).trans ?_⟩
  rw [List.drop_zero,idxN_find]
  unfold refsZ GT.firstBad
  rw [kids_len]
  cases (kidsI l0).findIdx? (fun l => l.any (GT.badKid l0.length)) with
  | none => rfl
  | some j => simp
theorem small_len {l0:List (S53)} (hS:Small l0):l0.length≤1000000:=by have:=hS.len;omega
theorem small_sum {l0:List (S53)} (hS:Small l0):((kidsI l0).map List.length).sum≤1000000:=by
  have:=hS.sum
  unfold restK at this
  rw [List.drop_zero] at this
  omega
end Go.Proofs.YtcphcaiiofeflaaDoor.GO
namespace Go.Proofs.YtcphcaiiofeflaaDoor.GO
open Go.RowKit Go.Proofs.YtcphcaiiofeflaaDoorW.PrintWords Go.Proofs.YtcphcaiiofeflaaDoorW.PrintLast Go.Proofs.YtcphcaiiofeflaaDoorW.PrintMore
set_option linter.unusedVariables false
set_option linter.unusedSimpArgs false
theorem led_l0 {l0:List (S53)} (hgood:GT.firstBad (kidsI l0) = none) (a1:Int) (src:Nat→Prop):∀ (m:Nat) (st:List Nat) (row:List Bool),m≤1000000000→row.length = l0.length →
    GT.Inv (GT.toG (kidsI l0)) src (· ∈ st) (fun x => row.getD x false = true)→(∀ x ∈ st,x < l0.length)→st.length+GT.rest (GT.toG (kidsI l0)) (fun x => row.getD x false)≤m →
    ∃ row':List Bool,row'.length = l0.length∧(∀ j,row'.getD j false = true↔∃ f,src f∧GT.Path (GT.toG (kidsI l0)) f j)∧∀ k,r09_Led.l0 (k+m+1) row (intsOf st) l0 a1 = some row':=by
  have hGl:(GT.toG (kidsI l0)).length = l0.length:=by rw [GT.length_toG,kids_len]
  have hW:=GT.wf_of_firstBad hgood
  have hnil:∀ (m:Nat) (row:List Bool),row.length = l0.length→GT.Inv (GT.toG (kidsI l0)) src (· ∈ ([]:List Nat)) (fun x => row.getD x false = true) →
      ∃ row':List Bool,row'.length = l0.length∧(∀ j,row'.getD j false = true↔∃ f,src f∧GT.Path (GT.toG (kidsI l0)) f j)∧∀ k,r09_Led.l0 (k+m+1) row (intsOf []) l0 a1 = some row':=by
    intro m row hr hI
    refine ⟨row,hr,fun j => hI.done (fun x h => by cases h) j,fun k => ?_⟩
    rw [r09_Led.l0,if_neg (by rw [intsOf_len];simp)]
  intro m
  induction m with
  | zero =>
    intro st row _ hr hI hst hm
    obtain rfl:st = []:=List.eq_nil_of_length_eq_zero (by omega)
    exact hnil 0 row hr hI
  | succ m ih =>
    intro st row hm1 hr hI hst hm
    cases st with
    | nil => exact hnil (m+1) row hr hI
    | cons x st =>
      have hx:x < l0.length:=hst x (List.mem_cons_self ..)
      have hrd:rd (intsOf (x :: st)) 0 = (x:Int):=by have:=intsOf_get (x :: st) 0 (by simp);exact this
      have hdr:(intsOf (x :: st)).drop (1:Int).toNat = intsOf st:=rfl
      have hrow:rdOf false row (x:Int) = row.getD x false:=by unfold rdOf;rw [Int.toNat_natCast]
      rw [List.length_cons] at hm
      have hhead:∀ k,r09_Led.l0 (k+(m+1)+1) row (intsOf (x :: st)) l0 a1 = if row.getD x false = true then r09_Led.l0 (k+m+1) row (intsOf st) l0 a1 else r09_Led.l0 (k+m+1) (row.set x true) (intsOf (st ++ GT.kids (GT.toG (kidsI l0)) x)) l0 a1:=by
        intro k
        have hk:=GT.rest_kid (G:=GT.toG (kidsI l0)) (i:=x) (by omega)
        rw [show k+(m+1)+1 = (k+m+1)+1 by omega,r09_Led.l0,if_pos (by rw [intsOf_len,List.length_cons];omega),if_pos (by rw [intsOf_len,List.length_cons];omega),if_pos (by rw [intsOf_len,List.length_cons];omega),hdr,Option.bind_some,hrd,if_pos (by omega),if_pos (by omega),hrow,Int.toNat_natCast]
        by_cases hc:row.getD x false = true
        · rw [if_pos hc,if_pos hc]
        · rw [if_neg hc,if_neg hc,Option.bind_some,List.length_nil,Nat.zero_add,if_pos (by rw [intsOf_len];omega),Option.bind_some,List.nil_append,if_pos (by omega),kid_ints hgood x,intsOf_len,intsOf_len]
          have h9:GT.rest (GT.toG (kidsI l0)) (fun y => row.getD y false) = GT.rest (GT.toG (kidsI l0)) (fun y => (row.set x true).getD y false)+(GT.kids (GT.toG (kidsI l0)) x).length :=
            GT.rest_take (by omega) (by simpa using hc) (getD_set_self _ _ _ _ (by omega)) (fun y hy => getD_set_other _ _ _ _ _ hy)
          rw [if_pos (by omega),intsOf_append]
      by_cases hc:row.getD x false = true
      · obtain ⟨row',p1,p2,p3⟩:=ih st row (by omega) hr (hI.drop x hc (fun y hy => List.mem_cons.1 hy) (fun y hy => List.mem_cons_of_mem _ hy)) (fun y hy => hst y (List.mem_cons_of_mem _ hy)) (by omega)
        refine ⟨row',p1,p2,fun k => ?_⟩
        rw [hhead,if_pos hc]
        exact p3 k
      · have h9:GT.rest (GT.toG (kidsI l0)) (fun y => row.getD y false) = GT.rest (GT.toG (kidsI l0)) (fun y => (row.set x true).getD y false)+(GT.kids (GT.toG (kidsI l0)) x).length :=
          GT.rest_take (by omega) (by simpa using hc) (getD_set_self _ _ _ _ (by omega)) (fun y hy => getD_set_other _ _ _ _ _ hy)
        obtain ⟨row',p1,p2,p3⟩:=ih (st ++ GT.kids (GT.toG (kidsI l0)) x) (row.set x true) (by omega) (by rw [List.length_set];exact hr)
          (hI.take x (List.mem_cons_self ..) (fun y hy => (List.mem_cons.1 hy).imp id (fun h => List.mem_append.2 (.inl h))) (fun y hy => (List.mem_append.1 hy).imp (fun h => List.mem_cons_of_mem _ h) id) (fun y hy => List.mem_append.2 (.inr hy))
            (fun y => by
              by_cases e:y = x
              · subst e;rw [getD_set_self _ _ _ _ (by omega)];simp
              · rw [getD_set_other _ _ _ _ _ e];simp [e]))
          (fun y hy => (List.mem_append.1 hy).elim (fun h => hst y (List.mem_cons_of_mem _ h)) (fun h => by have:=hW x y h;omega)) (by rw [List.length_append];omega)
        refine ⟨row',p1,p2,fun k => ?_⟩
        rw [hhead,if_neg hc]
        exact p3 k
theorem led9 {l0:List (S53)} (hgood:GT.firstBad (kidsI l0) = none) (hn:l0.length≤1000000) (hE:((kidsI l0).map List.length).sum≤1000000) (a1:Int) {i:Nat} (hi:i < l0.length) :
    ∃ row:List Bool,row.length = l0.length∧(∀ j,row.getD j false = true↔GT.Led (GT.toG (kidsI l0)) i j)∧∀ k,r09_Led.f (k+2000000+1) l0 a1 (i:Int) = some row:=by
  have hGl:(GT.toG (kidsI l0)).length = l0.length:=by rw [GT.length_toG,kids_len]
  have hW:=GT.wf_of_firstBad hgood
  have hEd:GT.edges (GT.toG (kidsI l0)) = ((kidsI l0).map List.length).sum:=GT.edges_toG _
  have hk:=GT.rest_kid (G:=GT.toG (kidsI l0)) (i:=i) (by omega)
  have hrep:∀ x,(List.replicate l0.length false).getD x false = false:=by
    intro x
    rw [List.getD_eq_getElem?_getD,List.getElem?_replicate]
    split <;> rfl
  obtain ⟨row,p1,p2,p3⟩:=led_l0 hgood a1 (fun f => f ∈ GT.kids (GT.toG (kidsI l0)) i) 2000000 (GT.kids (GT.toG (kidsI l0)) i) (List.replicate l0.length false) (by omega) List.length_replicate
    ⟨fun f hf => .inr hf,(fun m hm => by rw [hrep] at hm;cases hm),fun x hx => hx.elim (fun h => by rw [hrep] at h;cases h) (fun h => ⟨x,h,.refl x⟩)⟩
    (fun x hx => by have:=hW i x hx;omega) (by have:=GT.rest_le (GT.toG (kidsI l0)) (fun x => (List.replicate l0.length false).getD x false);omega)
  refine ⟨row,p1,p2,fun k => ?_⟩
  rw [r09_Led.f,if_pos (by omega),Int.toNat_natCast,if_pos (by omega),Option.bind_some,if_pos (by omega),if_pos (by omega),kid_ints hgood i,List.length_nil,Nat.zero_add,intsOf_len,if_pos (by omega),List.nil_append]
  exact p3 k
theorem cycAt_led {l0:List (S53)} (hgood:GT.firstBad (kidsI l0) = none) (hE:((kidsI l0).map List.length).sum≤1000000) {i:Nat} (hi:i < l0.length):GT.cycAt (GT.toG (kidsI l0)) i = true↔GT.Led (GT.toG (kidsI l0)) i i:=by
  have hGl:(GT.toG (kidsI l0)).length = l0.length:=by rw [GT.length_toG,kids_len]
  have hW:=GT.wf_of_firstBad hgood
  have hEd:GT.edges (GT.toG (kidsI l0)) = ((kidsI l0).map List.length).sum:=GT.edges_toG _
  have hk:=GT.rest_kid (G:=GT.toG (kidsI l0)) (i:=i) (by omega)
  unfold GT.cycAt
  rw [decide_eq_true_eq,GT.mem_reachS hW (fun x hx => hW i x hx) (by omega)]
  rfl
theorem looseAt_led {l0:List (S53)} (hgood:GT.firstBad (kidsI l0) = none) (hE:((kidsI l0).map List.length).sum≤1000000) {r:Nat} (hr:r < l0.length) (i:Nat):GT.looseAt (GT.toG (kidsI l0)) r i = true↔¬ (i = r ∨ GT.Led (GT.toG (kidsI l0)) r i):=by
  have hGl:(GT.toG (kidsI l0)).length = l0.length:=by rw [GT.length_toG,kids_len]
  have hW:=GT.wf_of_firstBad hgood
  have hEd:GT.edges (GT.toG (kidsI l0)) = ((kidsI l0).map List.length).sum:=GT.edges_toG _
  unfold GT.looseAt
  rw [Bool.not_eq_true',decide_eq_false_iff_not,GT.mem_reachS hW (fun x hx => by rw [List.mem_singleton] at hx;omega) (by simp;omega)]
  refine not_congr ⟨?_,?_⟩
  · rintro ⟨f,hf,p⟩
    rw [List.mem_singleton] at hf
    subst hf
    exact (GT.led_or_path p).imp Eq.symm id
  · rintro (rfl | ⟨f,hf,p⟩)
    · exact ⟨i,List.mem_singleton.2 rfl,.refl _⟩
    · exact ⟨r,List.mem_singleton.2 rfl,.step hf p⟩
def checkP (l0:List (S53)) (a1:Int):Int × Int :=
  if a1 < 0 ∨ (l0.length:Int)≤a1 then (13,-1)
  else match GT.firstBad (kidsI l0) with
    | some i => (13,(i:Int))
    | none => match GT.firstCyc (GT.toG (kidsI l0)) with
      | some i => (14,(i:Int))
      | none => match GT.firstLoose (GT.toG (kidsI l0)) a1.toNat with
        | some i => (15,(i:Int))
        | none => (0,0)
theorem gcheck (l0:List (S53)) (a1:Int) (hn:l0.length≤1000000) (hE:((kidsI l0).map List.length).sum≤1000000):∃ K,∀ k,graph_Check.f (k+K) l0 a1 = some (checkP l0 a1):=by
  have hGl:(GT.toG (kidsI l0)).length = l0.length:=by rw [GT.length_toG,kids_len]
  by_cases hr:a1 < 0 ∨ (l0.length:Int)≤a1
  · refine ⟨0,fun k => ?_⟩
    rw [graph_Check.f,if_pos ⟨hn,hE⟩,if_pos hr,checkP,if_pos hr]
  · cases hb:GT.firstBad (kidsI l0) with
    | some i =>
      refine ⟨0,fun k => ?_⟩
      rw [graph_Check.f,if_pos ⟨hn,hE⟩,if_neg hr,checkP,if_neg hr,hb]
    | none =>
      have hW:=GT.wf_of_firstBad hb
      obtain ⟨K,out,h1,h2⟩:=order_tells l0 a1 hb hn hE
      refine ⟨K,fun k => ?_⟩
      rw [graph_Check.f,if_pos ⟨hn,hE⟩,if_neg hr,checkP,if_neg hr,hb]
      simp only [h2,Option.bind_some,intsOf_len]
      congr 1
      unfold GT.checkG
      by_cases hs:(out.length:Int) < (l0.length:Int)
      · rw [decide_eq_true hs,if_pos rfl]
        cases GT.firstCyc (GT.toG (kidsI l0)) with
        | some i => rfl
        | none => cases GT.firstLoose (GT.toG (kidsI l0)) a1.toNat <;> rfl
      · rw [decide_eq_false hs,if_neg (by simp)]
        have hA:=h1.acyc (by omega)
        have hcyc:GT.firstCyc (GT.toG (kidsI l0)) = none:=by
          cases hf:GT.firstCyc (GT.toG (kidsI l0)) with
          | none => rfl
          | some i =>
            obtain ⟨_,h3,h4,_⟩:=GT.scan_some hf
            exact absurd ((cycAt_led hb hE (i:=i) (by omega)).1 h4) (hA.acyc i)
        rw [hcyc]
        cases GT.firstLoose (GT.toG (kidsI l0)) a1.toNat <;> rfl
theorem checkP_zero {l0:List (S53)} {a1:Int} (hE:((kidsI l0).map List.length).sum≤1000000) (h:(checkP l0 a1).1 = 0):0≤a1∧a1 < (l0.length:Int)∧GT.firstBad (kidsI l0) = none∧GT.Acyc (GT.toG (kidsI l0))∧∀ i,i < l0.length→i = a1.toNat ∨ GT.Led (GT.toG (kidsI l0)) a1.toNat i:=by
  have hGl:(GT.toG (kidsI l0)).length = l0.length:=by rw [GT.length_toG,kids_len]
  unfold checkP at h
  by_cases hr:a1 < 0 ∨ (l0.length:Int)≤a1
  · rw [if_pos hr] at h;simp at h
  · rw [if_neg hr] at h
    cases hb:GT.firstBad (kidsI l0) with
    | some i => rw [hb] at h;simp at h
    | none =>
      rw [hb] at h
      simp only at h
      cases hc:GT.firstCyc (GT.toG (kidsI l0)) with
      | some i => rw [hc] at h;simp at h
      | none =>
        rw [hc] at h
        simp only at h
        cases hl:GT.firstLoose (GT.toG (kidsI l0)) a1.toNat with
        | some i => rw [hl] at h;simp at h
        | none =>
          refine ⟨by omega,by omega,rfl,fun i hi => ?_,fun i hi => ?_⟩
          · by_cases hil:i < l0.length
            · have:=GT.scan_none hc i (by omega) (by omega)
              rw [(cycAt_led hb hE hil).2 hi] at this
              cases this
            · obtain ⟨k,hk,_⟩:=hi
              have:=GT.lt_of_kid hk
              omega
          · have:=GT.scan_none hl i (by omega) (by omega)
            apply Classical.byContradiction
            intro hn
            rw [(looseAt_led hb hE (r:=a1.toNat) (by omega) i).2 hn] at this
            cases this
theorem checkP_of {l0:List (S53)} {a1:Int} (hE:((kidsI l0).map List.length).sum≤1000000) (h0:0≤a1) (h1:a1 < (l0.length:Int)) (hgood:GT.firstBad (kidsI l0) = none) (hA:GT.Acyc (GT.toG (kidsI l0))) (hall:∀ i,i < l0.length→i = a1.toNat ∨ GT.Led (GT.toG (kidsI l0)) a1.toNat i):checkP l0 a1 = (0,0):=by
  have hGl:(GT.toG (kidsI l0)).length = l0.length:=by rw [GT.length_toG,kids_len]
  have hc:GT.firstCyc (GT.toG (kidsI l0)) = none:=GT.scan_all (fun i _ hi => by
    cases h:GT.cycAt (GT.toG (kidsI l0)) i with
    | false => rfl
    | true => exact absurd ((cycAt_led hgood hE (by omega)).1 h) (hA i))
  have hl:GT.firstLoose (GT.toG (kidsI l0)) a1.toNat = none:=GT.scan_all (fun i _ hi => by
    cases h:GT.looseAt (GT.toG (kidsI l0)) a1.toNat i with
    | false => rfl
    | true => exact absurd (hall i (by omega)) ((looseAt_led hgood hE (r:=a1.toNat) (by omega) i).1 h))
  unfold checkP
  rw [if_neg (by omega),hgood]
  simp only
  rw [hc]
  simp only
  rw [hl]
end Go.Proofs.YtcphcaiiofeflaaDoor.GO
namespace Go.Proofs.YtcphcaiiofeflaaDoor.GO
open Go.RowKit Go.Proofs.YtcphcaiiofeflaaDoorW.PrintWords Go.Proofs.YtcphcaiiofeflaaDoorW.PrintLast Go.Proofs.YtcphcaiiofeflaaDoorW.PrintMore
set_option linter.unusedVariables false
set_option linter.unusedSimpArgs false
theorem rcheck_l1 {l0:List (S53)} (hgood:GT.firstBad (kidsI l0) = none) (hn:l0.length≤1000000) (hE:((kidsI l0).map List.length).sum≤1000000) {r:Nat} (hr:r < l0.length) (row:List Bool) (hrow:row.length = l0.length) (hled:∀ j,row.getD j false = true↔GT.Led (GT.toG (kidsI l0)) r j) :
    ∀ (d j:Nat),j+d = l0.length→∀ k,r09_Check.l1 (k+d+1) row (j:Int) l0 (r:Int) = some (match GT.scan (GT.looseAt (GT.toG (kidsI l0)) r) d j with | some i => (15,(i:Int)) | none => (0,0)):=by
  intro d
  induction d with
  | zero =>
    intro j hj k
    rw [r09_Check.l1,if_neg (by omega),GT.scan]
  | succ d ih =>
    intro j hj k
    have hx:rdOf false row (j:Int) = row.getD j false:=by unfold rdOf;rw [Int.toNat_natCast]
    have hl:=looseAt_led hgood hE hr j
    rw [show k+(d+1)+1 = (k+d+1)+1 by omega,r09_Check.l1,if_pos (by omega),GT.scan,hx,w64 (by omega) (by omega)]
    by_cases e:(j:Int) = (r:Int)
    · rw [if_pos e,if_neg (by rw [hl];exact fun h => h (.inl (by omega)))]
      exact ih (j+1) (by omega) k
    · rw [if_neg e,if_pos (by omega),if_pos (by omega)]
      by_cases hc:row.getD j false = true
      · rw [if_pos hc,if_neg (by rw [hl];exact fun h => h (.inr ((hled j).1 hc)))]
        exact ih (j+1) (by omega) k
      · rw [if_neg hc,if_pos (by rw [hl];exact fun h => h.elim (fun h => e (by omega)) (fun h => hc ((hled j).2 h)))]
theorem rcheck_l0 {l0:List (S53)} (hgood:GT.firstBad (kidsI l0) = none) (hn:l0.length≤1000000) (hE:((kidsI l0).map List.length).sum≤1000000) {r:Nat} (hr:r < l0.length) :
    ∀ (d i:Nat),i+d = l0.length→∀ k,r09_Check.l0 (k+4000000+d+1) (i:Int) l0 (r:Int) = some (match GT.scan (GT.cycAt (GT.toG (kidsI l0))) d i with | some i => (14,(i:Int)) | none => match GT.firstLoose (GT.toG (kidsI l0)) r with | some i => (15,(i:Int)) | none => (0,0)):=by
  have hGl:(GT.toG (kidsI l0)).length = l0.length:=by rw [GT.length_toG,kids_len]
  intro d
  induction d with
  | zero =>
    intro i hi k
    obtain ⟨row,h1,h2,h3⟩:=led9 hgood hn hE (r:Int) hr
    rw [r09_Check.l0,if_neg (by omega),GT.scan]
    have h4:=h3 (k+1999999)
    rw [show k+1999999+2000000+1 = k+4000000+0 by omega] at h4
    rw [h4,Option.bind_some]
    have h5:=rcheck_l1 hgood hn hE hr row h1 h2 l0.length 0 (by omega) (k+4000000 - l0.length - 1)
    rw [show k+4000000 - l0.length - 1+l0.length+1 = k+4000000+0 by omega] at h5
    refine h5.trans ?_
    unfold GT.firstLoose
    rw [hGl]
  | succ d ih =>
    intro i hi k
    obtain ⟨row,h1,h2,h3⟩:=led9 hgood hn hE (r:Int) (i:=i) (by omega)
    have hx:rdOf false row (i:Int) = row.getD i false:=by unfold rdOf;rw [Int.toNat_natCast]
    have h4:=h3 (k+1999999+(d+1))
    rw [show k+1999999+(d+1)+2000000+1 = k+4000000+(d+1) by omega] at h4
    have hc:=cycAt_led hgood hE (i:=i) (by omega)
    rw [r09_Check.l0,if_pos (by omega),h4,Option.bind_some,if_pos (by omega),if_pos (by omega),hx,GT.scan,w64 (by omega) (by omega)]
    by_cases hd:row.getD i false = true
    · rw [if_pos hd,if_pos (hc.2 ((h2 i).1 hd))]
    · rw [if_neg hd,if_neg (fun h => hd ((h2 i).2 (hc.1 h)))]
      exact ih (i+1) (by omega) k
theorem rcheck (l0:List (S53)) (a1:Int) (hn:l0.length≤1000000) (hE:((kidsI l0).map List.length).sum≤1000000):∃ K,∀ k,r09_Check.f (k+K) l0 a1 = some (checkP l0 a1):=by
  have hGl:(GT.toG (kidsI l0)).length = l0.length:=by rw [GT.length_toG,kids_len]
  by_cases hr:a1 < 0 ∨ (l0.length:Int)≤a1
  · refine ⟨0,fun k => ?_⟩
    have:GT.badKid l0.length a1 = true:=by unfold GT.badKid;rcases hr with h | h <;> simp [h]
    rw [r09_Check.f,place9,Option.bind_some,this,if_neg (by simp),checkP,if_pos hr]
  · obtain ⟨K,h1⟩:=refs9 (l0:=l0) hn (fun i hi => kid_len l0 hE i) a1
    have:GT.badKid l0.length a1 = false:=by unfold GT.badKid;simp;omega
    cases hb:GT.firstBad (kidsI l0) with
    | some i =>
      refine ⟨K,fun k => ?_⟩
      rw [r09_Check.f,place9,Option.bind_some,this,if_pos (by simp),h1,Option.bind_some,checkP,if_neg hr,hb]
      unfold refsZ
      rw [hb,if_pos (by simp)]
    | none =>
      refine ⟨K+4000000+l0.length+1,fun k => ?_⟩
      have h2:=h1 (k+4000000+l0.length+1)
      rw [show k+4000000+l0.length+1+K = k+(K+4000000+l0.length+1) by omega] at h2
      rw [r09_Check.f,place9,Option.bind_some,this,if_pos (by simp),h2,Option.bind_some,checkP,if_neg hr,hb]
      unfold refsZ
      rw [hb,if_neg (by simp)]
      have h3:=rcheck_l0 hb hn hE (r:=a1.toNat) (by omega) l0.length 0 (by omega) (k+K)
      rw [show ((a1.toNat:Nat):Int) = a1 by omega] at h3
      rw [show k+(K+4000000+l0.length+1) = k+K+4000000+l0.length+1 by omega]
      refine h3.trans ?_
      unfold GT.firstCyc
      rw [hGl]
      all_goals cases GT.scan (GT.cycAt (GT.toG (kidsI l0))) l0.length 0 with
      | some i => rfl
      | none => cases GT.firstLoose (GT.toG (kidsI l0)) a1.toNat <;> rfl
end Go.Proofs.YtcphcaiiofeflaaDoor.GO
namespace Go.Proofs.YtcphcaiiofeflaaDoor.GO
open Go.RowKit Go.Proofs.YtcphcaiiofeflaaDoorW.PrintWords Go.Proofs.YtcphcaiiofeflaaDoorW.PrintLast Go.Proofs.YtcphcaiiofeflaaDoorW.PrintMore
set_option linter.unusedVariables false
set_option linter.unusedSimpArgs false
theorem mxL_snoc (l:List Nat) (y:Nat):GT.mxL (l ++ [y]) = max (GT.mxL l) y:=by
  induction l with
  | nil => simp [GT.mxL]
  | cons x l ih => rw [List.cons_append,GT.mxL,GT.mxL,ih];omega
def H (l0:List (S53)) (x:Nat):Nat:=GT.ht (GT.toG (kidsI l0)) l0.length x
theorem H_le (l0:List (S53)) (x:Nat):H l0 x≤l0.length:=GT.ht_le _ _ _
theorem H_step {l0:List (S53)} {R:Nat→Nat} (hR:GT.Ranked (GT.toG (kidsI l0)) R) (hRl:∀ x,x < l0.length→R x < l0.length) {x:Nat} (hx:x < l0.length):H l0 x = GT.mxL ((GT.kids (GT.toG (kidsI l0)) x).map (H l0))+1:=by
  have h1:=hRl x hx
  unfold H
  rw [GT.ht_fuel hR l0.length (l0.length+1) x (by omega) (by omega),GT.ht]
theorem mx_nat (a b:Nat):mx (a:Int) (b:Int) = ((max a b:Nat):Int):=by unfold mx;split <;> omega
theorem gdepth_l1 {l0:List (S53)} (hgood:GT.firstBad (kidsI l0) = none) (hn:l0.length≤1000000) (hE:((kidsI l0).map List.length).sum≤1000000) {R:Nat→Nat} (hR:GT.Ranked (GT.toG (kidsI l0)) R) (hRl:∀ x,x < l0.length→R x < l0.length) (a1:Int) (order:List Int) (i ol:Nat) (hi:i≤1000000) {x:Nat} (hx:x < l0.length) :
    ∀ (e t:Nat) (deep:List Int),t+e = (GT.kids (GT.toG (kidsI l0)) x).length→deep.length = l0.length→deep.getD x 0 = (GT.mxL (((GT.kids (GT.toG (kidsI l0)) x).take t).map (H l0)):Int)→(∀ k ∈ GT.kids (GT.toG (kidsI l0)) x,deep.getD k 0 = (H l0 k:Int)) →
    ∃ deep',deep'.length = l0.length∧deep'.getD x 0 = (H l0 x:Int)∧(∀ j,j≠x→deep'.getD j 0 = deep.getD j 0)∧∀ k,graph_Depth.l1 (k+e+1) deep (x:Int) order ol i ((rd_T53 l0 (x:Int)).f3) ((rd_T53 l0 (x:Int)).f3).length t l0 a1 = graph_Depth.l0 k deep' order ol ((i+1:Nat):Int) l0 a1:=by
  have hGl:(GT.toG (kidsI l0)).length = l0.length:=by rw [GT.length_toG,kids_len]
  have hW:=GT.wf_of_firstBad hgood
  have hEd:GT.edges (GT.toG (kidsI l0)) = ((kidsI l0).map List.length).sum:=GT.edges_toG _
  have hk3:=GT.rest_kid (G:=GT.toG (kidsI l0)) (i:=x) (by omega)
  have hHx:=H_step hR hRl hx
  have hHl:=H_le l0 x
  rw [kid_ints hgood x,intsOf_len]
  intro e
  induction e with
  | zero =>
    intro t deep ht hd hdx hdk
    rw [List.take_of_length_le (by omega)] at hdx
    refine ⟨deep.set x ((H l0 x:Nat):Int),by rw [List.length_set];exact hd,getD_set_self _ _ _ _ (by omega),fun j hj => getD_set_other _ _ _ _ _ hj,fun k => ?_⟩
    rw [graph_Depth.l1,if_neg (by omega),if_pos (by omega),if_pos (by omega),rd_nat,hdx,Int.toNat_natCast,w64 (n:=(i:Int)+1) (by omega) (by omega),w64 (by omega) (by omega),hHx]
    rfl
  | succ e ih =>
    intro t deep ht hd hdx hdk
    have htl:t < (GT.kids (GT.toG (kidsI l0)) x).length:=by omega
    have hm:(GT.kids (GT.toG (kidsI l0)) x).getD t 0 ∈ GT.kids (GT.toG (kidsI l0)) x:=by
      rw [List.getD_eq_getElem?_getD,List.getElem?_eq_getElem htl];exact List.getElem_mem htl
    have hq:(GT.kids (GT.toG (kidsI l0)) x).getD t 0 < l0.length:=by have:=hW x _ hm;omega
    have hrank:=hR x _ hm
    have htk:(GT.kids (GT.toG (kidsI l0)) x).take (t+1) = (GT.kids (GT.toG (kidsI l0)) x).take t ++ [(GT.kids (GT.toG (kidsI l0)) x).getD t 0]:=by
      rw [List.take_succ_eq_append_getElem htl,List.getD_eq_getElem?_getD,List.getElem?_eq_getElem htl];rfl
    have hv:mx (rd deep (x:Int)) (rd deep ((GT.kids (GT.toG (kidsI l0)) x).getD t 0:Int)) = (GT.mxL (((GT.kids (GT.toG (kidsI l0)) x).take (t+1)).map (H l0)):Int):=by
      rw [rd_nat,rd_nat,hdx,hdk _ hm,mx_nat,htk,List.map_append,List.map_cons,List.map_nil,mxL_snoc]
    obtain ⟨deep',p1,p2,p3,p4⟩:=ih (t+1) (deep.set x (GT.mxL (((GT.kids (GT.toG (kidsI l0)) x).take (t+1)).map (H l0)):Int)) (by omega) (by rw [List.length_set];exact hd) (getD_set_self _ _ _ _ (by omega))
      (fun k hk => by rw [getD_set_other _ _ _ _ _ (fun e => by have:=hR x k hk;rw [e] at this;omega)];exact hdk k hk)
    refine ⟨deep',p1,p2,fun j hj => by rw [p3 j hj,getD_set_other _ _ _ _ _ hj],fun k => ?_⟩
    have hrd:=intsOf_get (GT.kids (GT.toG (kidsI l0)) x) t htl
    rw [show k+(e+1)+1 = (k+e+1)+1 by omega,graph_Depth.l1,if_pos (by omega),if_pos (by omega),if_pos (by rw [intsOf_len];omega),if_pos (by omega),if_pos (by omega),hrd,if_pos (by omega),if_pos (by omega),hv,Int.toNat_natCast,w64 (n:=(t:Int)+1) (by omega) (by omega)]
    exact p4 k
theorem gdepth_l0 {l0:List (S53)} (hgood:GT.firstBad (kidsI l0) = none) (hn:l0.length≤1000000) (hE:((kidsI l0).map List.length).sum≤1000000) {R:Nat→Nat} (hR:GT.Ranked (GT.toG (kidsI l0)) R) (hRl:∀ x,x < l0.length→R x < l0.length) {r:Nat} (hr:r < l0.length)
    {out:List Nat} (ho:GT.Ord (GT.toG (kidsI l0)) out) (hrm:r ∈ out):∀ (d i:Nat) (deep:List Int),i+d = out.length→deep.length = l0.length→(∀ j,j < l0.length→deep.getD j 0 = if j ∈ out.take i then (H l0 j:Int) else 0) →
    ∃ K,∀ k,graph_Depth.l0 (k+K) deep (intsOf out) out.length i l0 (r:Int) = some (H l0 r:Int):=by
  have hGl:(GT.toG (kidsI l0)).length = l0.length:=by rw [GT.length_toG,kids_len]
  have hol:=GT.length_le_of_nodup ho.nodup ho.lt
  intro d
  induction d with
  | zero =>
    intro i deep hi hd hj
    refine ⟨1,fun k => ?_⟩
    rw [graph_Depth.l0,if_neg (by omega),if_pos (by omega),if_pos (by omega),rd_nat,hj r hr,List.take_of_length_le (by omega),if_pos hrm]
  | succ d ih =>
    intro i deep hi hd hj
    have hil:i < out.length:=by omega
    have hge:out.getD i 0 = out[i]:=by rw [List.getD_eq_getElem?_getD,List.getElem?_eq_getElem hil];rfl
    have hxm:out.getD i 0 ∈ out:=by rw [hge];exact List.getElem_mem hil
    have hx:out.getD i 0 < l0.length:=by have:=ho.lt _ hxm;omega
    have htk:out.take (i+1) = out.take i ++ [out.getD i 0]:=by rw [List.take_succ_eq_append_getElem hil,hge]
    have hsp:out = out.take i ++ out.getD i 0 :: out.drop (i+1):=by
      rw [hge,← List.drop_eq_getElem_cons hil,List.take_append_drop]
    have hnx:out.getD i 0 ∉ out.take i:=by
      intro hm
      have h2:=ho.nodup
      rw [hsp,List.nodup_append] at h2
      exact h2.2.2 _ hm _ (List.mem_cons_self ..) rfl
    have hpre:∀ k ∈ GT.kids (GT.toG (kidsI l0)) (out.getD i 0),k ∈ out.take i:=fun k hk => ho.post _ _ _ hsp k hk
    have hW:=GT.wf_of_firstBad hgood
    have hrd:=intsOf_get out i hil
    generalize out.getD i 0 = x at *
    obtain ⟨deep',p1,p2,p3,p4⟩:=gdepth_l1 hgood hn hE hR hRl (r:Int) (intsOf out) i out.length (by omega) hx (GT.kids (GT.toG (kidsI l0)) x).length 0 deep (by omega) hd
      (by rw [hj x hx,if_neg hnx];rfl) (fun k hk => by rw [hj k (by have:=hW x k hk;omega),if_pos (hpre k hk)])
    obtain ⟨K,q⟩:=ih (i+1) deep' (by omega) p1 (fun j hjl => by
      rw [htk]
      by_cases e:j = x
      · subst e;rw [p2,if_pos (by simp)]
      · rw [p3 j e,hj j hjl]
        have:(j ∈ out.take i ++ [x])↔j ∈ out.take i:=by simp [e]
        by_cases hm:j ∈ out.take i
        · rw [if_pos hm,if_pos (this.2 hm)]
        · rw [if_neg hm,if_neg (fun h => hm (this.1 h))])
    refine ⟨K+(GT.kids (GT.toG (kidsI l0)) x).length+1+1,fun k => ?_⟩
    rw [show k+(K+(GT.kids (GT.toG (kidsI l0)) x).length+1+1) = ((k+K)+(GT.kids (GT.toG (kidsI l0)) x).length+1)+1 by omega,graph_Depth.l0,if_pos (by omega),if_pos (by omega),if_pos (by rw [intsOf_len];omega),hrd,if_pos (by omega),if_pos (by omega)]
    exact (p4 (k+K)).trans (q k)
theorem gdepth (l0:List (S53)) (a1:Int) (hn:l0.length≤1000000) (hE:((kidsI l0).map List.length).sum≤1000000):∃ K,∀ k,graph_Depth.f (k+K) l0 a1 = some (if (checkP l0 a1).1 = 0 then (H l0 a1.toNat:Int) else 0):=by
  have hGl:(GT.toG (kidsI l0)).length = l0.length:=by rw [GT.length_toG,kids_len]
  obtain ⟨K,h1⟩:=gcheck l0 a1 hn hE
  by_cases hc:(checkP l0 a1).1 = 0
  · obtain ⟨h2,h3,hb,hA,hl⟩:=checkP_zero hE hc
    have hW:=GT.wf_of_firstBad hb
    obtain ⟨K2,out,ho,h4⟩:=order_tells l0 a1 hb hn hE
    have hfull:=ho.of_acyc hW hA
    have hlen:=GT.length_of_all ho.nodup ho.lt hfull
    have hR:=ho.acyc (by omega)
    have hRl:∀ x,x < l0.length→GT.find out x < l0.length:=fun x hx => by have:=GT.find_lt (hfull x (by omega));omega
    have hrep:∀ j:Nat,(List.replicate l0.length (0:Int)).getD j 0 = 0:=by
      intro j
      rw [List.getD_eq_getElem?_getD,List.getElem?_replicate]
      split <;> rfl
    obtain ⟨K3,h5⟩:=gdepth_l0 hb hn hE hR hRl (r:=a1.toNat) (by omega) ho (hfull _ (by omega)) out.length 0 (List.replicate l0.length 0) (by omega) List.length_replicate (fun j _ => by rw [hrep,List.take_zero,if_neg (by simp)])
    refine ⟨K+K2+K3,fun k => ?_⟩
    have h6:=h1 (k+K2+K3)
    have h7:=h4 (k+K+K3)
    have h8:=h5 (k+K+K2)
    rw [show k+K2+K3+K = k+(K+K2+K3) by omega] at h6
    rw [show k+K+K3+K2 = k+(K+K2+K3) by omega] at h7
    rw [show k+K+K2+K3 = k+(K+K2+K3) by omega,show ((a1.toNat:Nat):Int) = a1 by omega] at h8
    rw [graph_Depth.f,h6,Option.bind_some,if_pos hc,if_pos hc,if_pos (by omega),Int.toNat_natCast,if_pos (by omega),h7,Option.bind_some,intsOf_len]
    exact h8
  · refine ⟨K,fun k => ?_⟩
    rw [graph_Depth.f,h1,Option.bind_some,if_neg hc,if_neg hc]
end Go.Proofs.YtcphcaiiofeflaaDoor.GO
namespace Go.Proofs.YtcphcaiiofeflaaDoor.GO
open Go.RowKit Go.Proofs.YtcphcaiiofeflaaDoorW.PrintWords Go.Proofs.YtcphcaiiofeflaaDoorW.PrintLast Go.Proofs.YtcphcaiiofeflaaDoorW.PrintMore
set_option linter.unusedVariables false
set_option linter.unusedSimpArgs false
end Go.Proofs.YtcphcaiiofeflaaDoor.GO
namespace Go.Proofs.YtcphcaiiofeflaaDoor.GO
open Go.RowKit Go.Proofs.YtcphcaiiofeflaaDoorW.PrintWords Go.Proofs.YtcphcaiiofeflaaDoorW.PrintLast Go.Proofs.YtcphcaiiofeflaaDoorW.PrintMore
set_option linter.unusedVariables false
set_option linter.unusedSimpArgs false
structure Fit (l1:List Int) (l2:List ByteArray) (l3:List Int):Prop where
  n1:l1.length≤100
  n2:l2.length≤100
  n3:l3.length≤300
  s2:∀ s ∈ l2,s.size≤500
theorem txt_at {l:List ByteArray} {i:Nat} (h:i < l.length):l.drop i = rdOf ByteArray.empty l (i:Int) :: l.drop (i+1):=by
  rw [List.drop_eq_getElem_cons h]
  unfold rdOf
  rw [Int.toNat_natCast,List.getD_eq_getElem?_getD,List.getElem?_eq_getElem h];rfl
theorem great8t_loop (a0:Int) (l1:List Int) (l2:List ByteArray) (l3:List Int) (h2:l2.length≤100):∀ d i:Nat,i+d = l2.length→∃ b,(∀ k,r08_Great.l0 (k+d+1) (i:Int) a0 l1 l2 l3 = some b)∧(b = false→∀ s ∈ l2.drop i,s.size≤500):=by
  intro d
  induction d with
  | zero =>
    intro i hi
    refine ⟨false,fun k => ?_,fun _ s hs => ?_⟩
    · rw [r08_Great.l0,if_neg (by omega)]
    · rw [List.drop_of_length_le (by omega)] at hs;cases hs
  | succ d ih =>
    intro i hi
    obtain ⟨b,h,hb⟩:=ih (i+1) (by omega)
    by_cases hc:((rdOf ByteArray.empty l2 i).size:Int) > 500
    · refine ⟨true,fun k => ?_,fun h => by cases h⟩
      rw [r08_Great.l0,if_pos (by omega),if_pos (by omega),if_pos hc]
    · refine ⟨b,fun k => ?_,fun hf s hs => ?_⟩
      · rw [show k+(d+1)+1 = (k+d+1)+1 by omega,r08_Great.l0,if_pos (by omega),if_pos (by omega),if_neg hc,w64 (by omega) (by omega)]
        exact h k
      · rw [txt_at (by omega)] at hs
        rcases List.mem_cons.1 hs with rfl | hs
        · omega
        · exact hb hf s hs
theorem great8t (a0:Int) (l1:List Int) (l2:List ByteArray) (l3:List Int):∃ b,(∀ k,r08_Great.f (k+103) a0 l1 l2 l3 = some b)∧(b = false→Fit l1 l2 l3):=by
  have htrue:∀ k,r08_Great.j0 (k+103) true a0 l1 l2 l3 = some true:=fun k => by rw [show k+103 = (k+102)+1 by omega,r08_Great.j0,if_pos rfl]
  by_cases h1:(l1.length:Int) > 100
  · refine ⟨true,fun k => ?_,fun h => by cases h⟩
    rw [r08_Great.f,if_pos h1];exact htrue k
  · by_cases h2:(l2.length:Int) > 100
    · refine ⟨true,fun k => ?_,fun h => by cases h⟩
      rw [r08_Great.f,if_neg h1,if_pos h2];exact htrue k
    · by_cases h3:(l3.length:Int) > 300
      · refine ⟨true,fun k => ?_,fun h => by cases h⟩
        rw [r08_Great.f,if_neg h1,if_neg h2,decide_eq_true h3];exact htrue k
      · obtain ⟨b,h,hb⟩:=great8t_loop a0 l1 l2 l3 (by omega) l2.length 0 (by omega)
        refine ⟨b,fun k => ?_,fun hf => ⟨by omega,by omega,by omega,fun s hs => hb hf s (by simpa using hs)⟩⟩
        rw [r08_Great.f,if_neg h1,if_neg h2,decide_eq_false h3,show k+103 = (k+101 - l2.length+l2.length+1)+1 by omega,r08_Great.j0,if_neg (by simp)]
        exact h _
def Fits (l0:List (S53)):Prop:=∀ y ∈ l0,Fit y.f1 y.f2 y.f3
theorem fits_get {l0:List (S53)} (h:Fits l0) {i:Nat} (hi:i < l0.length):Fit (rd_T53 l0 (i:Int)).f1 (rd_T53 l0 (i:Int)).f2 (rd_T53 l0 (i:Int)).f3:=by
  rw [rdT_get hi];exact h _ (List.getElem_mem _)
theorem great9t_loop (l0:List (S53)) (a1:Int) (hn:l0.length≤60):∀ d i:Nat,i+d = l0.length→∃ b,(∀ k,r09_Great.l0 (k+103+d+1) (i:Int) l0 a1 = some b)∧(b = false→∀ y ∈ l0.drop i,Fit y.f1 y.f2 y.f3):=by
  intro d
  induction d with
  | zero =>
    intro i hi
    refine ⟨false,fun k => ?_,fun _ y hy => ?_⟩
    · rw [r09_Great.l0,if_neg (by omega)]
    · rw [List.drop_of_length_le (by omega)] at hy;cases hy
  | succ d ih =>
    intro i hi
    obtain ⟨b,h1,h2⟩:=ih (i+1) (by omega)
    obtain ⟨b2,h3,h4⟩:=great8t (rd_T53 l0 (i:Int)).f0 (rd_T53 l0 (i:Int)).f1 (rd_T53 l0 (i:Int)).f2 (rd_T53 l0 (i:Int)).f3
    have hstep:∀ k,r09_Great.l0 (k+103+(d+1)+1) (i:Int) l0 a1 = if b2 = true then some true else some b:=by
      intro k
      have e:=h3 (k+d+1)
      rw [show k+d+1+103 = k+103+d+1 by omega] at e
      rw [show k+103+(d+1)+1 = (k+103+d+1)+1 by omega,r09_Great.l0,if_pos (by omega),if_pos (by omega),e,Option.bind_some,w64 (by omega) (by omega)]
      rw [show ((i:Int)+1) = ((i+1:Nat):Int) by omega,h1 k]
    cases b2 with
    | true => exact ⟨true,fun k => hstep k,fun h => by cases h⟩
    | false =>
      refine ⟨b,fun k => hstep k,fun hb y hy => ?_⟩
      rw [List.drop_eq_getElem_cons (show i < l0.length by omega),← rdT_get (show i < l0.length by omega)] at hy
      rcases List.mem_cons.1 hy with rfl | hy
      · exact h4 rfl
      · exact h2 hb y hy
theorem great9t (l0:List (S53)) (a1:Int):∃ K b,(∀ k,r09_Great.f (k+K) l0 a1 = some b)∧(b = false→Small l0∧Fits l0):=by
  obtain ⟨K,b,h1,h2⟩:=great9 l0 a1
  refine ⟨K,b,h1,fun hb => ⟨h2 hb,?_⟩⟩
  subst hb
  have hS:=h2 rfl
  have hl:=hS.len
  obtain ⟨b,h3,h4⟩:=great9t_loop l0 a1 hl l0.length 0 (by omega)
  have h5:=h1 (500+l0.length)
  obtain ⟨v,h6,h7⟩:=redges_run l0 a1 (by omega) l0.length 0 0 (by omega)
  rw [r09_Great.f,if_neg (by omega),r09_Edges.f] at h5
  have h8:=h6 (499+K)
  rw [show ((0:Nat):Int) = 0 from rfl,show 499+K+l0.length+1 = 500+l0.length+K by omega] at h8
  rw [h8,Option.bind_some] at h5
  have h9:=h7 (by omega) (by have:=hS.sum;omega)
  have hs:=hS.sum
  rw [decide_eq_false (by omega),show 500+l0.length+K = (499+l0.length+K)+1 by omega,r09_Great.j0,if_neg (by simp)] at h5
  have h10:=h3 (499+K - 104)
  rw [show ((0:Nat):Int) = 0 from rfl,show 499+K - 104+103+l0.length+1 = 499+l0.length+K by omega] at h10
  rw [h10] at h5
  have hbf:b = false:=Option.some.inj h5
  have h11:=h4 hbf
  rw [List.drop_zero] at h11
  exact h11
end Go.Proofs.YtcphcaiiofeflaaDoor.GO
namespace Go.Proofs.YtcphcaiiofeflaaDoor.U
open Go.RowKit Go.Lib Go.Proofs.YtcphcaiiofeflaaDoor.GO Go.Proofs.YtcphcaiiofeflaaDoorW.PrintWords Go.Proofs.YtcphcaiiofeflaaDoorW.PrintLast
set_option linter.unusedVariables false
set_option linter.unusedSimpArgs false
def charZ (v:Int):List Int:=if Lib.validRune v = true then encodeRuneZ v else []
theorem valid_iff (v:Int):Lib.validRune v = true↔(0≤v∧v < 55296) ∨ (57343 < v∧v≤1114111):=by
  unfold Lib.validRune
  rw [decide_eq_true_iff]
theorem charZ_bad {v:Int} (h:¬ ((0≤v∧v < 55296) ∨ (57343 < v∧v≤1114111))):charZ v = []:=by
  unfold charZ
  rw [if_neg (fun e => h ((valid_iff v).1 e))]
theorem charZ_1 {v:Int} (h:0≤v∧v≤127):charZ v = [v]:=by
  unfold charZ
  rw [if_pos ((valid_iff v).2 (by omega)),encodeRuneZ_one h.1 h.2]
theorem charZ_2 {v:Int} (h:128≤v∧v≤2047):charZ v = [192+v / 64,128+v % 64]:=by
  unfold charZ
  rw [if_pos ((valid_iff v).2 (by omega)),encodeRuneZ_two h.1 h.2]
theorem charZ_3 {v:Int} (h:(2048≤v∧v < 55296) ∨ (57343 < v∧v≤65535)):charZ v = [224+v / 4096,128+v / 64 % 64,128+v % 64]:=by
  unfold charZ
  rw [if_pos ((valid_iff v).2 (by omega)),encodeRuneZ_three h]
theorem charZ_4 {v:Int} (h:65536≤v∧v≤1114111):charZ v = [240+v / 262144,128+v / 4096 % 64,128+v / 64 % 64,128+v % 64]:=by
  unfold charZ
  rw [if_pos ((valid_iff v).2 (by omega)),encodeRuneZ_four h.1 h.2]
theorem charZ_ways (v:Int):(¬ ((0≤v∧v < 55296) ∨ (57343 < v∧v≤1114111))∧charZ v = []) ∨ ((0≤v∧v≤127)∧charZ v = [v]) ∨ ((128≤v∧v≤2047)∧charZ v = [192+v / 64,128+v % 64]) ∨
    (((2048≤v∧v < 55296) ∨ (57343 < v∧v≤65535))∧charZ v = [224+v / 4096,128+v / 64 % 64,128+v % 64]) ∨ ((65536≤v∧v≤1114111)∧charZ v = [240+v / 262144,128+v / 4096 % 64,128+v / 64 % 64,128+v % 64]):=by
  by_cases h:(0≤v∧v < 55296) ∨ (57343 < v∧v≤1114111)
  · by_cases h1:v≤127
    · exact .inr (.inl ⟨by omega,charZ_1 (by omega)⟩)
    · by_cases h2:v≤2047
      · exact .inr (.inr (.inl ⟨by omega,charZ_2 (by omega)⟩))
      · by_cases h3:v≤65535
        · exact .inr (.inr (.inr (.inl ⟨by omega,charZ_3 (by omega)⟩)))
        · exact .inr (.inr (.inr (.inr ⟨by omega,charZ_4 (by omega)⟩)))
  · exact .inl ⟨h,charZ_bad h⟩
theorem charZ_one (v x:Int):charZ v = [x]↔(0≤v∧v≤127)∧x = v:=by
  rcases charZ_ways v with ⟨h,e⟩ | ⟨h,e⟩ | ⟨h,e⟩ | ⟨h,e⟩ | ⟨h,e⟩ <;> rw [e] <;> simp <;> omega
theorem charZ_two (v x y:Int):charZ v = [x,y]↔(128≤v∧v≤2047)∧x = 192+v / 64∧y = 128+v % 64:=by
  rcases charZ_ways v with ⟨h,e⟩ | ⟨h,e⟩ | ⟨h,e⟩ | ⟨h,e⟩ | ⟨h,e⟩ <;> rw [e] <;> simp <;> omega
theorem charZ_three (v x y z:Int):charZ v = [x,y,z]↔((2048≤v∧v < 55296) ∨ (57343 < v∧v≤65535))∧x = 224+v / 4096∧y = 128+v / 64 % 64∧z = 128+v % 64:=by
  rcases charZ_ways v with ⟨h,e⟩ | ⟨h,e⟩ | ⟨h,e⟩ | ⟨h,e⟩ | ⟨h,e⟩ <;> rw [e] <;> simp <;> omega
theorem charZ_four (v x y z u:Int):charZ v = [x,y,z,u]↔(65536≤v∧v≤1114111)∧x = 240+v / 262144∧y = 128+v / 4096 % 64∧z = 128+v / 64 % 64∧u = 128+v % 64:=by
  rcases charZ_ways v with ⟨h,e⟩ | ⟨h,e⟩ | ⟨h,e⟩ | ⟨h,e⟩ | ⟨h,e⟩ <;> rw [e] <;> simp <;> omega
def v2 (b0 b1:Nat):Int:=64 * (b0 - 192)+b1 - 128
def v3 (b0 b1 b2:Nat):Int:=64 * (64 * (b0 - 224)+b1 - 128)+b2 - 128
def v4 (b0 b1 b2 b3:Nat):Int:=64 * (64 * (64 * (b0 - 240)+b1 - 128)+b2 - 128)+b3 - 128
def isOne (b0:Nat):Prop:=b0 < 128
def isTwo (n b0 b1:Nat):Prop:=1 < n∧charZ (v2 b0 b1) = [(b0:Int),(b1:Int)]
def isThree (n b0 b1 b2:Nat):Prop:=2 < n∧charZ (v3 b0 b1 b2) = [(b0:Int),(b1:Int),(b2:Int)]
def isFour (n b0 b1 b2 b3:Nat):Prop:=3 < n∧charZ (v4 b0 b1 b2 b3) = [(b0:Int),(b1:Int),(b2:Int),(b3:Int)]
set_option maxRecDepth 100000 in
set_option maxHeartbeats 4000000 in
theorem decode_ways (n b0 b1 b2 b3:Nat) (hn:1≤n) (h0:b0 < 256) (h1:b1 < 256) (h2:b2 < 256) (h3:b3 < 256) :
    (isOne b0∧decodeN n b0 b1 b2 b3 = (b0,1)) ∨ (¬ isOne b0∧isTwo n b0 b1∧((decodeN n b0 b1 b2 b3).1:Int) = v2 b0 b1∧(decodeN n b0 b1 b2 b3).2 = 2) ∨
    (¬ isOne b0∧¬ isTwo n b0 b1∧isThree n b0 b1 b2∧((decodeN n b0 b1 b2 b3).1:Int) = v3 b0 b1 b2∧(decodeN n b0 b1 b2 b3).2 = 3) ∨
    (¬ isOne b0∧¬ isTwo n b0 b1∧¬ isThree n b0 b1 b2∧isFour n b0 b1 b2 b3∧((decodeN n b0 b1 b2 b3).1:Int) = v4 b0 b1 b2 b3∧(decodeN n b0 b1 b2 b3).2 = 4) ∨
    (¬ isOne b0∧¬ isTwo n b0 b1∧¬ isThree n b0 b1 b2∧¬ isFour n b0 b1 b2 b3∧decodeN n b0 b1 b2 b3 = (65533,1)):=by
  unfold isOne isTwo isThree isFour
  rw [charZ_two,charZ_three,charZ_four]
  unfold v2 v3 v4 decodeN
  by_cases c0:b0 < 128
  · rw [if_pos c0];exact .inl ⟨c0,rfl⟩
  · rw [if_neg c0]
    refine .inr ?_
    by_cases c1:b0 / 32 = 6∧1 < n∧b1 / 64 = 2
    · rw [if_pos c1]
      by_cases d1:b0 % 32 * 64+b1 % 64 ≥ 128
      · rw [if_pos d1]
        exact .inl ⟨c0,by omega,by simp only;omega,rfl⟩
      · rw [if_neg d1]
        exact .inr (.inr (.inr ⟨c0,by omega,by omega,by omega,rfl⟩))
    · rw [if_neg c1]
      refine .inr ?_
      by_cases c2:b0 / 16 = 14∧(1 < n∧b1 / 64 = 2)∧(2 < n∧b2 / 64 = 2)
      · rw [if_pos c2]
        by_cases d2:b0 % 16 * 4096+b1 % 64 * 64+b2 % 64 ≥ 2048∧(b0 % 16 * 4096+b1 % 64 * 64+b2 % 64 < 55296 ∨ (57344≤b0 % 16 * 4096+b1 % 64 * 64+b2 % 64∧b0 % 16 * 4096+b1 % 64 * 64+b2 % 64≤1114111))
        · rw [if_pos d2]
          exact .inl ⟨c0,by omega,by omega,by simp only;omega,rfl⟩
        · rw [if_neg d2]
          exact .inr (.inr ⟨c0,by omega,by omega,by omega,rfl⟩)
      · rw [if_neg c2]
        refine .inr ?_
        by_cases c3:b0 / 8 = 30∧(1 < n∧b1 / 64 = 2)∧(2 < n∧b2 / 64 = 2)∧(3 < n∧b3 / 64 = 2)
        · rw [if_pos c3]
          by_cases d3:b0 % 8 * 262144+b1 % 64 * 4096+b2 % 64 * 64+b3 % 64 ≥ 65536∧(b0 % 8 * 262144+b1 % 64 * 4096+b2 % 64 * 64+b3 % 64 < 55296 ∨ (57344≤b0 % 8 * 262144+b1 % 64 * 4096+b2 % 64 * 64+b3 % 64∧b0 % 8 * 262144+b1 % 64 * 4096+b2 % 64 * 64+b3 % 64≤1114111))
          · rw [if_pos d3]
            exact .inl ⟨c0,by omega,by omega,by omega,by simp only;omega,rfl⟩
          · rw [if_neg d3]
            exact .inr ⟨c0,by omega,by omega,by omega,rfl⟩
        · rw [if_neg c3]
          exact .inr ⟨c0,by omega,by omega,by omega,rfl⟩
def Good (x:Nat × Nat):Prop:=¬ (x.1 = 65533∧x.2≤1)
set_option maxRecDepth 100000 in
set_option maxHeartbeats 8000000 in
theorem decodeN_good {n m b0 b1 b2 b3 c1 c2 c3:Nat} (hn:1≤n) (hg:Good (decodeN n b0 b1 b2 b3)) (hm:(decodeN n b0 b1 b2 b3).2≤m)
    (h1:1 < m→b1 = c1) (h2:2 < m→b2 = c2) (h3:3 < m→b3 = c3):decodeN m b0 c1 c2 c3 = decodeN n b0 b1 b2 b3∧(decodeN n b0 b1 b2 b3).2≤n:=by
  revert hg hm
  unfold decodeN Good
  repeat' split
  all_goals intro hg hm
  all_goals first | (exfalso;exact hg ⟨rfl,Nat.le_refl _⟩) | skip
  all_goals (simp only at hm)
  all_goals first | (exfalso;omega) | (refine ⟨?_,by simp only;omega⟩;first | (apply Prod.ext <;> simp only <;> omega) | (exfalso;omega))
theorem width_fits (s:ByteArray) (p:Nat) (hp:p < s.size) (hg:Good (Utf8.decode s p)):p+(Utf8.decode s p).2≤s.size:=by
  rw [decode_at] at hg ⊢
  have:=(decodeN_good (m:=(decodeN (s.size - p) (s.get! p).toNat (s.get! (p+1)).toNat (s.get! (p+2)).toNat (s.get! (p+3)).toNat).2) (by omega) hg (Nat.le_refl _) (fun _ => rfl) (fun _ => rfl) (fun _ => rfl)).2
  omega
theorem go_tail (s:ByteArray) (p:Nat) (h:p < s.size):decodeGo (s.extract p s.size) = Utf8.decode s p:=by
  unfold decodeGo
  rw [tail_decode]
  rw [if_neg (by rw [tail_size];omega)]
  simp
inductive Run (s:ByteArray):Nat→List Int→Nat→Prop
  | nil (p:Nat):Run s p [] p
  | cons {p q:Nat} {l:List Int}:p < s.size→Good (Utf8.decode s p)→Run s (p+(Utf8.decode s p).2) l q→Run s p (((Utf8.decode s p).1:Int) :: l) q
theorem first_good {s:ByteArray} {k p:Nat} (hp:p < s.size) (hg:Good (Utf8.decode s p)):first s (k+1) p = first s k (p+(Utf8.decode s p).2):=by
  rw [first,if_pos hp]
  by_cases h1:(Utf8.decode s p).1 = 65533
  · rw [if_pos h1,go_tail s p hp,if_neg (fun h2 => hg ⟨h1,h2⟩)]
  · rw [if_neg h1]
theorem first_bad {s:ByteArray} {k p:Nat} (hp:p < s.size) (hg:¬ Good (Utf8.decode s p)):first s (k+1) p = p:=by
  have hb:(Utf8.decode s p).1 = 65533∧(Utf8.decode s p).2≤1:=Classical.not_not.1 hg
  rw [first,if_pos hp,if_pos hb.1,go_tail s p hp,if_pos hb.2]
theorem Run.mono {s:ByteArray} {p q:Nat} {l:List Int} (h:Run s p l q):p+l.length≤q:=by
  induction h with
  | nil _ => exact Nat.le_refl _
  | cons hp _ _ ih =>
    have:=width_pos s _ hp
    simp only [List.length_cons]
    omega
theorem run_exists (s:ByteArray):∀ (j p:Nat),p≤s.size→s.size < p+j→∃ l q,Run s p l q∧q≤s.size∧(q < s.size→¬ Good (Utf8.decode s q))
  | 0,p,h,h2 => by omega
  | j+1,p,h,h2 => by
    by_cases hp:p < s.size
    · by_cases hg:Good (Utf8.decode s p)
      · have hw:=width_pos s p hp
        obtain ⟨l,q,h3,h4,h5⟩:=run_exists s j (p+(Utf8.decode s p).2) (width_fits s p hp hg) (by omega)
        exact ⟨_,q,.cons hp hg h3,h4,h5⟩
      · exact ⟨[],p,.nil p,h,fun _ => hg⟩
    · exact ⟨[],p,.nil p,h,fun h3 => absurd h3 hp⟩
theorem Run.first {s:ByteArray} {p q:Nat} {l:List Int} (h:Run s p l q) (hq:q≤s.size) (hb:q < s.size→¬ Good (Utf8.decode s q)):∀ j,s.size < p+j→U.first s j p = if q < s.size then (q:Int) else -1:=by
  induction h with
  | nil p =>
    intro j hj
    by_cases hp:p < s.size
    · rw [if_pos hp]
      obtain ⟨j,rfl⟩:∃ m,j = m+1:=⟨j - 1,by omega⟩
      exact first_bad hp (hb hp)
    · rw [if_neg hp,first_end s j p hp]
  | cons hp hg _ ih =>
    intro j hj
    have hw:=width_pos s _ hp
    obtain ⟨j,rfl⟩:∃ m,j = m+1:=⟨j - 1,by omega⟩
    rw [first_good hp hg]
    exact ih hq hb j (by omega)
def bytesZ (s:ByteArray) (p n:Nat):List Int:=(List.range n).map fun i => ((s.get! (p+i)).toNat:Int)
theorem byte_lt (s:ByteArray) (p:Nat):(s.get! p).toNat < 256:=(s.get! p).toNat_lt
instance (x:Nat × Nat):Decidable (Good x):=by unfold Good;infer_instance
instance (b0:Nat):Decidable (isOne b0):=by unfold isOne;infer_instance
instance (n b0 b1:Nat):Decidable (isTwo n b0 b1):=by unfold isTwo;infer_instance
instance (n b0 b1 b2:Nat):Decidable (isThree n b0 b1 b2):=by unfold isThree;infer_instance
instance (n b0 b1 b2 b3:Nat):Decidable (isFour n b0 b1 b2 b3):=by unfold isFour;infer_instance
theorem w64 {n:Int} (h:-9223372036854775808≤n) (h2:n≤9223372036854775807):wrap64 n = n:=by unfold wrap64;omega
theorem w32 {n:Int} (h:-2147483648≤n) (h2:n≤2147483647):wrap32 n = n:=by unfold wrap32;omega
theorem char_f (k:Nat) (c:Int) (h0:-2147483648≤c) (h1:c≤2147483647):r05_Char.f (k+1) c = some (strOfNums (charZ c)):=by
  have hd:∀ d:Int,0≤c→Int.tdiv c d = c / d:=fun d h => Int.tdiv_eq_ediv_of_nonneg h
  have hm:∀ d:Int,0≤c→Int.tmod c d = c % d:=fun d h => Int.tmod_eq_emod_of_nonneg h
  have ht:r05_Char.j0 (k+1) c true = some (strOfNums []):=by rw [r05_Char.j0,if_pos rfl];rfl
  unfold r05_Char.f
  by_cases c0:c < 0
  · rw [if_pos c0,ht,charZ_bad (by omega)]
  rw [if_neg c0]
  by_cases c1:c > 1114111
  · rw [if_pos c1,ht,charZ_bad (by omega)]
  rw [if_neg c1]
  have hf:¬ (55296≤c∧c≤57343)→r05_Char.j0 (k+1) c false = some (strOfNums (charZ c)):=by
    intro hs
    have q1:0≤c / 64:=Int.ediv_nonneg (by omega) (by omega)
    have q2:0≤c / 4096:=Int.ediv_nonneg (by omega) (by omega)
    have q3:0≤c / 262144:=Int.ediv_nonneg (by omega) (by omega)
    rw [r05_Char.j0,if_neg (by simp),w64 (n:=c) (by omega) (by omega)]
    by_cases g1:c < 128
    · rw [if_pos g1,charZ_1 (by omega),show c % 256 = c by omega]
    rw [if_neg g1]
    simp only [hd _ (show 0≤c by omega),hm _ (show 0≤c by omega)]
    rw [w64 (n:=c / 64) (by omega) (by omega),w64 (n:=c / 4096) (by omega) (by omega),w64 (n:=c / 262144) (by omega) (by omega),Int.tmod_eq_emod_of_nonneg q1,Int.tmod_eq_emod_of_nonneg q2]
    by_cases g2:c < 2048
    · rw [if_pos g2,charZ_2 (by omega),w64 (by omega) (by omega),w64 (by omega) (by omega),show (192+c / 64) % 256 = 192+c / 64 by omega,show (128+c % 64) % 256 = 128+c % 64 by omega]
    rw [if_neg g2]
    by_cases g3:c < 65536
    · rw [if_pos g3,charZ_3 (by omega),w64 (by omega) (by omega),w64 (by omega) (by omega),w64 (by omega) (by omega),show (224+c / 4096) % 256 = 224+c / 4096 by omega,show (128+c / 64 % 64) % 256 = 128+c / 64 % 64 by omega,show (128+c % 64) % 256 = 128+c % 64 by omega]
    rw [if_neg g3,charZ_4 (by omega),w64 (by omega) (by omega),w64 (by omega) (by omega),w64 (by omega) (by omega),w64 (by omega) (by omega),show (240+c / 262144) % 256 = 240+c / 262144 by omega,show (128+c / 4096 % 64) % 256 = 128+c / 4096 % 64 by omega,show (128+c / 64 % 64) % 256 = 128+c / 64 % 64 by omega,show (128+c % 64) % 256 = 128+c % 64 by omega]
  by_cases c2:c ≥ 55296
  · rw [if_pos c2]
    by_cases c3:c≤57343
    · rw [decide_eq_true c3,ht,charZ_bad (by omega)]
    · rw [decide_eq_false c3];exact hf (by omega)
  · rw [if_neg c2];exact hf (by omega)
theorem charZ_byte (v:Int):∀ x ∈ charZ v,0≤x∧x < 256:=by
  unfold charZ
  split
  · exact encodeRuneZ_byte v
  · intro x hx;cases hx
theorem bytesZ_eq (s:ByteArray) (p n:Nat) (h:p+n≤s.size):bytesZ s p n = (s.extract p (p+n)).data.toList.map fun b => (b.toNat:Int):=by
  have hl:s.data.toList.length = s.size:=Array.length_toList
  unfold bytesZ
  rw [extract_data,Nat.add_sub_cancel_left]
  apply List.ext_getElem
  · simp;omega
  · intro i h1 h2
    simp only [List.length_map,List.length_range] at h1
    rw [List.getElem_map,List.getElem_map,List.getElem_range,List.getElem_take,List.getElem_drop,← getD_get!',List.getD_eq_getElem?_getD,List.getElem?_eq_getElem (by omega)]
    rfl
theorem same_bytes (v:Int) (s:ByteArray) (p n:Nat) (h:p+n≤s.size):((strOfNums (charZ v)).toList = (s.extract p (p+n)).toList) = (charZ v = bytesZ s p n):=by
  rw [ByteArray.toList_eq,ByteArray.toList_eq,strOfNums_data,bytesZ_eq s p n h]
  generalize (s.extract p (p+n)).data.toList = L
  have hb:=charZ_byte v
  generalize charZ v = Z at hb
  apply propext
  constructor
  · rintro rfl
    rw [List.map_map]
    conv => lhs;rw [← List.map_id Z]
    refine List.map_congr_left (fun x hx => ?_)
    have:=hb x hx
    simp only [id,Function.comp,UInt8.toNat_ofNat']
    omega
  · rintro rfl
    rw [List.map_map]
    conv => rhs;rw [← List.map_id L]
    refine List.map_congr_left (fun x hx => ?_)
    simp [Function.comp]
theorem bt_get (s:ByteArray) (i:Nat) (h:i < s.size):bt s (i:Int) = ((s.get! i).toNat:Int):=by
  unfold bt
  rw [Int.toNat_natCast,dif_pos h,← getD_get!',List.getD_eq_getElem?_getD,List.getElem?_eq_getElem (by rw [Array.length_toList];exact h)]
  rfl
theorem at_end (k:Nat) (s:ByteArray) (p i:Nat) (v:Int) (h0:-1000000000≤v) (h1:v≤1000000000) (hi:1≤i) (hi2:i≤4) (hp:p+i≤s.size) (hs:s.size≤1000000) :
    r05_At.l1 (k+2) s p i v i = if charZ v = bytesZ s p i then some (v,(i:Int)) else r05_At.l0 (k+1) s p ((i:Int)+1):=by
  have hbz:(bytesZ s p i).length = i:=by unfold bytesZ;simp
  rw [r05_At.l1,if_neg (by omega)]
  by_cases hv:0≤v∧v≤1114111
  · rw [if_pos hv.1,if_pos hv.2,w32 (by omega) (by omega),char_f k v (by omega) (by omega),Option.bind_some,if_pos (by omega),w64 (n:=(p:Int)+i) (by omega) (by omega),if_pos (by omega),if_pos (by omega)]
    have e1:((p:Int)+(i:Int)).toNat = p+i:=by omega
    rw [e1,Int.toNat_natCast]
    by_cases e:charZ v = bytesZ s p i
    · rw [if_pos e,if_pos ((same_bytes v s p i hp).symm ▸ e)]
    · rw [if_neg e,if_neg (fun h => e ((same_bytes v s p i hp) ▸ h)),w64 (by omega) (by omega)]
  · have hz:charZ v = []:=charZ_bad (by omega)
    have hne:¬ charZ v = bytesZ s p i:=by
      intro e
      rw [← e,hz] at hbz
      simp at hbz
      omega
    rw [if_neg hne]
    by_cases c0:v ≥ 0
    · rw [if_pos c0,if_neg (by omega),w64 (by omega) (by omega)]
    · rw [if_neg c0,w64 (by omega) (by omega)]
theorem at_round (k:Nat) (s:ByteArray) (p i j:Nat) (v:Int) (h0:-10000000≤v) (h1:v≤10000000) (hj:j < i) (hi2:i≤4) (hp:p+i≤s.size) (hs:s.size≤1000000) :
    r05_At.l1 (k+1) s p i v j = r05_At.l1 k s p i (64 * v+((s.get! (p+j)).toNat:Int) - 128) ((j+1:Nat):Int):=by
  have hb:=byte_lt s (p+j)
  have e1:wrap64 ((p:Int)+(j:Int)) = ((p+j:Nat):Int):=by rw [w64 (by omega) (by omega)];omega
  rw [r05_At.l1,if_pos (by omega),e1,if_pos (by omega),if_pos (by omega),bt_get s (p+j) (by omega),w64 (n:=64 * v) (by omega) (by omega),w64 (n:=((s.get! (p+j)).toNat:Int)) (by omega) (by omega),w64 (n:=64 * v+_) (by omega) (by omega),w64 (by omega) (by omega),w64 (by omega) (by omega)]
  rfl
theorem at_size (k:Nat) (s:ByteArray) (p i:Nat) (hi:1≤i) (hi2:i≤4) (hp:p+i≤s.size) (hs:s.size≤1000000) :
    r05_At.l0 (k+5) s p i = r05_At.l1 k s p i (((s.get! p).toNat:Int) - (if i = 2 then 192 else if i = 3 then 224 else if i = 4 then 240 else 0)) 1:=by
  have hb:=byte_lt s p
  rw [r05_At.l0,if_pos (by omega),w64 (n:=(p:Int)+i) (by omega) (by omega),decide_eq_true (show (p:Int)+i≤s.size by omega),r05_At.j1,if_pos rfl,if_pos (by omega),if_pos (by omega),bt_get s p (by omega),w64 (n:=((s.get! p).toNat:Int)) (by omega) (by omega)]
  obtain h | h | h | h:i = 1 ∨ i = 2 ∨ i = 3 ∨ i = 4:=by omega
  · subst h
    rw [if_neg (by decide),r05_At.j2,if_neg (by decide),r05_At.j3,if_neg (by decide),r05_At.j4]
    simp
  · subst h
    rw [if_pos (by decide),r05_At.j2,if_neg (by decide),r05_At.j3,if_neg (by decide),r05_At.j4,w64 (by omega) (by omega)]
    simp
  · subst h
    rw [if_neg (by decide),r05_At.j2,if_pos (by decide),r05_At.j3,if_neg (by decide),r05_At.j4,w64 (by omega) (by omega)]
    simp
  · subst h
    rw [if_neg (by decide),r05_At.j2,if_neg (by decide),r05_At.j3,if_pos (by decide),r05_At.j4,w64 (by omega) (by omega)]
    simp
theorem at_out (k:Nat) (s:ByteArray) (p i:Nat) (hi:1≤i) (hi2:i≤5) (hp:i = 5 ∨ ¬ p+i≤s.size) (hs:s.size≤1000000) (hps:p≤s.size) :
    r05_At.l0 (k+2) s p i = some (0,0):=by
  rw [r05_At.l0]
  by_cases h5:i = 5
  · subst h5
    rw [if_neg (by decide),r05_At.j1,if_neg (by simp)]
  · rw [if_pos (by omega),w64 (n:=(p:Int)+i) (by omega) (by omega),decide_eq_false (show ¬ (p:Int)+i≤s.size by omega),r05_At.j1,if_neg (by simp)]
theorem at_f (k:Nat) (s:ByteArray) (p:Nat) (hp:p < s.size) (hs:s.size≤1000000) :
    r05_At.f (k+40) s p = some (if Good (Utf8.decode s p) then (((Utf8.decode s p).1:Int),((Utf8.decode s p).2:Int)) else (0,0)):=by
  have q0:=byte_lt s p
  have q1:=byte_lt s (p+1)
  have q2:=byte_lt s (p+2)
  have q3:=byte_lt s (p+3)
  have z1:bytesZ s p 1 = [((s.get! p).toNat:Int)]:=by simp [bytesZ,List.range_succ]
  have z2:bytesZ s p 2 = [((s.get! p).toNat:Int),((s.get! (p+1)).toNat:Int)]:=by simp [bytesZ,List.range_succ]
  have z3:bytesZ s p 3 = [((s.get! p).toNat:Int),((s.get! (p+1)).toNat:Int),((s.get! (p+2)).toNat:Int)]:=by simp [bytesZ,List.range_succ]
  have z4:bytesZ s p 4 = [((s.get! p).toNat:Int),((s.get! (p+1)).toNat:Int),((s.get! (p+2)).toNat:Int),((s.get! (p+3)).toNat:Int)]:=by simp [bytesZ,List.range_succ]
  have r1:∀ k,r05_At.l0 (k+7) s p 1 = if isOne (s.get! p).toNat then some (((s.get! p).toNat:Int),1) else r05_At.l0 (k+1) s p 2:=by
    intro k
    have h:=at_size (k+2) s p 1 (by omega) (by omega) (by omega) hs
    have h2:=at_end k s p 1 ((s.get! p).toNat:Int) (by omega) (by omega) (by omega) (by omega) (by omega) hs
    simp only [show ¬ (1:Nat) = 2 by decide,show ¬ (1:Nat) = 3 by decide,show ¬ (1:Nat) = 4 by decide,if_false,Int.sub_zero,Int.natCast_one] at h h2
    rw [show k+7 = k+2+5 by omega,h,h2,z1]
    by_cases c:isOne (s.get! p).toNat
    · rw [if_pos c,if_pos (charZ_1 (by unfold isOne at c;omega))]
    · rw [if_neg c,if_neg (fun e => c (by have:=(charZ_one _ _).1 e;unfold isOne;omega))];rfl
  have r2:∀ k,r05_At.l0 (k+8) s p 2 = if isTwo (s.size - p) (s.get! p).toNat (s.get! (p+1)).toNat then some (v2 (s.get! p).toNat (s.get! (p+1)).toNat,2) else if p+2≤s.size then r05_At.l0 (k+1) s p 3 else some (0,0):=by
    intro k
    by_cases hp2:p+2≤s.size
    · have h:=at_size (k+3) s p 2 (by omega) (by omega) (by omega) hs
      have h3:=at_round (k+2) s p 2 1 (((s.get! p).toNat:Int) - 192) (by omega) (by omega) (by omega) (by omega) (by omega) hs
      have h2:=at_end k s p 2 (v2 (s.get! p).toNat (s.get! (p+1)).toNat) (by unfold v2;omega) (by unfold v2;omega) (by omega) (by omega) (by omega) hs
      have e:64 * (((s.get! p).toNat:Int) - 192)+((s.get! (p+1)).toNat:Int) - 128 = v2 (s.get! p).toNat (s.get! (p+1)).toNat:=rfl
      rw [e] at h3
      simp only [if_true] at h
      have hl:=h.trans (h3.trans h2)
      rw [show k+8 = k+3+5 by omega]
      refine hl.trans ?_
      rw [z2,if_pos hp2]
      by_cases c:charZ (v2 (s.get! p).toNat (s.get! (p+1)).toNat) = [((s.get! p).toNat:Int),((s.get! (p+1)).toNat:Int)]
      · rw [if_pos c,if_pos (show isTwo _ _ _ from ⟨by omega,c⟩)];rfl
      · rw [if_neg c,if_neg (show ¬ isTwo _ _ _ from fun e => c e.2)];rfl
    · have:=at_out (k+6) s p 2 (by omega) (by omega) (.inr hp2) hs (by omega)
      rw [if_neg (show ¬ isTwo _ _ _ from fun e => hp2 (by have:=e.1;omega)),if_neg hp2]
      exact this
  have r3:∀ k,p+2≤s.size→r05_At.l0 (k+9) s p 3 = if isThree (s.size - p) (s.get! p).toNat (s.get! (p+1)).toNat (s.get! (p+2)).toNat then some (v3 (s.get! p).toNat (s.get! (p+1)).toNat (s.get! (p+2)).toNat,3) else if p+3≤s.size then r05_At.l0 (k+1) s p 4 else some (0,0):=by
    intro k _
    by_cases hp3:p+3≤s.size
    · have h:=at_size (k+4) s p 3 (by omega) (by omega) (by omega) hs
      have h3:=at_round (k+3) s p 3 1 (((s.get! p).toNat:Int) - 224) (by omega) (by omega) (by omega) (by omega) (by omega) hs
      have h4:=at_round (k+2) s p 3 2 (64 * (((s.get! p).toNat:Int) - 224)+((s.get! (p+1)).toNat:Int) - 128) (by omega) (by omega) (by omega) (by omega) (by omega) hs
      have h2:=at_end k s p 3 (v3 (s.get! p).toNat (s.get! (p+1)).toNat (s.get! (p+2)).toNat) (by unfold v3;omega) (by unfold v3;omega) (by omega) (by omega) (by omega) hs
      have e:64 * (64 * (((s.get! p).toNat:Int) - 224)+((s.get! (p+1)).toNat:Int) - 128)+((s.get! (p+2)).toNat:Int) - 128 = v3 (s.get! p).toNat (s.get! (p+1)).toNat (s.get! (p+2)).toNat:=rfl
      rw [e] at h4
      simp only [show ¬ (3:Nat) = 2 by decide,if_true,if_false] at h
      have hl:=h.trans (h3.trans (h4.trans h2))
      rw [show k+9 = k+4+5 by omega]
      refine hl.trans ?_
      rw [z3,if_pos hp3]
      by_cases c:charZ (v3 (s.get! p).toNat (s.get! (p+1)).toNat (s.get! (p+2)).toNat) = [((s.get! p).toNat:Int),((s.get! (p+1)).toNat:Int),((s.get! (p+2)).toNat:Int)]
      · rw [if_pos c,if_pos (show isThree _ _ _ _ from ⟨by omega,c⟩)];rfl
      · rw [if_neg c,if_neg (show ¬ isThree _ _ _ _ from fun e => c e.2)];rfl
    · have:=at_out (k+7) s p 3 (by omega) (by omega) (.inr hp3) hs (by omega)
      rw [if_neg (show ¬ isThree _ _ _ _ from fun e => hp3 (by have:=e.1;omega)),if_neg hp3]
      exact this
  have r4:∀ k,p+3≤s.size→r05_At.l0 (k+10) s p 4 = if isFour (s.size - p) (s.get! p).toNat (s.get! (p+1)).toNat (s.get! (p+2)).toNat (s.get! (p+3)).toNat then some (v4 (s.get! p).toNat (s.get! (p+1)).toNat (s.get! (p+2)).toNat (s.get! (p+3)).toNat,4) else if p+4≤s.size then r05_At.l0 (k+1) s p 5 else some (0,0):=by
    intro k _
    by_cases hp4:p+4≤s.size
    · have h:=at_size (k+5) s p 4 (by omega) (by omega) (by omega) hs
      have h3:=at_round (k+4) s p 4 1 (((s.get! p).toNat:Int) - 240) (by omega) (by omega) (by omega) (by omega) (by omega) hs
      have h4:=at_round (k+3) s p 4 2 (64 * (((s.get! p).toNat:Int) - 240)+((s.get! (p+1)).toNat:Int) - 128) (by omega) (by omega) (by omega) (by omega) (by omega) hs
      have h5:=at_round (k+2) s p 4 3 (64 * (64 * (((s.get! p).toNat:Int) - 240)+((s.get! (p+1)).toNat:Int) - 128)+((s.get! (p+2)).toNat:Int) - 128) (by omega) (by omega) (by omega) (by omega) (by omega) hs
      have h2:=at_end k s p 4 (v4 (s.get! p).toNat (s.get! (p+1)).toNat (s.get! (p+2)).toNat (s.get! (p+3)).toNat) (by unfold v4;omega) (by unfold v4;omega) (by omega) (by omega) (by omega) hs
      have e:64 * (64 * (64 * (((s.get! p).toNat:Int) - 240)+((s.get! (p+1)).toNat:Int) - 128)+((s.get! (p+2)).toNat:Int) - 128)+((s.get! (p+3)).toNat:Int) - 128 = v4 (s.get! p).toNat (s.get! (p+1)).toNat (s.get! (p+2)).toNat (s.get! (p+3)).toNat:=rfl
      rw [e] at h5
      simp only [show ¬ (4:Nat) = 2 by decide,show ¬ (4:Nat) = 3 by decide,if_true,if_false] at h
      have hl:=h.trans (h3.trans (h4.trans (h5.trans h2)))
      rw [show k+10 = k+5+5 by omega]
      refine hl.trans ?_
      rw [z4,if_pos hp4]
      by_cases c:charZ (v4 (s.get! p).toNat (s.get! (p+1)).toNat (s.get! (p+2)).toNat (s.get! (p+3)).toNat) = [((s.get! p).toNat:Int),((s.get! (p+1)).toNat:Int),((s.get! (p+2)).toNat:Int),((s.get! (p+3)).toNat:Int)]
      · rw [if_pos c,if_pos (show isFour _ _ _ _ _ from ⟨by omega,c⟩)];rfl
      · rw [if_neg c,if_neg (show ¬ isFour _ _ _ _ _ from fun e => c e.2)];rfl
    · have:=at_out (k+8) s p 4 (by omega) (by omega) (.inr hp4) hs (by omega)
      rw [if_neg (show ¬ isFour _ _ _ _ _ from fun e => hp4 (by have:=e.1;omega)),if_neg hp4]
      exact this
  have r5:∀ k,r05_At.l0 (k+2) s p 5 = some (0,0):=fun k => at_out k s p 5 (by omega) (by omega) (.inl rfl) hs (by omega)
  unfold r05_At.f
  rw [show k+40 = (k+33)+7 by omega,r1,show k+33+1 = (k+26)+8 by omega,r2]
  rw [decode_at]
  rcases decode_ways (s.size - p) _ _ _ _ (by omega) q0 q1 q2 q3 with ⟨h,e⟩ | ⟨g1,h,e1,e2⟩ | ⟨g1,g2,h,e1,e2⟩ | ⟨g1,g2,g3,h,e1,e2⟩ | ⟨g1,g2,g3,g4,e⟩
  · rw [if_pos h,e,if_pos (by unfold Good;unfold isOne at h;simp only;omega)];rfl
  · rw [if_neg g1,if_pos h,e1,e2,if_pos (by unfold Good;omega)];rfl
  · have hp2:p+2≤s.size:=by have:=h.1;omega
    rw [if_neg g1,if_neg g2,if_pos hp2,show k+26+1 = (k+18)+9 by omega,r3 _ hp2,if_pos h,e1,e2,if_pos (by unfold Good;omega)];rfl
  · have hp3:p+3≤s.size:=by have:=h.1;omega
    have hp2:p+2≤s.size:=by omega
    rw [if_neg g1,if_neg g2,if_pos hp2,show k+26+1 = (k+18)+9 by omega,r3 _ hp2,if_neg g3,if_pos hp3,show k+18+1 = (k+9)+10 by omega,r4 _ hp3,if_pos h,e1,e2,if_pos (by unfold Good;omega)];rfl
  · rw [if_neg g1,if_neg g2,e,if_neg (show ¬ Good (65533,1) from fun h => h ⟨rfl,Nat.le_refl _⟩)]
    by_cases hp2:p+2≤s.size
    · rw [if_pos hp2,show k+26+1 = (k+18)+9 by omega,r3 _ hp2,if_neg g3]
      by_cases hp3:p+3≤s.size
      · rw [if_pos hp3,show k+18+1 = (k+9)+10 by omega,r4 _ hp3,if_neg g4]
        by_cases hp4:p+4≤s.size
        · rw [if_pos hp4,r5]
        · rw [if_neg hp4]
      · rw [if_neg hp3]
    · rw [if_neg hp2]
theorem read_l0 {s:ByteArray} {p q:Nat} {l:List Int} (h:Run s p l q) (hs:s.size≤1000000) (hq:q≤s.size) (hb:q < s.size→¬ Good (Utf8.decode s q)) :
    ∀ (k:Nat) (acc:List Int),acc.length≤p→r05_Read.l0 (k+l.length+42) s acc p = some (acc ++ l,(q:Int)):=by
  induction h with
  | nil p =>
    intro k acc ha
    rw [List.length_nil,show k+0+42 = (k+1+40)+1 by omega,r05_Read.l0]
    by_cases hp:p < s.size
    · rw [if_pos (by omega),at_f (k+1) s p hp hs,if_neg (hb hp),Option.bind_some,if_pos rfl,List.append_nil]
    · rw [if_neg (by omega),List.append_nil]
  | @cons p q l hp hg hr ih =>
    intro k acc ha
    have hw:=width_pos s p hp
    have hf:=width_fits s p hp hg
    rw [List.length_cons,show k+(l.length+1)+42 = ((k+l.length+2)+40)+1 by omega,r05_Read.l0,if_pos (by omega),at_f _ s p hp hs,if_pos hg,Option.bind_some,if_neg (by simp only;omega),if_pos (by omega)]
    have e1:wrap64 ((p:Int)+((Utf8.decode s p).2:Int)) = ((p+(Utf8.decode s p).2:Nat):Int):=by rw [w64 (by omega) (by omega)];omega
    rw [e1]
    have:=ih hq hb k (acc ++ [((Utf8.decode s p).1:Int)]) (by simp only [List.length_append,List.length_cons,List.length_nil];omega)
    rw [show k+l.length+2+40 = k+l.length+42 by omega,this,List.append_assoc]
    rfl
theorem read_f {s:ByteArray} {q:Nat} {l:List Int} (h:Run s 0 l q) (hs:s.size≤1000000) (hq:q≤s.size) (hb:q < s.size→¬ Good (Utf8.decode s q)) (k:Nat) :
    r05_Read.f (k+l.length+42) s = some (l,(q:Int)):=by
  unfold r05_Read.f
  have:=read_l0 h hs hq hb k [] (Nat.le_refl _)
  rwa [List.nil_append] at this
theorem right_f (s:ByteArray) (hs:s.size≤1000000) (k:Nat) (hk:s.size+43≤k):r05_Right.f k s = some (!decide (0≤U.first s (s.size+1) 0)):=by
  obtain ⟨l,q,hr,hq,hb⟩:=run_exists s (s.size+1) 0 (by omega) (by omega)
  have hm:=hr.mono
  have hf:=hr.first hq hb (s.size+1) (by omega)
  unfold r05_Right.f
  rw [show k = (k - l.length - 42)+l.length+42 by omega,read_f hr hs hq hb,Option.bind_some,hf]
  by_cases h:q < s.size
  · rw [if_pos h,decide_eq_true (by omega:(0:Int)≤q)]
    simp
    omega
  · rw [if_neg h,show q = s.size by omega]
    simp
end Go.Proofs.YtcphcaiiofeflaaDoor.U
namespace Go.Proofs.YtcphcaiiofeflaaDoor.GO
open Go.RowKit Go.Proofs.YtcphcaiiofeflaaDoorW.PrintWords Go.Proofs.YtcphcaiiofeflaaDoorW.PrintLast Go.Proofs.YtcphcaiiofeflaaDoorW.PrintMore
set_option linter.unusedVariables false
set_option linter.unusedSimpArgs false
theorem num_at {l:List Int} {i:Nat} (h:i < l.length):l.drop i = rd l (i:Int) :: l.drop (i+1):=by
  rw [List.drop_eq_getElem_cons h,rd_nat,List.getD_eq_getElem?_getD,List.getElem?_eq_getElem h];rfl
def inB (c n:Int):Bool:=if c = 1 then true else if c = 2 then decide (-140737488355328≤n∧n≤140737488355328) else if c = 3 then decide (0≤n∧n≤140737488355328) else if c = 4 then decide (0≤n∧n≤255) else if c = 5 then decide (n = 0 ∨ n = 1) else false
theorem in_code (c n:Int):schema_In.f c n = some (inB c n):=by
  unfold schema_In.f inB
  repeat' split
  all_goals first | rfl | (exfalso;omega) | (congr 1;rw [Bool.eq_iff_iff];simp;omega) | (congr 1;rw [Bool.eq_iff_iff];simp;done) | (congr 1;rw [eq_comm];simp;omega)
theorem in_ref (c n:Int):r07_In.f c n = some (inB c n):=by
  unfold r07_In.f inB
  repeat' split
  all_goals first | rfl | (exfalso;omega) | (congr 1;rw [Bool.eq_iff_iff];simp;omega) | (congr 1;rw [Bool.eq_iff_iff];simp;done) | (congr 1;rw [eq_comm];simp;omega) | (congr 1;rw [eq_comm,decide_eq_false_iff_not];rintro (rfl | rfl) <;> simp_all [wrap64])
def allIn:List Int→List Int→Bool
  | c :: cs,n :: ns => inB c n && allIn cs ns
  | _,_ => true
theorem numbers_l0 (k:Nat) (ns cs:List Int) (he:ns.length = cs.length) (hn:ns.length≤100):∀ d i:Nat,i+d = ns.length→field_numbers.l0 (k+d+1) cs ns (ns.length:Int) (i:Int) = some (allIn (cs.drop i) (ns.drop i)):=by
  intro d
  induction d with
  | zero =>
    intro i hi
    rw [field_numbers.l0,if_neg (by omega),List.drop_of_length_le (by omega)];rfl
  | succ d ih =>
    intro i hi
    rw [show k+(d+1)+1 = (k+d+1)+1 by omega,field_numbers.l0,if_pos (by omega),if_pos (by omega),if_pos (by omega),if_pos (by omega),in_code,Option.bind_some,num_at (l:=cs) (by omega),num_at (l:=ns) (by omega),allIn,w64 (by omega) (by omega)]
    cases inB (rd cs i) (rd ns i) with
    | false => rfl
    | true => rw [if_pos rfl,Bool.true_and];exact ih (i+1) (by omega)
def kidsV (n least most:Int):Int:=if n < least then 12 else if 0≤most∧most < n then 12 else 0
theorem check_l1 (k:Nat) (hk:600≤k) (a0:Int) (l1:List Int) (l2:List ByteArray) (l3:List Int) (m0:List Int) (n1 n2 n3:Int) (h2:l2.length≤100) (hs:∀ s ∈ l2,s.size≤500):∀ d i:Nat,i+d = l2.length →
    r08_Check.l1 (k+d+1) (i:Int) a0 l1 l2 l3 m0 n1 n2 n3 = some (if (l2.drop i).any badT = true then 11 else kidsV l3.length n2 n3):=by
  intro d
  induction d with
  | zero =>
    intro i hi
    rw [r08_Check.l1,if_neg (by omega),List.drop_of_length_le (by omega)]
    unfold kidsV
    by_cases h1:(l3.length:Int) < n2
    · rw [if_pos h1];simp [h1]
    · rw [if_neg h1]
      by_cases h4:n3 ≥ 0
      · rw [if_pos h4]
        by_cases h5:(l3.length:Int) > n3
        · rw [if_pos h5];simp;omega
        · rw [if_neg h5];simp;omega
      · rw [if_neg h4];simp;omega
  | succ d ih =>
    intro i hi
    have hm:rdOf ByteArray.empty l2 (i:Int) ∈ l2:=by
      have:rdOf ByteArray.empty l2 (i:Int) ∈ l2.drop i:=by rw [txt_at (by omega)];exact List.mem_cons_self ..
      exact List.mem_of_mem_drop this
    have hsz:=hs _ hm
    rw [show k+(d+1)+1 = (k+d+1)+1 by omega,r08_Check.l1,if_pos (by omega),if_pos (by omega),U.right_f _ (by omega) _ (by omega),Option.bind_some,txt_at (by omega),List.any_cons]
    cases hb:badT (rdOf ByteArray.empty l2 (i:Int)) with
    | true =>
      have hb2:decide (0≤U.first (rdOf ByteArray.empty l2 (i:Int)) ((rdOf ByteArray.empty l2 (i:Int)).size+1) 0) = true:=hb
      rw [hb2];rfl
    | false =>
      have hb2:decide (0≤U.first (rdOf ByteArray.empty l2 (i:Int)) ((rdOf ByteArray.empty l2 (i:Int)).size+1) 0) = false:=hb
      rw [hb2,Bool.not_false,if_pos rfl,w64 (by omega) (by omega),Bool.false_or]
      exact ih (i+1) (by omega)
theorem check_l0 (k:Nat) (hk:702≤k) (a0:Int) (l1:List Int) (l2:List ByteArray) (l3:List Int) (m0:List Int) (n1 n2 n3:Int) (he:l1.length = m0.length) (h1:l1.length≤100) (h2:l2.length≤100) (hs:∀ s ∈ l2,s.size≤500):∀ d i:Nat,i+d = l1.length →
    r08_Check.l0 (k+d+1) (i:Int) a0 l1 l2 l3 m0 n1 n2 n3 = some (if allIn (m0.drop i) (l1.drop i) = false then 10 else if (l2.length:Int)≠n1 then 11 else if l2.any badT = true then 11 else kidsV l3.length n2 n3):=by
  intro d
  induction d with
  | zero =>
    intro i hi
    rw [r08_Check.l0,if_neg (by omega),List.drop_of_length_le (l:=m0) (by omega)]
    rw [if_neg (show ¬ allIn [] (l1.drop i) = false by simp [allIn])]
    by_cases h4:(l2.length:Int) = n1
    · rw [if_pos h4,if_neg (by simpa using h4)]
      have:=check_l1 (k - l2.length - 1) (by omega) a0 l1 l2 l3 m0 n1 n2 n3 h2 hs l2.length 0 (by omega)
      rw [show k = k - l2.length - 1+l2.length+1 by omega]
      simpa using this
    · rw [if_neg h4,if_pos h4]
  | succ d ih =>
    intro i hi
    rw [show k+(d+1)+1 = (k+d+1)+1 by omega,r08_Check.l0,if_pos (by omega),if_pos (by omega),if_pos (by omega),in_ref,Option.bind_some,num_at (l:=m0) (by omega),num_at (l:=l1) (by omega),allIn,w64 (by omega) (by omega)]
    cases inB (rd m0 i) (rd l1 i) with
    | false => rfl
    | true => rw [if_pos rfl,Bool.true_and];exact ih (i+1) (by omega)
def chk (l1:List Int) (l2:List ByteArray) (l3:List Int) (m0:List Int) (n1 n2 n3:Int):Int :=
  if l1.length≠m0.length then 10 else if allIn m0 l1 = false then 10 else if (l2.length:Int)≠n1 then 11 else if l2.any badT = true then 11 else kidsV l3.length n2 n3
theorem fchk (k:Nat) (hk:1000≤k) (a0:Int) {l1:List Int} {l2:List ByteArray} {l3:List Int} (m0:List Int) (n1 n2 n3:Int) (F:Fit l1 l2 l3):field_Check.f k a0 l1 l2 l3 m0 n1 n2 n3 = some (chk l1 l2 l3 m0 n1 n2 n3):=by
  have f1:=F.n1
  have f2:=F.n2
  have hq:l2.length≤8796093022208∧(l2.all fun s => decide (s.size≤70368744177664)) = true:=⟨by omega,List.all_eq_true.2 fun s hs => decide_eq_true (by have:=F.s2 s hs;omega)⟩
  unfold chk
  by_cases he:l1.length = m0.length
  · have e1:field_numbers.f k l1 m0 = some (allIn m0 l1):=by
      unfold field_numbers.f
      rw [if_pos (by omega)]
      have:=numbers_l0 (k - l1.length - 1) l1 m0 he f1 l1.length 0 (by omega)
      rw [show k = k - l1.length - 1+l1.length+1 by omega]
      simpa using this
    rw [if_neg (by simpa using he)]
    unfold field_Check.f
    rw [e1,Option.bind_some,if_pos hq]
    congr 1
    unfold checkV kidsV
    cases allIn m0 l1 with
    | false => rfl
    | true =>
      simp only [Bool.true_eq_false,if_false]
      by_cases h1:(l2.length:Int) = n1 <;> cases h2:l2.any badT <;> simp only [h1,ne_eq,not_true,not_false_eq_true,false_or,true_or,or_true,if_true,if_false,Bool.false_eq_true]
      repeat' split
      all_goals first | rfl | (exfalso;omega)
  · have e1:field_numbers.f k l1 m0 = some false:=by
      unfold field_numbers.f
      rw [if_neg (by omega)]
    rw [if_pos he]
    unfold field_Check.f
    rw [e1,Option.bind_some,if_pos hq]
    rfl
theorem rchk (k:Nat) (hk:1000≤k) (a0:Int) {l1:List Int} {l2:List ByteArray} {l3:List Int} (m0:List Int) (n1 n2 n3:Int) (F:Fit l1 l2 l3):r08_Check.f k a0 l1 l2 l3 m0 n1 n2 n3 = some (chk l1 l2 l3 m0 n1 n2 n3):=by
  have f1:=F.n1
  have f2:=F.n2
  unfold chk
  by_cases he:l1.length = m0.length
  · rw [if_neg (by simpa using he)]
    unfold r08_Check.f
    rw [if_pos (by omega)]
    have:=check_l0 (k - l1.length - 1) (by omega) a0 l1 l2 l3 m0 n1 n2 n3 he f1 f2 F.s2 l1.length 0 (by omega)
    rw [show k = k - l1.length - 1+l1.length+1 by omega]
    simpa using this
  · rw [if_pos he]
    unfold r08_Check.f
    rw [if_neg (by omega)]
theorem chk_kids (l1:List Int) (l2:List ByteArray) (l3 l4:List Int) (m0:List Int) (n1 n2 n3:Int) (h:l3.length = l4.length):chk l1 l2 l3 m0 n1 n2 n3 = chk l1 l2 l4 m0 n1 n2 n3:=by unfold chk;rw [h]
theorem chk_cases (l1:List Int) (l2:List ByteArray) (l3:List Int) (m0:List Int) (n1 n2 n3:Int):chk l1 l2 l3 m0 n1 n2 n3 = 0 ∨ chk l1 l2 l3 m0 n1 n2 n3 = 10 ∨ chk l1 l2 l3 m0 n1 n2 n3 = 11 ∨ chk l1 l2 l3 m0 n1 n2 n3 = 12:=by
  unfold chk kidsV
  repeat' split
  all_goals simp
end Go.Proofs.YtcphcaiiofeflaaDoor.GO
namespace Go.Proofs.YtcphcaiiofeflaaDoor.GO
open Go.RowKit Go.Proofs.YtcphcaiiofeflaaDoorW.PrintWords Go.Proofs.YtcphcaiiofeflaaDoorW.PrintLast Go.Proofs.YtcphcaiiofeflaaDoorW.PrintMore
set_option linter.unusedVariables false
set_option linter.unusedSimpArgs false
def Ev {α:Type} (f:Nat→Option α) (v:α):Prop:=∃ K,∀ k,K≤k→f k = some v
theorem ev_of {α:Type} {f:Nat→Option α} {v:α} (h:∃ K,∀ k,f (k+K) = some v):Ev f v:=by
  obtain ⟨K,h⟩:=h
  exact ⟨K,fun k hk => by have:=h (k - K);rwa [Nat.sub_add_cancel hk] at this⟩
def oldS (a0:Int):List Int × Int × Int × Int × Bool:=if a0 = 1 then ([],0,0,(-1),true) else if a0 = 2 then ([2,2,2,2],0,1,1,true) else if a0 = 3 then ([3],1,0,0,true) else if a0 = 4 then ([3],1,0,0,true) else if a0 = 5 then ([],1,0,0,true) else if a0 = 6 then ([4],0,0,0,true) else ([],0,0,0,false)
theorem new_code (a0:Int):schema_Old.f a0 = some (oldS a0):=by
  by_cases h1:a0 = 1
  · subst h1;rfl
  by_cases h2:a0 = 2
  · subst h2;rfl
  by_cases h3:a0 = 3
  · subst h3;rfl
  by_cases h4:a0 = 4
  · subst h4;rfl
  by_cases h5:a0 = 5
  · subst h5;rfl
  by_cases h6:a0 = 6
  · subst h6;rfl
  have e4:schema_ints.f 4 2 = some [2,2,2,2]:=rfl
  have e3:schema_ints.f 1 3 = some [3]:=rfl
  have e1:schema_ints.f 1 4 = some [4]:=rfl
  have hq:a0 < 1 ∨ 7≤a0:=by omega
  unfold schema_Old.f oldS schema_find.f
  rw [if_neg h1,if_neg h2,if_neg h3,if_neg h4,if_neg h5,if_neg h6,e4,e3,e1]
  simp only [Option.bind_some]
  rcases hq with hq | hq
  · rw [if_pos hq];rfl
  · rw [if_neg (by omega),if_pos (by simpa using hq)];rfl
theorem spec_ref (k:Nat) (hk:1≤k) (a1:Int):r07_Spec.f k 1 a1 = some (oldS a1):=by
  obtain ⟨k,rfl⟩:∃ j,k = j+1:=⟨k - 1,by omega⟩
  by_cases h1:a1 = 1
  · subst h1;rfl
  by_cases h2:a1 = 2
  · subst h2;rfl
  by_cases h3:a1 = 3
  · subst h3;rfl
  by_cases h4:a1 = 4
  · subst h4;rfl
  by_cases h5:a1 = 5
  · subst h5;rfl
  by_cases h6:a1 = 6
  · subst h6;rfl
  simp [r07_Spec.f,r07_Spec.j0,oldS,h1,h2,h3,h4,h5,h6]
def nodeV (y:S53):Int:=if (oldS y.f0).2.2.2.2 = true then chk y.f1 y.f2 y.f3 (oldS y.f0).1 (oldS y.f0).2.1 (oldS y.f0).2.2.1 (oldS y.f0).2.2.2.1 else 9
def typedFrom:List (S53)→Nat→Int × Int
  | [],_ => (0,0)
  | y :: ys,i => if nodeV y = 0 then typedFrom ys (i+1) else (nodeV y,(i:Int))
theorem node_at {l0:List (S53)} {i:Nat} (h:i < l0.length):l0.drop i = rd_T53 l0 (i:Int) :: l0.drop (i+1):=by rw [List.drop_eq_getElem_cons h,rdT_get h]
theorem nodeV_cases (y:S53):nodeV y = 0 ∨ nodeV y = 9 ∨ nodeV y = 10 ∨ nodeV y = 11 ∨ nodeV y = 12:=by
  unfold nodeV
  split
  · rcases chk_cases y.f1 y.f2 y.f3 (oldS y.f0).1 (oldS y.f0).2.1 (oldS y.f0).2.2.1 (oldS y.f0).2.2.2.1 with h | h | h | h <;> simp [h]
  · simp
theorem typedFrom_cases:∀ (l:List (S53)) (i:Nat),(typedFrom l i).1 = 0 ∨ (typedFrom l i).1 = 9 ∨ (typedFrom l i).1 = 10 ∨ (typedFrom l i).1 = 11 ∨ (typedFrom l i).1 = 12
  | [],_ => .inl rfl
  | y :: ys,i => by
    unfold typedFrom
    split
    · exact typedFrom_cases ys (i+1)
    · exact nodeV_cases y
theorem typedFrom_zero:∀ (l:List (S53)) (i:Nat),(typedFrom l i).1 = 0↔∀ y ∈ l,nodeV y = 0
  | [],_ => by simp [typedFrom]
  | y :: ys,i => by
    unfold typedFrom
    split
    · rename_i h
      rw [typedFrom_zero ys (i+1)]
      simp [h]
    · rename_i h
      simp [h]
section
variable {l0:List (S53)}
theorem typed_l0 (hF:Fits l0) (hn:l0.length≤60) (k:Nat) (hk:1000≤k):∀ d i:Nat,i+d = l0.length→old_Typed.l0 (k+d+1) l0 (l0.length:Int) (i:Int) = some (typedFrom (l0.drop i) i):=by
  intro d
  induction d with
  | zero =>
    intro i hi
    rw [old_Typed.l0,if_neg (by omega),List.drop_of_length_le (by omega)];rfl
  | succ d ih =>
    intro i hi
    rw [show k+(d+1)+1 = (k+d+1)+1 by omega,old_Typed.l0,if_pos (by omega),if_pos (by omega),if_pos (by omega),new_code,Option.bind_some,node_at (by omega),typedFrom,nodeV]
    by_cases hb:(oldS (rd_T53 l0 (i:Int)).f0).2.2.2.2 = true
    · rw [if_pos hb,if_pos hb,fchk _ (by omega) _ _ _ _ _ (fits_get hF (by omega)),Option.bind_some,w64 (by omega) (by omega)]
      split
      · exact ih (i+1) (by omega)
      · rfl
    · rw [if_neg hb,if_neg hb,if_neg (by omega)]
theorem typed_ev (hF:Fits l0) (hn:l0.length≤60) (a1:Int):Ev (fun k => old_Typed.f k l0 a1) (typedFrom l0 0):=by
  refine ⟨1000+l0.length+1,fun k hk => ?_⟩
  have:=typed_l0 hF hn (k - l0.length - 1) (by omega) l0.length 0 (by omega)
  rw [show k - l0.length - 1+l0.length+1 = k by omega] at this
  show old_Typed.f k l0 a1 = _
  unfold old_Typed.f
  rw [if_pos (by omega)]
  exact this
end
def rB (b0 b1 b2 b3 b4:Int):Bool:=LimW.wB b0 b1 b2 b3 b4 16777216 16777216 16777216 16777216 16777216 && LimW.wB 0 0 0 0 0 b0 b1 b2 b3 b4
theorem wB_iff (x0 x1 x2 x3 x4 y0 y1 y2 y3 y4:Int):LimW.wB x0 x1 x2 x3 x4 y0 y1 y2 y3 y4 = true↔(x0≤y0∧x1≤y1∧x2≤y2∧x3≤y3∧x4≤y4):=by unfold LimW.wB;rw [decide_eq_true_eq]
theorem rB_iff (b0 b1 b2 b3 b4:Int):rB b0 b1 b2 b3 b4 = true↔(b0≤16777216∧b1≤16777216∧b2≤16777216∧b3≤16777216∧b4≤16777216)∧0≤b0∧0≤b1∧0≤b2∧0≤b3∧0≤b4:=by
  unfold rB
  rw [Bool.and_eq_true,wB_iff,wB_iff]
theorem within_code (x0 x1 x2 x3 x4 y0 y1 y2 y3 y4:Int):limit_Within.f x0 x1 x2 x3 x4 y0 y1 y2 y3 y4 = some (LimW.wB x0 x1 x2 x3 x4 y0 y1 y2 y3 y4):=rfl
theorem right_code (b0 b1 b2 b3 b4:Int):limit_Right.f b0 b1 b2 b3 b4 = some (rB b0 b1 b2 b3 b4):=by
  unfold limit_Right.f rB
  simp only [within_code,Option.bind_some]
  cases LimW.wB b0 b1 b2 b3 b4 16777216 16777216 16777216 16777216 16777216 <;> simp
theorem rwithin (x0 x1 x2 x3 x4 y0 y1 y2 y3 y4:Int):r12_Within.f x0 x1 x2 x3 x4 y0 y1 y2 y3 y4 = some (LimW.wB x0 x1 x2 x3 x4 y0 y1 y2 y3 y4):=by
  unfold r12_Within.f LimW.wB
  repeat' split
  all_goals (congr 1;rw [Bool.eq_iff_iff];simp;try omega)
theorem rright_l0 (x3:List Int) (h5:x3.length = 5) (k:Nat):∀ d i:Nat,i+d = 5→r12_Right.l0 (k+d+1) x3 (i:Int) = some ((x3.drop i).all fun v => decide (0≤v∧v≤16777216)):=by
  intro d
  induction d with
  | zero =>
    intro i hi
    rw [r12_Right.l0,if_neg (by omega),List.drop_of_length_le (by omega)];rfl
  | succ d ih =>
    intro i hi
    rw [show k+(d+1)+1 = (k+d+1)+1 by omega,r12_Right.l0,if_pos (by omega),if_pos (by omega),if_pos (by omega),num_at (by omega),List.all_cons,w64 (by omega) (by omega)]
    by_cases h1:rd x3 (i:Int) < 0
    · rw [if_pos h1,decide_eq_false (by omega)];rfl
    · by_cases h2:rd x3 (i:Int) > 16777216
      · rw [if_neg h1,if_pos h2,decide_eq_false (by omega)];rfl
      · rw [if_neg h1,if_neg h2,decide_eq_true (by omega),Bool.true_and]
        exact ih (i+1) (by omega)
theorem rright (k:Nat) (hk:6≤k) (b0 b1 b2 b3 b4:Int):r12_Right.f k b0 b1 b2 b3 b4 = some (rB b0 b1 b2 b3 b4):=by
  have:=rright_l0 [b0,b1,b2,b3,b4] rfl (k - 6) 5 0 rfl
  rw [show k - 6+5+1 = k by omega] at this
  refine this.trans ?_
  congr 1
  rw [Bool.eq_iff_iff,rB_iff]
  simp
  omega
theorem texts_bound:∀ (l:List (S53)),Fits l→(textsOf l).length≤100 * l.length∧((textsOf l).map ByteArray.size).sum≤50000 * l.length
  | [],_ => ⟨Nat.le_refl _,Nat.le_refl _⟩
  | y :: ys,h => by
    obtain ⟨h1,h2⟩:=texts_bound ys (fun z hz => h z (List.mem_cons_of_mem _ hz))
    have hy:=h y List.mem_cons_self
    have e:textsOf (y :: ys) = y.f2 ++ textsOf ys:=rfl
    have hs:∀ (l:List ByteArray),(∀ s ∈ l,s.size≤500)→(l.map ByteArray.size).sum≤500 * l.length:=by
      intro l
      induction l with
      | nil => intro _;exact Nat.le_refl _
      | cons a l ih =>
        intro h
        have:=ih (fun s hs => h s (List.mem_cons_of_mem _ hs))
        have:=h a List.mem_cons_self
        simp only [List.map_cons,List.sum_cons,List.length_cons]
        omega
    have h3:=hs y.f2 hy.s2
    have h4:=hy.n2
    rw [e,List.length_append,List.map_append,List.sum_append,List.length_cons]
    omega
theorem tb_small {l0:List (S53)} (hF:Fits l0) (hn:l0.length≤60):TBb l0 = true:=by
  obtain ⟨h1,h2⟩:=texts_bound l0 hF
  unfold TBb
  simp only [Bool.and_eq_true,decide_eq_true_eq]
  omega
def measD (l0:List (S53)) (a1:Int):Int:=if (checkP l0 a1).1 = 0 then (H l0 a1.toNat:Int) else 0
theorem meas_ev {l0:List (S53)} (hS:Small l0) (hF:Fits l0) (a1:Int):Ev (fun k => limit_Measure.f k l0 a1) (0,(l0.length:Int),(restK l0 0:Int),measD l0 a1,(textN l0:Int)):=by
  obtain ⟨K,h⟩:=ev_of (f:=fun k => graph_Depth.f k l0 a1) (gdepth l0 a1 (small_len hS) (small_sum hS))
  simp only at h
  refine ⟨K+l0.length+1,fun k hk => ?_⟩
  have e1:=gedges hS a1 (k - l0.length - 1)
  rw [show k - l0.length - 1+l0.length+1 = k by omega] at e1
  show limit_Measure.f k l0 a1 = _
  rw [limit_Measure.f,e1,Option.bind_some,h k (by omega),Option.bind_some,if_pos (tb_small hF hS.len)]
  rfl
def rStep (m:List ByteArray) (t:ByteArray):List ByteArray:=if t ∈ m then m else m ++ [t]
theorem toList_inj {a b:ByteArray}:a.toList = b.toList↔a = b:=by
  constructor
  · intro h
    rw [ByteArray.toList_eq,ByteArray.toList_eq] at h
    cases a;cases b
    simp only [Array.toList_inj] at h
    rw [h]
  · rintro rfl;rfl
def validP (l0:List (S53)) (a1 b0 b1 b2 b3 b4:Int):Int × Int :=
  if rB b0 b1 b2 b3 b4 = true then if (typedFrom l0 0).1 = 0 then if (checkP l0 a1).1 = 0 then if LimW.wB 0 (l0.length:Int) (restK l0 0:Int) (measD l0 a1) (textN l0:Int) b0 b1 b2 b3 b4 = true then (0,0) else (19,-1) else ((checkP l0 a1).1,(checkP l0 a1).2) else ((typedFrom l0 0).1,(typedFrom l0 0).2) else (1,-1)
theorem valid_ev {l0:List (S53)} (hS:Small l0) (hF:Fits l0) (a1:Int):∃ K,∀ k,K≤k→∀ b0 b1 b2 b3 b4,old_Valid.f k l0 a1 b0 b1 b2 b3 b4 = some (validP l0 a1 b0 b1 b2 b3 b4):=by
  obtain ⟨K1,h1⟩:=typed_ev hF hS.len a1
  obtain ⟨K2,h2⟩:=ev_of (f:=fun k => graph_Check.f k l0 a1) (gcheck l0 a1 (small_len hS) (small_sum hS))
  simp only at h2
  obtain ⟨K3,h3⟩:=meas_ev hS hF a1
  refine ⟨K1+K2+K3,fun k hk b0 b1 b2 b3 b4 => ?_⟩
  have e1:=h1 k (by omega)
  have e2:=h2 k (by omega)
  have e3:=h3 k (by omega)
  simp only at e1 e2 e3
  unfold validP
  rw [old_Valid.f,right_code,Option.bind_some,e1,Option.bind_some,e2,Option.bind_some,e3,Option.bind_some]
  simp only
  rw [within_code,Option.bind_some]
  repeat' split
  all_goals rfl
end Go.Proofs.YtcphcaiiofeflaaDoor.GO
namespace Go.Proofs.YtcphcaiiofeflaaDoor.GO
open Go.RowKit Go.Proofs.YtcphcaiiofeflaaDoorW.PrintWords Go.Proofs.YtcphcaiiofeflaaDoorW.PrintLast Go.Proofs.YtcphcaiiofeflaaDoorW.PrintMore
theorem awake16:∃ K,∀ k,K≤k→w16_awake.f k = some true:=⟨0,fun _ _ => rfl⟩
theorem great16 (l0:List (S53)) (a1:Int):∃ K b,(∀ k,K≤k→r09_Great.f k l0 a1 = some b)∧(b = false→Small l0∧Fits l0):=by
  obtain ⟨K,b,h1,h2⟩:=great9t l0 a1
  exact ⟨K,b,fun k hk => by have:=h1 (k - K);rwa [Nat.sub_add_cancel hk] at this,h2⟩
end Go.Proofs.YtcphcaiiofeflaaDoor.GO
namespace Go.Proofs.YtcphcaiiofeflaaDoor.GO
open Go.RowKit Go.Proofs.YtcphcaiiofeflaaDoorW.PrintWords Go.Proofs.YtcphcaiiofeflaaDoorW.PrintLast Go.Proofs.YtcphcaiiofeflaaDoorW.PrintMore
set_option linter.unusedVariables false
set_option linter.unusedSimpArgs false
section
variable {l0:List (S53)} {a1:Int}
theorem toG_len (l0:List (S53)):(GT.toG (kidsI l0)).length = l0.length:=by rw [GT.length_toG,kids_len]
def cl (l0:List (S53)) (a1:Int):List Nat:=GT.meetL (GT.toG (kidsI l0)) l0.length a1.toNat []
def tlOf (l0:List (S53)) (a1:Int):List Int:=(List.range l0.length).map fun x => (GT.find (cl l0 a1) x:Int)
def cNodes (l0:List (S53)) (a1:Int):List (S53):=(cl l0 a1).map fun x:Nat => renN (tlOf l0 a1) (rd_T53 l0 (x:Int))
theorem path_of (hall:∀ i,i < l0.length→i = a1.toNat ∨ GT.Led (GT.toG (kidsI l0)) a1.toNat i):∀ i,i < (GT.toG (kidsI l0)).length→GT.Path (GT.toG (kidsI l0)) a1.toNat i:=fun i hi => by
  rcases hall i (by rw [toG_len] at hi;exact hi) with h | ⟨k,hk,p⟩
  · rw [h];exact .refl _
  · exact .step hk p
theorem cn_of (hn:l0.length≤1000000) (hE:((kidsI l0).map List.length).sum≤1000000) (hc:(checkP l0 a1).1 = 0):GT.Cn (GT.toG (kidsI l0)) a1.toNat (cl l0 a1)∧ordOf l0 a1 = some (cl l0 a1):=by
  obtain ⟨h0,h1,hgood,hacy,hall⟩:=checkP_zero hE hc
  obtain ⟨K,out,ho,_⟩:=order_tells l0 a1 hgood hn hE
  have hW:=GT.wf_of_firstBad hgood
  have hfull:=ho.of_acyc hW hacy
  have hlen:=GT.length_of_all ho.nodup ho.lt hfull
  have hR:=ho.acyc (by omega)
  have hl:=toG_len l0
  have hr:a1.toNat < (GT.toG (kidsI l0)).length:=by omega
  have hf:GT.find out a1.toNat < l0.length:=by have:=GT.find_lt (hfull _ hr);omega
  refine ⟨GT.Cn.of_meet hR hf hW hr (path_of hall),?_⟩
  unfold ordOf cl
  exact GT.ordL_tells hR hW hr hf (by rw [GT.edges_toG];omega)
theorem tl_len (l0:List (S53)) (a1:Int):(tlOf l0 a1).length = l0.length:=by unfold tlOf;rw [List.length_map,List.length_range]
theorem tl_get {x:Nat} (hx:x < l0.length):(tlOf l0 a1).getD x 0 = (GT.find (cl l0 a1) x:Int):=by
  unfold tlOf
  rw [List.getD_eq_getElem?_getD,List.getElem?_map,List.getElem?_range hx]
  rfl
theorem nums_of (h:GT.Cn (GT.toG (kidsI l0)) a1.toNat (cl l0 a1)):numsAt l0.length (cl l0 a1) (cl l0 a1).length = tlOf l0 a1:=by
  have hl:=toG_len l0
  have key:∀ i,i≤l0.length→∀ j,j < i→(numsAt l0.length (cl l0 a1) i).getD ((cl l0 a1).getD j 0) 0 = (j:Int):=by
    intro i
    induction i with
    | zero => intro _ j hj;omega
    | succ i ih =>
      intro hi j hj
      have hlt:=h.get_lt (i:=i) (by omega)
      rw [numsAt,List.getD_eq_getElem?_getD,List.getElem?_set]
      by_cases e:j = i
      · subst e
        rw [if_pos rfl,if_pos (by rw [numsAt_len];omega)]
        rfl
      · have hne:¬ (cl l0 a1).getD i 0 = (cl l0 a1).getD j 0:=fun he => by
          have h1:=h.find_get (i:=i) (by omega)
          rw [he,h.find_get (i:=j) (by omega)] at h1
          exact e h1
        rw [if_neg hne,← List.getD_eq_getElem?_getD]
        exact ih (by omega) j (by omega)
  rw [h.len,hl]
  apply List.ext_getElem?
  intro x
  by_cases hx:x < l0.length
  · have h1:=key l0.length (Nat.le_refl _) (GT.find (cl l0 a1) x) (by have:=h.find_lt (x:=x) (by omega);omega)
    rw [h.get_find (by omega),List.getD_eq_getElem?_getD,List.getElem?_eq_getElem (by rw [numsAt_len];exact hx)] at h1
    have h2:=tl_get (a1:=a1) hx
    rw [List.getD_eq_getElem?_getD,List.getElem?_eq_getElem (by rw [tl_len];exact hx)] at h2
    rw [List.getElem?_eq_getElem (by rw [numsAt_len];exact hx),List.getElem?_eq_getElem (by rw [tl_len];exact hx)]
    exact congrArg some (Eq.trans h1 h2.symm)
  · rw [List.getElem?_eq_none (by rw [numsAt_len];omega),List.getElem?_eq_none (by rw [tl_len];omega)]
theorem gnumbers (hn:l0.length≤1000000) (hE:((kidsI l0).map List.length).sum≤1000000):∃ K,∀ k,canon_Numbers.f (k+K) l0 a1 = some (if (checkP l0 a1).1 = 0 then tlOf l0 a1 else []):=by
  obtain ⟨K,h1⟩:=gcheck l0 a1 hn hE
  refine ⟨K,fun k => ?_⟩
  rw [canon_Numbers.f,h1,Option.bind_some]
  by_cases hc:(checkP l0 a1).1 = 0
  · obtain ⟨h2,h3⟩:=cn_of hn hE hc
    have hl:=toG_len l0
    rw [if_pos hc,if_pos hc,h3,Option.bind_some,if_pos ⟨by rw [h2.len];omega,by
      rw [List.all_eq_true]
      intro x hx
      have:=h2.lt x hx
      simp
      omega⟩,nums_of h2]
  · rw [if_neg hc,if_neg hc]
theorem tl_bound (h:GT.Cn (GT.toG (kidsI l0)) a1.toNat (cl l0 a1)):∀ x ∈ tlOf l0 a1,0≤x∧x < (l0.length:Int):=by
  intro x hx
  unfold tlOf at hx
  obtain ⟨y,hy,rfl⟩:=List.mem_map.1 hx
  rw [List.mem_range] at hy
  have:=h.find_lt (x:=y) (by rw [toG_len];exact hy)
  rw [toG_len] at this
  omega
theorem cNodes_len (h:GT.Cn (GT.toG (kidsI l0)) a1.toNat (cl l0 a1)):(cNodes l0 a1).length = l0.length:=by unfold cNodes;rw [List.length_map,h.len,toG_len]
theorem cNodes_get (h:GT.Cn (GT.toG (kidsI l0)) a1.toNat (cl l0 a1)) {i:Nat} (hi:i < l0.length):rd_T53 (cNodes l0 a1) (i:Int) = renN (tlOf l0 a1) (rd_T53 l0 ((cl l0 a1).getD i 0:Int)):=by
  have hl:(cl l0 a1).length = l0.length:=by rw [h.len,toG_len]
  rw [rdT_get (by rw [cNodes_len h];exact hi)]
  unfold cNodes
  rw [List.getElem_map,List.getD_eq_getElem?_getD,List.getElem?_eq_getElem (by omega)]
  rfl
theorem canonAt_of (h:GT.Cn (GT.toG (kidsI l0)) a1.toNat (cl l0 a1)):canonAt l0 (tlOf l0 a1) l0.length = cNodes l0 a1:=by
  have hl:=toG_len l0
  have htn:∀ {i:Nat},i < l0.length→((tlOf l0 a1).getD i 0).toNat = GT.find (cl l0 a1) i:=fun hi => by rw [tl_get hi];rfl
  have key:∀ i,i≤l0.length→∀ j,j < i→(canonAt l0 (tlOf l0 a1) i)[GT.find (cl l0 a1) j]? = some (renN (tlOf l0 a1) (rd_T53 l0 (j:Int))):=by
    intro i
    induction i with
    | zero => intro _ j hj;omega
    | succ i ih =>
      intro hi j hj
      have hlt:=h.find_lt (x:=i) (by omega)
      rw [canonAt,htn (by omega),List.getElem?_set]
      by_cases e:j = i
      · subst e
        rw [if_pos rfl,if_pos (by rw [canonAt_len];omega)]
      · have hne:¬ GT.find (cl l0 a1) i = GT.find (cl l0 a1) j:=fun he => by
          have h1:=h.get_find (x:=i) (by omega)
          rw [he,h.get_find (x:=j) (by omega)] at h1
          exact e h1
        rw [if_neg hne]
        exact ih (by omega) j (by omega)
  apply List.ext_getElem?
  intro i
  by_cases hi:i < l0.length
  · have h1:=key l0.length (Nat.le_refl _) ((cl l0 a1).getD i 0) (by have:=h.get_lt (i:=i) (by omega);omega)
    rw [h.find_get (by omega)] at h1
    rw [h1]
    have h2:=cNodes_get h hi
    rw [rdT_get (by rw [cNodes_len h];exact hi)] at h2
    rw [List.getElem?_eq_getElem (by rw [cNodes_len h];exact hi),h2]
  · rw [List.getElem?_eq_none (by rw [canonAt_len];omega),List.getElem?_eq_none (by rw [cNodes_len h];omega)]
structure Mod (l0:List (S53)):Prop where
  len:l0.length≤1000000
  sum:((kidsI l0).map List.length).sum≤1000000
  one:∀ y ∈ l0,y.f1.length < 8796093022208∧y.f2.length < 8796093022208
theorem mod_of (hS:Small l0):Mod l0:=⟨small_len hS,small_sum hS,fun y hy => by
  obtain ⟨i,hi,rfl⟩:=List.getElem_of_mem hy
  have:=hS.one i hi
  rw [rdT_get hi] at this
  omega⟩
theorem gcanon (hM:Mod l0):∃ K,∀ k,canon_Canon.f (k+K) l0 a1 = some (if (checkP l0 a1).1 = 0 then (cNodes l0 a1,(l0.length:Int) - 1,0) else ([],0,(checkP l0 a1).1)):=by
  obtain ⟨K,h1⟩:=gcheck l0 a1 hM.len hM.sum
  obtain ⟨K2,h2⟩:=gnumbers (a1:=a1) hM.len hM.sum
  refine ⟨K+K2,fun k => ?_⟩
  have h1':=h1 (k+K2)
  have h2':=h2 (k+K)
  rw [show k+K2+K = k+(K+K2) by omega] at h1'
  rw [show k+K+K2 = k+(K+K2) by omega] at h2'
  rw [canon_Canon.f,h1',Option.bind_some,h2',Option.bind_some]
  by_cases hc:(checkP l0 a1).1 = 0
  · obtain ⟨h3,_⟩:=cn_of hM.len hM.sum hc
    rw [if_pos hc,if_pos hc,if_pos hc,if_pos ⟨tl_len l0 a1,by
      rw [List.all_eq_true]
      intro x hx
      simpa using tl_bound h3 x hx,by
      rw [List.all_eq_true]
      intro y hy
      simpa using hM.one y hy⟩,canonAt_of h3]
  · rw [if_neg hc,if_neg hc]
theorem kids_get (hgood:GT.firstBad (kidsI l0) = none) (i:Nat):(rd_T53 l0 (i:Int)).f3 = intsOf (GT.kids (GT.toG (kidsI l0)) i):=by
  have:=kids_ints hgood (i:Int)
  rw [Int.toNat_natCast] at this
  exact this.symm
theorem ren_kids (hgood:GT.firstBad (kidsI l0) = none) (i:Nat):(renN (tlOf l0 a1) (rd_T53 l0 (i:Int))).f3 = intsOf ((GT.kids (GT.toG (kidsI l0)) i).map (GT.find (cl l0 a1))):=by
  show (rd_T53 l0 (i:Int)).f3.map _ = _
  rw [kids_get hgood]
  unfold intsOf
  rw [List.map_map,List.map_map]
  refine List.map_congr_left (fun x hx => ?_)
  have hx:=GT.wf_of_firstBad hgood i x hx
  rw [toG_len] at hx
  exact tl_get hx
theorem kidsI_canon (hgood:GT.firstBad (kidsI l0) = none):kidsI (cNodes l0 a1) = (GT.canonG (GT.toG (kidsI l0)) (cl l0 a1)).map intsOf:=by
  unfold kidsI cNodes GT.canonG
  rw [List.map_map,List.map_map]
  refine List.map_congr_left (fun x hx => ?_)
  exact ren_kids hgood x
theorem toG_canon (hgood:GT.firstBad (kidsI l0) = none):GT.toG (kidsI (cNodes l0 a1)) = GT.canonG (GT.toG (kidsI l0)) (cl l0 a1):=by
  rw [kidsI_canon hgood]
  unfold GT.toG
  rw [List.map_map]
  conv => rhs;rw [← List.map_id (GT.canonG _ _)]
  refine List.map_congr_left (fun x _ => ?_)
  show (intsOf x).map Int.toNat = x
  unfold intsOf
  rw [List.map_map]
  conv => rhs;rw [← List.map_id x]
  exact List.map_congr_left (fun y _ => by simp)
theorem perm_sum {l l':List Nat} (h:l.Perm l'):l.sum = l'.sum:=by
  induction h with
  | nil => rfl
  | cons x _ ih => rw [List.sum_cons,List.sum_cons,ih]
  | swap x y l => simp only [List.sum_cons];omega
  | trans _ _ h1 h2 => exact h1.trans h2
theorem sum_canon (hgood:GT.firstBad (kidsI l0) = none) (h:GT.Cn (GT.toG (kidsI l0)) a1.toNat (cl l0 a1)):((kidsI (cNodes l0 a1)).map List.length).sum = ((kidsI l0).map List.length).sum:=by
  rw [kidsI_canon hgood]
  unfold GT.canonG
  rw [List.map_map,List.map_map]
  have e:(List.length ∘ intsOf) ∘ (fun x => (GT.kids (GT.toG (kidsI l0)) x).map (GT.find (cl l0 a1))) = fun x => (GT.kids (GT.toG (kidsI l0)) x).length:=by
    funext x
    simp [intsOf_len]
  rw [e,perm_sum (h.perm.map _),← GT.edges_toG,← GT.rest_none]
  unfold GT.rest
  rw [GT.restL_none]
theorem firstBad_of {K:List (List Int)} (h:∀ l ∈ K,∀ k ∈ l,0≤k∧k < (K.length:Int)):GT.firstBad K = none:=by
  unfold GT.firstBad
  rw [List.findIdx?_eq_none_iff]
  intro l hl
  rw [List.any_eq_false]
  intro k hk
  have:=h l hl k hk
  unfold GT.badKid
  simp
  omega
theorem good_canon (hgood:GT.firstBad (kidsI l0) = none) (h:GT.Cn (GT.toG (kidsI l0)) a1.toNat (cl l0 a1)):GT.firstBad (kidsI (cNodes l0 a1)) = none:=by
  refine firstBad_of (fun l hl k hk => ?_)
  rw [kids_len,cNodes_len h]
  rw [kidsI_canon hgood] at hl
  obtain ⟨x,hx,rfl⟩:=List.mem_map.1 hl
  unfold GT.canonG at hx
  obtain ⟨y,hy,rfl⟩:=List.mem_map.1 hx
  unfold intsOf at hk
  rw [List.map_map] at hk
  obtain ⟨z,hz,rfl⟩:=List.mem_map.1 hk
  have hzl:=GT.wf_of_firstBad hgood y z hz
  have:=h.find_lt hzl
  rw [toG_len] at this
  refine ⟨?_,?_⟩
  · show (0:Int)≤((GT.find (cl l0 a1) z:Nat):Int)
    omega
  · show ((GT.find (cl l0 a1) z:Nat):Int) < _
    omega
theorem check_canon (hM:Mod l0) (hc:(checkP l0 a1).1 = 0):checkP (cNodes l0 a1) ((l0.length:Int) - 1) = (0,0):=by
  obtain ⟨h0,h1,hgood,hacy,hall⟩:=checkP_zero hM.sum hc
  obtain ⟨h2,_⟩:=cn_of hM.len hM.sum hc
  have hl:=toG_len l0
  have hcl:=cNodes_len h2
  refine checkP_of (by rw [sum_canon hgood h2];exact hM.sum) (by omega) (by omega) (good_canon hgood h2) ?_ (fun i hi => ?_)
  · rw [toG_canon hgood]
    exact h2.rank.acyc
  · rw [toG_canon hgood,show ((l0.length:Int) - 1).toNat = (GT.toG (kidsI l0)).length - 1 by omega]
    exact (GT.led_or_path (h2.path (GT.wf_of_firstBad hgood) (by omega) (path_of hall) (j:=i) (by omega))).imp Eq.symm id
end
end Go.Proofs.YtcphcaiiofeflaaDoor.GO
namespace Go.Proofs.YtcphcaiiofeflaaDoor.GO
open Go.RowKit Go.Proofs.YtcphcaiiofeflaaDoorW.PrintWords Go.Proofs.YtcphcaiiofeflaaDoorW.PrintLast Go.Proofs.YtcphcaiiofeflaaDoorW.PrintMore
set_option linter.unusedVariables false
set_option linter.unusedSimpArgs false
theorem fold_tells:∀ (ts m:List ByteArray) (s:Nat),m.Nodup→s = (m.map ByteArray.size).sum→∃ m':List ByteArray,(ts.foldl tStep (m,s)).2 = (m'.map ByteArray.size).sum∧m'.Nodup∧∀ t,t ∈ m'↔t ∈ m ∨ t ∈ ts
  | [],m,s,hn,hs => ⟨m,hs,hn,fun t => by simp⟩
  | t :: ts,m,s,hn,hs => by
    simp only [List.foldl_cons]
    by_cases h:t ∈ m
    · rw [tStep_old h]
      obtain ⟨m',h1,h2,h3⟩:=fold_tells ts m s hn hs
      refine ⟨m',h1,h2,fun u => ?_⟩
      rw [h3 u,List.mem_cons]
      constructor
      · rintro (a | a)
        · exact .inl a
        · exact .inr (.inr a)
      · rintro (a | rfl | a)
        · exact .inl a
        · exact .inl h
        · exact .inr a
    · rw [tStep_new h]
      obtain ⟨m',h1,h2,h3⟩:=fold_tells ts (t :: m) (s+t.size) (List.nodup_cons.2 ⟨h,hn⟩) (by rw [List.map_cons,List.sum_cons,hs];omega)
      refine ⟨m',h1,h2,fun u => ?_⟩
      rw [h3 u,List.mem_cons,List.mem_cons]
      constructor
      · rintro ((a | a) | a)
        · exact .inr (.inl a)
        · exact .inl a
        · exact .inr (.inr a)
      · rintro (a | a | a)
        · exact .inl (.inr a)
        · exact .inl (.inl a)
        · exact .inr a
theorem textN_same {l m:List (S53)} (h:∀ t,t ∈ textsOf l↔t ∈ textsOf m):textN l = textN m:=by
  obtain ⟨p,h1,h2,h3⟩:=fold_tells (textsOf l) [] 0 List.nodup_nil rfl
  obtain ⟨q,g1,g2,g3⟩:=fold_tells (textsOf m) [] 0 List.nodup_nil rfl
  unfold textN
  rw [h1,g1]
  exact perm_sum (((List.perm_ext_iff_of_nodup h2 g2).2 (fun t => by rw [h3,g3];simp [h t])).map _)
theorem mem_texts {l:List (S53)} {t:ByteArray}:t ∈ textsOf l↔∃ y ∈ l,t ∈ y.f2:=by
  unfold textsOf
  rw [List.mem_flatMap]
section
variable {l0:List (S53)} {a1:Int}
theorem mem_node {y:S53}:y ∈ l0↔∃ x:Nat,x < l0.length∧y = rd_T53 l0 (x:Int):=by
  constructor
  · intro h
    obtain ⟨i,hi,rfl⟩:=List.getElem_of_mem h
    exact ⟨i,hi,(rdT_get hi).symm⟩
  · rintro ⟨x,hx,rfl⟩
    rw [rdT_get hx]
    exact List.getElem_mem _
theorem mem_canon (h:GT.Cn (GT.toG (kidsI l0)) a1.toNat (cl l0 a1)) {y:S53}:y ∈ cNodes l0 a1↔∃ z ∈ l0,y = renN (tlOf l0 a1) z:=by
  have hl:=toG_len l0
  unfold cNodes
  rw [List.mem_map]
  constructor
  · rintro ⟨x,hx,rfl⟩
    have:=h.lt x hx
    exact ⟨_,mem_node.2 ⟨x,by omega,rfl⟩,rfl⟩
  · rintro ⟨z,hz,rfl⟩
    obtain ⟨x,hx,rfl⟩:=mem_node.1 hz
    exact ⟨x,h.all x (by omega),rfl⟩
theorem renN_len (tl:List Int) (y:S53):(renN tl y).f3.length = y.f3.length:=by unfold renN;simp
theorem fits_canon (h:GT.Cn (GT.toG (kidsI l0)) a1.toNat (cl l0 a1)) (hF:Fits l0):Fits (cNodes l0 a1):=by
  intro y hy
  obtain ⟨z,hz,rfl⟩:=(mem_canon h).1 hy
  obtain ⟨h1,h2,h3,h4⟩:=hF z hz
  exact ⟨h1,h2,by rw [renN_len];exact h3,h4⟩
theorem small_canon (h:GT.Cn (GT.toG (kidsI l0)) a1.toNat (cl l0 a1)) (hgood:GT.firstBad (kidsI l0) = none) (hS:Small l0):Small (cNodes l0 a1):=by
  refine ⟨by rw [cNodes_len h];exact hS.len,fun i hi => ?_,?_⟩
  · have hl:=toG_len l0
    rw [cNodes_len h] at hi
    rw [cNodes_get h hi,renN_len]
    exact hS.one _ (by have:=h.get_lt (i:=i) (by omega);omega)
  · have:=hS.sum
    unfold restK at this ⊢
    rw [List.drop_zero] at this ⊢
    rw [sum_canon hgood h]
    exact this
theorem text_canon (h:GT.Cn (GT.toG (kidsI l0)) a1.toNat (cl l0 a1)):textN (cNodes l0 a1) = textN l0:=by
  refine textN_same (fun t => ?_)
  rw [mem_texts,mem_texts]
  constructor
  · rintro ⟨y,hy,ht⟩
    obtain ⟨z,hz,rfl⟩:=(mem_canon h).1 hy
    exact ⟨z,hz,ht⟩
  · rintro ⟨z,hz,ht⟩
    exact ⟨_,(mem_canon h).2 ⟨z,hz,rfl⟩,ht⟩
theorem nodeV_ren (tl:List Int) (y:S53):nodeV (renN tl y) = nodeV y:=by
  unfold nodeV
  rw [show (renN tl y).f0 = y.f0 from rfl,show (renN tl y).f1 = y.f1 from rfl,show (renN tl y).f2 = y.f2 from rfl,chk_kids _ _ _ _ _ _ _ _ (renN_len tl y)]
theorem typed_canon (h:GT.Cn (GT.toG (kidsI l0)) a1.toNat (cl l0 a1)):(typedFrom (cNodes l0 a1) 0).1 = 0↔(typedFrom l0 0).1 = 0:=by
  rw [typedFrom_zero,typedFrom_zero]
  constructor
  · intro g z hz
    rw [← nodeV_ren (tlOf l0 a1)]
    exact g _ ((mem_canon h).2 ⟨z,hz,rfl⟩)
  · intro g y hy
    obtain ⟨z,hz,rfl⟩:=(mem_canon h).1 hy
    rw [nodeV_ren]
    exact g z hz
theorem H_canon (h:GT.Cn (GT.toG (kidsI l0)) a1.toNat (cl l0 a1)) (hgood:GT.firstBad (kidsI l0) = none) (g0:0≤a1) (g1:a1 < (l0.length:Int)):H (cNodes l0 a1) ((l0.length:Int) - 1).toNat = H l0 a1.toNat:=by
  have hgl:=toG_len l0
  have hr:=h.ren.ht (GT.wf_of_firstBad hgood) l0.length a1.toNat (by omega)
  rw [h.find_root (by omega)] at hr
  unfold H
  rw [toG_canon hgood,cNodes_len h,show ((l0.length:Int) - 1).toNat = (GT.toG (kidsI l0)).length - 1 by omega,hr]
theorem restK_canon (h:GT.Cn (GT.toG (kidsI l0)) a1.toNat (cl l0 a1)) (hgood:GT.firstBad (kidsI l0) = none):restK (cNodes l0 a1) 0 = restK l0 0:=by
  unfold restK
  rw [List.drop_zero,List.drop_zero,sum_canon hgood h]
end
end Go.Proofs.YtcphcaiiofeflaaDoor.GO
namespace Go.Proofs.YtcphcaiiofeflaaDoor.GO
open Go.RowKit Go.Proofs.YtcphcaiiofeflaaDoorW.PrintWords Go.Proofs.YtcphcaiiofeflaaDoorW.PrintLast Go.Proofs.YtcphcaiiofeflaaDoorW.PrintMore
set_option linter.unusedVariables false
set_option linter.unusedSimpArgs false
def gk (n:Nat) (k:Int):Int:=wrap64 ((n:Int) - 1 - k)
def gN (n:Nat) (y:S53):S53:=⟨y.f0,y.f1,y.f2,y.f3.map (gk n)⟩
def turnL (l0:List (S53)):List (S53):=l0.reverse.map (gN l0.length)
theorem turn_len (l0:List (S53)):(turnL l0).length = l0.length:=by unfold turnL;simp
theorem turn_kids (l0:List (S53)):kidsI (turnL l0) = (kidsI l0).reverse.map (·.map (gk l0.length)):=by
  unfold kidsI turnL
  rw [List.map_map,← List.map_reverse,List.map_map]
  rfl
theorem gk_bad {n:Nat} (hn:n≤60) {k:Int} (h1:-9223372036854775808≤k) (h2:k≤9223372036854775807):(0≤gk n k∧gk n k < n)↔(0≤k∧k < n):=by unfold gk wrap64;omega
theorem gk_good {n:Nat} (hn:n≤60) {k:Int} (h1:0≤k) (h2:k < n):gk n k = n - 1 - k:=by unfold gk wrap64;omega
theorem good_iff (K:List (List Int)):GT.firstBad K = none↔∀ l ∈ K,∀ k ∈ l,0≤k∧k < (K.length:Int):=by
  unfold GT.firstBad
  rw [List.findIdx?_eq_none_iff]
  refine forall_congr' fun l => forall_congr' fun _ => ?_
  rw [List.any_eq_false]
  refine forall_congr' fun k => forall_congr' fun _ => ?_
  rw [Bool.not_eq_true,bad_in2]
where bad_in2 {n:Nat} {v:Int}:GT.badKid n v = false↔0≤v∧v < n:=by unfold GT.badKid;simp
theorem turn_sum (l0:List (S53)):((kidsI (turnL l0)).map List.length).sum = ((kidsI l0).map List.length).sum:=by
  rw [turn_kids,List.map_map,List.map_reverse,List.sum_reverse]
  congr 1
  exact List.map_congr_left (fun l _ => by simp)
theorem turn_ren {l0:List (S53)} (hn:l0.length≤60) (hgood:GT.firstBad (kidsI l0) = none):GT.Ren (GT.toG (kidsI l0)) (GT.toG (kidsI (turnL l0))) (fun i => l0.length - 1 - i):=by
  have hGl:(GT.toG (kidsI l0)).length = l0.length:=by rw [GT.length_toG,kids_len]
  refine ⟨by rw [GT.length_toG,kids_len,turn_len,hGl],fun i hi => by omega,fun i j hi hj h => by omega,fun i hi => ?_⟩
  have hi2:i < (kidsI l0).length:=by rw [kids_len];omega
  rw [GT.kids_toG,GT.kids_toG,turn_kids,List.map_map]
  have hrow:((kidsI l0).reverse.map (·.map (gk l0.length))).getD (l0.length - 1 - i) [] = ((kidsI l0).getD i []).map (gk l0.length):=by
    rw [List.getD_eq_getElem?_getD,List.getElem?_map,List.getElem?_reverse (by rw [kids_len];omega),kids_len,show l0.length - 1 - (l0.length - 1 - i) = i by omega,List.getElem?_eq_getElem hi2,List.getD_eq_getElem?_getD,List.getElem?_eq_getElem hi2]
    rfl
  rw [hrow,List.map_map]
  refine List.map_congr_left fun k hk => ?_
  have h:=GT.good_of_firstBad hgood hk
  rw [kids_len] at h
  show (gk l0.length k).toNat = l0.length - 1 - k.toNat
  rw [gk_good hn h.1 h.2]
  omega
theorem ren_back {G G':List (List Nat)} {n:Nat} (h:GT.Ren G G' (fun i => n - 1 - i)) (hn:G.length = n) (hW:GT.Wf G):GT.Ren G' G (fun i => n - 1 - i):=by
  have hl:=h.len
  refine ⟨h.len.symm,fun i hi => by omega,fun i j hi hj e => by omega,fun i hi => ?_⟩
  have h2:=h.kids (n - 1 - i) (by omega)
  rw [show n - 1 - (n - 1 - i) = i by omega] at h2
  rw [h2,List.map_map]
  conv => lhs;rw [← List.map_id (GT.kids G (n - 1 - i))]
  refine List.map_congr_left fun k hk => ?_
  have:=hW _ _ hk
  show k = n - 1 - (n - 1 - k)
  omega
theorem ren_led {G G':List (List Nat)} {s:Nat→Nat} (h:GT.Ren G G' s) (hW:GT.Wf G) {x y:Nat} (hx:x < G.length) (p:GT.Led G x y):GT.Led G' (s x) (s y):=by
  obtain ⟨k,hk,q⟩:=p
  exact ⟨s k,by rw [h.kids x hx];exact List.mem_map.2 ⟨k,hk,rfl⟩,h.path hW (hW x k hk) q⟩
theorem cyc_none {l0:List (S53)} (hgood:GT.firstBad (kidsI l0) = none) (hE:((kidsI l0).map List.length).sum≤1000000):GT.firstCyc (GT.toG (kidsI l0)) = none↔∀ i,i < l0.length→¬ GT.Led (GT.toG (kidsI l0)) i i:=by
  have hGl:(GT.toG (kidsI l0)).length = l0.length:=by rw [GT.length_toG,kids_len]
  constructor
  · intro h i hi hl
    have:=GT.scan_none h i (by omega) (by omega)
    rw [(cycAt_led hgood hE hi).2 hl] at this
    cases this
  · intro h
    cases hc:GT.firstCyc (GT.toG (kidsI l0)) with
    | none => rfl
    | some i =>
      obtain ⟨_,h2,h3,_⟩:=GT.scan_some hc
      exact absurd ((cycAt_led hgood hE (by omega)).1 h3) (h i (by omega))
theorem loose_none {l0:List (S53)} (hgood:GT.firstBad (kidsI l0) = none) (hE:((kidsI l0).map List.length).sum≤1000000) {r:Nat} (hr:r < l0.length):GT.firstLoose (GT.toG (kidsI l0)) r = none↔∀ i,i < l0.length→i = r ∨ GT.Led (GT.toG (kidsI l0)) r i:=by
  have hGl:(GT.toG (kidsI l0)).length = l0.length:=by rw [GT.length_toG,kids_len]
  constructor
  · intro h i hi
    have:=GT.scan_none h i (by omega) (by omega)
    apply Classical.byContradiction
    intro hn
    rw [(looseAt_led hgood hE hr i).2 hn] at this
    cases this
  · intro h
    cases hc:GT.firstLoose (GT.toG (kidsI l0)) r with
    | none => rfl
    | some i =>
      obtain ⟨_,h2,h3,_⟩:=GT.scan_some hc
      exact absurd (h i (by omega)) ((looseAt_led hgood hE hr i).1 h3)
theorem turn_wf {l0:List (S53)} (hn:l0.length≤60) (hk:∀ x ∈ l0,∀ z ∈ x.f3,-9223372036854775808≤z∧z≤9223372036854775807):GT.firstBad (kidsI (turnL l0)) = none↔GT.firstBad (kidsI l0) = none:=by
  rw [good_iff,good_iff,turn_kids,List.length_map,List.length_reverse,kids_len]
  have hb:∀ l ∈ kidsI l0,∀ k ∈ l,(0≤gk l0.length k∧gk l0.length k < l0.length)↔(0≤k∧k < (l0.length:Int)):=by
    intro l hl k hkl
    obtain ⟨x,hx,rfl⟩:=List.mem_map.1 hl
    exact gk_bad hn (hk x hx k hkl).1 (hk x hx k hkl).2
  constructor
  · intro h l hl k hkl
    exact (hb l hl k hkl).1 (h _ (List.mem_map.2 ⟨l,List.mem_reverse.2 hl,rfl⟩) _ (List.mem_map.2 ⟨k,hkl,rfl⟩))
  · intro h l hl k hkl
    obtain ⟨l',hl',rfl⟩:=List.mem_map.1 hl
    obtain ⟨k',hk',rfl⟩:=List.mem_map.1 hkl
    rw [List.mem_reverse] at hl'
    exact (hb l' hl' k' hk').2 (h l' hl' k' hk')
theorem turn_code {l0:List (S53)} (hn:l0.length≤60) (hE:((kidsI l0).map List.length).sum≤1000000) (hk:∀ x ∈ l0,∀ z ∈ x.f3,-9223372036854775808≤z∧z≤9223372036854775807) {a1:Int} (ha:-9223372036854775808≤a1∧a1≤9223372036854775807) :
    (checkP (turnL l0) (gk l0.length a1)).1 = (checkP l0 a1).1∧((checkP l0 a1).1 = 0→H (turnL l0) (gk l0.length a1).toNat = H l0 a1.toNat):=by
  have hGl:(GT.toG (kidsI l0)).length = l0.length:=by rw [GT.length_toG,kids_len]
  have hbad:=gk_bad hn ha.1 ha.2
  have hwf:=turn_wf hn hk
  unfold checkP
  rw [turn_len]
  by_cases hr:a1 < 0 ∨ (l0.length:Int)≤a1
  · have hr2:gk l0.length a1 < 0 ∨ (l0.length:Int)≤gk l0.length a1:=by
      rcases Int.lt_or_le (gk l0.length a1) 0 with h | h
      · exact .inl h
      · rcases Int.lt_or_le (gk l0.length a1) l0.length with h2 | h2
        · have:=hbad.1 ⟨h,h2⟩;omega
        · exact .inr h2
    rw [if_pos hr,if_pos hr2]
    exact ⟨rfl,fun h => by simp at h⟩
  · have hg:=gk_good hn (k:=a1) (by omega) (by omega)
    rw [if_neg hr,if_neg (by omega)]
    cases hb:GT.firstBad (kidsI l0) with
    | some i =>
      cases hb2:GT.firstBad (kidsI (turnL l0)) with
      | none => rw [hwf.1 hb2] at hb;cases hb
      | some j => exact ⟨rfl,fun h => by simp at h⟩
    | none =>
      have hb2:=hwf.2 hb
      have hW:=GT.wf_of_firstBad hb
      have hW2:=GT.wf_of_firstBad hb2
      have hR:=turn_ren hn hb
      have hR2:=ren_back hR hGl hW
      have hGl2:=hR.len
      have hE2:((kidsI (turnL l0)).map List.length).sum≤1000000:=by rw [turn_sum];exact hE
      have hc1:=cyc_none hb hE
      have hc2:=cyc_none hb2 hE2
      have hl1:=loose_none hb hE (r:=a1.toNat) (by omega)
      have hl2:=loose_none hb2 hE2 (r:=(gk l0.length a1).toNat) (by rw [turn_len];omega)
      rw [turn_len] at hc2 hl2
      have hrt:(gk l0.length a1).toNat = l0.length - 1 - a1.toNat:=by rw [hg];omega
      have hcc:GT.firstCyc (GT.toG (kidsI (turnL l0))) = none↔GT.firstCyc (GT.toG (kidsI l0)) = none:=by
        rw [hc1,hc2]
        constructor
        · intro h i hi hl
          exact h (l0.length - 1 - i) (by omega) (ren_led hR hW (by omega) hl)
        · intro h i hi hl
          exact h (l0.length - 1 - i) (by omega) (ren_led hR2 hW2 (by omega) hl)
      have hll:GT.firstLoose (GT.toG (kidsI (turnL l0))) (gk l0.length a1).toNat = none↔GT.firstLoose (GT.toG (kidsI l0)) a1.toNat = none:=by
        rw [hl1,hl2,hrt]
        constructor
        · intro h i hi
          rcases h (l0.length - 1 - i) (by omega) with e | e
          · exact .inl (by omega)
          · have:=ren_led hR2 hW2 (by omega) e
            rw [show l0.length - 1 - (l0.length - 1 - a1.toNat) = a1.toNat by omega,show l0.length - 1 - (l0.length - 1 - i) = i by omega] at this
            exact .inr this
        · intro h i hi
          rcases h (l0.length - 1 - i) (by omega) with e | e
          · exact .inl (by omega)
          · have:=ren_led hR hW (by omega) e
            rw [show l0.length - 1 - (l0.length - 1 - i) = i by omega] at this
            exact .inr this
      rw [hb2]
      simp only
      cases h1:GT.firstCyc (GT.toG (kidsI l0)) with
      | some i =>
        cases h2:GT.firstCyc (GT.toG (kidsI (turnL l0))) with
        | none => rw [hcc.1 h2] at h1;cases h1
        | some j => exact ⟨rfl,fun h => by simp at h⟩
      | none =>
        rw [hcc.2 h1]
        simp only
        cases h3:GT.firstLoose (GT.toG (kidsI l0)) a1.toNat with
        | some i =>
          cases h4:GT.firstLoose (GT.toG (kidsI (turnL l0))) (gk l0.length a1).toNat with
          | none => rw [hll.1 h4] at h3;cases h3
          | some j => exact ⟨rfl,fun h => by simp at h⟩
        | none =>
          rw [hll.2 h3]
          refine ⟨rfl,fun _ => ?_⟩
          unfold H
          rw [hrt,turn_len]
          exact hR.ht hW l0.length a1.toNat (by omega)
theorem turn_restK (l0:List (S53)):restK (turnL l0) 0 = restK l0 0:=by
  unfold restK
  rw [List.drop_zero,List.drop_zero,turn_sum]
end Go.Proofs.YtcphcaiiofeflaaDoor.GO
namespace Go.Proofs.YtcphcaiiofeflaaDoor.GO
open Go.RowKit Go.Proofs.YtcphcaiiofeflaaDoorW.PrintWords Go.Proofs.YtcphcaiiofeflaaDoorW.PrintLast Go.Proofs.YtcphcaiiofeflaaDoorW.PrintMore
set_option linter.unusedVariables false
set_option linter.unusedSimpArgs false
section
variable {l0:List (S53)} {a1:Int}
end
end Go.Proofs.YtcphcaiiofeflaaDoor.GO
namespace Go.Proofs.YtcphcaiiofeflaaDoor.GO
open Go.RowKit Go.Proofs.YtcphcaiiofeflaaDoorW.PrintWords Go.Proofs.YtcphcaiiofeflaaDoorW.PrintLast Go.Proofs.YtcphcaiiofeflaaDoorW.PrintMore
set_option linter.unusedVariables false
set_option linter.unusedSimpArgs false
section
variable {l0:List (S53)} {a1:Int}
end
end Go.Proofs.YtcphcaiiofeflaaDoor.GO
namespace Go.Proofs.YtcphcaiiofeflaaDoor.GO
open Go.RowKit Go.Proofs.YtcphcaiiofeflaaDoorW.PrintWords Go.Proofs.YtcphcaiiofeflaaDoorW.PrintLast Go.Proofs.YtcphcaiiofeflaaDoorW.PrintMore
set_option linter.unusedVariables false
set_option linter.unusedSimpArgs false
section
variable {l0:List (S53)} {a1:Int}
theorem turn_get {l:List (S53)} {i:Nat} (hi:i < l.length):rd_T53 (turnL l) ((l.length - 1 - i:Nat):Int) = gN l.length (rd_T53 l (i:Int)):=by
  rw [rdT_get (by rw [turn_len];omega),rdT_get hi]
  unfold turnL
  rw [List.getElem_map,List.getElem_reverse]
  congr 1
  congr 1
  omega
theorem kids_in {l:List (S53)} (hg:GT.firstBad (kidsI l) = none) {y:S53} (hy:y ∈ l) {k:Int} (hk:k ∈ y.f3):0≤k∧k < (l.length:Int):=by
  have:=(good_iff _).1 hg y.f3 (List.mem_map_of_mem hy) k hk
  rwa [kids_len] at this
theorem flat_turn {C:List (S53)} (hn:C.length≤60) (hg:GT.firstBad (kidsI C) = none):flatN C = turnL C:=by
  unfold flatN turnL
  rw [← List.map_reverse]
  refine List.map_congr_left fun y hy => ?_
  rw [List.mem_reverse] at hy
  unfold turnK gN
  congr 1
  refine List.map_congr_left fun k hk => ?_
  obtain ⟨h1,h2⟩:=kids_in hg hy hk
  rw [gk_good hn h1 h2]
theorem fits_turn {C:List (S53)} (hF:Fits C):Fits (turnL C):=by
  intro y hy
  unfold turnL at hy
  obtain ⟨z,hz,rfl⟩:=List.mem_map.1 hy
  obtain ⟨h1,h2,h3,h4⟩:=hF z (List.mem_reverse.1 hz)
  exact ⟨h1,h2,by show (z.f3.map _).length≤300;rw [List.length_map];exact h3,h4⟩
theorem small_turn {C:List (S53)} (hS:Small C):Small (turnL C):=by
  refine ⟨by rw [turn_len];exact hS.len,fun i hi => ?_,by rw [turn_restK];exact hS.sum⟩
  rw [turn_len] at hi
  have h:=turn_get (l:=C) (i:=C.length - 1 - i) (by omega)
  rw [show C.length - 1 - (C.length - 1 - i) = i by omega] at h
  rw [h]
  have:=hS.one (C.length - 1 - i) (by omega)
  simpa [gN] using this
theorem text_turn (C:List (S53)):textN (turnL C) = textN C:=by
  refine textN_same (fun t => ?_)
  rw [mem_texts,mem_texts]
  constructor
  · rintro ⟨y,hy,ht⟩
    unfold turnL at hy
    obtain ⟨z,hz,rfl⟩:=List.mem_map.1 hy
    exact ⟨z,List.mem_reverse.1 hz,ht⟩
  · rintro ⟨z,hz,ht⟩
    exact ⟨gN C.length z,List.mem_map.2 ⟨z,List.mem_reverse.2 hz,rfl⟩,ht⟩
theorem nodeV_turn (n:Nat) (y:S53):nodeV (gN n y) = nodeV y:=by
  unfold nodeV
  rw [show (gN n y).f0 = y.f0 from rfl,show (gN n y).f1 = y.f1 from rfl,show (gN n y).f2 = y.f2 from rfl,chk_kids _ _ (gN n y).f3 y.f3 _ _ _ _ (by show (y.f3.map _).length = _;rw [List.length_map])]
theorem typed_turn (C:List (S53)):(typedFrom (turnL C) 0).1 = 0↔(typedFrom C 0).1 = 0:=by
  rw [typedFrom_zero,typedFrom_zero]
  constructor
  · intro g z hz
    rw [← nodeV_turn C.length]
    exact g _ (List.mem_map.2 ⟨z,List.mem_reverse.2 hz,rfl⟩)
  · intro g y hy
    unfold turnL at hy
    obtain ⟨z,hz,rfl⟩:=List.mem_map.1 hy
    rw [nodeV_turn]
    exact g z (List.mem_reverse.1 hz)
def flatS (l0:List (S53)) (a1:Int):List (S53):=turnL (cNodes l0 a1)
theorem flatS_len (h:GT.Cn (GT.toG (kidsI l0)) a1.toNat (cl l0 a1)):(flatS l0 a1).length = l0.length:=by unfold flatS;rw [turn_len,cNodes_len h]
structure FlatOk (l0:List (S53)) (a1:Int):Prop where
  pos:1≤l0.length
  cn:GT.Cn (GT.toG (kidsI l0)) a1.toNat (cl l0 a1)
  good:GT.firstBad (kidsI l0) = none
  goodC:GT.firstBad (kidsI (cNodes l0 a1)) = none
  smallC:Small (cNodes l0 a1)
  root:gk (cNodes l0 a1).length ((l0.length:Int) - 1) = 0
  code:(checkP (flatS l0 a1) 0).1 = 0
  high:H (flatS l0 a1) 0 = H l0 a1.toNat
  small:Small (flatS l0 a1)
theorem flat_ok (hS:Small l0) (hc:(checkP l0 a1).1 = 0):FlatOk l0 a1:=by
  have hM:=mod_of hS
  obtain ⟨g0,g1,hgood,_,_⟩:=checkP_zero hM.sum hc
  obtain ⟨h5,_⟩:=cn_of hM.len hM.sum hc
  have hgC:=good_canon hgood h5
  have hSC:=small_canon h5 hgood hS
  have hcl:=cNodes_len h5
  have hcc:=check_canon hM hc
  have hr:gk (cNodes l0 a1).length ((l0.length:Int) - 1) = 0:=by
    rw [hcl,gk_good (by have:=hS.len;omega) (by omega) (by omega)];omega
  obtain ⟨t1,t2⟩:=turn_code (l0:=cNodes l0 a1) (a1:=(l0.length:Int) - 1) hSC.len (small_sum hSC) (fun x hx z hz => by have:=kids_in hgC hx hz;have:=hSC.len;omega) (by have:=hS.len;omega)
  rw [hr] at t1 t2
  have hc0:(checkP (cNodes l0 a1) ((l0.length:Int) - 1)).1 = 0:=by rw [hcc]
  refine ⟨by omega,h5,hgood,hgC,hSC,hr,t1.trans hc0,?_,small_turn hSC⟩
  have:=t2 hc0
  rw [show ((0:Int)).toNat = 0 from rfl] at this
  unfold flatS
  rw [this,H_canon h5 hgood g0 g1]
theorem gflat (hS:Small l0):Ev (fun k => old_Flat.f k l0 a1) (if (checkP l0 a1).1 = 0 then (flatS l0 a1,0,0) else ([],0,(checkP l0 a1).1)):=by
  obtain ⟨K,h⟩:=ev_of (f:=fun k => canon_Canon.f k l0 a1) (gcanon (a1:=a1) (mod_of hS))
  simp only at h
  refine ⟨K,fun k hk => ?_⟩
  show old_Flat.f k l0 a1 = _
  unfold old_Flat.f
  rw [h k hk,Option.bind_some]
  by_cases hc:(checkP l0 a1).1 = 0
  · have hf:=flat_ok hS hc
    have hcl:=cNodes_len hf.cn
    rw [if_pos hc,if_pos hc]
    simp only
    have hall:((cNodes l0 a1).all fun y => decide (y.f3.length≤1000000∧∀ x ∈ y.f3,-1000000000≤x∧x≤1000000000)) = true:=by
      refine List.all_eq_true.2 fun y hy => decide_eq_true ⟨?_,fun x hx => ?_⟩
      · obtain ⟨i,hi,rfl⟩:=List.getElem_of_mem hy
        have:=(hf.smallC.one i hi).2.2
        rw [rdT_get hi] at this
        omega
      · have:=kids_in hf.goodC hy hx
        have:=hf.smallC.len
        omega
    rw [if_pos trivial,if_pos ⟨by have:=hf.pos;omega,by have:=hS.len;omega,hall⟩,flat_turn (by have:=hS.len;omega) hf.goodC]
    rfl
  · rw [if_neg hc,if_neg hc]
    simp only
    rw [if_neg hc]
def fwdFrom:List (S53)→Nat→Bool
  | [],_ => true
  | y :: ys,i => (y.f3.all fun k => decide ((i:Int) < k)) && fwdFrom ys (i+1)
theorem fwd_iff:∀ (l:List (S53)) (i:Nat),fwdFrom l i = true↔∀ (j:Nat) y,l[j]? = some y→∀ k ∈ y.f3,((i+j:Nat):Int) < k
  | [],i => by simp [fwdFrom]
  | y :: ys,i => by
    rw [fwdFrom,Bool.and_eq_true,fwd_iff ys (i+1),List.all_eq_true]
    constructor
    · rintro ⟨h1,h2⟩ j z hz k hk
      cases j with
      | zero =>
        simp only [List.getElem?_cons_zero,Option.some.injEq] at hz
        subst hz
        have:=of_decide_eq_true (h1 k hk)
        omega
      | succ j =>
        rw [List.getElem?_cons_succ] at hz
        have:=h2 j z hz k hk
        omega
    · intro h
      refine ⟨fun k hk => decide_eq_true (by have:=h 0 y rfl k hk;omega),fun j z hz k hk => ?_⟩
      have:=h (j+1) z (by rw [List.getElem?_cons_succ];exact hz) k hk
      omega
def isF (l0:List (S53)) (a1:Int):Bool:=decide ((checkP l0 a1).1 = 0∧a1 = 0) && fwdFrom l0 0
end
end Go.Proofs.YtcphcaiiofeflaaDoor.GO
namespace Go.Proofs.YtcphcaiiofeflaaDoor.GO
open Go.RowKit Go.Proofs.YtcphcaiiofeflaaDoorW.PrintWords Go.Proofs.YtcphcaiiofeflaaDoorW.PrintLast Go.Proofs.YtcphcaiiofeflaaDoorW.PrintMore
set_option linter.unusedVariables false
set_option linter.unusedSimpArgs false
theorem oldmeasure_true (l0:List (S53)) (a1 b0 b1 b2 b3 b4:Int):∃ k,w16_OldMeasure.f k l0 a1 b0 b1 b2 b3 b4 = some true:=by
  obtain ⟨Kw,hw⟩:=awake16
  obtain ⟨K,b,h1,h2⟩:=great16 l0 a1
  cases b with
  | true =>
    refine ⟨Kw+K+1,?_⟩
    rw [w16_OldMeasure.f,hw _ (by omega),Option.bind_some,if_pos rfl,h1 _ (by omega),Option.bind_some,if_pos rfl,w16_OldMeasure.j0,if_pos rfl,hw _ (by omega)]
    rfl
  | false =>
    obtain ⟨hS,hF⟩:=h2 rfl
    obtain ⟨K4,h6⟩:=ev_of (f:=fun k => r09_Check.f k l0 a1) (rcheck l0 a1 (small_len hS) (small_sum hS))
    simp only at h6
    by_cases hc:(checkP l0 a1).1 = 0
    · have hf:=flat_ok hS hc
      have hFF:Fits (flatS l0 a1):=fits_turn (fits_canon hf.cn hF)
      have hM:=mod_of hS
      obtain ⟨K1,h3⟩:=gflat (a1:=a1) hS
      obtain ⟨K2,h4⟩:=valid_ev hS hF a1
      obtain ⟨K3,h5⟩:=valid_ev hf.small hFF 0
      obtain ⟨K5,h7⟩:=meas_ev hS hF a1
      obtain ⟨K6,h8⟩:=meas_ev hf.small hFF 0
      obtain ⟨K7,h9⟩:=ev_of (f:=fun k => graph_Depth.f k l0 a1) (gdepth l0 a1 hM.len hM.sum)
      obtain ⟨K8,h10⟩:=ev_of (f:=fun k => graph_Depth.f k (flatS l0 a1) 0) (gdepth (flatS l0 a1) 0 (small_len hf.small) (small_sum hf.small))
      simp only at h3 h7 h8 h9 h10
      rw [if_pos hc] at h3 h9
      rw [if_pos hf.code,show (0:Int).toNat = 0 from rfl,hf.high] at h10
      have hfl:=flatS_len hf.cn
      have hrest:restK (flatS l0 a1) 0 = restK l0 0:=by unfold flatS;rw [turn_restK,restK_canon hf.cn hf.good]
      have htext:textN (flatS l0 a1) = textN l0:=by unfold flatS;rw [text_turn,text_canon hf.cn]
      have hdeep:measD (flatS l0 a1) 0 = measD l0 a1:=by unfold measD;rw [if_pos hf.code,if_pos hc,show (0:Int).toNat = 0 from rfl,hf.high]
      have htyped:(typedFrom (flatS l0 a1) 0).1 = 0↔(typedFrom l0 0).1 = 0:=by unfold flatS;rw [typed_turn,typed_canon hf.cn]
      have hval:((validP l0 a1 b0 b1 b2 b3 b4).1 == 0) = ((validP (flatS l0 a1) 0 b0 b1 b2 b3 b4).1 == 0):=by
        unfold validP
        rw [hfl,hrest,htext,hdeep,if_pos hc,if_pos hf.code]
        by_cases hr:rB b0 b1 b2 b3 b4 = true
        · rw [if_pos hr,if_pos hr]
          by_cases ht:(typedFrom l0 0).1 = 0
          · rw [if_pos ht,if_pos (htyped.2 ht)]
          · rw [if_neg ht,if_neg (fun h => ht (htyped.1 h))]
            rw [Bool.eq_iff_iff]
            simp [ht,htyped]
        · rw [if_neg hr,if_neg hr]
      rw [hfl,hrest,htext,hdeep] at h8
      refine ⟨(Kw+K+K1+K2+K3+K4+K5+K6+K7+K8)+1,?_⟩
      rw [w16_OldMeasure.f,hw _ (by omega),Option.bind_some,if_pos rfl,h1 _ (by omega),Option.bind_some,if_neg (by simp),r09_Right.f,h6 _ (by omega),Option.bind_some,hc,Option.bind_some,w16_OldMeasure.j0,if_neg (by simp),h3 _ (by omega),Option.bind_some,h4 _ (by omega),Option.bind_some]
      simp only
      rw [h5 _ (by omega),Option.bind_some,if_pos trivial,h8 _ (by omega),Option.bind_some,h7 _ (by omega),Option.bind_some,if_pos (by simp),h10 _ (by omega),Option.bind_some,h9 _ (by omega),Option.bind_some,if_pos rfl,hval]
      simp
    · refine ⟨(Kw+K+K4)+1,?_⟩
      rw [w16_OldMeasure.f,hw _ (by omega),Option.bind_some,if_pos rfl,h1 _ (by omega),Option.bind_some,if_neg (by simp),r09_Right.f,h6 _ (by omega),Option.bind_some,Option.bind_some,w16_OldMeasure.j0,if_pos (by simpa using hc),hw _ (by omega)]
      rfl
end Go.Proofs.YtcphcaiiofeflaaDoor.GO
