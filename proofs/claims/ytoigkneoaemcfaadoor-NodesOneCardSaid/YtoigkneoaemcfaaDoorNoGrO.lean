import Derived.Test.YtoigkneoaemcfaaDoorNoGNx4
import Derived.Test.YtoigkneoaemcfaaDoorNoGU
namespace Go.Proofs.YtoigkneoaemcfaaDoor.GN
open Go.RowKit Go.Proofs.YtoigkneoaemcfaaDoorW.PrintWords Go.Proofs.YtoigkneoaemcfaaDoorW.PrintLast Go.Proofs.YtoigkneoaemcfaaDoorW.PrintMore
set_option linter.unusedVariables false
set_option linter.unusedSimpArgs false
theorem w64 {n:Int} (h:-9223372036854775808≤n) (h2:n≤9223372036854775807):wrap64 n = n:=by unfold wrap64;omega
theorem rdL_eq (xs:List (List Int)) (i:Int):rd_L2 xs i = xs.getD i.toNat []:=rfl
theorem rd_nat (xs:List Int) (i:Nat):rd xs (i:Int) = xs.getD i 0:=by unfold rd;rw [Int.toNat_natCast]
theorem getD_set_self {α:Type} (xs:List α) (i:Nat) (v d:α) (h:i < xs.length):(xs.set i v).getD i d = v:=by
  rw [List.getD_eq_getElem?_getD,List.getElem?_set_self h];rfl
theorem getD_set_other {α:Type} (xs:List α) (i j:Nat) (v d:α) (h:j≠i):(xs.set i v).getD j d = xs.getD j d:=by
  rw [List.getD_eq_getElem?_getD,List.getElem?_set_ne (Ne.symm h),List.getD_eq_getElem?_getD]
theorem intsOf_append (a b:List Nat):intsOf (a ++ b) = intsOf a ++ intsOf b:=by unfold intsOf;rw [List.map_append]
theorem intsOf_get (l:List Nat) (i:Nat) (h:i < l.length):rd (intsOf l) (i:Int) = ((l.getD i 0:Nat):Int):=by
  rw [rd_nat]
  unfold intsOf
  rw [List.getD_eq_getElem?_getD,List.getElem?_map,List.getD_eq_getElem?_getD,List.getElem?_eq_getElem h]
  rfl
theorem kid_ints {l0:List (S40)} (hgood:GT.firstBad (kidsI l0) = none) (i:Nat):(rd_T40 l0 (i:Int)).f3 = intsOf (GT.kids (GT.toG (kidsI l0)) i):=by
  have:=kids_ints hgood (i:Int)
  rw [Int.toNat_natCast] at this
  exact this.symm
section
variable (l0:List (S40)) (G:List (List Nat)) (n E:Nat)
def P1 (i t:Nat) (x3:List (List Int)):Prop :=
  x3.length = n∧∀ k,k < n→∃ row:List Nat,x3.getD k [] = intsOf row∧(∀ z ∈ row,z < n) ∧
    (∀ j,row.count j = if j < i then (GT.kids G j).count k else if j = i then ((GT.kids G i).take t).count k else 0)∧row.length+GT.esum G i≤E+t
def Q4 (i:Nat) (x4:List Int):Prop:=x4.length = n∧∀ j,j < n→x4.getD j 0 = if j < i then ((GT.kids G j).length:Int) else 0
def Q5 (i:Nat) (out:List Nat):Prop:=out.Nodup∧∀ j,j ∈ out↔j < i∧GT.kids G j = []
end
theorem P1.tell {G:List (List Nat)} {n E i t:Nat} {x3:List (List Int)} (h:P1 G n E i t x3) (hi:i < n) (ht:t < (GT.kids G i).length) (hk:(GT.kids G i).getD t 0 < n) :
    P1 G n E i (t+1) (x3.set ((GT.kids G i).getD t 0) (x3.getD ((GT.kids G i).getD t 0) [] ++ [(i:Int)])):=by
  have htk:(GT.kids G i).take (t+1) = (GT.kids G i).take t ++ [(GT.kids G i).getD t 0]:=by
    rw [List.take_succ_eq_append_getElem ht,List.getD_eq_getElem?_getD,List.getElem?_eq_getElem ht];rfl
  generalize (GT.kids G i).getD t 0 = q at *
  obtain ⟨hl,h⟩:=h
  refine ⟨by rw [List.length_set];exact hl,fun k hkn => ?_⟩
  obtain ⟨row,h1,h2,h3,h4⟩:=h k hkn
  by_cases e:k = q
  · subst e
    refine ⟨row ++ [i],?_,?_,?_,?_⟩
    · rw [getD_set_self _ _ _ _ (by omega),h1,intsOf_append];rfl
    · intro z hz
      rcases List.mem_append.1 hz with hz | hz
      · exact h2 z hz
      · rw [List.mem_singleton] at hz;omega
    · intro j
      rw [List.count_append,h3 j,htk,List.count_append]
      by_cases hj:j < i
      · have:j≠i:=by omega
        simp [hj,List.count_singleton,Ne.symm this]
      · by_cases hj2:j = i
        · subst hj2;simp
        · simp [hj,hj2,List.count_singleton,Ne.symm hj2]
    · rw [List.length_append,List.length_singleton];omega
  · refine ⟨row,?_,h2,?_,by omega⟩
    · rw [getD_set_other _ _ _ _ _ e,h1]
    · intro j
      rw [h3 j,htk,List.count_append,List.count_singleton]
      simp [Ne.symm e]
theorem P1.next {G:List (List Nat)} {n E i:Nat} {x3:List (List Int)} (hG:G.length = n) (h:P1 G n E i (GT.kids G i).length x3) (hi:i < n):P1 G n E (i+1) 0 x3:=by
  obtain ⟨hl,h⟩:=h
  refine ⟨hl,fun k hk => ?_⟩
  obtain ⟨row,h1,h2,h3,h4⟩:=h k hk
  refine ⟨row,h1,h2,fun j => ?_,?_⟩
  · rw [h3 j,List.take_length,List.take_zero]
    by_cases hj:j < i
    · rw [if_pos hj,if_pos (by omega)]
    · by_cases hj2:j = i
      · subst hj2;rw [if_neg hj,if_pos rfl,if_pos (by omega)]
      · rw [if_neg hj,if_neg hj2,if_neg (by omega)];simp
  · have:=GT.esum_step (G:=G) (i:=i) (by omega)
    omega
theorem order_l1 {l0:List (S40)} {E:Nat} (hgood:GT.firstBad (kidsI l0) = none) (hn:l0.length≤1000000) (hE:E≤1000000) (hEd:GT.edges (GT.toG (kidsI l0))≤E) {i:Nat} (hi:i < l0.length) (x4:List Int) (hx4:x4.length = l0.length) (out:List Nat) (hout:out.length≤1000000) :
    ∀ (e t:Nat) (x3:List (List Int)),t+e = (GT.kids (GT.toG (kidsI l0)) i).length→P1 (GT.toG (kidsI l0)) l0.length E i t x3 →
    ∃ x3',P1 (GT.toG (kidsI l0)) l0.length E i (GT.kids (GT.toG (kidsI l0)) i).length x3'∧∀ k,graph_order.l1 (k+e+1) x3 x4 (intsOf out) i l0 l0.length i ((rd_T40 l0 (i:Int)).f3) ((rd_T40 l0 (i:Int)).f3).length t =
      (if rd x4 i = 0 then graph_order.l0 k x3' x4 (intsOf (out ++ [i])) l0 l0.length ((i+1:Nat):Int) else graph_order.l0 k x3' x4 (intsOf out) l0 l0.length ((i+1:Nat):Int)):=by
  have hW:=GT.wf_of_firstBad hgood
  have hGl:(GT.toG (kidsI l0)).length = l0.length:=by rw [GT.length_toG,kids_len]
  rw [kid_ints hgood i,intsOf_len]
  intro e
  induction e with
  | zero =>
    intro t x3 ht h
    refine ⟨x3,by rw [← ht];exact h,fun k => ?_⟩
    rw [graph_order.l1,if_neg (by omega),if_pos (by omega),if_pos (by omega),w64 (by omega) (by omega),intsOf_append,if_pos (show (intsOf out).length < 17592186044416 by rw [intsOf_len];omega)]
    rfl
  | succ e ih =>
    intro t x3 ht h
    have htl:t < (GT.kids (GT.toG (kidsI l0)) i).length:=by omega
    have hm:(GT.kids (GT.toG (kidsI l0)) i).getD t 0 ∈ GT.kids (GT.toG (kidsI l0)) i:=by
      rw [List.getD_eq_getElem?_getD,List.getElem?_eq_getElem htl]
      exact List.getElem_mem htl
    have hkn:(GT.kids (GT.toG (kidsI l0)) i).getD t 0 < l0.length:=by have:=hW i _ hm;omega
    obtain ⟨row,r1,r2,r3,r4⟩:=h.2 _ hkn
    obtain ⟨x3',p1,p2⟩:=ih (t+1) _ (by omega) (h.tell hi htl hkn)
    refine ⟨x3',p1,fun k => ?_⟩
    rw [show k+(e+1)+1 = (k+e+1)+1 by omega,graph_order.l1,if_pos (by omega),if_pos (by omega),if_pos (by rw [intsOf_len];omega),intsOf_get _ t htl,if_pos (by omega),if_pos (by rw [h.1];omega),rdL_eq,Int.toNat_natCast]
    have hE2:=GT.esum_step (G:=GT.toG (kidsI l0)) (i:=i) (by omega)
    have hE3:=GT.rest_kid (G:=GT.toG (kidsI l0)) (i:=i) (by omega)
    rw [if_pos (by rw [r1,intsOf_len];omega),w64 (by omega) (by omega)]
    exact p2 k
theorem order_l0 {l0:List (S40)} {E:Nat} (hgood:GT.firstBad (kidsI l0) = none) (hn:l0.length≤1000000) (hE:E≤1000000) (hEd:GT.edges (GT.toG (kidsI l0))≤E) :
    ∀ (d i:Nat) (x3:List (List Int)) (x4:List Int) (out:List Nat),i+d = l0.length→P1 (GT.toG (kidsI l0)) l0.length E i 0 x3→Q4 (GT.toG (kidsI l0)) l0.length i x4→Q5 (GT.toG (kidsI l0)) i out →
    ∃ K x3' x4' out',P1 (GT.toG (kidsI l0)) l0.length E l0.length 0 x3'∧Q4 (GT.toG (kidsI l0)) l0.length l0.length x4'∧Q5 (GT.toG (kidsI l0)) l0.length out' ∧
      ∀ k,graph_order.l0 (k+K) x3 x4 (intsOf out) l0 l0.length i = graph_order.l2 k x3' x4' (intsOf out') 0:=by
  have hGl:(GT.toG (kidsI l0)).length = l0.length:=by rw [GT.length_toG,kids_len]
  intro d
  induction d with
  | zero =>
    intro i x3 x4 out hi h3 h4 h5
    obtain rfl:i = l0.length:=by omega
    refine ⟨1,x3,x4,out,h3,h4,h5,fun k => ?_⟩
    rw [graph_order.l0,if_neg (by omega)]
  | succ d ih =>
    intro i x3 x4 out hi h3 h4 h5
    have hil:i < l0.length:=by omega
    have hlout:out.length≤1000000:=by
      have:=GT.length_le_of_nodup (n:=l0.length) h5.1 (fun x hx => by have:=((h5.2 x).1 hx).1;omega)
      omega
    obtain ⟨x3',p1,p2⟩:=order_l1 (l0:=l0) (E:=E) hgood hn hE hEd hil (x4.set i ((GT.kids (GT.toG (kidsI l0)) i).length:Int)) (by rw [List.length_set];exact h4.1) out hlout (GT.kids (GT.toG (kidsI l0)) i).length 0 x3 (by omega) h3
    have h4':Q4 (GT.toG (kidsI l0)) l0.length (i+1) (x4.set i ((GT.kids (GT.toG (kidsI l0)) i).length:Int)):=by
      refine ⟨by rw [List.length_set];exact h4.1,fun j hj => ?_⟩
      by_cases e:j = i
      · subst e;rw [getD_set_self _ _ _ _ (by rw [h4.1];exact hj),if_pos (by omega)]
      · rw [getD_set_other _ _ _ _ _ e,h4.2 j hj]
        by_cases hji:j < i
        · rw [if_pos hji,if_pos (by omega)]
        · rw [if_neg hji,if_neg (by omega)]
    have hrd:rd (x4.set i ((GT.kids (GT.toG (kidsI l0)) i).length:Int)) (i:Int) = ((GT.kids (GT.toG (kidsI l0)) i).length:Int):=by rw [rd_nat,getD_set_self _ _ _ _ (by rw [h4.1];exact hil)]
    have hstep:∀ k,graph_order.l0 (k+1) x3 x4 (intsOf out) l0 l0.length i = graph_order.l1 k x3 (x4.set i ((GT.kids (GT.toG (kidsI l0)) i).length:Int)) (intsOf out) i l0 l0.length i ((rd_T40 l0 (i:Int)).f3) ((rd_T40 l0 (i:Int)).f3).length ((0:Nat):Int):=by
      intro k
      rw [graph_order.l0,if_pos (by omega),if_pos (by omega),if_pos (by omega),if_pos (by rw [h4.1];omega),Int.toNat_natCast]
      have:(((rd_T40 l0 (i:Int)).f3).length:Int) = ((GT.kids (GT.toG (kidsI l0)) i).length:Int):=by rw [kid_ints hgood i,intsOf_len]
      rw [this]
      rfl
    by_cases hz:GT.kids (GT.toG (kidsI l0)) i = []
    · have h5':Q5 (GT.toG (kidsI l0)) (i+1) (out ++ [i]):=by
        refine ⟨?_,fun j => ?_⟩
        · rw [List.nodup_append]
          refine ⟨h5.1,by simp,fun a ha b hb => ?_⟩
          rw [List.mem_singleton] at hb
          rintro rfl
          have:=((h5.2 a).1 ha).1
          omega
        · rw [List.mem_append,h5.2,List.mem_singleton]
          constructor
          · rintro (⟨h1,h2⟩ | rfl)
            · exact ⟨by omega,h2⟩
            · exact ⟨by omega,hz⟩
          · rintro ⟨h1,h2⟩
            by_cases e:j = i
            · exact .inr e
            · exact .inl ⟨by omega,h2⟩
      obtain ⟨K,y3,y4,yo,q1,q2,q3,q4⟩:=ih (i+1) x3' _ (out ++ [i]) (by omega) (p1.next hGl hil) h4' h5'
      refine ⟨K+(GT.kids (GT.toG (kidsI l0)) i).length+1+1,y3,y4,yo,q1,q2,q3,fun k => ?_⟩
      rw [show k+(K+(GT.kids (GT.toG (kidsI l0)) i).length+1+1) = ((k+K)+(GT.kids (GT.toG (kidsI l0)) i).length+1)+1 by omega,hstep,p2,hrd,if_pos (by rw [hz];rfl)]
      exact q4 k
    · have h5':Q5 (GT.toG (kidsI l0)) (i+1) out:=by
        refine ⟨h5.1,fun j => ?_⟩
        rw [h5.2]
        constructor
        · rintro ⟨h1,h2⟩;exact ⟨by omega,h2⟩
        · rintro ⟨h1,h2⟩
          by_cases e:j = i
          · subst e;exact absurd h2 hz
          · exact ⟨by omega,h2⟩
      obtain ⟨K,y3,y4,yo,q1,q2,q3,q4⟩:=ih (i+1) x3' _ out (by omega) (p1.next hGl hil) h4' h5'
      refine ⟨K+(GT.kids (GT.toG (kidsI l0)) i).length+1+1,y3,y4,yo,q1,q2,q3,fun k => ?_⟩
      have hnz:¬ ((GT.kids (GT.toG (kidsI l0)) i).length:Int) = 0:=by
        intro e
        exact hz (List.eq_nil_of_length_eq_zero (by omega))
      rw [show k+(K+(GT.kids (GT.toG (kidsI l0)) i).length+1+1) = ((k+K)+(GT.kids (GT.toG (kidsI l0)) i).length+1)+1 by omega,hstep,p2,hrd,if_neg hnz]
      exact q4 k
theorem order_l3 {G:List (List Nat)} {n E i:Nat} (hGl:G.length = n) (hn:n≤1000000) (hE:E≤1000000) (hEd:GT.edges G≤E) (x3:List (List Int)) (row:List Nat) (hrow:∀ z ∈ row,z < n) (hrl:row.length≤E) :
    ∀ (e t:Nat) (x4:List Int) (out:List Nat),t+e = row.length→x4.length = n→i < out.length→GT.KInv G (out.take (i+1)) (row.drop t) (fun j => x4.getD j 0) out →
    ∃ x4' out',x4'.length = n∧i < out'.length∧GT.KInv G (out'.take (i+1)) [] (fun j => x4'.getD j 0) out' ∧
      ∀ k,graph_order.l3 (k+e+1) x3 x4 (intsOf out) i (intsOf row) row.length t = graph_order.l2 k x3 x4' (intsOf out') ((i+1:Nat):Int):=by
  intro e
  induction e with
  | zero =>
    intro t x4 out ht h4 hi h
    refine ⟨x4,out,h4,hi,?_,fun k => ?_⟩
    · rw [List.drop_of_length_le (by omega)] at h;exact h
    · have hol:=GT.length_le_of_nodup h.nodup h.lt
      rw [graph_order.l3,if_neg (by omega),w64 (by omega) (by omega)]
      rfl
  | succ e ih =>
    intro t x4 out ht h4 hi h
    have htl:t < row.length:=by omega
    have hd:row.drop t = row.getD t 0 :: row.drop (t+1):=by
      rw [List.drop_eq_getElem_cons htl,List.getD_eq_getElem?_getD,List.getElem?_eq_getElem htl];rfl
    have hq:row.getD t 0 < n:=hrow _ (by rw [List.getD_eq_getElem?_getD,List.getElem?_eq_getElem htl];exact List.getElem_mem htl)
    have hol:=GT.length_le_of_nodup h.nodup h.lt
    have hrd:=intsOf_get row t htl
    have hc:=h.cnt (row.getD t 0) (by omega)
    have hc1:((GT.kids G (row.getD t 0)).countP fun y => decide (y ∉ out.take (i+1)))≤(GT.kids G (row.getD t 0)).length:=List.countP_le_length
    have hc2:(row.drop t).count (row.getD t 0)≤(row.drop t).length:=List.count_le_length
    have hc3:=GT.rest_kid (G:=G) (i:=row.getD t 0) (by omega)
    have hc4:0 < (row.drop t).count (row.getD t 0):=by rw [hd];exact List.count_pos_iff.2 (List.mem_cons_self ..)
    rw [List.length_drop] at hc2
    rw [hd] at h
    generalize row.getD t 0 = q at *
    have hx4q:rd x4 (q:Int) = x4.getD q 0:=rd_nat x4 q
    have hset:(x4.set q (x4.getD q 0 - 1)).length = n:=by rw [List.length_set];exact h4
    have hrd2:rd (x4.set q (x4.getD q 0 - 1)) (q:Int) = x4.getD q 0 - 1:=by rw [rd_nat,getD_set_self _ _ _ _ (by omega)]
    have hstep:=h.tell (op':=fun j => (x4.set q (x4.getD q 0 - 1)).getD j 0) (by omega) (getD_set_self _ _ _ _ (by omega)) (fun j hj => getD_set_other _ _ _ _ _ hj)
    have hhead:∀ k,graph_order.l3 (k+(e+1)+1) x3 x4 (intsOf out) i (intsOf row) row.length t =
        (if x4.getD q 0 - 1 = 0 then graph_order.l3 (k+e+1) x3 (x4.set q (x4.getD q 0 - 1)) (intsOf (out ++ [q])) i (intsOf row) row.length ((t+1:Nat):Int) else graph_order.l3 (k+e+1) x3 (x4.set q (x4.getD q 0 - 1)) (intsOf out) i (intsOf row) row.length ((t+1:Nat):Int)):=by
      intro k
      rw [show k+(e+1)+1 = (k+e+1)+1 by omega,graph_order.l3,if_pos (by omega),if_pos (by omega),if_pos (by rw [intsOf_len];omega),hrd,if_pos (by omega),if_pos (by rw [h4];omega),hx4q,Int.toNat_natCast,w64 (n:=x4.getD q 0 - 1) (by omega) (by omega),Option.bind_some,hrd2,w64 (n:=(t:Int)+1) (by omega) (by omega),if_pos (show (intsOf out).length < 17592186044416 by rw [intsOf_len];omega),intsOf_append]
      rfl
    by_cases hz:x4.getD q 0 - 1 = 0
    · have h2:=hstep.1 (by rw [getD_set_self _ _ _ _ (by omega)];exact hz)
      have htk:(out ++ [q]).take (i+1) = out.take (i+1):=List.take_append_of_le_length (by omega)
      obtain ⟨y4,yo,p1,p2,p3,p4⟩:=ih (t+1) _ (out ++ [q]) (by omega) hset (by rw [List.length_append];omega) (by rw [htk];exact h2)
      refine ⟨y4,yo,p1,p2,p3,fun k => ?_⟩
      rw [hhead,if_pos hz]
      exact p4 k
    · have h2:=hstep.2 (by rw [getD_set_self _ _ _ _ (by omega)];exact hz)
      obtain ⟨y4,yo,p1,p2,p3,p4⟩:=ih (t+1) _ out (by omega) hset hi h2
      refine ⟨y4,yo,p1,p2,p3,fun k => ?_⟩
      rw [hhead,if_neg hz]
      exact p4 k
theorem order_l2 {G:List (List Nat)} {n E:Nat} (hGl:G.length = n) (hn:n≤1000000) (hE:E≤1000000) (hEd:GT.edges G≤E) (x3:List (List Int)) (h3:P1 G n E n 0 x3) :
    ∀ (d i:Nat) (x4:List Int) (out:List Nat),n≤i+d→i≤out.length→x4.length = n→GT.KInv G (out.take i) [] (fun j => x4.getD j 0) out →
    ∃ K out',GT.Ord G out'∧∀ k,graph_order.l2 (k+K) x3 x4 (intsOf out) i = some (intsOf out'):=by
  have hdone:∀ (i:Nat) (x4:List Int) (out:List Nat),i = out.length→GT.KInv G (out.take i) [] (fun j => x4.getD j 0) out→∃ K out',GT.Ord G out'∧∀ k,graph_order.l2 (k+K) x3 x4 (intsOf out) i = some (intsOf out'):=by
    intro i x4 out hi h
    rw [hi,List.take_length] at h
    refine ⟨1,out,⟨h.lt,h.nodup,h.post,fun j hj hk => h.done hj hk⟩,fun k => ?_⟩
    rw [graph_order.l2,if_neg (by rw [intsOf_len];omega)]
  intro d
  induction d with
  | zero =>
    intro i x4 out hi hio h4 h
    have hol:=GT.length_le_of_nodup h.nodup h.lt
    exact hdone i x4 out (by omega) h
  | succ d ih =>
    intro i x4 out hi hio h4 h
    have hol:=GT.length_le_of_nodup h.nodup h.lt
    by_cases hil:i < out.length
    · have hm:out.getD i 0 ∈ out:=by rw [List.getD_eq_getElem?_getD,List.getElem?_eq_getElem hil];exact List.getElem_mem hil
      have hx:out.getD i 0 < n:=by have:=h.lt _ hm;omega
      obtain ⟨row,r1,r2,r3,r4⟩:=h3.2 _ hx
      have hcount:∀ j,j < G.length→row.count j = (GT.kids G j).count (out.getD i 0):=fun j hj => by rw [r3 j,if_pos (by omega)]
      have h2:=h.next hil hcount
      obtain ⟨y4,yo,p1,p2,p3,p4⟩:=order_l3 (i:=i) hGl hn hE hEd x3 row r2 (by omega) row.length 0 x4 out (by omega) h4 hil (by rw [List.drop_zero];exact h2)
      obtain ⟨K,o2,q1,q2⟩:=ih (i+1) y4 yo (by omega) (by omega) p1 p3
      refine ⟨K+row.length+1+1,o2,q1,fun k => ?_⟩
      have hrd:=intsOf_get out i hil
      rw [show k+(K+row.length+1+1) = ((k+K)+row.length+1)+1 by omega,graph_order.l2,if_pos (by rw [intsOf_len];omega),if_pos (by omega),hrd,if_pos (by omega),if_pos (by rw [h3.1];omega),rdL_eq,Int.toNat_natCast,r1,intsOf_len]
      exact (p4 (k+K)).trans (q2 k)
    · exact hdone i x4 out (by omega) h
theorem order_tells (l0:List (S40)) (a1:Int) (hgood:GT.firstBad (kidsI l0) = none) (hn:l0.length≤1000000) (hE:((kidsI l0).map List.length).sum≤1000000) :
    ∃ K out,GT.Ord (GT.toG (kidsI l0)) out∧∀ k,graph_order.f (k+K) l0 a1 = some (intsOf out):=by
  have hGl:(GT.toG (kidsI l0)).length = l0.length:=by rw [GT.length_toG,kids_len]
  have hW:=GT.wf_of_firstBad hgood
  have hEd:GT.edges (GT.toG (kidsI l0)) = ((kidsI l0).map List.length).sum:=GT.edges_toG _
  have hrep:∀ (d:List Int) (k:Nat),(List.replicate l0.length ([]:List Int)).getD k d = if k < l0.length then [] else d:=by
    intro d k
    rw [List.getD_eq_getElem?_getD,List.getElem?_replicate]
    split <;> rfl
  have h3:P1 (GT.toG (kidsI l0)) l0.length (GT.edges (GT.toG (kidsI l0))) 0 0 (List.replicate l0.length []):=by
    refine ⟨List.length_replicate,fun k hk => ⟨[],?_,(fun z hz => by cases hz),fun j => ?_,?_⟩⟩
    · rw [hrep,if_pos hk];rfl
    · by_cases hj:j = 0
      · rw [if_neg (by omega),if_pos hj];simp
      · rw [if_neg (by omega),if_neg hj];simp
    · rw [GT.esum_zero];simp
  have h4:Q4 (GT.toG (kidsI l0)) l0.length 0 (List.replicate l0.length (0:Int)):=by
    refine ⟨List.length_replicate,fun j hj => ?_⟩
    rw [List.getD_eq_getElem?_getD,List.getElem?_replicate,if_pos hj,if_neg (by omega)]
    rfl
  have h5:Q5 (GT.toG (kidsI l0)) 0 []:=⟨List.nodup_nil,fun j => ⟨(fun h => by cases h),fun h => absurd h.1 (by omega)⟩⟩
  obtain ⟨K,x3,x4,out,p3,p4,p5,hrun⟩:=order_l0 (l0:=l0) (E:=GT.edges (GT.toG (kidsI l0))) hgood hn (by omega) (Nat.le_refl _) l0.length 0 _ _ [] (by omega) h3 h4 h5
  have hK:GT.KInv (GT.toG (kidsI l0)) (out.take 0) [] (fun j => x4.getD j 0) out:=by
    refine ⟨(fun j hj => by have:=((p5.2 j).1 hj).1;omega),p5.1,(fun j hj => by rw [List.take_zero] at hj;cases hj),fun j hj => ?_,fun j hj => ?_,?_⟩
    · rw [p4.2 j (by omega),if_pos (by omega)]
      have:(GT.kids (GT.toG (kidsI l0)) j).countP (fun y => decide (y ∉ out.take 0)) = (GT.kids (GT.toG (kidsI l0)) j).length:=by
        rw [List.countP_eq_length]
        intro a _
        simp
      rw [this]
      simp
    · rw [p5.2,p4.2 j (by omega),if_pos (by omega)]
      constructor
      · rintro ⟨_,h⟩;rw [h];rfl
      · intro h;exact ⟨by omega,List.eq_nil_of_length_eq_zero (by omega)⟩
    · intro a x b hl k hk
      have:=(p5.2 x).1 (by rw [hl];simp)
      rw [this.2] at hk
      cases hk
  obtain ⟨K2,o2,q1,q2⟩:=order_l2 hGl hn (by omega) (Nat.le_refl _) x3 p3 l0.length 0 x4 out (by omega) (by omega) p4.1 hK
  refine ⟨K2+K,o2,q1,fun k => ?_⟩
  rw [graph_order.f,if_pos (by omega),Int.toNat_natCast,if_pos (by omega),if_pos (by omega),← Nat.add_assoc]
  exact (hrun (k+K2)).trans (q2 k)
end Go.Proofs.YtoigkneoaemcfaaDoor.GN
