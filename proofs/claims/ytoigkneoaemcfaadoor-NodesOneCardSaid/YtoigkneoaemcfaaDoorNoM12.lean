/- Texts of the claim, one behind the other. -/
import Derived.Test.YtoigkneoaemcfaaDoorNoM11
import Derived.Test.YtoigkneoaemcfaaDoorNoGNx6
import Derived.Test.YtoigkneoaemcfaaDoorNoGNx5
namespace Go.Proofs.YtoigkneoaemcfaaDoor.GN
open Go.RowKit Go.Proofs.YtoigkneoaemcfaaDoorW.PrintWords Go.Proofs.YtoigkneoaemcfaaDoorW.PrintLast Go.Proofs.YtoigkneoaemcfaaDoorW.PrintMore
set_option linter.unusedVariables false
set_option linter.unusedSimpArgs false
def renN (tl:List Int) (y:S40):S40:=⟨y.f0,y.f1,y.f2,y.f3.map fun k => tl.getD k.toNat 0⟩
section
variable {l0:List (S40)} {a1:Int}
theorem toG_len (l0:List (S40)):(GT.toG (kidsI l0)).length = l0.length:=by rw [GT.length_toG,kids_len]
def cl (l0:List (S40)) (a1:Int):List Nat:=GT.meetL (GT.toG (kidsI l0)) l0.length a1.toNat []
def tlOf (l0:List (S40)) (a1:Int):List Int:=(List.range l0.length).map fun x => (GT.find (cl l0 a1) x:Int)
def cNodes (l0:List (S40)) (a1:Int):List (S40):=(cl l0 a1).map fun x:Nat => renN (tlOf l0 a1) (rd_T40 l0 (x:Int))
theorem path_of (hall:∀ i,i < l0.length→i = a1.toNat ∨ GT.Led (GT.toG (kidsI l0)) a1.toNat i):∀ i,i < (GT.toG (kidsI l0)).length→GT.Path (GT.toG (kidsI l0)) a1.toNat i:=fun i hi => by
  rcases hall i (by rw [toG_len] at hi;exact hi) with h | ⟨k,hk,p⟩
  · rw [h];exact .refl _
  · exact .step hk p
theorem cn_of (hn:l0.length≤1000000) (hE:((kidsI l0).map List.length).sum≤1000000) (hc:(checkP l0 a1).1 = 0):GT.Cn (GT.toG (kidsI l0)) a1.toNat (cl l0 a1)∧ordOf l0 a1 = some (cl l0 a1):=by
  obtain ⟨h0,h1,hgood,hacy,hall⟩:=checkP_zero hE hc
  obtain ⟨K,out,ho,_⟩:=order_tells l0 a1 hgood hn hE
  have hW:=GT.wf_of_firstBad hgood
  have hfull:=ho.of_acyc hW hacy
  have hlen:=GT.length_of_all ho.nodup ho.lt hfull
  have hR:=ho.acyc (by omega)
  have hl:=toG_len l0
  have hr:a1.toNat < (GT.toG (kidsI l0)).length:=by omega
  have hf:GT.find out a1.toNat < l0.length:=by have:=GT.find_lt (hfull _ hr);omega
  refine ⟨GT.Cn.of_meet hR hf hW hr (path_of hall),?_⟩
  unfold ordOf cl
  exact GT.ordL_tells hR hW hr hf (by rw [GT.edges_toG];omega)
theorem tl_len (l0:List (S40)) (a1:Int):(tlOf l0 a1).length = l0.length:=by unfold tlOf;rw [List.length_map,List.length_range]
theorem tl_get {x:Nat} (hx:x < l0.length):(tlOf l0 a1).getD x 0 = (GT.find (cl l0 a1) x:Int):=by
  unfold tlOf
  rw [List.getD_eq_getElem?_getD,List.getElem?_map,List.getElem?_range hx]
  rfl
theorem nums_of (h:GT.Cn (GT.toG (kidsI l0)) a1.toNat (cl l0 a1)):numsAt l0.length (cl l0 a1) (cl l0 a1).length = tlOf l0 a1:=by
  have hl:=toG_len l0
  have key:∀ i,i≤l0.length→∀ j,j < i→(numsAt l0.length (cl l0 a1) i).getD ((cl l0 a1).getD j 0) 0 = (j:Int):=by
    intro i
    induction i with
    | zero => intro _ j hj;omega
    | succ i ih =>
      intro hi j hj
      have hlt:=h.get_lt (i:=i) (by omega)
      rw [numsAt,List.getD_eq_getElem?_getD,List.getElem?_set]
      by_cases e:j = i
      · subst e
        rw [if_pos rfl,if_pos (by rw [numsAt_len];omega)]
        rfl
      · have hne:¬ (cl l0 a1).getD i 0 = (cl l0 a1).getD j 0:=fun he => by
          have h1:=h.find_get (i:=i) (by omega)
          rw [he,h.find_get (i:=j) (by omega)] at h1
          exact e h1
        rw [if_neg hne,← List.getD_eq_getElem?_getD]
        exact ih (by omega) j (by omega)
  rw [h.len,hl]
  apply List.ext_getElem?
  intro x
  by_cases hx:x < l0.length
  · have h1:=key l0.length (Nat.le_refl _) (GT.find (cl l0 a1) x) (by have:=h.find_lt (x:=x) (by omega);omega)
    rw [h.get_find (by omega),List.getD_eq_getElem?_getD,List.getElem?_eq_getElem (by rw [numsAt_len];exact hx)] at h1
    have h2:=tl_get (a1:=a1) hx
    rw [List.getD_eq_getElem?_getD,List.getElem?_eq_getElem (by rw [tl_len];exact hx)] at h2
    rw [List.getElem?_eq_getElem (by rw [numsAt_len];exact hx),List.getElem?_eq_getElem (by rw [tl_len];exact hx)]
    exact congrArg some (Eq.trans h1 h2.symm)
  · rw [List.getElem?_eq_none (by rw [numsAt_len];omega),List.getElem?_eq_none (by rw [tl_len];omega)]
theorem gnumbers (hn:l0.length≤1000000) (hE:((kidsI l0).map List.length).sum≤1000000):∃ K,∀ k,canon_Numbers.f (k+K) l0 a1 = some (if (checkP l0 a1).1 = 0 then tlOf l0 a1 else []):=by
  obtain ⟨K,h1⟩:=gcheck l0 a1 hn hE
  refine ⟨K,fun k => ?_⟩
  rw [canon_Numbers.f,h1,Option.bind_some]
  by_cases hc:(checkP l0 a1).1 = 0
  · obtain ⟨h2,h3⟩:=cn_of hn hE hc
    have hl:=toG_len l0
    rw [if_pos hc,if_pos hc,h3,Option.bind_some,if_pos ⟨by rw [h2.len];omega,by
      rw [List.all_eq_true]
      intro x hx
      have:=h2.lt x hx
      simp
      omega⟩,nums_of h2]
  · rw [if_neg hc,if_neg hc]
theorem cNodes_len (h:GT.Cn (GT.toG (kidsI l0)) a1.toNat (cl l0 a1)):(cNodes l0 a1).length = l0.length:=by unfold cNodes;rw [List.length_map,h.len,toG_len]
structure Mod (l0:List (S40)):Prop where
  len:l0.length≤1000000
  sum:((kidsI l0).map List.length).sum≤1000000
  one:∀ y ∈ l0,y.f1.length < 8796093022208∧y.f2.length < 8796093022208
theorem kids_get (hgood:GT.firstBad (kidsI l0) = none) (i:Nat):(rd_T40 l0 (i:Int)).f3 = intsOf (GT.kids (GT.toG (kidsI l0)) i):=by
  have:=kids_ints hgood (i:Int)
  rw [Int.toNat_natCast] at this
  exact this.symm
theorem ren_kids (hgood:GT.firstBad (kidsI l0) = none) (i:Nat):(renN (tlOf l0 a1) (rd_T40 l0 (i:Int))).f3 = intsOf ((GT.kids (GT.toG (kidsI l0)) i).map (GT.find (cl l0 a1))):=by
  show (rd_T40 l0 (i:Int)).f3.map _ = _
  rw [kids_get hgood]
  unfold intsOf
  rw [List.map_map,List.map_map]
  refine List.map_congr_left (fun x hx => ?_)
  have hx:=GT.wf_of_firstBad hgood i x hx
  rw [toG_len] at hx
  exact tl_get hx
theorem kidsI_canon (hgood:GT.firstBad (kidsI l0) = none):kidsI (cNodes l0 a1) = (GT.canonG (GT.toG (kidsI l0)) (cl l0 a1)).map intsOf:=by
  unfold kidsI cNodes GT.canonG
  rw [List.map_map,List.map_map]
  refine List.map_congr_left (fun x hx => ?_)
  exact ren_kids hgood x
theorem toG_canon (hgood:GT.firstBad (kidsI l0) = none):GT.toG (kidsI (cNodes l0 a1)) = GT.canonG (GT.toG (kidsI l0)) (cl l0 a1):=by
  rw [kidsI_canon hgood]
  unfold GT.toG
  rw [List.map_map]
  conv => rhs;rw [← List.map_id (GT.canonG _ _)]
  refine List.map_congr_left (fun x _ => ?_)
  show (intsOf x).map Int.toNat = x
  unfold intsOf
  rw [List.map_map]
  conv => rhs;rw [← List.map_id x]
  exact List.map_congr_left (fun y _ => by simp)
theorem perm_sum {l l':List Nat} (h:l.Perm l'):l.sum = l'.sum:=by
  induction h with
  | nil => rfl
  | cons x _ ih => rw [List.sum_cons,List.sum_cons,ih]
  | swap x y l => simp only [List.sum_cons];omega
  | trans _ _ h1 h2 => exact h1.trans h2
theorem sum_canon (hgood:GT.firstBad (kidsI l0) = none) (h:GT.Cn (GT.toG (kidsI l0)) a1.toNat (cl l0 a1)):((kidsI (cNodes l0 a1)).map List.length).sum = ((kidsI l0).map List.length).sum:=by
  rw [kidsI_canon hgood]
  unfold GT.canonG
  rw [List.map_map,List.map_map]
  have e:(List.length ∘ intsOf) ∘ (fun x => (GT.kids (GT.toG (kidsI l0)) x).map (GT.find (cl l0 a1))) = fun x => (GT.kids (GT.toG (kidsI l0)) x).length:=by
    funext x
    simp [intsOf_len]
  rw [e,perm_sum (h.perm.map _),← GT.edges_toG,← GT.rest_none]
  unfold GT.rest
  rw [GT.restL_none]
end
end Go.Proofs.YtoigkneoaemcfaaDoor.GN
namespace Go.Proofs.YtoigkneoaemcfaaDoor.GN
open Go.RowKit Go.Proofs.YtoigkneoaemcfaaDoorW.PrintWords Go.Proofs.YtoigkneoaemcfaaDoorW.PrintLast Go.Proofs.YtoigkneoaemcfaaDoorW.PrintMore
set_option linter.unusedVariables false
set_option linter.unusedSimpArgs false
theorem mxL_snoc (l:List Nat) (y:Nat):GT.mxL (l ++ [y]) = max (GT.mxL l) y:=by
  induction l with
  | nil => simp [GT.mxL]
  | cons x l ih => rw [List.cons_append,GT.mxL,GT.mxL,ih];omega
def H (l0:List (S40)) (x:Nat):Nat:=GT.ht (GT.toG (kidsI l0)) l0.length x
theorem H_le (l0:List (S40)) (x:Nat):H l0 x≤l0.length:=GT.ht_le _ _ _
theorem H_step {l0:List (S40)} {R:Nat→Nat} (hR:GT.Ranked (GT.toG (kidsI l0)) R) (hRl:∀ x,x < l0.length→R x < l0.length) {x:Nat} (hx:x < l0.length):H l0 x = GT.mxL ((GT.kids (GT.toG (kidsI l0)) x).map (H l0))+1:=by
  have h1:=hRl x hx
  unfold H
  rw [GT.ht_fuel hR l0.length (l0.length+1) x (by omega) (by omega),GT.ht]
theorem mx_nat (a b:Nat):mx (a:Int) (b:Int) = ((max a b:Nat):Int):=by unfold mx;split <;> omega
theorem gdepth_l1 {l0:List (S40)} (hgood:GT.firstBad (kidsI l0) = none) (hn:l0.length≤1000000) (hE:((kidsI l0).map List.length).sum≤1000000) {R:Nat→Nat} (hR:GT.Ranked (GT.toG (kidsI l0)) R) (hRl:∀ x,x < l0.length→R x < l0.length) (a1:Int) (order:List Int) (i ol:Nat) (hi:i≤1000000) {x:Nat} (hx:x < l0.length) :
    ∀ (e t:Nat) (deep:List Int),t+e = (GT.kids (GT.toG (kidsI l0)) x).length→deep.length = l0.length→deep.getD x 0 = (GT.mxL (((GT.kids (GT.toG (kidsI l0)) x).take t).map (H l0)):Int)→(∀ k ∈ GT.kids (GT.toG (kidsI l0)) x,deep.getD k 0 = (H l0 k:Int)) →
    ∃ deep',deep'.length = l0.length∧deep'.getD x 0 = (H l0 x:Int)∧(∀ j,j≠x→deep'.getD j 0 = deep.getD j 0)∧∀ k,graph_Depth.l1 (k+e+1) deep (x:Int) order ol i ((rd_T40 l0 (x:Int)).f3) ((rd_T40 l0 (x:Int)).f3).length t l0 a1 = graph_Depth.l0 k deep' order ol ((i+1:Nat):Int) l0 a1:=by
  have hGl:(GT.toG (kidsI l0)).length = l0.length:=by rw [GT.length_toG,kids_len]
  have hW:=GT.wf_of_firstBad hgood
  have hEd:GT.edges (GT.toG (kidsI l0)) = ((kidsI l0).map List.length).sum:=GT.edges_toG _
  have hk3:=GT.rest_kid (G:=GT.toG (kidsI l0)) (i:=x) (by omega)
  have hHx:=H_step hR hRl hx
  have hHl:=H_le l0 x
  rw [kid_ints hgood x,intsOf_len]
  intro e
  induction e with
  | zero =>
    intro t deep ht hd hdx hdk
    rw [List.take_of_length_le (by omega)] at hdx
    refine ⟨deep.set x ((H l0 x:Nat):Int),by rw [List.length_set];exact hd,getD_set_self _ _ _ _ (by omega),fun j hj => getD_set_other _ _ _ _ _ hj,fun k => ?_⟩
    rw [graph_Depth.l1,if_neg (by omega),if_pos (by omega),if_pos (by omega),rd_nat,hdx,Int.toNat_natCast,w64 (n:=(i:Int)+1) (by omega) (by omega),w64 (by omega) (by omega),hHx]
    rfl
  | succ e ih =>
    intro t deep ht hd hdx hdk
    have htl:t < (GT.kids (GT.toG (kidsI l0)) x).length:=by omega
    have hm:(GT.kids (GT.toG (kidsI l0)) x).getD t 0 ∈ GT.kids (GT.toG (kidsI l0)) x:=by
      rw [List.getD_eq_getElem?_getD,List.getElem?_eq_getElem htl];exact List.getElem_mem htl
    have hq:(GT.kids (GT.toG (kidsI l0)) x).getD t 0 < l0.length:=by have:=hW x _ hm;omega
    have hrank:=hR x _ hm
    have htk:(GT.kids (GT.toG (kidsI l0)) x).take (t+1) = (GT.kids (GT.toG (kidsI l0)) x).take t ++ [(GT.kids (GT.toG (kidsI l0)) x).getD t 0]:=by
      rw [List.take_succ_eq_append_getElem htl,List.getD_eq_getElem?_getD,List.getElem?_eq_getElem htl];rfl
    have hv:mx (rd deep (x:Int)) (rd deep ((GT.kids (GT.toG (kidsI l0)) x).getD t 0:Int)) = (GT.mxL (((GT.kids (GT.toG (kidsI l0)) x).take (t+1)).map (H l0)):Int):=by
      rw [rd_nat,rd_nat,hdx,hdk _ hm,mx_nat,htk,List.map_append,List.map_cons,List.map_nil,mxL_snoc]
    obtain ⟨deep',p1,p2,p3,p4⟩:=ih (t+1) (deep.set x (GT.mxL (((GT.kids (GT.toG (kidsI l0)) x).take (t+1)).map (H l0)):Int)) (by omega) (by rw [List.length_set];exact hd) (getD_set_self _ _ _ _ (by omega))
      (fun k hk => by rw [getD_set_other _ _ _ _ _ (fun e => by have:=hR x k hk;rw [e] at this;omega)];exact hdk k hk)
    refine ⟨deep',p1,p2,fun j hj => by rw [p3 j hj,getD_set_other _ _ _ _ _ hj],fun k => ?_⟩
    have hrd:=intsOf_get (GT.kids (GT.toG (kidsI l0)) x) t htl
    rw [show k+(e+1)+1 = (k+e+1)+1 by omega,graph_Depth.l1,if_pos (by omega),if_pos (by omega),if_pos (by rw [intsOf_len];omega),if_pos (by omega),if_pos (by omega),hrd,if_pos (by omega),if_pos (by omega),hv,Int.toNat_natCast,w64 (n:=(t:Int)+1) (by omega) (by omega)]
    exact p4 k
theorem gdepth_l0 {l0:List (S40)} (hgood:GT.firstBad (kidsI l0) = none) (hn:l0.length≤1000000) (hE:((kidsI l0).map List.length).sum≤1000000) {R:Nat→Nat} (hR:GT.Ranked (GT.toG (kidsI l0)) R) (hRl:∀ x,x < l0.length→R x < l0.length) {r:Nat} (hr:r < l0.length)
    {out:List Nat} (ho:GT.Ord (GT.toG (kidsI l0)) out) (hrm:r ∈ out):∀ (d i:Nat) (deep:List Int),i+d = out.length→deep.length = l0.length→(∀ j,j < l0.length→deep.getD j 0 = if j ∈ out.take i then (H l0 j:Int) else 0) →
    ∃ K,∀ k,graph_Depth.l0 (k+K) deep (intsOf out) out.length i l0 (r:Int) = some (H l0 r:Int):=by
  have hGl:(GT.toG (kidsI l0)).length = l0.length:=by rw [GT.length_toG,kids_len]
  have hol:=GT.length_le_of_nodup ho.nodup ho.lt
  intro d
  induction d with
  | zero =>
    intro i deep hi hd hj
    refine ⟨1,fun k => ?_⟩
    rw [graph_Depth.l0,if_neg (by omega),if_pos (by omega),if_pos (by omega),rd_nat,hj r hr,List.take_of_length_le (by omega),if_pos hrm]
  | succ d ih =>
    intro i deep hi hd hj
    have hil:i < out.length:=by omega
    have hge:out.getD i 0 = out[i]:=by rw [List.getD_eq_getElem?_getD,List.getElem?_eq_getElem hil];rfl
    have hxm:out.getD i 0 ∈ out:=by rw [hge];exact List.getElem_mem hil
    have hx:out.getD i 0 < l0.length:=by have:=ho.lt _ hxm;omega
    have htk:out.take (i+1) = out.take i ++ [out.getD i 0]:=by rw [List.take_succ_eq_append_getElem hil,hge]
    have hsp:out = out.take i ++ out.getD i 0 :: out.drop (i+1):=by
      rw [hge,← List.drop_eq_getElem_cons hil,List.take_append_drop]
    have hnx:out.getD i 0 ∉ out.take i:=by
      intro hm
      have h2:=ho.nodup
      rw [hsp,List.nodup_append] at h2
      exact h2.2.2 _ hm _ (List.mem_cons_self ..) rfl
    have hpre:∀ k ∈ GT.kids (GT.toG (kidsI l0)) (out.getD i 0),k ∈ out.take i:=fun k hk => ho.post _ _ _ hsp k hk
    have hW:=GT.wf_of_firstBad hgood
    have hrd:=intsOf_get out i hil
    generalize out.getD i 0 = x at *
    obtain ⟨deep',p1,p2,p3,p4⟩:=gdepth_l1 hgood hn hE hR hRl (r:Int) (intsOf out) i out.length (by omega) hx (GT.kids (GT.toG (kidsI l0)) x).length 0 deep (by omega) hd
      (by rw [hj x hx,if_neg hnx];rfl) (fun k hk => by rw [hj k (by have:=hW x k hk;omega),if_pos (hpre k hk)])
    obtain ⟨K,q⟩:=ih (i+1) deep' (by omega) p1 (fun j hjl => by
      rw [htk]
      by_cases e:j = x
      · subst e;rw [p2,if_pos (by simp)]
      · rw [p3 j e,hj j hjl]
        have:(j ∈ out.take i ++ [x])↔j ∈ out.take i:=by simp [e]
        by_cases hm:j ∈ out.take i
        · rw [if_pos hm,if_pos (this.2 hm)]
        · rw [if_neg hm,if_neg (fun h => hm (this.1 h))])
    refine ⟨K+(GT.kids (GT.toG (kidsI l0)) x).length+1+1,fun k => ?_⟩
    rw [show k+(K+(GT.kids (GT.toG (kidsI l0)) x).length+1+1) = ((k+K)+(GT.kids (GT.toG (kidsI l0)) x).length+1)+1 by omega,graph_Depth.l0,if_pos (by omega),if_pos (by omega),if_pos (by rw [intsOf_len];omega),hrd,if_pos (by omega),if_pos (by omega)]
    exact (p4 (k+K)).trans (q k)
theorem gdepth (l0:List (S40)) (a1:Int) (hn:l0.length≤1000000) (hE:((kidsI l0).map List.length).sum≤1000000):∃ K,∀ k,graph_Depth.f (k+K) l0 a1 = some (if (checkP l0 a1).1 = 0 then (H l0 a1.toNat:Int) else 0):=by
  have hGl:(GT.toG (kidsI l0)).length = l0.length:=by rw [GT.length_toG,kids_len]
  obtain ⟨K,h1⟩:=gcheck l0 a1 hn hE
  by_cases hc:(checkP l0 a1).1 = 0
  · obtain ⟨h2,h3,hb,hA,hl⟩:=checkP_zero hE hc
    have hW:=GT.wf_of_firstBad hb
    obtain ⟨K2,out,ho,h4⟩:=order_tells l0 a1 hb hn hE
    have hfull:=ho.of_acyc hW hA
    have hlen:=GT.length_of_all ho.nodup ho.lt hfull
    have hR:=ho.acyc (by omega)
    have hRl:∀ x,x < l0.length→GT.find out x < l0.length:=fun x hx => by have:=GT.find_lt (hfull x (by omega));omega
    have hrep:∀ j:Nat,(List.replicate l0.length (0:Int)).getD j 0 = 0:=by
      intro j
      rw [List.getD_eq_getElem?_getD,List.getElem?_replicate]
      split <;> rfl
    obtain ⟨K3,h5⟩:=gdepth_l0 hb hn hE hR hRl (r:=a1.toNat) (by omega) ho (hfull _ (by omega)) out.length 0 (List.replicate l0.length 0) (by omega) List.length_replicate (fun j _ => by rw [hrep,List.take_zero,if_neg (by simp)])
    refine ⟨K+K2+K3,fun k => ?_⟩
    have h6:=h1 (k+K2+K3)
    have h7:=h4 (k+K+K3)
    have h8:=h5 (k+K+K2)
    rw [show k+K2+K3+K = k+(K+K2+K3) by omega] at h6
    rw [show k+K+K3+K2 = k+(K+K2+K3) by omega] at h7
    rw [show k+K+K2+K3 = k+(K+K2+K3) by omega,show ((a1.toNat:Nat):Int) = a1 by omega] at h8
    rw [graph_Depth.f,h6,Option.bind_some,if_pos hc,if_pos hc,if_pos (by omega),Int.toNat_natCast,if_pos (by omega),h7,Option.bind_some,intsOf_len]
    exact h8
  · refine ⟨K,fun k => ?_⟩
    rw [graph_Depth.f,h1,Option.bind_some,if_neg hc,if_neg hc]
end Go.Proofs.YtoigkneoaemcfaaDoor.GN
