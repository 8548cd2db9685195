import Derived.Test.YtoigkneoaemcfaaDoorNoGT
namespace Go.Proofs.YtoigkneoaemcfaaDoor.GT
set_option linter.unusedVariables false
set_option linter.unusedSimpArgs false
theorem countP_split {l:List Nat} {proc:List Nat} {x:Nat} (hx:x ∉ proc):l.countP (fun y => decide (y ∉ proc)) = l.countP (fun y => decide (y ∉ proc ++ [x]))+l.count x:=by
  induction l with
  | nil => rfl
  | cons y l ih =>
    rw [List.countP_cons,List.countP_cons,List.count_cons,ih]
    by_cases hy:y = x
    · subst hy
      simp [hx]
      omega
    · by_cases hp:y ∈ proc
      · simp [hy,hp]
      · simp [hy,hp]
        omega
structure KInv (G:List (List Nat)) (proc:List Nat) (ps:List Nat) (op:Nat→Int) (out:List Nat):Prop where
  lt:∀ j ∈ out,j < G.length
  nodup:out.Nodup
  sub:∀ j ∈ proc,j ∈ out
  cnt:∀ j,j < G.length→op j = (((kids G j).countP (fun y => decide (y ∉ proc))+ps.count j:Nat):Int)
  mem:∀ j,j < G.length→(j ∈ out↔op j = 0)
  post:Post G out
theorem KInv.tell {G:List (List Nat)} {proc ps:List Nat} {op op':Nat→Int} {out:List Nat} {q:Nat} (h:KInv G proc (q :: ps) op out) (hq:q < G.length) (hs:op' q = op q - 1) (ho:∀ j,j≠q→op' j = op j) :
    (op' q = 0→KInv G proc ps op' (out ++ [q]))∧(op' q≠0→KInv G proc ps op' out):=by
  have h1:=h.cnt q hq
  rw [List.count_cons_self] at h1
  have hne:q ∉ out:=fun e => by have:=(h.mem q hq).1 e;omega
  have hop:∀ j,j < G.length→op' j = (((kids G j).countP (fun y => decide (y ∉ proc))+ps.count j:Nat):Int):=by
    intro j hj
    by_cases e:j = q
    · subst e;rw [hs,h1];omega
    · rw [ho j e,h.cnt j hj,List.count_cons_of_ne (Ne.symm e)]
  constructor
  · intro h0
    have h2:=hop q hq
    refine ⟨fun j hj => ?_,?_,fun j hj => List.mem_append.2 (.inl (h.sub j hj)),hop,fun j hj => ?_,h.post.snoc (fun k hk => ?_)⟩
    · rcases List.mem_append.1 hj with e | e
      · exact h.lt j e
      · rw [List.mem_singleton] at e;rw [e];exact hq
    · rw [List.nodup_append]
      refine ⟨h.nodup,by simp,fun a ha b hb => ?_⟩
      rw [List.mem_singleton] at hb
      rintro rfl
      rw [hb] at ha
      exact hne ha
    · rw [List.mem_append,List.mem_singleton]
      by_cases e:j = q
      · subst e;simp [h0]
      · rw [ho j e,← h.mem j hj];simp [e]
    · have h3:(kids G q).countP (fun y => decide (y ∉ proc)) = 0:=by omega
      rw [List.countP_eq_zero] at h3
      have:=h3 k hk
      simp at this
      exact h.sub k this
  · intro h0
    refine ⟨h.lt,h.nodup,h.sub,hop,fun j hj => ?_,h.post⟩
    by_cases e:j = q
    · subst e;exact ⟨fun e => absurd e hne,fun e => absurd e h0⟩
    · rw [ho j e];exact h.mem j hj
theorem KInv.next {G:List (List Nat)} {op:Nat→Int} {out:List Nat} {i:Nat} (h:KInv G (out.take i) [] op out) (hi:i < out.length) {row:List Nat} (hrow:∀ j,j < G.length→row.count j = (kids G j).count (out.getD i 0)) :
    KInv G (out.take (i+1)) row op out:=by
  have hx:out.getD i 0 = out[i]:=by rw [List.getD_eq_getElem?_getD,List.getElem?_eq_getElem hi];rfl
  have ht:out.take (i+1) = out.take i ++ [out.getD i 0]:=by rw [List.take_succ_eq_append_getElem hi,hx]
  have hnx:out.getD i 0 ∉ out.take i:=by
    rw [hx]
    intro hm
    have h2:=h.nodup
    rw [← List.take_append_drop i out,List.nodup_append] at h2
    refine h2.2.2 _ hm _ ?_ rfl
    rw [List.drop_eq_getElem_cons hi]
    exact List.mem_cons_self ..
  refine ⟨h.lt,h.nodup,fun j hj => List.mem_of_mem_take hj,fun j hj => ?_,h.mem,h.post⟩
  rw [h.cnt j hj,hrow j hj,ht,countP_split hnx]
  simp
theorem KInv.done {G:List (List Nat)} {op:Nat→Int} {out:List Nat} (h:KInv G out [] op out) {j:Nat} (hj:j < G.length) (hk:∀ k ∈ kids G j,k ∈ out):j ∈ out:=by
  rw [h.mem j hj,h.cnt j hj]
  have:(kids G j).countP (fun y => decide (y ∉ out)) = 0:=by
    rw [List.countP_eq_zero]
    intro k hkk
    simp [hk k hkk]
  rw [this]
  rfl
structure Ord (G:List (List Nat)) (out:List Nat):Prop where
  lt:∀ j ∈ out,j < G.length
  nodup:out.Nodup
  post:Post G out
  done:∀ j,j < G.length→(∀ k ∈ kids G j,k ∈ out)→j ∈ out
theorem Ord.acyc {G:List (List Nat)} {out:List Nat} (h:Ord G out) (hl:G.length≤out.length):Ranked G (find out) :=
  h.post.ranked h.nodup (all_of_length h.nodup h.lt hl)
theorem Ord.full {G:List (List Nat)} {out:List Nat} (h:Ord G out) (hW:Wf G) {R:Nat→Nat} (hR:Ranked G R):∀ i,i < G.length→i ∈ out:=by
  have key:∀ n i,R i < n→i < G.length→i ∈ out:=by
    intro n
    induction n with
    | zero => intro i h0;omega
    | succ n ih => intro i hi hlt;exact h.done i hlt (fun k hk => ih k (by have:=hR i k hk;omega) (hW i k hk))
  intro i hi
  exact key (R i+1) i (Nat.lt_succ_self _) hi
theorem led_or_path {G:List (List Nat)} {i j:Nat} (p:Path G i j):i = j ∨ Led G i j:=by
  cases p with
  | refl _ => exact .inl rfl
  | step e p => exact .inr ⟨_,e,p⟩
inductive Walk (G:List (List Nat)):Nat→List Nat→Prop
  | one (i:Nat):Walk G i [i]
  | more {i j:Nat} {l:List Nat}:j ∈ kids G i→Walk G j l→Walk G i (i :: l)
theorem Walk.path {G:List (List Nat)} {i:Nat} {l:List Nat} (h:Walk G i l):∀ x ∈ l,Path G i x:=by
  induction h with
  | one i => intro x hx;rw [List.mem_singleton] at hx;rw [hx];exact .refl _
  | more e _ ih =>
    intro x hx
    rcases List.mem_cons.1 hx with rfl | hx
    · exact .refl _
    · exact .step e (ih x hx)
theorem Walk.nodup {G:List (List Nat)} (hA:Acyc G) {i:Nat} {l:List Nat} (h:Walk G i l):l.Nodup:=by
  induction h with
  | one i => simp
  | @more i j l e hw ih =>
    rw [List.nodup_cons]
    exact ⟨fun hm => hA i ⟨j,e,hw.path i hm⟩,ih⟩
theorem Walk.lt {G:List (List Nat)} (hW:Wf G) {i:Nat} {l:List Nat} (hi:i < G.length) (h:Walk G i l):∀ x ∈ l,x < G.length:=fun x hx => (h.path x hx).lt hW hi
theorem Ord.missing {G:List (List Nat)} {out:List Nat} (h:Ord G out) (hW:Wf G) {i:Nat} (hi:i < G.length) (hn:i ∉ out):∀ n,∃ l,Walk G i l∧l.length = n+1 ∨ False:=by
  have key:∀ n i,i < G.length→i ∉ out→∃ l,Walk G i l∧l.length = n+1:=by
    intro n
    induction n with
    | zero => intro i _ _;exact ⟨[i],.one i,rfl⟩
    | succ n ih =>
      intro i hi hn
      have:∃ k,k ∈ kids G i∧k ∉ out:=by
        apply Classical.byContradiction
        intro hno
        refine hn (h.done i hi (fun k hk => ?_))
        apply Classical.byContradiction
        intro hk2
        exact hno ⟨k,hk,hk2⟩
      obtain ⟨k,hk,hk2⟩:=this
      obtain ⟨l,hl,hlen⟩:=ih k (hW i k hk) hk2
      exact ⟨i :: l,.more hk hl,by simp [hlen]⟩
  intro n
  obtain ⟨l,h1,h2⟩:=key n i hi hn
  exact ⟨l,.inl ⟨h1,h2⟩⟩
theorem Ord.of_acyc {G:List (List Nat)} {out:List Nat} (h:Ord G out) (hW:Wf G) (hA:Acyc G):∀ i,i < G.length→i ∈ out:=by
  intro i hi
  apply Classical.byContradiction
  intro hn
  obtain ⟨l,hl⟩:=h.missing hW hi hn G.length
  rcases hl with ⟨h1,h2⟩ | h1
  · have:=length_le_of_nodup (h1.nodup hA) (h1.lt hW hi)
    omega
  · exact h1
def esum (G:List (List Nat)) (i:Nat):Nat:=((G.drop i).map List.length).sum
theorem esum_step {G:List (List Nat)} {i:Nat} (h:i < G.length):esum G i = (kids G i).length+esum G (i+1):=by
  unfold esum kids
  rw [List.drop_eq_getElem_cons h,List.map_cons,List.sum_cons,List.getD_eq_getElem?_getD,List.getElem?_eq_getElem h]
  rfl
theorem esum_zero (G:List (List Nat)):esum G 0 = edges G:=by unfold esum edges;rw [List.drop_zero]
structure Cn (G:List (List Nat)) (r:Nat) (l:List Nat):Prop where
  nodup:l.Nodup
  lt:∀ x ∈ l,x < G.length
  all:∀ x,x < G.length→x ∈ l
  len:l.length = G.length
  post:Post G l
  last:l.getD (G.length - 1) 0 = r
theorem Cn.of_meet {G:List (List Nat)} {R:Nat→Nat} (hR:Ranked G R) {r f:Nat} (hf:R r < f) (hW:Wf G) (hr:r < G.length) (hall:∀ i,i < G.length→Path G r i):Cn G r (meetL G f r []):=by
  obtain ⟨hm,hrm⟩:=meetL_met hR f r [] hf
  have hlt:∀ x ∈ meetL G f r [],x < G.length:=fun x hx => by
    rcases hm.led x hx with h | ⟨s,rfl,p⟩
    · cases h
    · exact p.lt hW hr
  have hnd:=hm.nodup List.nodup_nil
  have hp:=hm.post (Post.nil G)
  have hA:∀ x,x < G.length→x ∈ meetL G f r []:=fun x hx => hp.path (hall x hx) hrm
  have hlen:=length_of_all hnd hlt hA
  refine ⟨hnd,hlt,hA,hlen,hp,?_⟩
  obtain ⟨f,rfl⟩:∃ m,f = m+1:=⟨f - 1,by omega⟩
  rw [meetL,if_neg (by simp)] at hlen ⊢
  rw [List.length_append,List.length_singleton] at hlen
  rw [List.getD_eq_getElem?_getD,List.getElem?_append_right (by omega),show G.length - 1 - ((kids G r).foldl (fun m k => meetL G f k m) []).length = 0 by omega]
  rfl
section
variable {G:List (List Nat)} {r:Nat} {l:List Nat} (h:Cn G r l)
include h
theorem Cn.find_lt {x:Nat} (hx:x < G.length):find l x < G.length:=by rw [← h.len];exact GT.find_lt (h.all x hx)
theorem Cn.get_lt {i:Nat} (hi:i < G.length):l.getD i 0 < G.length:=by
  rw [List.getD_eq_getElem?_getD,List.getElem?_eq_getElem (by rw [h.len];exact hi)]
  exact h.lt _ (List.getElem_mem _)
theorem Cn.get_find {x:Nat} (hx:x < G.length):l.getD (find l x) 0 = x:=find_get (h.all x hx)
theorem Cn.find_get {i:Nat} (hi:i < G.length):find l (l.getD i 0) = i:=find_of_get h.nodup (by rw [h.len];exact hi)
theorem Cn.find_root (hr:r < G.length):find l r = G.length - 1:=by
  have:=h.find_get (i:=G.length - 1) (by omega)
  rwa [h.last] at this
theorem Cn.len_canon:(canonG G l).length = G.length:=by unfold canonG;rw [List.length_map,h.len]
theorem Cn.kids {i:Nat} (hi:i < G.length):GT.kids (canonG G l) i = (GT.kids G (l.getD i 0)).map (find l):=canonG_kids G l (by rw [h.len];exact hi)
theorem Cn.ren:Ren G (canonG G l) (find l):=by
  refine ⟨h.len_canon,fun i hi => h.find_lt hi,fun i j hi hj e => ?_,fun i hi => ?_⟩
  · have:l.getD (find l i) 0 = l.getD (find l j) 0:=by rw [e]
    rwa [h.get_find hi,h.get_find hj] at this
  · rw [h.kids (h.find_lt hi),h.get_find hi]
theorem Cn.wf (hW:Wf G):Wf (canonG G l):=by
  intro i k hk
  have hi:=lt_of_kid hk
  rw [h.len_canon] at hi ⊢
  rw [h.kids hi] at hk
  obtain ⟨x,hx,rfl⟩:=List.mem_map.1 hk
  exact h.find_lt (hW _ _ hx)
theorem Cn.ahead {i k:Nat} (hk:k ∈ GT.kids (canonG G l) i):k < i:=by
  have hi:=lt_of_kid hk
  rw [h.len_canon] at hi
  rw [h.kids hi] at hk
  obtain ⟨x,hx,rfl⟩:=List.mem_map.1 hk
  have:=h.post.ranked h.nodup h.all _ _ hx
  rwa [h.find_get hi] at this
theorem Cn.rank:Ranked (canonG G l) id:=fun _ _ hk => h.ahead hk
theorem Cn.path (hW:Wf G) (hr:r < G.length) (hall:∀ i,i < G.length→Path G r i) {j:Nat} (hj:j < G.length):Path (canonG G l) (G.length - 1) j:=by
  have:=h.ren.path hW hr (hall (l.getD j 0) (h.get_lt hj))
  rwa [h.find_root hr,h.find_get hj] at this
theorem Cn.map_find:l.map (find l) = List.range G.length:=by
  apply List.ext_getElem?
  intro i
  rw [List.getElem?_map]
  by_cases hi:i < G.length
  · have h1:=h.find_get hi
    rw [List.getD_eq_getElem?_getD,List.getElem?_eq_getElem (by rw [h.len];exact hi)] at h1
    rw [List.getElem?_eq_getElem (by rw [h.len];exact hi),List.getElem?_range hi]
    exact congrArg some h1
  · rw [List.getElem?_eq_none (by rw [h.len];omega),List.getElem?_eq_none (by rw [List.length_range];omega)]
    rfl
theorem Cn.order (hW:Wf G) (hr:r < G.length) {f:Nat} (hl:l = meetL G f r []):meetL (canonG G l) f (G.length - 1) [] = List.range G.length:=by
  have:=h.ren.meetL hW f r [] hr (fun _ h => by cases h)
  rw [h.find_root hr,List.map_nil,← hl,h.map_find] at this
  exact this
theorem Cn.perm:l.Perm (List.range G.length):=(List.perm_ext_iff_of_nodup h.nodup List.nodup_range).2 (fun x => by rw [List.mem_range];exact ⟨h.lt x,h.all x⟩)
end
theorem find_range {n x:Nat} (hx:x < n):find (List.range n) x = x:=by
  have:=find_of_get (l:=List.range n) List.nodup_range (i:=x) (by rw [List.length_range];exact hx)
  rwa [List.getD_eq_getElem?_getD,List.getElem?_range hx] at this
end Go.Proofs.YtoigkneoaemcfaaDoor.GT
