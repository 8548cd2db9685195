import Derived.Test.YtoigkneoaemcfaaDoorProg
import Derived.Maps.OwnSet
import Derived.Maps.OwnOps
import Derived.StringKeys
import Derived.Lib.Hide
import Derived.WalkKit
import Derived.Test.YtoigkneoaemcfaaDoorNoWAll
namespace Go.Proofs.YtoigkneoaemcfaaDoor
instance lawBA:LawfulBEq ByteArray where
  eq_of_beq {a b} h:=by
    have:a.beq b = true:=h
    unfold ByteArray.beq at this
    cases a;cases b
    simpa using this
  rfl {a}:=by
    show a.beq a = true
    unfold ByteArray.beq
    simp
end Go.Proofs.YtoigkneoaemcfaaDoor
namespace Go.Proofs.YtoigkneoaemcfaaDoor.MapS
open Go.Lib Go.Maps
set_option linter.unusedVariables false
set_option linter.unusedSimpArgs false
theorem law:Keyed Tryd.prog 9:=string_keyed Tryd.underlying9
theorem key_of {s:ByteArray} (h:s.size≤maxLen):keyOf Tryd.prog 9 (.string s) = some (.string s.data.toList):=WideMaps.keyOf_string_mk Tryd.underlying9 h
theorem lit_inj {s t:ByteArray} (h:(Lit.string s.data.toList) = Lit.string t.data.toList):s = t:=by
  injection h with h
  cases s;cases t
  simp only [Array.toList_inj] at h
  rw [h]
theorem zeroI (w:World):(zeroValue 3).run Tryd.prog w = .ok (.int .i64 0) w:=by kernel_rfl
def at0 (l:List ByteArray) (s:ByteArray):Nat:=if s ∈ l then l.idxOf s else 0
def IsIdx (w:World) (b n:Nat) (l:List ByteArray):Prop :=
  ∃ D:DataW Unit,w.ownsMap Tryd.prog 9 (plainElem Tryd.prog 3) b n D∧(∀ s:ByteArray,Maps.has D (.string s.data.toList) = decide (s ∈ l))∧(∀ s ∈ l,D.atKey (.string s.data.toList) (.lit (.int .i64 0)) = .lit (.int .i64 (l.idxOf s:Int)))∧Maps.size D = l.length
theorem idx_made (w:World):IsIdx (w.alloc (.map #[] 0)) w.heap.size 0 []:=⟨.map [],World.ownsMap_made _ _ _ _,fun s => by simp [Maps.has],fun s h => (List.not_mem_nil h).elim,rfl⟩
section
variable {w w':World} {b n:Nat} {l:List ByteArray}
theorem IsIdx.lt (h:IsIdx w b n l):b < w.heap.size:=by
  obtain ⟨D,h,_⟩:=h
  exact h.lt
theorem IsIdx.mono {n':Nat} (h:IsIdx w b n l) (hn:n≤n'):IsIdx w b n' l:=by
  obtain ⟨D,h,hD⟩:=h
  exact ⟨D,h.mono hn,hD⟩
theorem IsIdx.of_block (h:IsIdx w b n l) (hb:w'.heap[b]? = w.heap[b]?):IsIdx w' b n l:=by
  obtain ⟨D,⟨es,clock,h1,h2⟩,hD⟩:=h
  exact ⟨D,⟨es,clock,hb.trans h1,h2⟩,hD⟩
theorem IsIdx.look (h:IsIdx w b n l) {s:ByteArray} (hs:s.size≤maxLen):(Instr.lookup 117 (.map (some b)) (.string s) true).run Tryd.prog w = .ok (.tuple #[.int .i64 (at0 l s:Int),.bool (decide (s ∈ l))]) w:=by
  obtain ⟨D,h,h1,h2,h3⟩:=h
  obtain ⟨v,ps,hrun,hv⟩:=h.look_ok law Tryd.underlying117 (zeroI w) (plainElem_int Tryd.underlying3 (q:=.i64) (a:=0) (by decide)) (key_of hs)
  obtain ⟨c,rfl,hc,_⟩:=plainElem_int_inv Tryd.underlying3 hv
  simp only [Prod.mk.injEq] at hc
  rw [hrun,h1]
  have e:c = (at0 l s:Int):=by
    unfold at0
    by_cases hm:s ∈ l
    · rw [if_pos hm]
      exact (Lit.int.inj (DataW.lit.inj (hc.1.symm.trans (h2 s hm)))).2
    · rw [if_neg hm]
      have h5:=atKey_of_not_has (D:=D) (k:=.string s.data.toList) (by rw [h1];exact decide_eq_false hm) (.lit (.int .i64 0))
      exact (Lit.int.inj (DataW.lit.inj (hc.1.symm.trans h5))).2
  rw [e]
theorem IsIdx.store (h:IsIdx w b n l) {s:ByteArray} (hs:s.size≤maxLen) (hn:n < maxLen) {l':List ByteArray} (hl:(s ∈ l∧l' = l) ∨ (s ∉ l∧l' = l ++ [s])) {i:Int} (hi:i = (l'.idxOf s:Int)) (hsz:l.length≤9223372036854775807) :
    ∃ w',(Instr.mapUpdate 117 (.map (some b)) (.string s) (.int .i64 i)).run Tryd.prog w = .ok () w'∧IsIdx w' b (n+1) l'∧w.grownBy w' (some b):=by
  subst hi
  obtain ⟨D,h,h1,h2,h3⟩:=h
  have h0:=h
  have hm':s ∈ l':=by rcases hl with ⟨hm,rfl⟩ | ⟨_,rfl⟩;exact hm;exact List.mem_append.2 (.inr (List.mem_singleton.2 rfl))
  have hlt:=List.idxOf_lt_length_iff.2 hm'
  have hll:l'.length≤l.length+1:=by rcases hl with ⟨_,rfl⟩ | ⟨_,rfl⟩ <;> simp
  obtain ⟨w',hrun,hown,hg⟩:=h.update law Tryd.underlying117 hn (key_of hs) (plainElem_int Tryd.underlying3 (q:=.i64) (a:=(l'.idxOf s:Int)) (WalkArith.wf_i64 (by omega)))
  refine ⟨w',hrun,⟨_,hown,fun t => ?_,fun t ht => ?_,?_⟩,hg⟩
  · by_cases e:t = s
    · subst e
      rw [has_put_same h0.isMap (show WideAt.IsKeyLit (.string t.data.toList) from trivial),decide_eq_true hm']
    · rw [has_put_other (fun e2 => e (lit_inj e2)),h1]
      apply decide_eq_decide.2
      rcases hl with ⟨_,rfl⟩ | ⟨_,rfl⟩
      · rfl
      · rw [List.mem_append,List.mem_singleton]
        exact ⟨.inl,fun h => h.resolve_right e⟩
  · by_cases e:t = s
    · subst e
      rw [atKey_put_same h0.isMap (show WideAt.IsKeyLit (.string t.data.toList) from trivial)]
    · rw [atKey_put_other (fun e2 => e (lit_inj e2))]
      rcases hl with ⟨_,rfl⟩ | ⟨_,rfl⟩
      · exact h2 t ht
      · have htl:t ∈ l:=(List.mem_append.1 ht).resolve_right (fun h => e (List.mem_singleton.1 h))
        rw [h2 t htl,List.idxOf_append,if_pos htl]
  · rw [size_put (h0.tidy law),h1]
    rcases hl with ⟨hm,rfl⟩ | ⟨hm,rfl⟩
    · rw [decide_eq_true hm];simpa using h3
    · rw [decide_eq_false hm];simp [h3]
theorem IsIdx.len (h:IsIdx w b n l) (ty:TypeId):(Builtin.len_ #[117] ty #[.map (some b)]).run Tryd.prog w = .ok (.int .i64 (l.length:Int)) w:=by
  obtain ⟨D,h,_,_,h3⟩:=h
  rw [h.len Tryd.underlying117 ty,h3]
end
theorem wpList_idx {ops:Array Oper} {rest:List Oper} {o:Oper} {a:Act} {Q:Exit→Act→World→Prop} (w:World)
    (hg:o.guard = none) (m x:Operand) (hop:o.op = Op.lookup 117 m x true) (b n:Nat) (l:List ByteArray) (hown:IsIdx w b n l) (s:ByteArray) (hs:s.size≤maxLen)
    (hm:a.eval m = .map (some b)) (hx:a.eval x = .string s) (hK:wpList Tryd.prog ops Q rest (a.put o.dst (.tuple #[.int .i64 (at0 l s:Int),.bool (decide (s ∈ l))])) w) :
    wpList Tryd.prog ops Q (o :: rest) a w:=by
  refine wpList_plain hg fun K' hK' => ?_
  unfold Oper.wp
  simp [execOp,hop,hm,hx,hown.look hs,Result.andThen]
  exact hK' _ _ hK
theorem wpList_put {ops:Array Oper} {rest:List Oper} {o:Oper} {a:Act} {Q:Exit→Act→World→Prop} (w:World)
    (hg:o.guard = none) (m x v:Operand) (hop:o.op = Op.mapUpdate 117 m x v) (b n:Nat) (l:List ByteArray) (hown:IsIdx w b n l) (s:ByteArray) (hs:s.size≤maxLen) (hn:n < maxLen) (l':List ByteArray) (hl:(s ∈ l∧l' = l) ∨ (s ∉ l∧l' = l ++ [s])) (i:Int) (hi:i = (l'.idxOf s:Int)) (hsz:l.length≤9223372036854775807)
    (hm:a.eval m = .map (some b)) (hx:a.eval x = .string s) (hv:a.eval v = .int .i64 i)
    (hK:∀ w',IsIdx w' b (n+1) l'→w.grownBy w' (some b)→wpList Tryd.prog ops Q rest (a.put o.dst undef) w') :
    wpList Tryd.prog ops Q (o :: rest) a w:=by
  refine wpList_plain hg fun K' hK' => ?_
  obtain ⟨w',hrun,r1,r2⟩:=hown.store hs hn hl hi hsz
  unfold Oper.wp
  simp [execOp,hop,hm,hx,hv,hrun,Result.andThen]
  exact hK' _ _ (hK w' r1 r2)
theorem zeroB (w:World):(zeroValue 4).run Tryd.prog w = .ok (.bool false) w:=by kernel_rfl
def IsSet (w:World) (b n:Nat) (l:List ByteArray):Prop :=
  ∃ D:DataW Unit,w.ownsMap Tryd.prog 9 (plainElem Tryd.prog 4) b n D∧∀ s:ByteArray,D.atKey (.string s.data.toList) (.lit (.bool false)) = .lit (.bool (decide (s ∈ l)))
theorem set_made (w:World):IsSet (w.alloc (.map #[] 0)) w.heap.size 0 []:=⟨.map [],World.ownsMap_made _ _ _ _,fun s => by simp [DataW.atKey]⟩
theorem bool_inv0 {P:Program} {e:TypeId} (he:P.underlying e = some .bool) {v:Value} {z:DataW Unit × List MemPlace} (h:plainElem P e v = some z):∃ x,v = .bool x∧z = (.lit (.bool x),[]):=by
  unfold plainElem at h
  rw [he] at h
  cases v <;> simp at h
  exact ⟨_,rfl,h.symm⟩
section
variable {w w':World} {b n:Nat} {l:List ByteArray}
theorem IsSet.lt (h:IsSet w b n l):b < w.heap.size:=by
  obtain ⟨D,h,_⟩:=h
  exact h.lt
theorem IsSet.of_block (h:IsSet w b n l) (hb:w'.heap[b]? = w.heap[b]?):IsSet w' b n l:=by
  obtain ⟨D,⟨es,clock,h1,h2⟩,hD⟩:=h
  exact ⟨D,⟨es,clock,hb.trans h1,h2⟩,hD⟩
theorem IsSet.look (h:IsSet w b n l) {s:ByteArray} (hs:s.size≤maxLen):(Instr.lookup 133 (.map (some b)) (.string s) false).run Tryd.prog w = .ok (.bool (decide (s ∈ l))) w:=by
  obtain ⟨D,h,hD⟩:=h
  obtain ⟨v,ps,hrun,hv⟩:=h.lookup law Tryd.underlying133 (zeroB w) (plainElem_bool Tryd.underlying4 false) (key_of hs)
  rw [hD] at hv
  obtain ⟨x,rfl,hx⟩:=bool_inv0 Tryd.underlying4 hv
  simp only [Prod.mk.injEq,DataW.lit.injEq,Lit.bool.injEq] at hx
  rw [hrun,hx.1]
theorem IsSet.store (h:IsSet w b n l) {s:ByteArray} (hs:s.size≤maxLen) (hn:n < maxLen):∃ w',(Instr.mapUpdate 133 (.map (some b)) (.string s) (.bool true)).run Tryd.prog w = .ok () w'∧IsSet w' b (n+1) (s :: l)∧w.grownBy w' (some b):=by
  obtain ⟨D,h,hD⟩:=h
  have h0:=h
  obtain ⟨w',hrun,h1,hg⟩:=h.update law Tryd.underlying133 hn (key_of hs) (plainElem_bool Tryd.underlying4 true)
  refine ⟨w',hrun,⟨_,h1,fun t => ?_⟩,hg⟩
  by_cases e:t = s
  · subst e
    rw [atKey_put_same h0.isMap (show WideAt.IsKeyLit (.string t.data.toList) from trivial)]
    simp
  · rw [atKey_put_other (fun e2 => e (lit_inj e2)),hD]
    simp [e]
end
theorem wpList_look {ops:Array Oper} {rest:List Oper} {o:Oper} {a:Act} {Q:Exit→Act→World→Prop} (w:World)
    (hg:o.guard = none) (m x:Operand) (hop:o.op = Op.lookup 133 m x false) (b n:Nat) (l:List ByteArray) (hown:IsSet w b n l) (s:ByteArray) (hs:s.size≤maxLen)
    (hm:a.eval m = .map (some b)) (hx:a.eval x = .string s) (hK:wpList Tryd.prog ops Q rest (a.put o.dst (.bool (decide (s ∈ l)))) w) :
    wpList Tryd.prog ops Q (o :: rest) a w:=by
  refine wpList_plain hg fun K' hK' => ?_
  unfold Oper.wp
  simp [execOp,hop,hm,hx,hown.look hs,Result.andThen]
  exact hK' _ _ hK
theorem wpList_store {ops:Array Oper} {rest:List Oper} {o:Oper} {a:Act} {Q:Exit→Act→World→Prop} (w:World)
    (hg:o.guard = none) (m x v:Operand) (hop:o.op = Op.mapUpdate 133 m x v) (b n:Nat) (l:List ByteArray) (hown:IsSet w b n l) (s:ByteArray) (hs:s.size≤maxLen) (hn:n < maxLen)
    (hm:a.eval m = .map (some b)) (hx:a.eval x = .string s) (hv:a.eval v = .bool true)
    (hK:∀ w',IsSet w' b (n+1) (s :: l)→w.grownBy w' (some b)→wpList Tryd.prog ops Q rest (a.put o.dst undef) w') :
    wpList Tryd.prog ops Q (o :: rest) a w:=by
  refine wpList_plain hg fun K' hK' => ?_
  obtain ⟨w',hrun,r1,r2⟩:=hown.store hs hn
  unfold Oper.wp
  simp [execOp,hop,hm,hx,hv,hrun,Result.andThen]
  exact hK' _ _ (hK w' r1 r2)
end Go.Proofs.YtoigkneoaemcfaaDoor.MapS
