import Derived.Test.YtcphcaiiofeflaaDoorProg
import Derived.Maps.OwnSet
import Derived.Maps.OwnOps
import Derived.StringKeys
import Derived.Lib.Hide
import Derived.WalkKit
import Derived.Test.YtcphcaiiofeflaaDoorOmWAll
namespace Go.Proofs.YtcphcaiiofeflaaDoor
instance lawBA:LawfulBEq ByteArray where
  eq_of_beq {a b} h:=by
    have:a.beq b = true:=h
    unfold ByteArray.beq at this
    cases a;cases b
    simpa using this
  rfl {a}:=by
    show a.beq a = true
    unfold ByteArray.beq
    simp
end Go.Proofs.YtcphcaiiofeflaaDoor
namespace Go.Proofs.YtcphcaiiofeflaaDoor.MapS
open Go.Lib Go.Maps
set_option linter.unusedVariables false
set_option linter.unusedSimpArgs false
theorem law:Keyed Tryd.prog 9:=string_keyed Tryd.underlying9
theorem key_of {s:ByteArray} (h:s.size≤maxLen):keyOf Tryd.prog 9 (.string s) = some (.string s.data.toList):=WideMaps.keyOf_string_mk Tryd.underlying9 h
theorem lit_inj {s t:ByteArray} (h:(Lit.string s.data.toList) = Lit.string t.data.toList):s = t:=by
  injection h with h
  cases s;cases t
  simp only [Array.toList_inj] at h
  rw [h]
theorem zeroB (w:World):(zeroValue 4).run Tryd.prog w = .ok (.bool false) w:=by kernel_rfl
def IsSet (w:World) (b n:Nat) (l:List ByteArray):Prop :=
  ∃ D:DataW Unit,w.ownsMap Tryd.prog 9 (plainElem Tryd.prog 4) b n D∧∀ s:ByteArray,D.atKey (.string s.data.toList) (.lit (.bool false)) = .lit (.bool (decide (s ∈ l)))
theorem set_made (w:World):IsSet (w.alloc (.map #[] 0)) w.heap.size 0 []:=⟨.map [],World.ownsMap_made _ _ _ _,fun s => by simp [DataW.atKey]⟩
theorem bool_inv0 {P:Program} {e:TypeId} (he:P.underlying e = some .bool) {v:Value} {z:DataW Unit × List MemPlace} (h:plainElem P e v = some z):∃ x,v = .bool x∧z = (.lit (.bool x),[]):=by
  unfold plainElem at h
  rw [he] at h
  cases v <;> simp at h
  exact ⟨_,rfl,h.symm⟩
section
variable {w w':World} {b n:Nat} {l:List ByteArray}
theorem IsSet.lt (h:IsSet w b n l):b < w.heap.size:=by
  obtain ⟨D,h,_⟩:=h
  exact h.lt
theorem IsSet.of_block (h:IsSet w b n l) (hb:w'.heap[b]? = w.heap[b]?):IsSet w' b n l:=by
  obtain ⟨D,⟨es,clock,h1,h2⟩,hD⟩:=h
  exact ⟨D,⟨es,clock,hb.trans h1,h2⟩,hD⟩
theorem IsSet.look (h:IsSet w b n l) {s:ByteArray} (hs:s.size≤maxLen):(Instr.lookup 63 (.map (some b)) (.string s) false).run Tryd.prog w = .ok (.bool (decide (s ∈ l))) w:=by
  obtain ⟨D,h,hD⟩:=h
  obtain ⟨v,ps,hrun,hv⟩:=h.lookup law Tryd.underlying63 (zeroB w) (plainElem_bool Tryd.underlying4 false) (key_of hs)
  rw [hD] at hv
  obtain ⟨x,rfl,hx⟩:=bool_inv0 Tryd.underlying4 hv
  simp only [Prod.mk.injEq,DataW.lit.injEq,Lit.bool.injEq] at hx
  rw [hrun,hx.1]
theorem IsSet.store (h:IsSet w b n l) {s:ByteArray} (hs:s.size≤maxLen) (hn:n < maxLen):∃ w',(Instr.mapUpdate 63 (.map (some b)) (.string s) (.bool true)).run Tryd.prog w = .ok () w'∧IsSet w' b (n+1) (s :: l)∧w.grownBy w' (some b):=by
  obtain ⟨D,h,hD⟩:=h
  have h0:=h
  obtain ⟨w',hrun,h1,hg⟩:=h.update law Tryd.underlying63 hn (key_of hs) (plainElem_bool Tryd.underlying4 true)
  refine ⟨w',hrun,⟨_,h1,fun t => ?_⟩,hg⟩
  by_cases e:t = s
  · subst e
    rw [atKey_put_same h0.isMap (show WideAt.IsKeyLit (.string t.data.toList) from trivial)]
    simp
  · rw [atKey_put_other (fun e2 => e (lit_inj e2)),hD]
    simp [e]
end
theorem wpList_look {ops:Array Oper} {rest:List Oper} {o:Oper} {a:Act} {Q:Exit→Act→World→Prop} (w:World)
    (hg:o.guard = none) (m x:Operand) (hop:o.op = Op.lookup 63 m x false) (b n:Nat) (l:List ByteArray) (hown:IsSet w b n l) (s:ByteArray) (hs:s.size≤maxLen)
    (hm:a.eval m = .map (some b)) (hx:a.eval x = .string s) (hK:wpList Tryd.prog ops Q rest (a.put o.dst (.bool (decide (s ∈ l)))) w) :
    wpList Tryd.prog ops Q (o :: rest) a w:=by
  refine wpList_plain hg fun K' hK' => ?_
  unfold Oper.wp
  simp [execOp,hop,hm,hx,hown.look hs,Result.andThen]
  exact hK' _ _ hK
theorem wpList_store {ops:Array Oper} {rest:List Oper} {o:Oper} {a:Act} {Q:Exit→Act→World→Prop} (w:World)
    (hg:o.guard = none) (m x v:Operand) (hop:o.op = Op.mapUpdate 63 m x v) (b n:Nat) (l:List ByteArray) (hown:IsSet w b n l) (s:ByteArray) (hs:s.size≤maxLen) (hn:n < maxLen)
    (hm:a.eval m = .map (some b)) (hx:a.eval x = .string s) (hv:a.eval v = .bool true)
    (hK:∀ w',IsSet w' b (n+1) (s :: l)→w.grownBy w' (some b)→wpList Tryd.prog ops Q rest (a.put o.dst undef) w') :
    wpList Tryd.prog ops Q (o :: rest) a w:=by
  refine wpList_plain hg fun K' hK' => ?_
  obtain ⟨w',hrun,r1,r2⟩:=hown.store hs hn
  unfold Oper.wp
  simp [execOp,hop,hm,hx,hv,hrun,Result.andThen]
  exact hK' _ _ (hK w' r1 r2)
end Go.Proofs.YtcphcaiiofeflaaDoor.MapS
