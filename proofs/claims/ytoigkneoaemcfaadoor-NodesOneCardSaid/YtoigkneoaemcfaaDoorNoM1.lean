/- Texts of the claim, one behind the other. -/
import Derived.Test.YtoigkneoaemcfaaDoorNoWAll
import Derived.Lib.OthersKept
import Derived.Lib.Hide
import Derived.Lib.SliceRun
import Derived.LoopTactic
import Derived.WalkKit
import Derived.Laws.AppendOwn
import Derived.Test.YtoigkneoaemcfaaDoorProg
import Derived.Maps.OwnSet
import Derived.Maps.OwnOps
import Derived.Lib.SlKeysI
namespace Go.Proofs.YtoigkneoaemcfaaDoor.Kw
open Go.RowKit Go.Lib Go.Proofs.YtoigkneoaemcfaaDoorW.PrintWords Go.Proofs.YtoigkneoaemcfaaDoorW.PrintLast Go.Proofs.YtoigkneoaemcfaaDoorW.PrintMore
set_option linter.unusedVariables false
set_option linter.unusedSimpArgs false
theorem reps_map {α:Type} (R:α→List Value→Prop) (enc:α→Value) (h:∀ c,R c [enc c]):∀ l:List α,Reps R 1 l (l.map enc)
  | [] => Reps.none _ _
  | c :: l => Reps.one (h c) (reps_map R enc h l)
theorem cells_of {α:Type} {enc:α→Value} {h1:∀ x,(enc x).oneCell' = true} {w:World} {ad:Addr} {l:List α} (h:Kd.C (Kd.scalar enc h1) w (some ad) l.length l):∀ j u,(l.map enc)[j]? = some u→w.cell? (ad.add j) = some u:=by
  intro j u hj
  have hlt:j < l.length:=by
    have:=(List.getElem?_eq_some_iff.1 hj).1
    simpa using this
  obtain ⟨ad',e,hc⟩:=h.2.2 (by omega)
  cases e
  obtain ⟨c,hl,hR,hcell⟩:=hc j _ (List.getElem?_eq_getElem hlt)
  have hR:c = [enc l[j]]:=hR
  subst hR
  rw [List.getElem?_map,List.getElem?_eq_getElem hlt] at hj
  have:=hcell 0 u (by simpa using hj)
  rw [show (Kd.scalar enc h1).sz = 1 from rfl,Nat.mul_one,Nat.add_zero] at this
  exact this
theorem nil_of {α:Type} {d:Kd α} {w:World} {l:List α} (h:Kd.C d w none l.length l):l = []:=by
  rcases Nat.eq_zero_or_pos l.length with h0 | h0
  · exact List.eq_nil_of_length_eq_zero h0
  · obtain ⟨ad,e,_⟩:=h.2.2 h0
    cases e
theorem R_of_own {α:Type} {enc:α→Value} {h1:∀ x,(enc x).oneCell' = true} {w:World} {base:Nat} {v:Value} {e:Nat} {l:List α} (h:w.ownsRow base e 1 v l.length (l.map enc)):Kd.R (Kd.scalar enc h1) e w base (fun _ => True) v l :=
  ⟨fun _ _ => trivial,l.map enc,h,reps_map ((Kd.scalar enc h1).M w base _) enc (fun _ => rfl) l⟩
theorem own_of_R {α:Type} {enc:α→Value} {h1:∀ x,(enc x).oneCell' = true} {w:World} {base:Nat} {ok:Nat→Prop} {v:Value} {e:Nat} {l:List α} (h:Kd.R (Kd.scalar enc h1) e w base ok v l):w.ownsRow base e 1 v l.length (l.map enc):=by
  obtain ⟨_,inner,ho,hr⟩:=h
  have he:inner = l.map enc:=by
    apply List.ext_getElem?
    intro j
    by_cases hj:j < l.length
    · have:=hr.2 j _ (List.getElem?_eq_getElem hj)
      have h2:(inner.drop (j * 1)).take 1 = [enc l[j]]:=this
      rw [Nat.mul_one] at h2
      have h3:((inner.drop j).take 1)[0]? = some (enc l[j]):=by rw [h2];rfl
      rw [List.getElem?_take] at h3
      simp at h3
      rw [h3,List.getElem?_map,List.getElem?_eq_getElem hj]
      rfl
    · have hl:inner.length = l.length:=by have:=hr.1;rw [show (Kd.scalar enc h1).sz = 1 from rfl] at this;omega
      rw [List.getElem?_eq_none (by omega),List.getElem?_eq_none (by rw [List.length_map];omega)]
  rw [← he]
  exact ho
theorem grown_trans {w w1 w2:World} {row row1:Option Nat} (h:w.grownBy w1 row) (h2:w1.grownBy w2 row1) (hrow:row1 = row ∨ row1 = none ∨ ∃ g,row1 = some g∧w.heap.size≤g):w.grownBy w2 row :=
  ⟨h2.os.trans h.os,h2.tape.trans h.tape,h2.output.trans h.output,Nat.le_trans h.size h2.size,fun k hk hn => (h2.block k (Nat.lt_of_lt_of_le hk h.size) (fun e => by
    rcases hrow with rfl | rfl | ⟨g,rfl,hg⟩
    · exact hn e
    · cases e
    · cases e;omega)).trans (h.block k hk hn)⟩
theorem grown_below {w0 w w1:World} {row:Option Nat} (h:Below w0.heap.size w0 w) (hg:w.grownBy w1 row) (hrow:∀ g,row = some g→w0.heap.size≤g):Below w0.heap.size w0 w1:=h.grown hg h.size hrow
end Go.Proofs.YtoigkneoaemcfaaDoor.Kw
namespace Go.Proofs.YtoigkneoaemcfaaDoorW.PrintWords.Kd
open Go.Proofs.YtoigkneoaemcfaaDoorW.PrintWords Go.Proofs.YtoigkneoaemcfaaDoorW.PrintMore
end Go.Proofs.YtoigkneoaemcfaaDoorW.PrintWords.Kd
namespace Go.Proofs.YtoigkneoaemcfaaDoorW.PrintWords
open Go.RowKit Go.Proofs.YtoigkneoaemcfaaDoorW.PrintLast Go.Proofs.YtoigkneoaemcfaaDoorW.PrintMore
theorem BB {b:Nat} {w0 w w':World} (h:Aside0 (Below b w0 w)) (k:Below b w0 w→Below b w0 w':=by intro h_;repeat (first | (with_reducible first | exact h_ | apply below_alloc | apply pw_below_drewN | apply below_drew1 | refine below_set ?_ (Aside0.out (by assumption))) | exact h_)):Below b w0 w':=k h.out
theorem BL {g:Nat} {o:Obj} {w w':World} (h:Aside0 (w.heap[g]? = some o)) (k:w.heap[g]? = some o→w'.heap[g]? = some o:=by intro h_;(with_reducible repeat (first | refine blk_drewN ?_ _ | refine blk_drew ?_ | refine blk_alloc ?_ _));exact h_):w'.heap[g]? = some o:=k h.out
theorem RL {α:Type} {d:Kd α} {e:TypeId} {base:Nat} {ok:Nat→Prop} {v:Value} {xs:List α} {w w':World} (h:Aside0 (Kd.R d e w base ok v xs)) (k:Kd.R d e w base ok v xs→Kd.R d e w' base ok v xs:=by intro h_;(with_reducible repeat (first | apply Kd.R_alloc | apply Kd.R_drewN | apply Kd.R_drew));exact h_):Kd.R d e w' base ok v xs:=k h.out
theorem BE {g:Nat} {o:Obj} {w w1 w2:World} (h:Aside0 (w.heap[g]? = some o)) (hb:Below w1.heap.size w1 w2) (k:w.heap[g]? = some o→w1.heap[g]? = some o:=by intro h_;(with_reducible repeat (first | refine blk_drewN ?_ _ | refine blk_drew ?_ | refine blk_alloc ?_ _));exact h_):Aside0 (w2.heap[g]? = some o):=Aside0.mk (blk_below (k h.out) hb)
theorem CR {α:Type} {d:Kd α} {e:TypeId} {base:Nat} {ok:Nat→Prop} {A:Option Addr} {c:Nat} {xs:List α} {w w':World} (h:Aside0 (Kd.R d e w base ok (.slice A xs.length c) xs)) (k:Kd.C d w A xs.length xs→Kd.C d w' A xs.length xs:=by intro h_;repeat (first | exact h_ | (with_reducible refine Kd.C_alloc ?_ _) | (with_reducible refine Kd.C_drewN ?_ _) | (with_reducible refine Kd.C_drew ?_))):Kd.C d w' A xs.length xs:=k (Kd.R_reads' h.out).2.2
end Go.Proofs.YtoigkneoaemcfaaDoorW.PrintWords
namespace Go.Proofs.YtoigkneoaemcfaaDoorW.PrintWords
open Go.RowKit Go.Proofs.YtoigkneoaemcfaaDoorW.PrintLast Go.Proofs.YtoigkneoaemcfaaDoorW.PrintMore
theorem AM {p:Prop} (h:p):Aside0 p:=Aside0.mk h
theorem BC {w:World} {g:Nat} {t:TypeId} {cs:Array Value} (h:Aside0 (w.heap[g]? = some (.cells cs t (0,0)))) (i:Nat) (v:Value) (hv:cs[i]? = some v):w.cell? ⟨g,i,none⟩ = some v:=(blk_cell h.out i).trans hv
theorem BF {w:World} {g:Nat} {t:TypeId} {cs:Array Value} (h:Aside0 (w.heap[g]? = some (.cells cs t (0,0)))) (i:Nat):w.frozen? ⟨g,i,none⟩ = false:=blk_frozen h.out i
theorem NL {g g':Nat} {o:Obj} {w w':World} (h:Aside0 (w.heap[g]? = some o)) (hg:g' = w'.heap.size) (k:w.heap[g]? = some o→w'.heap[g]? = some o:=by intro h_;(with_reducible repeat (first | refine blk_drewN ?_ _ | refine blk_drew ?_ | refine blk_alloc ?_ _));exact h_):Aside0 (g≠g'):=Aside0.mk (by rw [hg];exact Nat.ne_of_lt (blk_lt (k h.out)))
theorem NG {g g':Nat} {o:Obj} {w w':World} (h:Aside0 (w.heap[g]? = some o)) (hg:g' = w'.heap.size) (k:w.heap[g]? = some o→w'.heap[g]? = some o:=by intro h_;(with_reducible repeat (first | refine blk_drewN ?_ _ | refine blk_drew ?_ | refine blk_alloc ?_ _));exact h_):Aside0 (g'≠g):=Aside0.mk (by rw [hg];exact Nat.ne_of_gt (blk_lt (k h.out)))
theorem GW {w w1 w':World} {g:Nat} (h:Aside0 (Below w.heap.size w w1)) (hg:g = w'.heap.size) (k:Below w.heap.size w w1→Below w.heap.size w w':=by intro h_;repeat (first | (with_reducible first | exact h_ | apply below_alloc | apply pw_below_drewN | apply below_drew1 | refine below_set ?_ (Aside0.out (by assumption))) | exact h_)):Aside0 (w.heap.size≤g):=Aside0.mk (by rw [hg];exact below_size (k h.out))
theorem SL {α:Type} {d:Kd α} {e:TypeId} {base:Nat} {ok:Nat→Prop} {v:Value} {xs:List α} {w w':World} (h:Aside0 (Kd.S d e w base ok v xs)) (k:Kd.S d e w base ok v xs→Kd.S d e w' base ok v xs:=by intro h_;(with_reducible repeat (first | apply Kd.S_alloc | apply Kd.S_drewN | apply Kd.S_drew));exact h_):Kd.S d e w' base ok v xs:=k h.out
theorem CS {α:Type} {d:Kd α} {e:TypeId} {base:Nat} {ok:Nat→Prop} {A:Option Addr} {n c:Nat} {xs:List α} {w w':World} (h:Aside0 (Kd.S d e w base ok (.slice A n c) xs)) (k:Kd.C d w A xs.length xs→Kd.C d w' A xs.length xs:=by intro h_;repeat (first | exact h_ | (with_reducible refine Kd.C_alloc ?_ _) | (with_reducible refine Kd.C_drewN ?_ _) | (with_reducible refine Kd.C_drew ?_))):Kd.C d w' A xs.length xs:=k (Kd.S_reads' h.out).2.2
theorem BS {w W w1 w2:World} (h:Aside0 (Below w.heap.size w W)) (hb:Below w1.heap.size w1 w2) (k:Below w.heap.size w W→Below w.heap.size w w1:=by intro h_;repeat (first | (with_reducible first | exact h_ | apply below_alloc | apply pw_below_drewN | apply below_drew1 | refine below_set ?_ (Aside0.out (by assumption))) | exact h_)):Aside0 (Below w.heap.size w w2):=Aside0.mk (below_step (k h.out) hb)
theorem CL {w W:World} {x:Addr} {u:Value} (h:Aside0 (Below w.heap.size w W)) (hx:w.cell? x = some u):W.cell? x = some u:=(h.out.cell (World.block_lt_of_cell? w _ hx)).trans hx
theorem RT {α:Sort _} {a b:α} {q:Prop} (h:q) (e:a = b:=by first | rfl | (simp [errW_none,errW_some] <;> rfl) | (simp [*,errW_none,errW_some] <;> rfl)):a = b∧q:=⟨e,h⟩
theorem OD {p:Prop} [Decidable p] (h:decide p = true:=by first | (with_reducible assumption) | assumption):p:=of_decide_eq_true h
theorem goesM_ {P:Program} {ops:Array Oper} {Q:Exit→Act→World→Prop} {rest:List Oper} {oi:Oper} {a:Act} {w:World} (N:Option Tmp) (hd:oi.dst = N) (hg:oi.guard = none) {f:FuncId} {fn:Func} {as_:Array Operand} {ts:Array TypeId} (hf:P.funcs[f]? = some fn) (args:Array Value)
    (hop : oi.op = .call { callee := .value (.func f), args := as_, argTypes := ts }) (h : Calls P f args w fun e w' => ∃ v, e = .returned v ∧ wpList P ops Q rest (a.put N v) w') (hname : (fn.name == "runtime.NumGoroutine") = false := by kernel_rfl) (hb : fn.body.isSome = true := by rfl)
    (hargs:as_.map a.eval = args:=by (try simp only [List.map_toArray,List.map_cons,List.map_nil]);first | done | rfl | (simp only [List.length_drop,List.length_take];rfl)):wpList P ops Q (oi :: rest) a w:=goesL_ N hd hg hf hname hb args hop hargs h
end Go.Proofs.YtoigkneoaemcfaaDoorW.PrintWords
namespace Go.Proofs.YtoigkneoaemcfaaDoor.Set
open Go.RowKit Go.Lib Go.Maps
set_option linter.unusedVariables false
set_option linter.unusedSimpArgs false
theorem law:Keyed Tryd.prog 3:=int_keyed Tryd.underlying3
theorem zeroE (w:World):(zeroValue 4).run Tryd.prog w = .ok (.bool false) w:=by kernel_rfl
def IsSet (w:World) (b n:Nat) (met:List Nat):Prop :=
  ∃ D:DataW Unit,w.ownsMap Tryd.prog 3 (plainElem Tryd.prog 4) b n D∧(∀ j:Nat,D.atKey (.int .i64 (j:Int)) (.lit (.bool false)) = .lit (.bool (decide (j ∈ met))))∧∀ z:Int,Maps.has D (.int .i64 z) = true↔∃ j,j ∈ met∧z = (j:Int)
theorem wf_nat {j:Nat} (h:j≤9223372036854775807):(Lit.int .i64 (j:Int)).wf = true:=WalkArith.wf_i64 (by omega)
theorem key_of {j:Nat} (h:j≤9223372036854775807):keyOf Tryd.prog 3 (.int .i64 (j:Int)) = some (.int .i64 (j:Int)):=keyOf_int_mk Tryd.underlying3 (wf_nat h)
theorem made (w:World):IsSet (w.alloc (.map #[] 0)) w.heap.size 0 []:=⟨.map [],World.ownsMap_made _ _ _ _,fun j => by simp [DataW.atKey],fun z => by simp [Maps.has]⟩
section
variable {w w':World} {b n:Nat} {met:List Nat}
theorem IsSet.lt (h:IsSet w b n met):b < w.heap.size:=by
  obtain ⟨D,h,_⟩:=h
  exact h.lt
theorem IsSet.kept {row:Option Nat} (h:IsSet w b n met) (hg:w.grownBy w' row) (hne:some b≠row):IsSet w' b n met:=by
  obtain ⟨D,h,hD⟩:=h
  exact ⟨D,h.kept hg hne,hD⟩
theorem IsSet.alloc (h:IsSet w b n met) (o:Obj):IsSet (w.alloc o) b n met:=h.kept (World.grownBy_alloc w o none) (by simp)
theorem IsSet.drew (h:IsSet w b n met):IsSet w.drew b n met:=h
theorem IsSet.drewN (h:IsSet w b n met) (k:Nat):IsSet (w.drewN k) b n met:=h
theorem IsSet.mono {n':Nat} (h:IsSet w b n met) (hn:n≤n'):IsSet w b n' met:=by
  obtain ⟨D,h,hD⟩:=h
  exact ⟨D,h.mono hn,hD⟩
theorem IsSet.congr {met':List Nat} (h:IsSet w b n met) (hm:∀ j,j ∈ met↔j ∈ met'):IsSet w b n met':=by
  obtain ⟨D,h,hD⟩:=h
  exact ⟨D,h,fun j => by rw [hD.1,decide_eq_decide.2 (hm j)],fun z => by rw [hD.2];exact ⟨fun ⟨j,h1,h2⟩ => ⟨j,(hm j).1 h1,h2⟩,fun ⟨j,h1,h2⟩ => ⟨j,(hm j).2 h1,h2⟩⟩⟩
theorem plainElem_bool_inv0 {P:Program} {e:TypeId} (he:P.underlying e = some .bool) {v:Value} {z:DataW Unit × List MemPlace} (h:plainElem P e v = some z):∃ x,v = .bool x∧z = (.lit (.bool x),[]):=by
  unfold plainElem at h
  rw [he] at h
  cases v <;> simp at h
  exact ⟨_,rfl,h.symm⟩
theorem plainElem_bool_inv {v:Value} {z:DataW Unit × List MemPlace} (h:plainElem Tryd.prog 4 v = some z):∃ x,v = .bool x∧z = (.lit (.bool x),[]):=plainElem_bool_inv0 Tryd.underlying4 h
theorem IsSet.look (h:IsSet w b n met) {j:Nat} (hj:j≤9223372036854775807):(Instr.lookup 125 (.map (some b)) (.int .i64 (j:Int)) false).run Tryd.prog w = .ok (.bool (decide (j ∈ met))) w:=by
  obtain ⟨D,h,hD⟩:=h
  obtain ⟨v,ps,hrun,hv⟩:=h.lookup law Tryd.underlying125 (zeroE w) (plainElem_bool Tryd.underlying4 false) (key_of hj)
  rw [hD.1] at hv
  obtain ⟨x,rfl,hx⟩:=plainElem_bool_inv hv
  simp only [Prod.mk.injEq,DataW.lit.injEq,Lit.bool.injEq] at hx
  rw [hrun,hx.1]
theorem IsSet.store (h:IsSet w b n met) {j:Nat} (hj:j≤9223372036854775807) (hn:n < maxLen):∃ w',(Instr.mapUpdate 125 (.map (some b)) (.int .i64 (j:Int)) (.bool true)).run Tryd.prog w = .ok () w'∧IsSet w' b (n+1) (j :: met)∧w.grownBy w' (some b):=by
  obtain ⟨D,h,hD⟩:=h
  have h0:=h
  obtain ⟨w',hrun,h1,hg⟩:=h.update law Tryd.underlying125 hn (key_of hj) (plainElem_bool Tryd.underlying4 true)
  refine ⟨w',hrun,⟨_,h1,fun i => ?_,fun z => ?_⟩,hg⟩
  rotate_left
  · by_cases hz:z = (j:Int)
    · subst hz
      rw [has_put_same h0.isMap (show WideAt.IsKeyLit (.int .i64 (j:Int)) from trivial)]
      simp
    · rw [has_put_other (by intro e;injection e with _ e;exact hz e),hD.2]
      constructor
      · rintro ⟨i,h1,h2⟩;exact ⟨i,List.mem_cons_of_mem _ h1,h2⟩
      · rintro ⟨i,h1,h2⟩
        rcases List.mem_cons.1 h1 with rfl | h1
        · exact absurd h2 hz
        · exact ⟨i,h1,h2⟩
  by_cases hi:i = j
  · subst hi
    rw [atKey_put_same h0.isMap (show WideAt.IsKeyLit (.int .i64 (i:Int)) from trivial)]
    simp
  · rw [atKey_put_other (by intro e;injection e with _ e;omega),hD.1]
    simp [hi]
theorem IsSet.keys (h:IsSet w b n met) (hn:met.Nodup):∃ D:DataW Unit,w.ownsMap Tryd.prog 3 (plainElem Tryd.prog 4) b n D∧Maps.size D≤n∧(met.map Int.ofNat).Perm (intKeys D):=by
  obtain ⟨D,h,hD⟩:=h
  refine ⟨D,h,h.size_le,?_⟩
  refine CollectedI.perm (left:=fun _ => false) ⟨?_,fun x => ?_⟩ h law Tryd.underlying3 (fun _ => rfl)
  · refine List.pairwise_map.2 (hn.imp (fun {a b} hne e => hne ?_))
    exact Int.ofNat.inj e
  · rw [hD.2,List.mem_map]
    exact ⟨fun ⟨j,h1,h2⟩ => ⟨⟨j,h1,h2.symm⟩,rfl⟩,fun ⟨⟨j,h1,h2⟩,_⟩ => ⟨j,h1,h2.symm⟩⟩
theorem IsSet.of_block (h:IsSet w b n met) (hb:w'.heap[b]? = w.heap[b]?):IsSet w' b n met:=by
  obtain ⟨D,⟨es,clock,h1,h2⟩,hD⟩:=h
  exact ⟨D,⟨es,clock,hb.trans h1,h2⟩,hD⟩
theorem IsSet.below (h:IsSet w b n met) (hb:Below w.heap.size w w'):IsSet w' b n met:=h.of_block (hb.block b h.lt)
theorem intKeys_len {D:DataW Unit} (h:IsMap D):(intKeys D).length = Maps.size D:=by
  obtain ⟨es,rfl⟩:=h
  simp [intKeys,Maps.size]
theorem IsSet.len (h:IsSet w b n met) (hn:met.Nodup) (ty:TypeId):(Builtin.len_ #[125] ty #[.map (some b)]).run Tryd.prog w = .ok (.int .i64 (met.length:Int)) w:=by
  obtain ⟨D,h1,_,hp⟩:=h.keys hn
  have h2:=h1.len Tryd.underlying125 ty
  rw [h2,← intKeys_len h1.isMap,← hp.length_eq,List.length_map]
theorem wpList_look {ops:Array Oper} {rest:List Oper} {o:Oper} {a:Act} {Q:Exit→Act→World→Prop} (w:World)
    (hg:o.guard = none) (m x:Operand) (hop:o.op = Op.lookup 125 m x false) (b n:Nat) (met:List Nat) (hown:IsSet w b n met) (j:Nat) (hj:j≤9223372036854775807) (ji:Int) (hji:ji = (j:Int))
    (hm:a.eval m = .map (some b)) (hx:a.eval x = .int .i64 ji) (hK:wpList Tryd.prog ops Q rest (a.put o.dst (.bool (decide (j ∈ met)))) w) :
    wpList Tryd.prog ops Q (o :: rest) a w:=by
  subst hji
  refine wpList_plain hg fun K' hK' => ?_
  unfold Oper.wp
  simp [execOp,hop,hm,hx,hown.look hj,Result.andThen]
  exact hK' _ _ hK
theorem wpList_store {ops:Array Oper} {rest:List Oper} {o:Oper} {a:Act} {Q:Exit→Act→World→Prop} (w:World)
    (hg:o.guard = none) (m x v:Operand) (hop:o.op = Op.mapUpdate 125 m x v) (b n:Nat) (met:List Nat) (hown:IsSet w b n met) (j:Nat) (hj:j≤9223372036854775807) (ji:Int) (hji:ji = (j:Int)) (hn:n < maxLen)
    (hm:a.eval m = .map (some b)) (hx:a.eval x = .int .i64 ji) (hv:a.eval v = .bool true)
    (hK:∀ w',IsSet w' b (n+1) (j :: met)→w.grownBy w' (some b)→wpList Tryd.prog ops Q rest (a.put o.dst undef) w') :
    wpList Tryd.prog ops Q (o :: rest) a w:=by
  subst hji
  refine wpList_plain hg fun K' hK' => ?_
  obtain ⟨w',hrun,r1,r2⟩:=hown.store hj hn
  unfold Oper.wp
  simp [execOp,hop,hm,hx,hv,hrun,Result.andThen]
  exact hK' _ _ (hK w' r1 r2)
end
end Go.Proofs.YtoigkneoaemcfaaDoor.Set
