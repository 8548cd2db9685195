/- Texts of the claim, one behind the other. -/
import Derived.Test.YtoigkneoaemcfaaDoorNoWAll
import Derived.Lib.Hide
import Derived.Deep.QuietTactic
import Derived.BigQuiet
import Derived.WalkKit
import Derived.Deep.Slices
import Derived.SizedLaws
import Derived.ChangeArms
import Derived.Lib.SmallJoins
import Derived.Test.YtoigkneoaemcfaaDoorNoShelf
import Derived.Lib.OthersKept
import Derived.Lib.LaidU8
import Derived.LoopTactic
import Derived.Laws.IdiomStrings
namespace Go.Proofs.YtoigkneoaemcfaaDoor.B
open Go.RowKit Go.Proofs.YtoigkneoaemcfaaDoorW.PrintWords Go.Proofs.YtoigkneoaemcfaaDoorW.PrintLast Go.Proofs.YtoigkneoaemcfaaDoorW.PrintMore
structure Mv (S:Nat→Prop) (w w':World):Prop where
  os:w'.os = w.os
  tape:w'.tape = w.tape
  output:w'.output = w.output
  size:w.heap.size≤w'.heap.size
  block:∀ k,k < w.heap.size→¬ S k→w'.heap[k]? = w.heap[k]?
def one (g:Nat):Nat→Prop:=fun k => k = g
def two (g h:Nat):Nat→Prop:=fun k => k = g ∨ k = h
def nil:Nat→Prop:=fun _ => False
section
variable {S S2:Nat→Prop} {w w1 w2 w':World}
theorem Mv.refl (S:Nat→Prop) (w:World):Mv S w w:=⟨rfl,rfl,rfl,Nat.le_refl _,fun _ _ _ => rfl⟩
theorem Mv.of_below (h:Below w.heap.size w w'):Mv S w w':=⟨h.os,h.tape,h.output,h.size,fun k hk _ => h.block k hk⟩
theorem Mv.of_drawn (h:Drawn0 w w'):Mv S w w':=Mv.of_below h.below
theorem Mv.below (h:Mv S w w') (hs:∀ k,S k→w.heap.size≤k):Below w.heap.size w w':=⟨h.os,h.tape,h.output,h.size,fun k hk => h.block k hk (fun hS => by have:=hs k hS;omega)⟩
theorem Mv.trans (h:Mv S w w1) (k:Mv S2 w1 w2) (hs:∀ k,S2 k→S k ∨ w.heap.size≤k):Mv S w w2 :=
  ⟨k.os.trans h.os,k.tape.trans h.tape,k.output.trans h.output,Nat.le_trans h.size k.size,fun i hi hn =>
    (k.block i (Nat.lt_of_lt_of_le hi h.size) (fun h2 => by rcases hs i h2 with h3 | h3;exact hn h3;omega)).trans (h.block i hi hn)⟩
theorem Mv.step (h:Mv S w w1) (k:Mv S w1 w2):Mv S w w2:=h.trans k (fun _ h => .inl h)
theorem Mv.grow (h:Mv S w w1) (k:Below w1.heap.size w1 w2):Mv S w w2:=h.trans (S2:=nil) (Mv.of_below k) (fun _ h => h.elim)
theorem Mv.mono (h:Mv S w w1) (hs:∀ k,S k→S2 k):Mv S2 w w1:=⟨h.os,h.tape,h.output,h.size,fun k hk hn => h.block k hk (fun h2 => hn (hs k h2))⟩
theorem Mv.drew (h:Mv S w w1):Mv S w w1.drew:=⟨h.os,h.tape,h.output,h.size,h.block⟩
theorem Mv.drewN (h:Mv S w w1) (n:Nat):Mv S w (w1.drewN n):=⟨h.os,h.tape,h.output,h.size,h.block⟩
theorem Mv.setCell (h:Mv S w w1) {p:Addr} (hp:S p.block ∨ w.heap.size≤p.block) (u:Value):Mv S w (w1.setCell p u) :=
  h.trans (S2:=one p.block) ⟨rfl,rfl,rfl,by simp [World.setCell],fun k _ hn => Below.heap_setCell w1 p u k hn⟩ (fun k hk => by rw [show k = p.block from hk];exact hp)
theorem Mv.alloc (h:Mv S w w1) (o:Obj):Mv S w (w1.alloc o):=h.grow ((Below.refl _ _).alloc (Nat.le_refl _) o)
theorem Mv.keep (h:Mv S w w1) {g:Nat} {o:Obj} (hb:w.heap[g]? = some o) (hg:¬ S g):w1.heap[g]? = some o:=(h.block g (blk_lt hb) hg).trans hb
end
theorem quietD {P:Program} {f:FuncId} {args:Array Value} {w:World} {n:Nat} {v:Value}
    (h:Calls P f args (w.drewN n) fun e w' => e = .returned v∧Drawn0 (w.drewN n) w'):Calls P f args (w.drewN n) fun e w'' => e = .returned v∧∃ m,w'' = w.drewN m :=
  h.mono fun _ _ ⟨he,hm⟩ => by obtain ⟨m,rfl⟩:=hm;exact ⟨he,n+m,by rw [World.drewN_drewN]⟩
theorem slice_str {P:Program} {t:TypeId} (ht:P.underlying t = some .string) (s:ByteArray) (i j:Nat) (hi:i≤j) (hj:j≤s.size) {x y:Int} (hx:x = i) (hy:y = j) (W:World) :
    (Instr.slice t (.string s) (some (.int .i64 x)) (some (.int .i64 y)) none).run P W = .ok (.string (s.extract i j)) W:=by
  subst hx hy
  rw [run_slice_string W t s .i64 .i64 i j ht (by omega) (by omega) (by omega),Int.toNat_natCast,Int.toNat_natCast]
end Go.Proofs.YtoigkneoaemcfaaDoor.B
namespace Go.Proofs.YtoigkneoaemcfaaDoor.O
open Go.RowKit Go.ChangeShapes Go.WideShapes Go.Proofs.YtoigkneoaemcfaaDoorW.PrintWords Go.Proofs.YtoigkneoaemcfaaDoorW.PrintLast Go.Proofs.YtoigkneoaemcfaaDoorW.PrintMore
def Opens {α:Type} (P:Program) (t:TypeId) (d:Kd α) (Q:α→Prop):Prop :=
  ∀ {H:Type} (enc:TypeId × Value→H) (w:World) (fuel:Nat) (cs:List Value) (x:DataW H × List MemPlace),
    DataW.trod enc P w 0 (fun _ => true) true fuel t cs = some x→(∀ n ∈ DataW.weights P t x.1,n≤reachBytes)→∃ v:α,d.K w v cs∧Q v
section
variable {P:Program} {t e:TypeId}
theorem opens_int {k:IntKind} (ht:P.underlying t = some (.int k)):Opens P t (Kd.int k) (fun n => (Lit.int k n).wf = true):=by
  intro H enc w fuel cs x h _
  obtain ⟨n,rfl,rfl,hw⟩:=DataW.trod_int ht h
  exact ⟨n,rfl,hw⟩
theorem opens_imp {α:Type} {d:Kd α} {Q Q':α→Prop} (h:Opens P t d Q) (hq:∀ a,Q a→Q' a):Opens P t d Q':=by
  intro H enc w fuel cs x hx hw
  obtain ⟨v,hk,h1⟩:=h enc w fuel cs x hx hw
  exact ⟨v,hk,hq v h1⟩
theorem field_opens {α:Type} {d:Kd α} {Q:α→Prop} {fs:Array Field} {H:Type} {enc:TypeId × Value→H} {w:World} {n:Nat} {cs:List Value} {xs:List (DataW H × List MemPlace)} (i:Nat) (f:Field) (hf:fs[i]? = some f)
    (ht:P.underlying t = some (.struct fs)) (ho:Opens P f.type d Q) (hw:∀ k ∈ DataW.weights P t (.agg (xs.map (·.1))),k≤reachBytes) (hl:xs.length = fs.size)
    (hx:DataW.trod enc P w 0 (fun _ => true) true n f.type ((cs.drop f.offset).take (P.cellsOf f.type)) = xs[i]?):∃ v:α,d.K w v ((cs.drop f.offset).take (P.cellsOf f.type))∧Q v:=by
  have hi:i < xs.length:=by
    have:=(Array.getElem?_eq_some_iff.1 hf).1
    omega
  rw [List.getElem?_eq_getElem hi] at hx
  refine ho enc w n _ _ hx (fun k hk => hw k ?_)
  simp only [DataW.weights,ht]
  refine DataW.weights_mem_each (j:=i) (t:=f.type) (d:=xs[i].1) ?_ ?_ k hk
  · rw [List.getElem?_map];simp [hf]
  · rw [List.getElem?_map,List.getElem?_eq_getElem hi];rfl
theorem opens_struct5 {α β γ δ ε:Type} {d0:Kd α} {d1:Kd β} {d2:Kd γ} {d3:Kd δ} {d4:Kd ε} {Q0:α→Prop} {Q1:β→Prop} {Q2:γ→Prop} {Q3:δ→Prop} {Q4:ε→Prop} {f0 f1 f2 f3 f4:Field} (ht:P.underlying t = some (.struct #[f0,f1,f2,f3,f4])) (ct:P.cellsOf t = 5)
    (o0:f0.offset = 0) (o1:f1.offset = 1) (o2:f2.offset = 2) (o3:f3.offset = 3) (o4:f4.offset = 4) (c0:P.cellsOf f0.type = 1) (c1:P.cellsOf f1.type = 1) (c2:P.cellsOf f2.type = 1) (c3:P.cellsOf f3.type = 1) (c4:P.cellsOf f4.type = 1)
    (h0:Opens P f0.type d0 Q0) (h1:Opens P f1.type d1 Q1) (h2:Opens P f2.type d2 Q2) (h3:Opens P f3.type d3 Q3) (h4:Opens P f4.type d4 Q4) :
    Opens P t (Kd.pair d0 (Kd.pair d1 (Kd.pair d2 (Kd.pair d3 d4)))) (fun x => Q0 x.1∧Q1 x.2.1∧Q2 x.2.2.1∧Q3 x.2.2.2.1∧Q4 x.2.2.2.2):=by
  intro H enc w fuel cs x h hw
  obtain ⟨xs,n,_,rfl,hcl,hxl,hf⟩:=DataW.trod_struct ht h
  obtain ⟨v0,k0,q0⟩:=field_opens 0 f0 rfl ht h0 hw hxl (hf 0 f0 rfl)
  obtain ⟨v1,k1,q1⟩:=field_opens 1 f1 rfl ht h1 hw hxl (hf 1 f1 rfl)
  obtain ⟨v2,k2,q2⟩:=field_opens 2 f2 rfl ht h2 hw hxl (hf 2 f2 rfl)
  obtain ⟨v3,k3,q3⟩:=field_opens 3 f3 rfl ht h3 hw hxl (hf 3 f3 rfl)
  obtain ⟨v4,k4,q4⟩:=field_opens 4 f4 rfl ht h4 hw hxl (hf 4 f4 rfl)
  rw [o0,c0] at k0
  rw [o1,c1] at k1
  rw [o2,c2] at k2
  rw [o3,c3] at k3
  rw [o4,c4] at k4
  rw [ct] at hcl
  match cs,hcl with
  | [u0,u1,u2,u3,u4],_ => exact ⟨(v0,v1,v2,v3,v4),⟨[u0],[u1,u2,u3,u4],rfl,k0,[u1],[u2,u3,u4],rfl,k1,[u2],[u3,u4],rfl,k2,[u3],[u4],rfl,k3,k4⟩,q0,q1,q2,q3,q4⟩
theorem opens_arg {α:Type} {d:Kd α} {Q:α→Prop} (ho:Opens P t d Q) {H:Type} {enc:TypeId × Value→H} {w:World} {v:Value} {x:DataW H} {ps:List MemPlace} (h:DataW.Trod enc P w 0 (fun _ => true) true t v x ps)
    {ts:List TypeId} {ds:List (DataW H)} {j:Nat} (hsz:(DataW.weightsEach P ts ds).all (·≤reachBytes) = true) (ht:ts[j]? = some t) (hd:ds[j]? = some x):∃ u:α,d.K w u v.cells.toList∧Q u:=by
  obtain ⟨fuel,hf⟩:=h
  refine ho enc w fuel _ _ hf (fun n hn => ?_)
  have:=List.all_eq_true.1 hsz _ (DataW.weights_mem_each ht hd n hn)
  simpa using this
end
end Go.Proofs.YtoigkneoaemcfaaDoor.O
namespace Go.Proofs.YtoigkneoaemcfaaDoor.O
open Go.RowKit Go.ChangeShapes Go.WideShapes Go.Proofs.YtoigkneoaemcfaaDoorW.PrintWords Go.Proofs.YtoigkneoaemcfaaDoorW.PrintLast Go.Proofs.YtoigkneoaemcfaaDoorW.PrintMore
end Go.Proofs.YtoigkneoaemcfaaDoor.O
namespace Go.Proofs.YtoigkneoaemcfaaDoor.U
open Go.RowKit Go.Lib Go.Proofs.YtoigkneoaemcfaaDoorW.PrintWords Go.Proofs.YtoigkneoaemcfaaDoorW.PrintLast Go.Proofs.YtoigkneoaemcfaaDoorW.PrintMore
set_option linter.unusedVariables false
set_option linter.unusedSimpArgs false
def first (s:ByteArray):Nat→Nat→Int
  | 0,_ => -1
  | k+1,p => if p < s.size then (if (Utf8.decode s p).1 = 65533 then (if (decodeGo (s.extract p s.size)).2≤1 then (p:Int) else first s k (p+(Utf8.decode s p).2)) else first s k (p+(Utf8.decode s p).2)) else -1
theorem first_end (s:ByteArray) (k p:Nat) (h:¬ p < s.size):first s k p = -1:=by
  cases k with
  | zero => rfl
  | succ k => rw [first,if_neg h]
theorem width_pos (s:ByteArray) (pos:Nat) (h:pos < s.size):1≤(Utf8.decode s pos).2:=by
  by_cases ha:(s[pos]'h).toNat < 128
  · rw [decode_ascii s pos h ha]
    exact Nat.le_refl _
  · exact (decode_high s pos h (by omega)).2
theorem iterPos_at (w:World) (k:Nat) (s:ByteArray) (p:Nat) (h:w.heap[k]? = some (.stringIter s p)):w.iterPos k = p:=by
  unfold World.iterPos
  rw [h]
set_option maxRecDepth 100000 in
theorem First_calls (s:ByteArray) (w:World) (ht:∀ w',Below w.heap.size w w'→Utf8Tabs 0 1 w') (hs:s.size≤140737488351232) :
    Calls Tryd.prog 66 #[.string s] w fun e w' => e = .returned (.int .i64 (first s (s.size+1) 0))∧Below w.heap.size w w':=by
  have HT:=Lib.hid ht
  clear ht
  go_enter Tryd.func66,Tryd.ntmps66
  go_wp2
  go_loopw [3,15] (fun _ _ wr => ∃ (pos b:Nat),wr.heap[w.heap.size]? = some (.stringIter s pos)∧Below w.heap.size w wr∧first s b pos = first s (s.size+1) 0∧s.size < pos+b) (fun _ _ wr => s.size - wr.iterPos w.heap.size)
  case atStart =>
    have hnew:(w.iter s 0).heap[w.heap.size]? = some (.stringIter s 0):=heap_alloc_new w (.stringIter s 0)
    have hbel:Below w.heap.size w (w.iter s 0):=below_alloc (Below.refl _ _) (.stringIter s 0)
    exact ⟨0,s.size+1,hnew,hbel,rfl,by omega⟩
  case round =>
    obtain ⟨pos,b,hk,hB,hc,hb⟩:=hrel
    have HK:=Lib.hid hk
    have HB:=Lib.hid hB
    have HC:=Lib.hid hc
    clear hB hc
    by_cases hp:pos < s.size
    · have hnx:∀ ty,(Instr.next (.pointer (some ⟨w.heap.size,0,none⟩)) true ty).run Tryd.prog wr = _:=fun ty => run_next_any_at wr _ s pos ty hk hp
      clear hk
      have hwd:=width_pos s pos hp
      have HW:=Lib.hid (iterAt_heap wr w.heap.size s pos (pos+(Utf8.decode s pos).2) HK.out)
      have HX:=Lib.hid (below_iterAt HB.out (Nat.le_refl _) s (pos+(Utf8.decode s pos).2))
      have hpos:=Lib.hid (iterPos_at wr w.heap.size s pos HK.out)
      obtain ⟨b,rfl⟩:∃ j,b = j+1:=⟨b - 1,by omega⟩
      have hst:=HC.out
      rw [first,if_pos hp] at hst
      by_cases he:(Utf8.decode s pos).1 = 65533
      · have t1:(((Utf8.decode s pos).1:Int) != 65533) = false:=bne_eq_false_iff_eq.mpr (by omega)
        rw [if_pos he] at hst
        have HS:=Lib.hid hst
        clear hst he
        go_wp2_with (fail)
        refine (Tryd.utf8_DecodeRuneInString (s.extract pos s.size) _ (HT.out _ HX.out)).mono ?_
        rintro e w2 ⟨rfl,hb2⟩
        have HB2:=Lib.hid (below_step HX.out hb2)
        have HK2:=Lib.hid ((hb2.block w.heap.size (Array.getElem?_eq_some_iff.1 HW.out).1).trans HW.out)
        clear hb2
        by_cases hz:(decodeGo (s.extract pos s.size)).2≤1
        · have t2:decide (((decodeGo (s.extract pos s.size)).2:Int)≤1) = true:=decide_eq_true (by omega)
          have hst:=HS.out
          rw [if_pos hz] at hst
          have HS2:=Lib.hid hst
          clear hst hz
          go_wp2_with (fail)
          go_ret
          exact ⟨by rw [← HS2.out];rfl,HB2.out⟩
        · have t2:decide (((decodeGo (s.extract pos s.size)).2:Int)≤1) = false:=decide_eq_false (by omega)
          have hst:=HS.out
          rw [if_neg hz] at hst
          have HS2:=Lib.hid hst
          clear hst hz
          go_wp2_with (fail)
          go_roundw
          case rel => exact ⟨_,b,HK2.out,HB2.out,HS2.out,by omega⟩
          case measure => rw [iterPos_at _ _ _ _ HK2.out,hpos.out];omega
      · have t1:(((Utf8.decode s pos).1:Int) != 65533) = true:=bne_iff_ne.mpr (by omega)
        rw [if_neg he] at hst
        have HS:=Lib.hid hst
        clear hst he
        go_wp2_with (fail)
        go_roundw
        case rel => exact ⟨_,b,HW.out,HX.out,HS.out,by omega⟩
        case measure => rw [iterPos_at _ _ _ _ HW.out,hpos.out];omega
    · have hnx:∀ ty,(Instr.next (.pointer (some ⟨w.heap.size,0,none⟩)) true ty).run Tryd.prog wr = _:=fun ty => run_next_end_at wr _ s pos ty hk hp
      clear hk
      go_wp2_with (fail)
      go_ret
      exact ⟨by rw [← HC.out,first_end s b pos hp];rfl,HB.out⟩
end Go.Proofs.YtoigkneoaemcfaaDoor.U
