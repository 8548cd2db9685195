import Derived.Test.YtoigkneoaemcfaaDoorNoRcPut
import Derived.Test.YtoigkneoaemcfaaDoorNoDCurC
import Derived.Test.YtoigkneoaemcfaaDoorNoGNx2
namespace Go.Proofs.YtoigkneoaemcfaaDoor.Rec
open Go.RowKit Go.Lib Go.Proofs.YtoigkneoaemcfaaDoorW.PrintWords Go.Proofs.YtoigkneoaemcfaaDoorW.PrintLast Go.Proofs.YtoigkneoaemcfaaDoorW.PrintMore Go.Proofs.YtoigkneoaemcfaaDoor.B Go.Proofs.YtoigkneoaemcfaaDoor.Bd Go.Proofs.YtoigkneoaemcfaaDoor.Tab Go.Proofs.YtoigkneoaemcfaaDoor.GN
set_option linter.unusedVariables false
set_option linter.unusedSimpArgs false
theorem row_apart {w:World} {b1 b2 e1 e2 s1 n1 n2:Nat} {v1 v2:Value} {x1 x2:List Value} (h1:w.ownsRow b1 e1 s1 v1 n1 x1) (h2:w.ownsRow b2 e2 1 v2 n2 x2) (he:e1≠e2):∀ k,v1.ownBlock = some k→v2.ownBlock≠some k:=by
  intro k hk
  rcases h1.2 with ⟨hv,_⟩ | ⟨g,cap,cur,hv,_,hg,_⟩
  · rw [hv] at hk;cases hk
  · rw [hv] at hk
    simp only [Value.ownBlock,Option.some.injEq] at hk
    subst hk
    exact Lib.ownBlock_ne h2 hg (fun e => he e)
def i64V:Int→Value:=fun x => .int .i64 x
structure Gt (w wr:World) (g b p:Nat) (F:Nat→Prop) (L:List ByteArray) (c:Cur.Cur) (k:Int) (v1 v2 v3:Value) (a1:List Int) (a2:List ByteArray) (a3:List Int):Prop where
  mv:Mv (one g) w wr
  cur:Cur.IsC wr g c
  cok:c.ok
  tab:IsTab wr F p L
  box:NBox wr b k v1 v2 v3
  o1:wr.ownsRow w.heap.size 2 1 v1 a1.length (a1.map i64V)
  o2:wr.ownsRow w.heap.size 9 1 v2 a2.length (a2.map Value.string)
  o3:wr.ownsRow w.heap.size 3 1 v3 a3.length (a3.map i64V)
  gb:w.heap.size≤b
  lt:∀ k,F k→k < w.heap.size
  gn:¬ F g
  glt:g < w.heap.size
section
variable {w wr w':World} {g b p:Nat} {F:Nat→Prop} {L:List ByteArray} {c:Cur.Cur} {k:Int} {v1 v2 v3:Value} {a1:List Int} {a2:List ByteArray} {a3:List Int}
theorem Gt.turn (h:Gt w wr g b p F L c k v1 v2 v3 a1 a2 a3) {c':Cur.Cur} (hc:Cur.IsC w' g c') (ok:c'.ok) (m:Mv (one g) wr w'):Gt w w' g b p F L c' k v1 v2 v3 a1 a2 a3:=by
  have hg:=h.glt
  have far:∀ {e:TypeId} {v:Value} {n s:Nat} {xs:List Value},wr.ownsRow w.heap.size e s v n xs→∀ k,v.ownBlock = some k→¬ one g k:=fun ho k hk e => by
    have:=(ho.lt k hk).1;have e2:k = g:=e;omega
  exact ⟨h.mv.trans m (fun k hk => .inl hk),hc,ok,h.tab.mv m (fun k hk e => h.gn (by have e2:k = g:=e;rwa [← e2])),m.keep h.box (fun e => by have e2:b = g:=e;have:=h.gb;omega),row_mv h.o1 m (far h.o1),row_mv h.o2 m (far h.o2),row_mv h.o3 m (far h.o3),h.gb,h.lt,h.gn,h.glt⟩
theorem Gt.below (h:Gt w wr g b p F L c k v1 v2 v3 a1 a2 a3) (m:Below wr.heap.size wr w'):Gt w w' g b p F L c k v1 v2 v3 a1 a2 a3 :=
  h.turn (h.cur.below m) h.cok (Mv.of_below m)
theorem Gt.put1 (h:Gt w wr g b p F L c k v1 v2 v3 a1 a2 a3) {x:Int} {v':Value} {ob:Obj} {w2:World} (hg:(wr.alloc ob).grownBy w2 v1.ownBlock) (ho:w2.ownsRow w.heap.size 2 1 v' (a1.length+1) (a1.map i64V ++ [i64V x])) :
    Gt w (w2.setCell ⟨b,1,none⟩ v') g b p F L c k v' v2 v3 (a1 ++ [x]) a2 a3∧Mv (fun j => j = b ∨ v1.ownBlock = some j) wr (w2.setCell ⟨b,1,none⟩ v'):=by
  have m2:Mv (fun j => v1.ownBlock = some j) wr w2:=((Mv.refl (fun j => v1.ownBlock = some j) wr).alloc _).step (mv_grown hg)
  have m3:Mv (fun j => j = b ∨ v1.ownBlock = some j) wr (w2.setCell ⟨b,1,none⟩ v'):=(m2.mono (fun _ h => .inr h)).setCell (p:=⟨b,1,none⟩) (.inl (.inl rfl)) v'
  have r1:∀ j,v1.ownBlock = some j→w.heap.size≤j:=fun j hj => (h.o1.lt j hj).1
  have nb:=h.gb
  have ng:=h.glt
  have b2:=blk_set (m2.keep h.box (Lib.ownBlock_ne h.o1 h.box (by decide))) 1 v'
  refine ⟨⟨h.mv.trans m3 (fun j hj => .inr ?_),h.cur.mv m3 ?_,h.cok,h.tab.mv m3 ?_,by simpa [NBox] using b2,?_,row_mv h.o2 m3 ?_,row_mv h.o3 m3 ?_,h.gb,h.lt,h.gn,h.glt⟩,m3⟩
  · rcases hj with rfl | hj
    · exact nb
    · exact r1 j hj
  · rintro (h1 | h1)
    · omega
    · have:=r1 _ h1;omega
  · rintro j hj (h1 | h1)
    · have:=h.lt j hj;omega
    · have:=h.lt j hj;have:=r1 _ h1;omega
  · have hn:w2.heap[b]? = some (.cells #[.int .i64 k,v1,v2,v3] 40 (0,0)):=m2.keep h.box (Lib.ownBlock_ne h.o1 h.box (by decide))
    have:=row_mv ho ((Mv.refl (one b) w2).setCell (p:=⟨b,1,none⟩) (.inl rfl) v') (fun j hj e => Lib.ownBlock_ne ho hn (by decide) (by rw [hj,show j = b from e]))
    rw [List.length_append,List.length_singleton,List.map_append]
    exact this
  · rintro j hj (h1 | h1)
    · exact Lib.ownBlock_ne h.o2 h.box (by decide) (by rw [hj,h1])
    · exact row_apart h.o2 h.o1 (by decide) j hj h1
  · rintro j hj (h1 | h1)
    · exact Lib.ownBlock_ne h.o3 h.box (by decide) (by rw [hj,h1])
    · exact row_apart h.o3 h.o1 (by decide) j hj h1
theorem Gt.put2 (h:Gt w wr g b p F L c k v1 v2 v3 a1 a2 a3) {x:ByteArray} {v':Value} {ob:Obj} {w2:World} (hg:(wr.alloc ob).grownBy w2 v2.ownBlock) (ho:w2.ownsRow w.heap.size 9 1 v' (a2.length+1) (a2.map Value.string ++ [.string x])) :
    Gt w (w2.setCell ⟨b,2,none⟩ v') g b p F L c k v1 v' v3 a1 (a2 ++ [x]) a3∧Mv (fun j => j = b ∨ v2.ownBlock = some j) wr (w2.setCell ⟨b,2,none⟩ v'):=by
  have m2:Mv (fun j => v2.ownBlock = some j) wr w2:=((Mv.refl (fun j => v2.ownBlock = some j) wr).alloc _).step (mv_grown hg)
  have m3:Mv (fun j => j = b ∨ v2.ownBlock = some j) wr (w2.setCell ⟨b,2,none⟩ v'):=(m2.mono (fun _ h => .inr h)).setCell (p:=⟨b,2,none⟩) (.inl (.inl rfl)) v'
  have r1:∀ j,v2.ownBlock = some j→w.heap.size≤j:=fun j hj => (h.o2.lt j hj).1
  have nb:=h.gb
  have ng:=h.glt
  have b2:=blk_set (m2.keep h.box (Lib.ownBlock_ne h.o2 h.box (by decide))) 2 v'
  refine ⟨⟨h.mv.trans m3 (fun j hj => .inr ?_),h.cur.mv m3 ?_,h.cok,h.tab.mv m3 ?_,by simpa [NBox] using b2,row_mv h.o1 m3 ?_,?_,row_mv h.o3 m3 ?_,h.gb,h.lt,h.gn,h.glt⟩,m3⟩
  · rcases hj with rfl | hj
    · exact nb
    · exact r1 j hj
  · rintro (h1 | h1)
    · omega
    · have:=r1 _ h1;omega
  · rintro j hj (h1 | h1)
    · have:=h.lt j hj;omega
    · have:=h.lt j hj;have:=r1 _ h1;omega
  · rintro j hj (h1 | h1)
    · exact Lib.ownBlock_ne h.o1 h.box (by decide) (by rw [hj,h1])
    · exact row_apart h.o1 h.o2 (by decide) j hj h1
  · have hn:w2.heap[b]? = some (.cells #[.int .i64 k,v1,v2,v3] 40 (0,0)):=m2.keep h.box (Lib.ownBlock_ne h.o2 h.box (by decide))
    have:=row_mv ho ((Mv.refl (one b) w2).setCell (p:=⟨b,2,none⟩) (.inl rfl) v') (fun j hj e => Lib.ownBlock_ne ho hn (by decide) (by rw [hj,show j = b from e]))
    rw [List.length_append,List.length_singleton,List.map_append]
    exact this
  · rintro j hj (h1 | h1)
    · exact Lib.ownBlock_ne h.o3 h.box (by decide) (by rw [hj,h1])
    · exact row_apart h.o3 h.o2 (by decide) j hj h1
theorem Gt.put3 (h:Gt w wr g b p F L c k v1 v2 v3 a1 a2 a3) {x:Int} {v':Value} {ob:Obj} {w2:World} (hg:(wr.alloc ob).grownBy w2 v3.ownBlock) (ho:w2.ownsRow w.heap.size 3 1 v' (a3.length+1) (a3.map i64V ++ [i64V x])) :
    Gt w (w2.setCell ⟨b,3,none⟩ v') g b p F L c k v1 v2 v' a1 a2 (a3 ++ [x])∧Mv (fun j => j = b ∨ v3.ownBlock = some j) wr (w2.setCell ⟨b,3,none⟩ v'):=by
  have m2:Mv (fun j => v3.ownBlock = some j) wr w2:=((Mv.refl (fun j => v3.ownBlock = some j) wr).alloc _).step (mv_grown hg)
  have m3:Mv (fun j => j = b ∨ v3.ownBlock = some j) wr (w2.setCell ⟨b,3,none⟩ v'):=(m2.mono (fun _ h => .inr h)).setCell (p:=⟨b,3,none⟩) (.inl (.inl rfl)) v'
  have r1:∀ j,v3.ownBlock = some j→w.heap.size≤j:=fun j hj => (h.o3.lt j hj).1
  have nb:=h.gb
  have ng:=h.glt
  have b2:=blk_set (m2.keep h.box (Lib.ownBlock_ne h.o3 h.box (by decide))) 3 v'
  refine ⟨⟨h.mv.trans m3 (fun j hj => .inr ?_),h.cur.mv m3 ?_,h.cok,h.tab.mv m3 ?_,by simpa [NBox] using b2,row_mv h.o1 m3 ?_,row_mv h.o2 m3 ?_,?_,h.gb,h.lt,h.gn,h.glt⟩,m3⟩
  · rcases hj with rfl | hj
    · exact nb
    · exact r1 j hj
  · rintro (h1 | h1)
    · omega
    · have:=r1 _ h1;omega
  · rintro j hj (h1 | h1)
    · have:=h.lt j hj;omega
    · have:=h.lt j hj;have:=r1 _ h1;omega
  · rintro j hj (h1 | h1)
    · exact Lib.ownBlock_ne h.o1 h.box (by decide) (by rw [hj,h1])
    · exact row_apart h.o1 h.o3 (by decide) j hj h1
  · rintro j hj (h1 | h1)
    · exact Lib.ownBlock_ne h.o2 h.box (by decide) (by rw [hj,h1])
    · exact row_apart h.o2 h.o3 (by decide) j hj h1
  · have hn:w2.heap[b]? = some (.cells #[.int .i64 k,v1,v2,v3] 40 (0,0)):=m2.keep h.box (Lib.ownBlock_ne h.o3 h.box (by decide))
    have:=row_mv ho ((Mv.refl (one b) w2).setCell (p:=⟨b,3,none⟩) (.inl rfl) v') (fun j hj e => Lib.ownBlock_ne ho hn (by decide) (by rw [hj,show j = b from e]))
    rw [List.length_append,List.length_singleton,List.map_append]
    exact this
theorem Gt.grown1 (h:Gt w wr g b p F L c k v1 v2 v3 a1 a2 a3) {ob:Obj} {w2:World} (hg:(wr.alloc ob).grownBy w2 v1.ownBlock):w2.cell? ⟨b,1,none⟩ = some v1∧w2.frozen? ⟨b,1,none⟩ = false:=by
  have m2:Mv (fun j => v1.ownBlock = some j) wr w2:=((Mv.refl (fun j => v1.ownBlock = some j) wr).alloc _).step (mv_grown hg)
  have hb:NBox w2 b k v1 v2 v3:=m2.keep h.box (Lib.ownBlock_ne h.o1 h.box (by decide))
  exact ⟨(blk_cell hb 1).trans rfl,blk_frozen hb 1⟩
theorem Gt.grown2 (h:Gt w wr g b p F L c k v1 v2 v3 a1 a2 a3) {ob:Obj} {w2:World} (hg:(wr.alloc ob).grownBy w2 v2.ownBlock):w2.cell? ⟨b,2,none⟩ = some v2∧w2.frozen? ⟨b,2,none⟩ = false:=by
  have m2:Mv (fun j => v2.ownBlock = some j) wr w2:=((Mv.refl (fun j => v2.ownBlock = some j) wr).alloc _).step (mv_grown hg)
  have hb:NBox w2 b k v1 v2 v3:=m2.keep h.box (Lib.ownBlock_ne h.o2 h.box (by decide))
  exact ⟨(blk_cell hb 2).trans rfl,blk_frozen hb 2⟩
theorem Gt.grown3 (h:Gt w wr g b p F L c k v1 v2 v3 a1 a2 a3) {ob:Obj} {w2:World} (hg:(wr.alloc ob).grownBy w2 v3.ownBlock):w2.cell? ⟨b,3,none⟩ = some v3∧w2.frozen? ⟨b,3,none⟩ = false:=by
  have m2:Mv (fun j => v3.ownBlock = some j) wr w2:=((Mv.refl (fun j => v3.ownBlock = some j) wr).alloc _).step (mv_grown hg)
  have hb:NBox w2 b k v1 v2 v3:=m2.keep h.box (Lib.ownBlock_ne h.o3 h.box (by decide))
  exact ⟨(blk_cell hb 3).trans rfl,blk_frozen hb 3⟩
end
theorem in_calls (q x:Int) (w:World):Calls Tryd.prog 85 #[.int .i64 q,.int .i64 x] w fun e w' => e = .returned (.bool (inB q x))∧Below w.heap.size w w':=by
  refine (schema_In.calls q x (inB q x) w (in_code q x)).mono ?_
  rintro e w' ⟨rfl,h⟩
  exact ⟨rfl,h.below⟩
structure Lp (w wi wz:World) (g b p q:Nat) (F:Nat→Prop) (L:List ByteArray) (c:Cur.Cur) (k:Int) (v1 v2:Value) (a1:List Int) (a2:List ByteArray) (B0:Option Addr) (d0:Nat) (m0:List Int) (n1 n2 n3:Int):Prop where
  gt:Gt w wz g b p F L c k v1 v2 (.slice none 0 0) a1 a2 []
  sp:wz.ownsRow w.heap.size 3 1 (.slice B0 m0.length d0) m0.length (m0.map i64V)
  bx:wz.heap[q]? = some (.cells #[.slice B0 m0.length d0,.int .i64 n1,.int .i64 n2,.int .i64 n3] 97 (0,0))
  mv:Mv (fun j => j = g ∨ j = b ∨ wi.heap.size≤j) wi wz
  r1:∀ j,v1.ownBlock = some j→wi.heap.size≤j
  r2:∀ j,v2.ownBlock = some j→wi.heap.size≤j
  bq:b < q
  gq:g < q
section
variable {w wi wz w':World} {g b p q:Nat} {F:Nat→Prop} {L:List ByteArray} {c:Cur.Cur} {k:Int} {v1 v2:Value} {a1:List Int} {a2:List ByteArray} {B0:Option Addr} {d0:Nat} {m0:List Int} {n1 n2 n3:Int}
theorem Lp.turn (h:Lp w wi wz g b p q F L c k v1 v2 a1 a2 B0 d0 m0 n1 n2 n3) {c':Cur.Cur} (hc:Cur.IsC w' g c') (ok:c'.ok) (m:Mv (one g) wz w'):Lp w wi w' g b p q F L c' k v1 v2 a1 a2 B0 d0 m0 n1 n2 n3:=by
  have hg:=h.gt.glt
  refine ⟨h.gt.turn hc ok m,row_mv h.sp m (fun j hj e => ?_),m.keep h.bx (fun e => ?_),h.mv.trans m (fun j hj => .inl (.inl hj)),h.r1,h.r2,h.bq,h.gq⟩
  · have:=(h.sp.lt j hj).1;have e2:j = g:=e;omega
  · have e2:q = g:=e;have:=h.gq;omega
theorem Lp.below (h:Lp w wi wz g b p q F L c k v1 v2 a1 a2 B0 d0 m0 n1 n2 n3) (m:Below wz.heap.size wz w'):Lp w wi w' g b p q F L c k v1 v2 a1 a2 B0 d0 m0 n1 n2 n3 :=
  h.turn (h.gt.cur.below m) h.gt.cok (Mv.of_below m)
theorem Lp.put1 (h:Lp w wi wz g b p q F L c k v1 v2 a1 a2 B0 d0 m0 n1 n2 n3) {x:Int} {v':Value} {ob:Obj} {w2:World} (hg:(wz.alloc ob).grownBy w2 v1.ownBlock) (ho:w2.ownsRow w.heap.size 2 1 v' (a1.length+1) (a1.map i64V ++ [i64V x])) (hl:v'.ownBlock = v1.ownBlock ∨ v'.ownBlock = some (wz.alloc ob).heap.size) :
    Lp w wi (w2.setCell ⟨b,1,none⟩ v') g b p q F L c k v' v2 (a1 ++ [x]) a2 B0 d0 m0 n1 n2 n3:=by
  obtain ⟨h1,m⟩:=h.gt.put1 hg ho
  have hs:=h.mv.size
  refine ⟨h1,row_mv h.sp m ?_,m.keep h.bx ?_,h.mv.trans m ?_,fun j hj => ?_,h.r2,h.bq,h.gq⟩
  · rintro j hj (e | e)
    · exact Lib.ownBlock_ne h.sp h.gt.box (by decide) (by rw [hj,e])
    · exact row_apart h.sp h.gt.o1 (by decide) j hj e
  · rintro (e | e)
    · have:=h.bq;omega
    · exact Lib.ownBlock_ne h.gt.o1 h.bx (by decide) e
  · rintro j (e | e)
    · exact .inl (.inr (.inl e))
    · exact .inl (.inr (.inr (h.r1 j e)))
  · rcases hl with e | e
    · rw [e] at hj;exact h.r1 j hj
    · rw [e] at hj
      injection hj with hj
      simp at hj
      omega
theorem Lp.put2 (h:Lp w wi wz g b p q F L c k v1 v2 a1 a2 B0 d0 m0 n1 n2 n3) {x:ByteArray} {v':Value} {ob:Obj} {w2:World} (hg:(wz.alloc ob).grownBy w2 v2.ownBlock) (ho:w2.ownsRow w.heap.size 9 1 v' (a2.length+1) (a2.map Value.string ++ [.string x])) (hl:v'.ownBlock = v2.ownBlock ∨ v'.ownBlock = some (wz.alloc ob).heap.size) :
    Lp w wi (w2.setCell ⟨b,2,none⟩ v') g b p q F L c k v1 v' a1 (a2 ++ [x]) B0 d0 m0 n1 n2 n3:=by
  obtain ⟨h1,m⟩:=h.gt.put2 hg ho
  have hs:=h.mv.size
  refine ⟨h1,row_mv h.sp m ?_,m.keep h.bx ?_,h.mv.trans m ?_,h.r1,fun j hj => ?_,h.bq,h.gq⟩
  · rintro j hj (e | e)
    · exact Lib.ownBlock_ne h.sp h.gt.box (by decide) (by rw [hj,e])
    · exact row_apart h.sp h.gt.o2 (by decide) j hj e
  · rintro (e | e)
    · have:=h.bq;omega
    · exact Lib.ownBlock_ne h.gt.o2 h.bx (by decide) e
  · rintro j (e | e)
    · exact .inl (.inr (.inl e))
    · exact .inl (.inr (.inr (h.r2 j e)))
  · rcases hl with e | e
    · rw [e] at hj;exact h.r2 j hj
    · rw [e] at hj
      injection hj with hj
      simp at hj
      omega
end
theorem fail_err {c:Cur.Cur} (h:c.e≠0) (k:Int):c.fail k = c:=Cur.fail_e h k
theorem int_err {c:Cur.Cur} (h:c.e≠0):c.int = (0,c):=by unfold Cur.Cur.int;rw [if_pos h]
theorem uint_err {c:Cur.Cur} (h:c.e≠0) (m:Int):c.uint m = (0,c):=by unfold Cur.Cur.uint;rw [if_pos h]
theorem ownI_step {m0:List Int} {i:Nat} (hi:i < m0.length) {c:Cur.Cur} {a:List Int} {C:Cur.Cur} {A:List Int} (h1:(ownI (m0.drop i) c a).1 = C) (h2:c.e = 0→(ownI (m0.drop i) c a).2 = A) :
    (ownI (m0.drop (i+1)) (if inB (rd m0 i) c.int.1 = true then c.int.2 else c.int.2.fail 10) (a ++ [c.int.1])).1 = C∧((if inB (rd m0 i) c.int.1 = true then c.int.2 else c.int.2.fail 10).e = 0→(ownI (m0.drop (i+1)) (if inB (rd m0 i) c.int.1 = true then c.int.2 else c.int.2.fail 10) (a ++ [c.int.1])).2 = A):=by
  rw [num_at hi,ownI] at h1 h2
  by_cases he:c.e≠0
  · rw [if_pos he] at h1
    have hs:(if inB (rd m0 i) c.int.1 = true then c.int.2 else c.int.2.fail 10) = c:=by rw [int_err he];simp only;rw [fail_err he];simp
    rw [hs,ownI_err _ _ he]
    exact ⟨h1,fun h => absurd h he⟩
  · rw [if_neg he] at h1 h2
    exact ⟨h1,fun _ => h2 (by simpa using he)⟩
theorem ownT_step {L:List ByteArray} {n:Nat} {c:Cur.Cur} {a:List ByteArray} {C:Cur.Cur} {A:List ByteArray} (h1:(ownT L (n+1) c a).1 = C) (h2:c.e = 0→(ownT L (n+1) c a).2 = A) :
    (ownT L n (if (atT L (c.uint 16777216).1).2 = true then (c.uint 16777216).2 else (c.uint 16777216).2.fail 13) (a ++ [(atT L (c.uint 16777216).1).1])).1 = C∧((if (atT L (c.uint 16777216).1).2 = true then (c.uint 16777216).2 else (c.uint 16777216).2.fail 13).e = 0→(ownT L n (if (atT L (c.uint 16777216).1).2 = true then (c.uint 16777216).2 else (c.uint 16777216).2.fail 13) (a ++ [(atT L (c.uint 16777216).1).1])).2 = A):=by
  rw [ownT] at h1 h2
  by_cases he:c.e≠0
  · rw [if_pos he] at h1
    have hs:(if (atT L (c.uint 16777216).1).2 = true then (c.uint 16777216).2 else (c.uint 16777216).2.fail 13) = c:=by rw [uint_err he];simp only;rw [fail_err he];simp
    rw [hs,ownT_err _ _ _ he]
    exact ⟨h1,fun h => absurd h he⟩
  · rw [if_neg he] at h1 h2
    exact ⟨h1,fun _ => h2 (by simpa using he)⟩
section
variable (w:World) (g b p:Nat) (F:Nat→Prop) (L:List ByteArray) (c:Cur.Cur) (k0:Int) (B0:Option Addr) (d0:Nat) (m0:List Int) (n1 n2 n3:Int) (wi:World)
def OwnPost (e:Ending) (w':World):Prop:=∃ v1 v2 a1 a2,e = .returned (.tuple #[])∧Gt w w' g b p F L (ownT L n1.toNat (ownI m0 c []).1 []).1 k0 v1 v2 (.slice none 0 0) a1 a2 []∧((ownT L n1.toNat (ownI m0 c []).1 []).1.e = 0→a1 = (ownI m0 c []).2∧a2 = (ownT L n1.toNat (ownI m0 c []).1 []).2)∧Mv (fun j => j = g ∨ j = b ∨ wi.heap.size≤j) wi w'
set_option maxHeartbeats 8000000 in
set_option maxRecDepth 100000 in
theorem own_calls (h:Gt w wi g b p F L c k0 (.slice none 0 0) (.slice none 0 0) (.slice none 0 0) [] [] []) (hsp:wi.ownsRow w.heap.size 3 1 (.slice B0 m0.length d0) m0.length (m0.map i64V)) (hm:m0.length≤4) (h1:0≤n1) (h2:n1≤2) :
    Calls Tryd.prog 58 #[.pointer (some ⟨g,0,none⟩),.pointer (some ⟨b,0,none⟩),.agg #[.slice B0 m0.length d0,.int .i64 n1,.int .i64 n2,.int .i64 n3],.pointer (some ⟨p,0,none⟩)] wi fun e w' => OwnPost w g b p F L c k0 m0 n1 wi e w':=by
  obtain ⟨i0,hi0,hz0,hz1,hz2⟩:=info_parts (show (Tryd.prog.info? 2).map (fun i => (i.zero,i.size,i.bytes)) = some (some (.int .i64 0),1,8) from by kernel_rfl)
  obtain ⟨i1,hj0,hj1,hj2,hj3⟩:=info_parts (show (Tryd.prog.info? 9).map (fun i => (i.zero,i.size,i.bytes)) = some (some (.string ⟨#[]⟩),1,16) from by kernel_rfl)
  obtain ⟨q,hq⟩:∃ q,q = wi.heap.size:=⟨_,rfl⟩
  have H0:Hid (Lp w wi (wi.alloc (.cells #[.slice B0 m0.length d0,.int .i64 n1,.int .i64 n2,.int .i64 n3] 97)) g b p q F L c k0 (.slice none 0 0) (.slice none 0 0) [] [] B0 d0 m0 n1 n2 n3):=Lib.hid (by
    have hb2:Below wi.heap.size wi (wi.alloc (.cells #[.slice B0 m0.length d0,.int .i64 n1,.int .i64 n2,.int .i64 n3] 97)):=(Below.refl _ _).alloc (Nat.le_refl _) _
    exact ⟨h.below hb2,row_mv hsp (Mv.of_below (S:=nil) hb2) (fun _ _ h => h),by rw [hq];exact heap_alloc_new wi _,Mv.of_below hb2,fun j hj => by simp [Value.ownBlock] at hj,fun j hj => by simp [Value.ownBlock] at hj,by rw [hq];exact blk_lt h.box,by rw [hq];exact h.cur.lt⟩)
  clear h hsp
  go_enter Tryd.func58,Tryd.ntmps58
  go_upto_region 1 with (fail)
  rw [← hq]
  clear hq
  generalize wi.alloc (.cells #[.slice B0 m0.length d0,.int .i64 n1,.int .i64 n2,.int .i64 n3] 97) = w2 at *
  have y0:w2.cell? ⟨q,0,none⟩ = some (.slice B0 m0.length d0):=(blk_cell H0.out.bx 0).trans rfl
  go_wp2_with (fail)
  clear y0
  go_loopg [9,10,16] m0.length (fun kq v9 v10 v16 wr => ∃ (i:Nat) (x y:Value) (c':Cur.Cur) (v1:Value) (a1:List Int),v9 = x∧v10 = y∧v16 = .int .i64 (i:Int)∧i+kq = m0.length∧Aside0 (a1.length = i)∧Aside0 (Lp w wi wr g b p q F L c' k0 v1 (.slice none 0 0) a1 [] B0 d0 m0 n1 n2 n3)∧Aside0 ((ownI (m0.drop i) c' a1).1 = (ownI m0 c []).1)∧Aside0 (c'.e = 0→(ownI (m0.drop i) c' a1).2 = (ownI m0 c []).2))
  case atStart => exact ⟨0,_,_,c,_,[],rfl,rfl,rfl,by omega,⟨rfl⟩,⟨H0.out⟩,⟨rfl⟩,⟨fun _ => rfl⟩⟩
  case round =>
    clear H0
    obtain ⟨i,x,y,c',v1,a1,rfl,rfl,rfl,hik,hla,hG,hE1,hE2⟩:=hrel
    obtain ⟨wo,hwo⟩:∃ z,z = wr:=⟨_,rfl⟩
    subst hwo
    by_cases hlt:(i:Int) < (m0.length:Int)
    · have t4:decide ((i:Int) < (m0.length:Int)) = true:=decide_eq_true hlt
      obtain ⟨ko,rfl⟩:∃ g,gk = g+1:=⟨gk - 1,by omega⟩
      obtain ⟨A,cp,hv,hcp,hCl⟩:=Kd.R_reads (Kw.R_of_own (enc:=i64V) (h1:=fun _ => rfl) hG.out.sp)
      cases hv
      obtain ⟨ad,e,u1⟩:=Kd.at_int hCl (i:Int) (by omega) hlt
      subst e
      rw [Int.toNat_natCast] at u1
      have hl4:a1.length≤4:=by have:=hla.out;omega
      have hst:=ownI_step (m0:=m0) (i:=i) (by omega) hE1.out hE2.out
      have HST:=Lib.hid hst
      clear hst hCl hE1 hE2
      generalize rd m0 (i:Int) = qc at *
      go_wp2_with (fail)
      refine (Cur.int_calls g c' _ hG.out.gt.cur hG.out.gt.cok).mono ?_
      rintro e w3 ⟨rfl,hC3,hM3⟩
      have G3:=Lib.hid (hG.out.turn hC3 (Cur.int_ok hG.out.gt.cok) hM3)
      clear hC3 hM3 u1 hG
      generalize c'.int.1 = xv at *
      generalize c'.int.2 = c3 at *
      go_wp2_with (fail)
      refine (in_calls qc xv _).mono ?_
      rintro e w4 ⟨rfl,hb4⟩
      have G4:=Lib.hid (G3.out.below hb4)
      clear hb4 G3
      obtain ⟨cf,hcf⟩:∃ cf,cf = (if inB qc xv = true then c3 else c3.fail 10):=⟨_,rfl⟩
      rw [← hcf] at HST
      go_upto_if 25 with (fail)
      go_cut [] (fun wx => Aside0 (Lp w wi wx g b p q F L cf k0 v1 (.slice none 0 0) a1 [] (some ad) d0 m0 n1 n2 n3))
      case first =>
        by_cases hin:inB qc xv = true
        · rw [hin]
          rw [if_pos hin] at hcf
          subst hcf
          go_wp2_with (fail)
          go_meet
          exact ⟨G4.out⟩
        · rw [if_neg hin] at hcf
          have hin2:inB qc xv = false:=by simpa using hin
          rw [hin2]
          go_wp2_with (fail)
          refine (Cur.fail_calls g c3 10 _ G4.out.gt.cur).mono ?_
          rintro e w5 ⟨rfl,hC5,hM5⟩
          have G5:=Lib.hid (G4.out.turn hC5 (Cur.fail_ok G4.out.gt.cok 10) hM5)
          clear hC5 hM5
          subst hcf
          go_wp2_with (fail)
          go_meet
          exact ⟨G5.out⟩
      case rest =>
      have G5:=hcut
      clear G4 hcf hcut
      obtain ⟨A1,cp1,hv1⟩:=row_slice G5.out.gt.o1
      subst hv1
      obtain ⟨_,x1,_,_⟩:=G5.out.gt.box.cells
      go_wp2_with (first
        | (at_builtin;refine wpList_append_own_at _ rfl _ _ 36 rfl w.heap.size 2 i0 (.int .i64 0) 1 8 Tryd.underlying36 hi0 hz0 hz1 hz2 rfl (by decide) (.slice A1 a1.length cp1) a1.length (a1.map i64V) rfl (G5.out.gt.o1.alloc _) ⟨wc.heap.size,0,none⟩ 1 1 [.int .i64 xv] rfl rfl (cell_one_new wc _ _) (fun u hu => by rw [List.mem_singleton] at hu;subst hu;rfl) (by unfold maxLen;omega) (by omega) (by have:=G5.out.gt.mv.size;simp;omega) ?_;intro v2 w6 ho2 hg2 _ hl2;have HP:=Lib.hid (G5.out.put1 (x:=xv) hg2 ho2 hl2);obtain ⟨e1,f1⟩:=G5.out.gt.grown1 hg2;obtain ⟨a2,c2,rfl⟩:=row_slice ho2;clear ho2 hg2 hl2))
      go_roundg ko
      case measure => omega
      case rel => exact ⟨i+1,_,_,cf,_,a1 ++ [xv],rfl,rfl,rfl,by omega,⟨by rw [List.length_append,List.length_singleton,hla.out]⟩,⟨HP.out⟩,⟨HST.out.1⟩,⟨HST.out.2⟩⟩
    · have t4:decide ((i:Int) < (m0.length:Int)) = false:=decide_eq_false hlt
      have hd0:m0.drop i = []:=List.drop_of_length_le (by omega)
      have hc1:c' = (ownI m0 c []).1:=by have:=hE1.out;rw [hd0] at this;exact this
      have hc2:c'.e = 0→a1 = (ownI m0 c []).2:=fun h => by have:=hE2.out h;rw [hd0] at this;exact this
      have HC1:=Lib.hid hc1
      have HC2:=Lib.hid hc2
      have y1:wo.cell? ⟨q,1,none⟩ = some (.int .i64 n1):=(blk_cell hG.out.bx 1).trans rfl
      obtain ⟨nn,rfl⟩:=Int.eq_ofNat_of_zero_le h1
      clear hd0 hc1 hc2 hE1 hE2
      go_wp2_with (fail)
      clear y1
      go_loopg [11,12,41] nn (fun kq v11 v12 v41 wr => ∃ (i:Nat) (x y:Value) (c2:Cur.Cur) (v2:Value) (a2:List ByteArray),v11 = x∧v12 = y∧v41 = .int .i64 (i:Int)∧i+kq = nn∧Aside0 (a2.length = i)∧Aside0 (Lp w wi wr g b p q F L c2 k0 v1 v2 a1 a2 B0 d0 m0 nn n2 n3)∧Aside0 ((ownT L kq c2 a2).1 = (ownT L nn (ownI m0 c []).1 []).1)∧Aside0 (c2.e = 0→(ownT L kq c2 a2).2 = (ownT L nn (ownI m0 c []).1 []).2∧a1 = (ownI m0 c []).2))
      case atStart => exact ⟨0,_,_,c',_,[],rfl,rfl,rfl,by omega,⟨rfl⟩,⟨hG.out⟩,⟨by rw [HC1.out]⟩,⟨fun h => ⟨by rw [HC1.out],HC2.out h⟩⟩⟩
      case round =>
        clear hG HC1 HC2 hla hlt hik
        obtain ⟨i,x,y,c2,v2,a2,rfl,rfl,rfl,hik,hla,hG,hE1,hE2⟩:=hrel
        obtain ⟨wo,hwo⟩:∃ z,z = wr:=⟨_,rfl⟩
        subst hwo
        have y1:wo.cell? ⟨q,1,none⟩ = some (.int .i64 (nn:Int)):=(blk_cell hG.out.bx 1).trans rfl
        by_cases hlt:(i:Int) < (nn:Int)
        · have t4:decide ((i:Int) < (nn:Int)) = true:=decide_eq_true hlt
          obtain ⟨ko,rfl⟩:∃ g,gk = g+1:=⟨gk - 1,by omega⟩
          have hl4:a2.length≤4:=by have:=hla.out;omega
          have hst:=ownT_step hE1.out (fun h => (hE2.out h).1)
          have HST:=Lib.hid hst
          have HA:=Lib.hid (show (if (atT L (c2.uint 16777216).1).2 = true then (c2.uint 16777216).2 else (c2.uint 16777216).2.fail 13).e = 0→a1 = (ownI m0 c []).2 from fun h => (hE2.out (by
            by_cases he:c2.e = 0
            · exact he
            · exfalso
              rw [uint_err he] at h
              simp only at h
              rw [fail_err he] at h
              simp at h
              exact he h)).2)
          clear hst hE1 hE2
          go_wp2_with (fail)
          refine (Cur.uint_calls g c2 16777216 _ hG.out.gt.cur hG.out.gt.cok (by decide)).mono ?_
          rintro e w3 ⟨rfl,hC3,hM3⟩
          have G3:=Lib.hid (hG.out.turn hC3 (Cur.uint_ok hG.out.gt.cok 16777216) hM3)
          clear hC3 hM3 hG y1
          generalize (c2.uint 16777216).1 = iv at *
          generalize (c2.uint 16777216).2 = c3 at *
          go_wp2_with (fail)
          refine (at_calls F p L iv _ G3.out.gt.tab).mono ?_
          rintro e w4 ⟨rfl,rfl⟩
          generalize (atT L iv).1 = sv at *
          obtain ⟨bt,hbt⟩:∃ bt,bt = (atT L iv).2:=⟨_,rfl⟩
          rw [← hbt] at HST HA ⊢
          clear hbt
          obtain ⟨cf,hcf⟩:∃ cf,cf = (if bt = true then c3 else c3.fail 13):=⟨_,rfl⟩
          rw [← hcf] at HST HA
          go_upto_if 51 with (fail)
          go_cut [] (fun wx => Aside0 (Lp w wi wx g b p q F L cf k0 v1 v2 a1 a2 B0 d0 m0 nn n2 n3))
          case first =>
            cases bt with
            | true =>
              rw [if_pos rfl] at hcf
              subst hcf
              go_wp2_with (fail)
              go_meet
              exact ⟨G3.out⟩
            | false =>
              rw [if_neg (by simp)] at hcf
              go_wp2_with (fail)
              refine (Cur.fail_calls g c3 13 _ G3.out.gt.cur).mono ?_
              rintro e w5 ⟨rfl,hC5,hM5⟩
              have G5:=Lib.hid (G3.out.turn hC5 (Cur.fail_ok G3.out.gt.cok 13) hM5)
              clear hC5 hM5
              subst hcf
              go_wp2_with (fail)
              go_meet
              exact ⟨G5.out⟩
          case rest =>
          have G5:=hcut
          clear G3 hcf hcut
          obtain ⟨A2,cp2,hv2⟩:=row_slice G5.out.gt.o2
          subst hv2
          obtain ⟨_,_,x2,_⟩:=G5.out.gt.box.cells
          go_wp2_with (first
            | (at_builtin;refine wpList_append_own_at _ rfl _ _ 37 rfl w.heap.size 9 i1 (.string ⟨#[]⟩) 1 16 Tryd.underlying37 hj0 hj1 hj2 hj3 rfl (by decide) (.slice A2 a2.length cp2) a2.length (a2.map Value.string) rfl (G5.out.gt.o2.alloc _) ⟨wc.heap.size,0,none⟩ 1 1 [.string sv] rfl rfl (cell_one_new wc _ _) (fun u hu => by rw [List.mem_singleton] at hu;subst hu;rfl) (by unfold maxLen;omega) (by omega) (by have:=G5.out.gt.mv.size;simp;omega) ?_;intro v2 w6 ho2 hg2 _ hl2;have HP:=Lib.hid (G5.out.put2 (x:=sv) hg2 ho2 hl2);obtain ⟨e1,f1⟩:=G5.out.gt.grown2 hg2;obtain ⟨a3,c4,rfl⟩:=row_slice ho2;clear ho2 hg2 hl2))
          go_roundg ko
          case measure => omega
          case rel => exact ⟨i+1,_,_,cf,_,a2 ++ [sv],rfl,rfl,rfl,by omega,⟨by rw [List.length_append,List.length_singleton,hla.out]⟩,⟨HP.out⟩,⟨HST.out.1⟩,⟨fun h => ⟨HST.out.2 h,HA.out h⟩⟩⟩
        · have t4:decide ((i:Int) < (nn:Int)) = false:=decide_eq_false hlt
          obtain rfl:gk = 0:=by omega
          have HE1:=Lib.hid (show c2 = (ownT L nn (ownI m0 c []).1 []).1 from hE1.out)
          have HE2:=Lib.hid hE2.out
          have HG:=Lib.hid hG.out
          clear hE1 hE2 hG
          go_wp2_with (fail)
          go_end0
          refine ⟨v1,v2,a1,a2,rfl,?_,?_,HG.out.mv⟩
          · rw [Int.toNat_natCast,← HE1.out];exact HG.out.gt
          · rw [Int.toNat_natCast,← HE1.out]
            intro h
            exact ⟨(HE2.out h).2,(HE2.out h).1⟩
end
end Go.Proofs.YtoigkneoaemcfaaDoor.Rec
