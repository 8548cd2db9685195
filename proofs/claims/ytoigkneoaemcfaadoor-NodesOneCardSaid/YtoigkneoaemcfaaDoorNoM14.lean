/- Texts of the claim, one behind the other. -/
import Derived.Test.YtoigkneoaemcfaaDoorNoDCurV
import Derived.RegionTactic
import Derived.Test.YtoigkneoaemcfaaDoorNoRcGet
import Derived.Test.YtoigkneoaemcfaaDoorNoM6
namespace Go.Proofs.YtoigkneoaemcfaaDoor.Cur
open Go.RowKit Go.Proofs.YtoigkneoaemcfaaDoorW.PrintWords Go.Proofs.YtoigkneoaemcfaaDoorW.PrintLast Go.Proofs.YtoigkneoaemcfaaDoorW.PrintMore Go.Proofs.YtoigkneoaemcfaaDoor.VM Go.Proofs.YtoigkneoaemcfaaDoor.B
set_option linter.unusedVariables false
set_option linter.unusedSimpArgs false
def IsM (w:World) (g:Nat) (c:Cur):Prop:=w.heap[g]? = some (.cells #[.string c.b,.int .i64 c.at',.int .i64 c.e] 58 (0,0))
section
variable {w w':World} {g:Nat} {c:Cur}
theorem IsM.c0 (h:IsM w g c):w.cell? ⟨g,0,none⟩ = some (.string c.b):=(blk_cell h 0).trans rfl
theorem IsM.c1 (h:IsM w g c):w.cell? ⟨g,1,none⟩ = some (.int .i64 c.at'):=(blk_cell h 1).trans rfl
theorem IsM.c2 (h:IsM w g c):w.cell? ⟨g,2,none⟩ = some (.int .i64 c.e):=(blk_cell h 2).trans rfl
theorem IsM.f1 (h:IsM w g c):w.frozen? ⟨g,1,none⟩ = false:=blk_frozen h 1
theorem IsM.f2 (h:IsM w g c):w.frozen? ⟨g,2,none⟩ = false:=blk_frozen h 2
theorem IsM.lt (h:IsM w g c):g < w.heap.size:=blk_lt h
theorem IsM.drewN (h:IsM w g c) (n:Nat):IsM (w.drewN n) g c:=h
theorem IsM.drawn (h:IsM w g c) (d:Drawn0 w w'):IsM w' g c:=by obtain ⟨n,rfl⟩:=d;exact h
theorem IsM.mv {S:Nat→Prop} (h:IsM w g c) (m:Mv S w w') (hg:¬ S g):IsM w' g c:=m.keep h hg
theorem IsM.below (h:IsM w g c) (m:Below w.heap.size w w'):IsM w' g c:=(Mv.of_below (S:=nil) m).keep h (fun h => h)
theorem IsM.setAt (h:IsM w g c) (n:Nat):IsM (w.setCell ⟨g,1,none⟩ (.int .i64 n)) g { c with at':=n }:=by
  have:=blk_set h 1 (.int .i64 n)
  simpa [IsM] using this
theorem IsM.setErr (h:IsM w g c) (e:Int):IsM (w.setCell ⟨g,2,none⟩ (.int .i64 e)) g { c with e:=e }:=by
  have:=blk_set h 2 (.int .i64 e)
  simpa [IsM] using this
end
theorem IsM.new (w:World) (b:ByteArray) (a:Nat):IsM (w.alloc (.cells #[.string b,.int .i64 a,.int .i64 0] 58)) w.heap.size ⟨b,a,0⟩:=by
  have:=heap_alloc_new w (.cells #[.string b,.int .i64 a,.int .i64 0] 58)
  simpa [IsM] using this
end Go.Proofs.YtoigkneoaemcfaaDoor.Cur
namespace Go.Proofs.YtoigkneoaemcfaaDoor.Rec
open Go.RowKit Go.Lib Go.Proofs.YtoigkneoaemcfaaDoorW.PrintWords Go.Proofs.YtoigkneoaemcfaaDoorW.PrintLast Go.Proofs.YtoigkneoaemcfaaDoorW.PrintMore Go.Proofs.YtoigkneoaemcfaaDoor.B Go.Proofs.YtoigkneoaemcfaaDoor.Bd Go.Proofs.YtoigkneoaemcfaaDoor.Tab Go.Proofs.YtoigkneoaemcfaaDoor.GN
set_option linter.unusedVariables false
set_option linter.unusedSimpArgs false
structure Gm (w wr:World) (g b:Nat) (c:Cur.Cur) (k:Int) (v1 v2 v3:Value) (a1:List Int) (a2:List ByteArray) (a3:List Int):Prop where
  mv:Mv (one g) w wr
  cur:Cur.IsM wr g c
  cok:c.ok
  box:NBox wr b k v1 v2 v3
  o1:wr.ownsRow w.heap.size 2 1 v1 a1.length (a1.map i64V)
  o2:wr.ownsRow w.heap.size 9 1 v2 a2.length (a2.map Value.string)
  o3:wr.ownsRow w.heap.size 3 1 v3 a3.length (a3.map i64V)
  gb:w.heap.size≤b
  glt:g < w.heap.size
section
variable {w wr w':World} {g b:Nat} {c:Cur.Cur} {k:Int} {v1 v2 v3:Value} {a1:List Int} {a2:List ByteArray} {a3:List Int}
theorem Gm.turn (h:Gm w wr g b c k v1 v2 v3 a1 a2 a3) {c':Cur.Cur} (hc:Cur.IsM w' g c') (ok:c'.ok) (m:Mv (one g) wr w'):Gm w w' g b c' k v1 v2 v3 a1 a2 a3:=by
  have hg:=h.glt
  have far:∀ {e:TypeId} {v:Value} {n s:Nat} {xs:List Value},wr.ownsRow w.heap.size e s v n xs→∀ k,v.ownBlock = some k→¬ one g k:=fun ho k hk e => by
    have:=(ho.lt k hk).1;have e2:k = g:=e;omega
  exact ⟨h.mv.trans m (fun k hk => .inl hk),hc,ok,m.keep h.box (fun e => by have e2:b = g:=e;have:=h.gb;omega),row_mv h.o1 m (far h.o1),row_mv h.o2 m (far h.o2),row_mv h.o3 m (far h.o3),h.gb,h.glt⟩
theorem Gm.below (h:Gm w wr g b c k v1 v2 v3 a1 a2 a3) (m:Below wr.heap.size wr w'):Gm w w' g b c k v1 v2 v3 a1 a2 a3 :=
  h.turn (h.cur.below m) h.cok (Mv.of_below m)
theorem Gm.put1 (h:Gm w wr g b c k v1 v2 v3 a1 a2 a3) {x:Int} {v':Value} {w2:World} (m2:Mv (fun j => v1.ownBlock = some j) wr w2) (ho:w2.ownsRow w.heap.size 2 1 v' (a1.length+1) (a1.map i64V ++ [i64V x])) :
    Gm w (w2.setCell ⟨b,1,none⟩ v') g b c k v' v2 v3 (a1 ++ [x]) a2 a3∧Mv (fun j => j = b ∨ v1.ownBlock = some j) wr (w2.setCell ⟨b,1,none⟩ v'):=by
  have m3:Mv (fun j => j = b ∨ v1.ownBlock = some j) wr (w2.setCell ⟨b,1,none⟩ v'):=(m2.mono (fun _ h => .inr h)).setCell (p:=⟨b,1,none⟩) (.inl (.inl rfl)) v'
  have r1:∀ j,v1.ownBlock = some j→w.heap.size≤j:=fun j hj => (h.o1.lt j hj).1
  have nb:=h.gb
  have ng:=h.glt
  have b2:=blk_set (m2.keep h.box (Lib.ownBlock_ne h.o1 h.box (by decide))) 1 v'
  refine ⟨⟨h.mv.trans m3 (fun j hj => .inr ?_),h.cur.mv m3 ?_,h.cok,by simpa [NBox] using b2,?_,row_mv h.o2 m3 ?_,row_mv h.o3 m3 ?_,h.gb,h.glt⟩,m3⟩
  · rcases hj with rfl | hj
    · exact nb
    · exact r1 j hj
  · rintro (h1 | h1)
    · omega
    · have:=r1 _ h1;omega
  · have hn:w2.heap[b]? = some (.cells #[.int .i64 k,v1,v2,v3] 40 (0,0)):=m2.keep h.box (Lib.ownBlock_ne h.o1 h.box (by decide))
    have:=row_mv ho ((Mv.refl (one b) w2).setCell (p:=⟨b,1,none⟩) (.inl rfl) v') (fun j hj e => Lib.ownBlock_ne ho hn (by decide) (by rw [hj,show j = b from e]))
    rw [List.length_append,List.length_singleton,List.map_append]
    exact this
  · rintro j hj (h1 | h1)
    · exact Lib.ownBlock_ne h.o2 h.box (by decide) (by rw [hj,h1])
    · exact row_apart h.o2 h.o1 (by decide) j hj h1
  · rintro j hj (h1 | h1)
    · exact Lib.ownBlock_ne h.o3 h.box (by decide) (by rw [hj,h1])
    · exact row_apart h.o3 h.o1 (by decide) j hj h1
theorem Gm.put2 (h:Gm w wr g b c k v1 v2 v3 a1 a2 a3) {x:ByteArray} {v':Value} {w2:World} (m2:Mv (fun j => v2.ownBlock = some j) wr w2) (ho:w2.ownsRow w.heap.size 9 1 v' (a2.length+1) (a2.map Value.string ++ [.string x])) :
    Gm w (w2.setCell ⟨b,2,none⟩ v') g b c k v1 v' v3 a1 (a2 ++ [x]) a3∧Mv (fun j => j = b ∨ v2.ownBlock = some j) wr (w2.setCell ⟨b,2,none⟩ v'):=by
  have m3:Mv (fun j => j = b ∨ v2.ownBlock = some j) wr (w2.setCell ⟨b,2,none⟩ v'):=(m2.mono (fun _ h => .inr h)).setCell (p:=⟨b,2,none⟩) (.inl (.inl rfl)) v'
  have r1:∀ j,v2.ownBlock = some j→w.heap.size≤j:=fun j hj => (h.o2.lt j hj).1
  have nb:=h.gb
  have ng:=h.glt
  have b2:=blk_set (m2.keep h.box (Lib.ownBlock_ne h.o2 h.box (by decide))) 2 v'
  refine ⟨⟨h.mv.trans m3 (fun j hj => .inr ?_),h.cur.mv m3 ?_,h.cok,by simpa [NBox] using b2,row_mv h.o1 m3 ?_,?_,row_mv h.o3 m3 ?_,h.gb,h.glt⟩,m3⟩
  · rcases hj with rfl | hj
    · exact nb
    · exact r1 j hj
  · rintro (h1 | h1)
    · omega
    · have:=r1 _ h1;omega
  · rintro j hj (h1 | h1)
    · exact Lib.ownBlock_ne h.o1 h.box (by decide) (by rw [hj,h1])
    · exact row_apart h.o1 h.o2 (by decide) j hj h1
  · have hn:w2.heap[b]? = some (.cells #[.int .i64 k,v1,v2,v3] 40 (0,0)):=m2.keep h.box (Lib.ownBlock_ne h.o2 h.box (by decide))
    have:=row_mv ho ((Mv.refl (one b) w2).setCell (p:=⟨b,2,none⟩) (.inl rfl) v') (fun j hj e => Lib.ownBlock_ne ho hn (by decide) (by rw [hj,show j = b from e]))
    rw [List.length_append,List.length_singleton,List.map_append]
    exact this
  · rintro j hj (h1 | h1)
    · exact Lib.ownBlock_ne h.o3 h.box (by decide) (by rw [hj,h1])
    · exact row_apart h.o3 h.o2 (by decide) j hj h1
theorem Gm.put3 (h:Gm w wr g b c k v1 v2 v3 a1 a2 a3) {x:Int} {v':Value} {w2:World} (m2:Mv (fun j => v3.ownBlock = some j) wr w2) (ho:w2.ownsRow w.heap.size 3 1 v' (a3.length+1) (a3.map i64V ++ [i64V x])) :
    Gm w (w2.setCell ⟨b,3,none⟩ v') g b c k v1 v2 v' a1 a2 (a3 ++ [x])∧Mv (fun j => j = b ∨ v3.ownBlock = some j) wr (w2.setCell ⟨b,3,none⟩ v'):=by
  have m3:Mv (fun j => j = b ∨ v3.ownBlock = some j) wr (w2.setCell ⟨b,3,none⟩ v'):=(m2.mono (fun _ h => .inr h)).setCell (p:=⟨b,3,none⟩) (.inl (.inl rfl)) v'
  have r1:∀ j,v3.ownBlock = some j→w.heap.size≤j:=fun j hj => (h.o3.lt j hj).1
  have nb:=h.gb
  have ng:=h.glt
  have b2:=blk_set (m2.keep h.box (Lib.ownBlock_ne h.o3 h.box (by decide))) 3 v'
  refine ⟨⟨h.mv.trans m3 (fun j hj => .inr ?_),h.cur.mv m3 ?_,h.cok,by simpa [NBox] using b2,row_mv h.o1 m3 ?_,row_mv h.o2 m3 ?_,?_,h.gb,h.glt⟩,m3⟩
  · rcases hj with rfl | hj
    · exact nb
    · exact r1 j hj
  · rintro (h1 | h1)
    · omega
    · have:=r1 _ h1;omega
  · rintro j hj (h1 | h1)
    · exact Lib.ownBlock_ne h.o1 h.box (by decide) (by rw [hj,h1])
    · exact row_apart h.o1 h.o3 (by decide) j hj h1
  · rintro j hj (h1 | h1)
    · exact Lib.ownBlock_ne h.o2 h.box (by decide) (by rw [hj,h1])
    · exact row_apart h.o2 h.o3 (by decide) j hj h1
  · have hn:w2.heap[b]? = some (.cells #[.int .i64 k,v1,v2,v3] 40 (0,0)):=m2.keep h.box (Lib.ownBlock_ne h.o3 h.box (by decide))
    have:=row_mv ho ((Mv.refl (one b) w2).setCell (p:=⟨b,3,none⟩) (.inl rfl) v') (fun j hj e => Lib.ownBlock_ne ho hn (by decide) (by rw [hj,show j = b from e]))
    rw [List.length_append,List.length_singleton,List.map_append]
    exact this
theorem Gm.grown1 (h:Gm w wr g b c k v1 v2 v3 a1 a2 a3) {w2:World} (m2:Mv (fun j => v1.ownBlock = some j) wr w2):w2.cell? ⟨b,1,none⟩ = some v1∧w2.frozen? ⟨b,1,none⟩ = false:=by
  have hb:NBox w2 b k v1 v2 v3:=m2.keep h.box (Lib.ownBlock_ne h.o1 h.box (by decide))
  exact ⟨(blk_cell hb 1).trans rfl,blk_frozen hb 1⟩
theorem Gm.grown2 (h:Gm w wr g b c k v1 v2 v3 a1 a2 a3) {w2:World} (m2:Mv (fun j => v2.ownBlock = some j) wr w2):w2.cell? ⟨b,2,none⟩ = some v2∧w2.frozen? ⟨b,2,none⟩ = false:=by
  have hb:NBox w2 b k v1 v2 v3:=m2.keep h.box (Lib.ownBlock_ne h.o2 h.box (by decide))
  exact ⟨(blk_cell hb 2).trans rfl,blk_frozen hb 2⟩
theorem Gm.grown3 (h:Gm w wr g b c k v1 v2 v3 a1 a2 a3) {w2:World} (m2:Mv (fun j => v3.ownBlock = some j) wr w2):w2.cell? ⟨b,3,none⟩ = some v3∧w2.frozen? ⟨b,3,none⟩ = false:=by
  have hb:NBox w2 b k v1 v2 v3:=m2.keep h.box (Lib.ownBlock_ne h.o3 h.box (by decide))
  exact ⟨(blk_cell hb 3).trans rfl,blk_frozen hb 3⟩
end
section
variable (g:Nat) (A0:Option Addr) (c0:Nat) (L:List ByteArray) (c:Cur.Cur) (at' edges:Int) (w:World)
theorem ownI_stop {qs:List Int} {c:Cur.Cur} {a:List Int} (h:qs = [] ∨ c.e≠0):ownI qs c a = (c,a):=by
  rcases h with rfl | h
  · rfl
  · exact ownI_err qs a h
def genC (s2 s3 edges:Int) (c:Cur.Cur):Cur.Cur:=if (c.uint (max edges 0)).1 < s2 ∨ (0≤s3∧s3 < (c.uint (max edges 0)).1) then (c.uint (max edges 0)).2.fail 12 else (c.uint (max edges 0)).2
def genK (at' s2 s3 edges:Int) (c:Cur.Cur):Cur.Cur × List Int:=ownK at' (c.uint (max edges 0)).1.toNat (genC s2 s3 edges c) []
end
end Go.Proofs.YtoigkneoaemcfaaDoor.Rec
