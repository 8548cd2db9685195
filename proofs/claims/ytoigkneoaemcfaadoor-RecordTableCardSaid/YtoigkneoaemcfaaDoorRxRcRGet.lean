/- dioramaref13.Get, called. -/
import Derived.Test.YtoigkneoaemcfaaDoorRxRcGet
import Derived.Test.YtoigkneoaemcfaaDoorRxDCurR
import Derived.Test.YtoigkneoaemcfaaDoorRxGRx9
import Derived.Test.YtoigkneoaemcfaaDoorRxGRx6
namespace Go.Proofs.YtoigkneoaemcfaaDoor.Rec
open Go.RowKit Go.Lib Go.Proofs.YtoigkneoaemcfaaDoorW.PrintWords Go.Proofs.YtoigkneoaemcfaaDoorW.PrintLast Go.Proofs.YtoigkneoaemcfaaDoorW.PrintMore Go.Proofs.YtoigkneoaemcfaaDoor.B Go.Proofs.YtoigkneoaemcfaaDoor.Bd Go.Proofs.YtoigkneoaemcfaaDoor.Tab Go.Proofs.YtoigkneoaemcfaaDoor.GR
set_option linter.unusedVariables false
set_option linter.unusedSimpArgs false
/-- What stands while the reference gets a record. -/
structure Gm (w wr : World) (g b : Nat) (c : Cur.Cur) (k : Int) (v1 v2 v3 : Value) (a1 : List Int) (a2 : List ByteArray) (a3 : List Int) : Prop where
  mv : Mv (one g) w wr
  cur : Cur.IsM wr g c
  cok : c.ok
  box : NBox wr b k v1 v2 v3
  o1 : wr.ownsRow w.heap.size 2 1 v1 a1.length (a1.map i64V)
  o2 : wr.ownsRow w.heap.size 9 1 v2 a2.length (a2.map Value.string)
  o3 : wr.ownsRow w.heap.size 3 1 v3 a3.length (a3.map i64V)
  gb : w.heap.size ≤ b
  glt : g < w.heap.size
section
variable {w wr w' : World} {g b : Nat} {c : Cur.Cur} {k : Int} {v1 v2 v3 : Value} {a1 : List Int} {a2 : List ByteArray} {a3 : List Int}
/-- The cursor was turned. -/
theorem Gm.turn (h : Gm w wr g b c k v1 v2 v3 a1 a2 a3) {c' : Cur.Cur} (hc : Cur.IsM w' g c') (ok : c'.ok) (m : Mv (one g) wr w') : Gm w w' g b c' k v1 v2 v3 a1 a2 a3 := by
  have hg := h.glt
  have far : ∀ {e : TypeId} {v : Value} {n s : Nat} {xs : List Value}, wr.ownsRow w.heap.size e s v n xs → ∀ k, v.ownBlock = some k → ¬ one g k := fun ho k hk e => by
    have := (ho.lt k hk).1; have e2 : k = g := e; omega
  exact ⟨h.mv.trans m (fun k hk => .inl hk), hc, ok, m.keep h.box (fun e => by have e2 : b = g := e; have := h.gb; omega), row_mv h.o1 m (far h.o1), row_mv h.o2 m (far h.o2), row_mv h.o3 m (far h.o3), h.gb, h.glt⟩
theorem Gm.below (h : Gm w wr g b c k v1 v2 v3 a1 a2 a3) (m : Below wr.heap.size wr w') : Gm w w' g b c k v1 v2 v3 a1 a2 a3 :=
  h.turn (h.cur.below m) h.cok (Mv.of_below m)
/-- A row that was appended to, and put into the box. -/
theorem Gm.put1 (h : Gm w wr g b c k v1 v2 v3 a1 a2 a3) {x : Int} {v' : Value} {w2 : World} (m2 : Mv (fun j => v1.ownBlock = some j) wr w2) (ho : w2.ownsRow w.heap.size 2 1 v' (a1.length + 1) (a1.map i64V ++ [i64V x])) :
    Gm w (w2.setCell ⟨b, 1, none⟩ v') g b c k v' v2 v3 (a1 ++ [x]) a2 a3 ∧ Mv (fun j => j = b ∨ v1.ownBlock = some j) wr (w2.setCell ⟨b, 1, none⟩ v') := by
  have m3 : Mv (fun j => j = b ∨ v1.ownBlock = some j) wr (w2.setCell ⟨b, 1, none⟩ v') := (m2.mono (fun _ h => .inr h)).setCell (p := ⟨b, 1, none⟩) (.inl (.inl rfl)) v'
  have r1 : ∀ j, v1.ownBlock = some j → w.heap.size ≤ j := fun j hj => (h.o1.lt j hj).1
  have nb := h.gb
  have ng := h.glt
  have b2 := blk_set (m2.keep h.box (Lib.ownBlock_ne h.o1 h.box (by decide))) 1 v'
  refine ⟨⟨h.mv.trans m3 (fun j hj => .inr ?_), h.cur.mv m3 ?_, h.cok, by simpa [NBox] using b2, ?_, row_mv h.o2 m3 ?_, row_mv h.o3 m3 ?_, h.gb, h.glt⟩, m3⟩
  · rcases hj with rfl | hj
    · exact nb
    · exact r1 j hj
  · rintro (h1 | h1)
    · omega
    · have := r1 _ h1; omega
  · have hn : w2.heap[b]? = some (.cells #[.int .i64 k, v1, v2, v3] 40 (0, 0)) := m2.keep h.box (Lib.ownBlock_ne h.o1 h.box (by decide))
    have := row_mv ho ((Mv.refl (one b) w2).setCell (p := ⟨b, 1, none⟩) (.inl rfl) v') (fun j hj e => Lib.ownBlock_ne ho hn (by decide) (by rw [hj, show j = b from e]))
    rw [List.length_append, List.length_singleton, List.map_append]
    exact this
  · rintro j hj (h1 | h1)
    · exact Lib.ownBlock_ne h.o2 h.box (by decide) (by rw [hj, h1])
    · exact row_apart h.o2 h.o1 (by decide) j hj h1
  · rintro j hj (h1 | h1)
    · exact Lib.ownBlock_ne h.o3 h.box (by decide) (by rw [hj, h1])
    · exact row_apart h.o3 h.o1 (by decide) j hj h1
theorem Gm.put2 (h : Gm w wr g b c k v1 v2 v3 a1 a2 a3) {x : ByteArray} {v' : Value} {w2 : World} (m2 : Mv (fun j => v2.ownBlock = some j) wr w2) (ho : w2.ownsRow w.heap.size 9 1 v' (a2.length + 1) (a2.map Value.string ++ [.string x])) :
    Gm w (w2.setCell ⟨b, 2, none⟩ v') g b c k v1 v' v3 a1 (a2 ++ [x]) a3 ∧ Mv (fun j => j = b ∨ v2.ownBlock = some j) wr (w2.setCell ⟨b, 2, none⟩ v') := by
  have m3 : Mv (fun j => j = b ∨ v2.ownBlock = some j) wr (w2.setCell ⟨b, 2, none⟩ v') := (m2.mono (fun _ h => .inr h)).setCell (p := ⟨b, 2, none⟩) (.inl (.inl rfl)) v'
  have r1 : ∀ j, v2.ownBlock = some j → w.heap.size ≤ j := fun j hj => (h.o2.lt j hj).1
  have nb := h.gb
  have ng := h.glt
  have b2 := blk_set (m2.keep h.box (Lib.ownBlock_ne h.o2 h.box (by decide))) 2 v'
  refine ⟨⟨h.mv.trans m3 (fun j hj => .inr ?_), h.cur.mv m3 ?_, h.cok, by simpa [NBox] using b2, row_mv h.o1 m3 ?_, ?_, row_mv h.o3 m3 ?_, h.gb, h.glt⟩, m3⟩
  · rcases hj with rfl | hj
    · exact nb
    · exact r1 j hj
  · rintro (h1 | h1)
    · omega
    · have := r1 _ h1; omega
  · rintro j hj (h1 | h1)
    · exact Lib.ownBlock_ne h.o1 h.box (by decide) (by rw [hj, h1])
    · exact row_apart h.o1 h.o2 (by decide) j hj h1
  · have hn : w2.heap[b]? = some (.cells #[.int .i64 k, v1, v2, v3] 40 (0, 0)) := m2.keep h.box (Lib.ownBlock_ne h.o2 h.box (by decide))
    have := row_mv ho ((Mv.refl (one b) w2).setCell (p := ⟨b, 2, none⟩) (.inl rfl) v') (fun j hj e => Lib.ownBlock_ne ho hn (by decide) (by rw [hj, show j = b from e]))
    rw [List.length_append, List.length_singleton, List.map_append]
    exact this
  · rintro j hj (h1 | h1)
    · exact Lib.ownBlock_ne h.o3 h.box (by decide) (by rw [hj, h1])
    · exact row_apart h.o3 h.o2 (by decide) j hj h1
theorem Gm.put3 (h : Gm w wr g b c k v1 v2 v3 a1 a2 a3) {x : Int} {v' : Value} {w2 : World} (m2 : Mv (fun j => v3.ownBlock = some j) wr w2) (ho : w2.ownsRow w.heap.size 3 1 v' (a3.length + 1) (a3.map i64V ++ [i64V x])) :
    Gm w (w2.setCell ⟨b, 3, none⟩ v') g b c k v1 v2 v' a1 a2 (a3 ++ [x]) ∧ Mv (fun j => j = b ∨ v3.ownBlock = some j) wr (w2.setCell ⟨b, 3, none⟩ v') := by
  have m3 : Mv (fun j => j = b ∨ v3.ownBlock = some j) wr (w2.setCell ⟨b, 3, none⟩ v') := (m2.mono (fun _ h => .inr h)).setCell (p := ⟨b, 3, none⟩) (.inl (.inl rfl)) v'
  have r1 : ∀ j, v3.ownBlock = some j → w.heap.size ≤ j := fun j hj => (h.o3.lt j hj).1
  have nb := h.gb
  have ng := h.glt
  have b2 := blk_set (m2.keep h.box (Lib.ownBlock_ne h.o3 h.box (by decide))) 3 v'
  refine ⟨⟨h.mv.trans m3 (fun j hj => .inr ?_), h.cur.mv m3 ?_, h.cok, by simpa [NBox] using b2, row_mv h.o1 m3 ?_, row_mv h.o2 m3 ?_, ?_, h.gb, h.glt⟩, m3⟩
  · rcases hj with rfl | hj
    · exact nb
    · exact r1 j hj
  · rintro (h1 | h1)
    · omega
    · have := r1 _ h1; omega
  · rintro j hj (h1 | h1)
    · exact Lib.ownBlock_ne h.o1 h.box (by decide) (by rw [hj, h1])
    · exact row_apart h.o1 h.o3 (by decide) j hj h1
  · rintro j hj (h1 | h1)
    · exact Lib.ownBlock_ne h.o2 h.box (by decide) (by rw [hj, h1])
    · exact row_apart h.o2 h.o3 (by decide) j hj h1
  · have hn : w2.heap[b]? = some (.cells #[.int .i64 k, v1, v2, v3] 40 (0, 0)) := m2.keep h.box (Lib.ownBlock_ne h.o3 h.box (by decide))
    have := row_mv ho ((Mv.refl (one b) w2).setCell (p := ⟨b, 3, none⟩) (.inl rfl) v') (fun j hj e => Lib.ownBlock_ne ho hn (by decide) (by rw [hj, show j = b from e]))
    rw [List.length_append, List.length_singleton, List.map_append]
    exact this
theorem Gm.grown1 (h : Gm w wr g b c k v1 v2 v3 a1 a2 a3) {w2 : World} (m2 : Mv (fun j => v1.ownBlock = some j) wr w2) : w2.cell? ⟨b, 1, none⟩ = some v1 ∧ w2.frozen? ⟨b, 1, none⟩ = false := by
  have hb : NBox w2 b k v1 v2 v3 := m2.keep h.box (Lib.ownBlock_ne h.o1 h.box (by decide))
  exact ⟨(blk_cell hb 1).trans rfl, blk_frozen hb 1⟩
theorem Gm.grown2 (h : Gm w wr g b c k v1 v2 v3 a1 a2 a3) {w2 : World} (m2 : Mv (fun j => v2.ownBlock = some j) wr w2) : w2.cell? ⟨b, 2, none⟩ = some v2 ∧ w2.frozen? ⟨b, 2, none⟩ = false := by
  have hb : NBox w2 b k v1 v2 v3 := m2.keep h.box (Lib.ownBlock_ne h.o2 h.box (by decide))
  exact ⟨(blk_cell hb 2).trans rfl, blk_frozen hb 2⟩
theorem Gm.grown3 (h : Gm w wr g b c k v1 v2 v3 a1 a2 a3) {w2 : World} (m2 : Mv (fun j => v3.ownBlock = some j) wr w2) : w2.cell? ⟨b, 3, none⟩ = some v3 ∧ w2.frozen? ⟨b, 3, none⟩ = false := by
  have hb : NBox w2 b k v1 v2 v3 := m2.keep h.box (Lib.ownBlock_ne h.o3 h.box (by decide))
  exact ⟨(blk_cell hb 3).trans rfl, blk_frozen hb 3⟩
end
/-- A class's number, by the reference. -/
theorem rin_calls (q x : Int) (w : World) : Calls Tryd.prog 62 #[.int .i64 q, .int .i64 x] w fun e w' => e = .returned (.bool (inB q x)) ∧ Below w.heap.size w w' := by
  refine (dioramaref07_In.calls q x (inB q x) w (in_ref q x)).mono ?_
  rintro e w' ⟨rfl, h⟩
  exact ⟨rfl, h.below⟩
section
variable (g : Nat) (A0 : Option Addr) (c0 : Nat) (L : List ByteArray) (c : Cur.Cur) (at' edges : Int) (w : World)
/-- What dioramaref13.Get ends with. -/
def RGetPost (e : Ending) (w' : World) : Prop := ∃ v1 v2 v3, e = .returned (.agg #[.int .i64 (getR at' edges L c).2.1, v1, v2, v3]) ∧ Cur.IsM w' g (getR at' edges L c).1 ∧ (getR at' edges L c).1.ok ∧ Made w' w.heap.size v1 v2 v3 (getR at' edges L c).2.2.1 (getR at' edges L c).2.2.2.1 (getR at' edges L c).2.2.2.2 ∧ Mv (one g) w w'
/-- Nothing is got. -/
theorem rget_none {w' : World} {c' : Cur.Cur} (hR : getR at' edges L c = (c', 0, [], [], [])) (hC : Cur.IsM w' g c') (hok : c'.ok) (hm : Mv (one g) w w') : RGetPost g L c at' edges w (.returned (.agg #[.int .i64 0, .slice none 0 0, .slice none 0 0, .slice none 0 0])) w' := by
  refine ⟨_, _, _, by rw [hR], by rw [hR]; exact hC, by rw [hR]; exact hok, by rw [hR]; exact ⟨World.ownsRow_nil _ _ _ _, World.ownsRow_nil _ _ _ _, World.ownsRow_nil _ _ _ _⟩, hm⟩
theorem mv_grow {w w2 : World} {ob : Obj} {v : Value} (hg : (w.alloc ob).grownBy w2 v.ownBlock) : Mv (fun j => v.ownBlock = some j) w w2 := ((Mv.refl (fun j => v.ownBlock = some j) w).alloc _).step (mv_grown hg)
theorem ownI_stop {qs : List Int} {c : Cur.Cur} {a : List Int} (h : qs = [] ∨ c.e ≠ 0) : ownI qs c a = (c, a) := by
  rcases h with rfl | h
  · rfl
  · exact ownI_err qs a h
theorem ownT_stop {L : List ByteArray} {n : Nat} {c : Cur.Cur} {a : List ByteArray} (h : n = 0 ∨ c.e ≠ 0) : ownT L n c a = (c, a) := by
  rcases h with rfl | h
  · rfl
  · exact ownT_err L n a h
theorem newS_any (k : Int) : (newS k).1.length ≤ 4 ∧ 0 ≤ (newS k).2.1 ∧ (newS k).2.1 ≤ 2 := by
  unfold newS
  repeat' split
  all_goals (refine ⟨?_, ?_, ?_⟩ <;> simp)
theorem none_keep {w w' : World} {r b : Nat} {v u1 u2 u3 : Value} {base e n : Nat} {k : Int} {xs : List Value} (hR : NBox w r k u1 u2 u3) (ho : w.ownsRow base e 1 v n xs) (he : 40 ≠ e) (hb : r ≠ b) (m : Mv (fun j => j = b ∨ v.ownBlock = some j) w w') : NBox w' r k u1 u2 u3 :=
  m.keep hR (fun h => by
    rcases h with h | h
    · exact hb h
    · exact Lib.ownBlock_ne ho hR he h)
theorem spec_keep {w w' : World} {s b : Nat} {v : Value} {base e n : Nat} {cs : Array Value} {xs : List Value} (hR : w.heap[s]? = some (.cells cs 97 (0, 0))) (ho : w.ownsRow base e 1 v n xs) (he : 97 ≠ e) (hb : s ≠ b) (m : Mv (fun j => j = b ∨ v.ownBlock = some j) w w') : w'.heap[s]? = some (.cells cs 97 (0, 0)) :=
  m.keep hR (fun h => by
    rcases h with h | h
    · exact hb h
    · exact Lib.ownBlock_ne ho hR he h)
theorem row_keep {w w' : World} {b : Nat} {v v' u1 u2 u3 : Value} {base base' e e' n n' : Nat} {k : Int} {xs xs' : List Value} (hr : w.ownsRow base' e' 1 v' n' xs') (hB : NBox w b k u1 u2 u3) (he' : 40 ≠ e') (ho : w.ownsRow base e 1 v n xs) (he : e' ≠ e) (m : Mv (fun j => j = b ∨ v.ownBlock = some j) w w') : w'.ownsRow base' e' 1 v' n' xs' :=
  row_mv hr m (fun j hj h => by
    rcases h with h | h
    · exact Lib.ownBlock_ne hr hB he' (by rw [hj, h])
    · exact row_apart hr ho he j hj h)
/-- What the reference does, whether the kind is one or not. -/
def genC (s2 s3 edges : Int) (c : Cur.Cur) : Cur.Cur := if (c.uint (max edges 0)).1 < s2 ∨ (0 ≤ s3 ∧ s3 < (c.uint (max edges 0)).1) then (c.uint (max edges 0)).2.fail 12 else (c.uint (max edges 0)).2
def genK (at' s2 s3 edges : Int) (c : Cur.Cur) : Cur.Cur × List Int := ownK at' (c.uint (max edges 0)).1.toNat (genC s2 s3 edges c) []
theorem getR_gen {at' edges : Int} {L : List ByteArray} {c : Cur.Cur} {m0 : List Int} {s1 s2 s3 : Int} {ok : Bool} (hS : (m0, s1, s2, s3, ok) = newS (c.uint 16777216).1) {c2 : Cur.Cur} (hc2 : c2 = if ok = true then (c.uint 16777216).2 else (c.uint 16777216).2.fail 9) :
    getR at' edges L c = if (genK at' s2 s3 edges (ownT L s1.toNat (ownI m0 c2 []).1 []).1).1.e ≠ 0 then ((genK at' s2 s3 edges (ownT L s1.toNat (ownI m0 c2 []).1 []).1).1, 0, [], [], []) else ((genK at' s2 s3 edges (ownT L s1.toNat (ownI m0 c2 []).1 []).1).1, (c.uint 16777216).1, (ownI m0 c2 []).2, (ownT L s1.toNat (ownI m0 c2 []).1 []).2, (genK at' s2 s3 edges (ownT L s1.toNat (ownI m0 c2 []).1 []).1).2) := by
  unfold getR
  cases ok with
  | true =>
    rw [if_pos rfl] at hc2
    subst hc2
    rw [if_pos (by rw [← hS])]
    unfold getK getT getI cntC genK genC
    rw [← hS]
  | false =>
    rw [if_neg (by simp)] at hc2
    have he : c2.e ≠ 0 := by rw [hc2]; exact fail_ne _ (by decide)
    have h1 : genK at' s2 s3 edges (ownT L s1.toNat (ownI m0 c2 []).1 []).1 = (c2, []) := by
      rw [ownI_err _ _ he, ownT_err _ _ _ he]
      unfold genK genC
      rw [uint_err he]
      simp only
      rw [fail_err he]
      have e2 : (if (0 : Int) < s2 ∨ (0 ≤ s3 ∧ s3 < 0) then c2 else c2) = c2 := by split <;> rfl
      rw [e2]
      rfl
    rw [if_neg (by rw [← hS]; simp), h1, if_pos he, hc2]
set_option maxHeartbeats 16000000 in
set_option maxRecDepth 100000 in
theorem rrecget_calls (hC : Cur.IsM w g c) (hok : c.ok) (hL : ∀ w', Mv (one g) w w' → Kd.C Kd.string w' A0 L.length L) (hl0 : L.length ≤ c0) (hl1 : L.length ≤ 16777216) (he : edges ≤ 9223372036854775807) (hat : -9223372036854775808 ≤ at' ∧ at' ≤ 9223372036854775807) :
    Calls Tryd.prog 23 #[.pointer (some ⟨g, 0, none⟩), .int .i64 at', .slice A0 L.length c0, .int .i64 edges] w fun e w' => RGetPost g L c at' edges w e w' := by
  obtain ⟨i0, hi0, hz0, hz1, hz2⟩ := info_parts (show (Tryd.prog.info? 3).map (fun i => (i.zero, i.size, i.bytes)) = some (some (.int .i64 0), 1, 8) from by kernel_rfl)
  obtain ⟨i1, hj0, hj1, hj2, hj3⟩ := info_parts (show (Tryd.prog.info? 2).map (fun i => (i.zero, i.size, i.bytes)) = some (some (.int .i64 0), 1, 8) from by kernel_rfl)
  have HC := Lib.hid hC
  have HL := Lib.hid hL
  have hgw := hC.lt
  obtain ⟨hat0, hat1⟩ := hat
  clear hC hL
  go_enter Tryd.func23, Tryd.ntmps23
  go_upto_region 1 with (fail)
  obtain ⟨r, hr⟩ : ∃ r, r = w.heap.size := ⟨_, rfl⟩
  have hb1 : Below w.heap.size w (w.alloc (.cells #[.int .i64 0, .slice none 0 0, .slice none 0 0, .slice none 0 0] 40)) := (Below.refl _ _).alloc (Nat.le_refl _) _
  have hr1 : NBox (w.alloc (.cells #[.int .i64 0, .slice none 0 0, .slice none 0 0, .slice none 0 0] 40)) r 0 (.slice none 0 0) (.slice none 0 0) (.slice none 0 0) := by rw [hr]; exact heap_alloc_new w _
  rw [← hr]
  generalize w.alloc (.cells #[.int .i64 0, .slice none 0 0, .slice none 0 0, .slice none 0 0] 40) = w1 at *
  have HR1 := Lib.hid hr1
  have hq1 : w.heap.size ≤ r := by omega
  have hq2 : r ≤ w.heap.size := by omega
  have HB1 := Lib.hid hb1
  have HC1 := Lib.hid (HC.out.below hb1)
  clear hr1 hb1 hr
  go_wp2_with (fail)
  refine (Cur.muint_calls g c 16777216 _ HC1.out hok (by decide)).mono ?_
  rintro e w2 ⟨rfl, hC2, hM2⟩
  have HC2 := Lib.hid hC2
  have HM2 := Lib.hid ((Mv.of_below (S := one g) HB1.out).trans hM2 (fun k hk => .inl hk))
  have HR2 := Lib.hid (show NBox w2 r 0 (.slice none 0 0) (.slice none 0 0) (.slice none 0 0) from hM2.keep HR1.out (fun e => by have e2 : r = g := e; omega))
  have hok2 := Cur.uint_ok hok 16777216
  have HGEN := Lib.hid (fun (m0 : List Int) (s1 s2 s3 : Int) (ok : Bool) (hS : (m0, s1, s2, s3, ok) = newS (c.uint 16777216).1) (c2 : Cur.Cur) (hc2 : c2 = if ok = true then (c.uint 16777216).2 else (c.uint 16777216).2.fail 9) => getR_gen (at' := at') (edges := edges) (L := L) hS hc2)
  clear hC2 hM2
  generalize (c.uint 16777216).1 = k at *
  generalize (c.uint 16777216).2 = cu at *
  go_upto_region 2 with (fail)
  obtain ⟨b, hb⟩ : ∃ b, b = w2.heap.size := ⟨_, rfl⟩
  have hb3 : Below w2.heap.size w2 (w2.alloc (.cells #[.int .i64 k, .slice none 0 0, .slice none 0 0, .slice none 0 0] 40)) := (Below.refl _ _).alloc (Nat.le_refl _) _
  have hsz2 := HM2.out.size
  have hrw := blk_lt HR2.out
  have hG3 : Gm w (w2.alloc (.cells #[.int .i64 k, .slice none 0 0, .slice none 0 0, .slice none 0 0] 40)) g b cu k (.slice none 0 0) (.slice none 0 0) (.slice none 0 0) [] [] [] :=
    ⟨HM2.out.alloc _, HC2.out.below hb3, hok2, by rw [hb]; exact heap_alloc_new w2 _, World.ownsRow_nil _ _ _ _, World.ownsRow_nil _ _ _ _, World.ownsRow_nil _ _ _ _, by omega, hgw⟩
  have HR3 := Lib.hid (HR2.out.below hb3)
  have hrb : r < b := by omega
  have hs3 : w.heap.size ≤ (w2.alloc (.cells #[.int .i64 k, .slice none 0 0, .slice none 0 0, .slice none 0 0] 40)).heap.size := by simp; omega
  rw [← hb]
  generalize w2.alloc (.cells #[.int .i64 k, .slice none 0 0, .slice none 0 0, .slice none 0 0] 40) = w3 at *
  have HG3 := Lib.hid hG3
  obtain ⟨x0, x1, x2, x3⟩ := hG3.box.cells
  obtain ⟨⟨m0, s1, s2, s3, ok⟩, hS⟩ : ∃ x, x = newS k := ⟨_, rfl⟩
  have HS := Lib.hid hS
  clear hS hG3 hb3 hb
  go_wp2_with (fail)
  refine (dioramaref07_Spec.calls 1 2 k m0 s1 s2 s3 ok w3 (by rw [spec_ref 1 (Nat.le_refl _), ← HS.out])).mono ?_
  rintro e w4 ⟨v4, rfl, ho4, hb4⟩
  have hsp4 := own_of_int (Kd.R_lower ho4 hs3)
  obtain ⟨B0, d0, rfl⟩ := row_slice hsp4
  have HG4 := Lib.hid (HG3.out.below hb4)
  have HR4 := Lib.hid (HR3.out.below hb4)
  have HS4 := Lib.hid hsp4
  clear hb4 ho4 hsp4 x0 x1 x2 x3
  go_upto_region 3 with (fail)
  obtain ⟨s, hs⟩ : ∃ s, s = w4.heap.size := ⟨_, rfl⟩
  have hb5 : Below w4.heap.size w4 (w4.alloc (.cells #[.slice B0 m0.length d0, .int .i64 s1, .int .i64 s2, .int .i64 s3] 97)) := (Below.refl _ _).alloc (Nat.le_refl _) _
  have hn5 := heap_alloc_new w4 (.cells #[.slice B0 m0.length d0, .int .i64 s1, .int .i64 s2, .int .i64 s3] 97)
  have hbs : b < s := by rw [hs]; exact blk_lt HG4.out.box
  rw [← hs] at hn5 ⊢
  generalize w4.alloc (.cells #[.slice B0 m0.length d0, .int .i64 s1, .int .i64 s2, .int .i64 s3] 97) = w5 at *
  have HG5 := Lib.hid (HG4.out.below hb5)
  have HR5 := Lib.hid (HR4.out.below hb5)
  have HS5 := Lib.hid (row_mv HS4.out (Mv.of_below (S := nil) hb5) (fun _ _ h => h))
  have HN5 := Lib.hid hn5
  clear hs hb5 hn5 HG4 HR4 HS4 HG3 HR3
  obtain ⟨c2, hc2⟩ : ∃ c2, c2 = (if ok = true then cu else cu.fail 9) := ⟨_, rfl⟩
  have HGR := Lib.hid (HGEN.out m0 s1 s2 s3 ok HS.out c2 hc2)
  go_upto_if 29 with (fail)
  go_cut [] (fun wx => Aside0 (Gm w wx g b c2 k (.slice none 0 0) (.slice none 0 0) (.slice none 0 0) [] [] []) ∧ Aside0 (NBox wx r 0 (.slice none 0 0) (.slice none 0 0) (.slice none 0 0)) ∧ Aside0 (wx.ownsRow w.heap.size 3 1 (.slice B0 m0.length d0) m0.length (m0.map i64V)) ∧ Aside0 (wx.heap[s]? = some (.cells #[.slice B0 m0.length d0, .int .i64 s1, .int .i64 s2, .int .i64 s3] 97 (0, 0))))
  case first =>
    cases ok with
    | true =>
      rw [if_pos rfl] at hc2
      subst hc2
      go_wp2_with (fail)
      go_meet
      exact ⟨⟨HG5.out⟩, ⟨HR5.out⟩, ⟨HS5.out⟩, ⟨HN5.out⟩⟩
    | false =>
      rw [if_neg (by simp)] at hc2
      go_wp2_with (fail)
      refine (Cur.mfail_calls g cu 9 _ HG5.out.cur).mono ?_
      rintro e w6 ⟨rfl, hC6, hM6⟩
      have HG6 := Lib.hid (HG5.out.turn hC6 (Cur.fail_ok HG5.out.cok 9) hM6)
      have HR6 := Lib.hid (show NBox w6 r 0 (.slice none 0 0) (.slice none 0 0) (.slice none 0 0) from hM6.keep HR5.out (fun e => by have e2 : r = g := e; omega))
      have HN6 := Lib.hid (hM6.keep HN5.out (fun e => by have e2 : s = g := e; omega))
      have HS6 := Lib.hid (row_mv HS5.out hM6 (fun j hj e => by have := (HS5.out.lt j hj).1; have e2 : j = g := e; omega))
      clear hC6 hM6
      subst hc2
      go_wp2_with (fail)
      go_meet
      exact ⟨⟨HG6.out⟩, ⟨HR6.out⟩, ⟨HS6.out⟩, ⟨HN6.out⟩⟩
  case rest =>
  obtain ⟨hG6, hR6, hS6, hN6⟩ := hcut
  obtain ⟨t2, t0, t1⟩ := newS_any k
  rw [← HS.out] at t2 t0 t1
  simp only at t2 t0 t1
  obtain ⟨nn, rfl⟩ := Int.eq_ofNat_of_zero_le t0
  have hbn : b ≠ s := by omega
  obtain ⟨GI, hGI⟩ : ∃ x, x = ownI m0 c2 [] := ⟨_, rfl⟩
  rw [← hGI] at HGR
  rw [Int.toNat_natCast] at HGR
  have HGI := Lib.hid hGI
  clear hGI hc2 HG5 HR5 HS5 HN5 HGEN HS
  -- the numbers
  go_upto_block 0 with (fail)
  go_cut [12, 13] (fun v12 v13 wx => ∃ (x y v1 : Value) (c' : Cur.Cur) (a1 : List Int), v12 = x ∧ v13 = y ∧ Aside0 (Gm w wx g b c' k v1 (.slice none 0 0) (.slice none 0 0) a1 [] []) ∧ Aside0 (NBox wx r 0 (.slice none 0 0) (.slice none 0 0) (.slice none 0 0)) ∧ Aside0 (wx.heap[s]? = some (.cells #[.slice B0 m0.length d0, .int .i64 nn, .int .i64 s2, .int .i64 s3] 97 (0, 0))) ∧ Aside0 ((c', a1) = GI))
  case first =>
    go_wp2_with (fail)
    go_loopg [12, 13] m0.length (fun kq v12 v13 wr => ∃ (i : Nat) (y v1 : Value) (c' : Cur.Cur) (a1 : List Int), v12 = .int .i64 (i : Int) ∧ v13 = y ∧ i + kq = m0.length ∧ Aside0 (a1.length = i) ∧ Aside0 (Gm w wr g b c' k v1 (.slice none 0 0) (.slice none 0 0) a1 [] []) ∧ Aside0 (NBox wr r 0 (.slice none 0 0) (.slice none 0 0) (.slice none 0 0)) ∧ Aside0 (wr.ownsRow w.heap.size 3 1 (.slice B0 m0.length d0) m0.length (m0.map i64V)) ∧ Aside0 (wr.heap[s]? = some (.cells #[.slice B0 m0.length d0, .int .i64 nn, .int .i64 s2, .int .i64 s3] 97 (0, 0))) ∧ Aside0 (ownI (m0.drop i) c' a1 = GI))
    case atStart => exact ⟨0, _, _, c2, [], rfl, rfl, by omega, ⟨rfl⟩, ⟨hG6.out⟩, ⟨hR6.out⟩, ⟨hS6.out⟩, ⟨hN6.out⟩, ⟨HGI.out.symm⟩⟩
    case round =>
      clear hG6 hR6 hS6 hN6 HGI
      obtain ⟨i, y, v1, c', a1, rfl, rfl, hik, hla, hG, hR, hSp, hN, hE⟩ := hrel
      obtain ⟨wo, hwo⟩ : ∃ z, z = wr := ⟨_, rfl⟩
      subst hwo
      have y0 : wo.cell? ⟨s, 0, none⟩ = some (.slice B0 m0.length d0) := (blk_cell hN.out 0).trans rfl
      have k2 := hG.out.cur.c2
      by_cases hdone : gk = 0 ∨ c'.e ≠ 0
      · have hX : (c', a1) = GI := by
          rw [← hE.out]
          rcases hdone with h | h
          · rw [ownI_stop (.inl (List.drop_of_length_le (by omega)))]
          · rw [ownI_stop (.inr h)]
        have HX := Lib.hid hX
        have hlt2 : (¬ (i : Int) < (m0.length : Int)) ∨ ((i : Int) < (m0.length : Int) ∧ (c'.e == 0) = false) := by
          by_cases h2 : (i : Int) < (m0.length : Int)
          · refine .inr ⟨h2, ?_⟩
            rcases hdone with h | h
            · omega
            · simpa using h
          · exact .inl h2
        clear hX hdone hE
        rcases hlt2 with h4 | ⟨h4, t5⟩
        · have t4 : decide ((i : Int) < (m0.length : Int)) = false := decide_eq_false h4
          go_wp2_with (fail)
          go_meet
          exact ⟨_, _, _, c', a1, rfl, rfl, ⟨hG.out⟩, ⟨hR.out⟩, ⟨hN.out⟩, ⟨HX.out⟩⟩
        · have t4 : decide ((i : Int) < (m0.length : Int)) = true := decide_eq_true h4
          go_wp2_with (fail)
          go_meet
          exact ⟨_, _, _, c', a1, rfl, rfl, ⟨hG.out⟩, ⟨hR.out⟩, ⟨hN.out⟩, ⟨HX.out⟩⟩
      · have hc0 : c'.e = 0 := by omega
        have hlt : (i : Int) < (m0.length : Int) := by omega
        have t4 : decide ((i : Int) < (m0.length : Int)) = true := decide_eq_true hlt
        have t5 : (c'.e == 0) = true := by simpa using hc0
        obtain ⟨ko, rfl⟩ : ∃ g, gk = g + 1 := ⟨gk - 1, by omega⟩
        have hl4 : a1.length ≤ 4 := by have := hla.out; omega
        have h1 := hE.out
        rw [num_at (l := m0) (i := i) (by omega), ownI, if_neg (show ¬ c'.e ≠ 0 by simpa using hc0)] at h1
        have H1 := Lib.hid h1
        clear hE h1 hdone
        go_wp2_with (fail)
        refine (Cur.mint_calls g c' _ hG.out.cur hG.out.cok).mono ?_
        rintro e w7 ⟨rfl, hC7, hM7⟩
        have HG7 := Lib.hid (hG.out.turn hC7 (Cur.int_ok hG.out.cok) hM7)
        have HR7 := Lib.hid (show NBox w7 r 0 (.slice none 0 0) (.slice none 0 0) (.slice none 0 0) from hM7.keep hR.out (fun e => by have e2 : r = g := e; omega))
        have HN7 := Lib.hid (hM7.keep hN.out (fun e => by have e2 : s = g := e; omega))
        have HS7 := Lib.hid (row_mv hSp.out hM7 (fun j hj e => by have := (hSp.out.lt j hj).1; have e2 : j = g := e; omega))
        clear hC7 hM7 y0 k2 hG hR hN hSp
        generalize c'.int.1 = xv at *
        generalize c'.int.2 = c7 at *
        obtain ⟨A, cp, hv, hcp, hCl⟩ := Kd.R_reads (Kw.R_of_own (enc := i64V) (h1 := fun _ => rfl) HS7.out)
        cases hv
        obtain ⟨ad, e, u1⟩ := Kd.at_int hCl (i : Int) (by omega) hlt
        subst e
        rw [Int.toNat_natCast] at u1
        generalize rd m0 (i : Int) = qc at *
        have y0 : w7.cell? ⟨s, 0, none⟩ = some (.slice (some ad) m0.length d0) := (blk_cell HN7.out 0).trans rfl
        clear hCl
        go_wp2_with (fail)
        refine (rin_calls qc xv _).mono ?_
        rintro e w8 ⟨rfl, hb8⟩
        have HG8 := Lib.hid (HG7.out.below hb8)
        have HR8 := Lib.hid (HR7.out.below hb8)
        have HN8 := Lib.hid (blk_below HN7.out hb8)
        have HS8 := Lib.hid (row_mv HS7.out (Mv.of_below (S := nil) hb8) (fun _ _ h => h))
        clear hb8 HG7 HR7 HN7 HS7 u1 y0
        obtain ⟨cf, hcf⟩ : ∃ cf, cf = (if inB qc xv = true then c7 else c7.fail 10) := ⟨_, rfl⟩
        rw [← hcf] at H1
        go_upto_if 55 with (fail)
        go_cut [] (fun wx => Aside0 (Gm w wx g b cf k v1 (.slice none 0 0) (.slice none 0 0) a1 [] []) ∧ Aside0 (NBox wx r 0 (.slice none 0 0) (.slice none 0 0) (.slice none 0 0)) ∧ Aside0 (wx.ownsRow w.heap.size 3 1 (.slice (some ad) m0.length d0) m0.length (m0.map i64V)) ∧ Aside0 (wx.heap[s]? = some (.cells #[.slice (some ad) m0.length d0, .int .i64 nn, .int .i64 s2, .int .i64 s3] 97 (0, 0))))
        case first =>
          by_cases hin : inB qc xv = true
          · rw [hin]
            rw [if_pos hin] at hcf
            subst hcf
            go_wp2_with (fail)
            go_meet
            exact ⟨⟨HG8.out⟩, ⟨HR8.out⟩, ⟨HS8.out⟩, ⟨HN8.out⟩⟩
          · rw [if_neg hin] at hcf
            have hin2 : inB qc xv = false := by simpa using hin
            rw [hin2]
            go_wp2_with (fail)
            refine (Cur.mfail_calls g c7 10 _ HG8.out.cur).mono ?_
            rintro e w9 ⟨rfl, hC9, hM9⟩
            have HG9 := Lib.hid (HG8.out.turn hC9 (Cur.fail_ok HG8.out.cok 10) hM9)
            have HR9 := Lib.hid (show NBox w9 r 0 (.slice none 0 0) (.slice none 0 0) (.slice none 0 0) from hM9.keep HR8.out (fun e => by have e2 : r = g := e; omega))
            have HN9 := Lib.hid (hM9.keep HN8.out (fun e => by have e2 : s = g := e; omega))
            have HS9 := Lib.hid (row_mv HS8.out hM9 (fun j hj e => by have := (HS8.out.lt j hj).1; have e2 : j = g := e; omega))
            clear hC9 hM9
            subst hcf
            go_wp2_with (fail)
            go_meet
            exact ⟨⟨HG9.out⟩, ⟨HR9.out⟩, ⟨HS9.out⟩, ⟨HN9.out⟩⟩
        case rest =>
        obtain ⟨hGa, hRa, hSa, hNa⟩ := hcut
        clear hcf HG8 HR8 HN8 HS8
        obtain ⟨A1, cp1, hv1⟩ := row_slice hGa.out.o1
        subst hv1
        obtain ⟨_, x1, _, _⟩ := hGa.out.box.cells
        go_wp2_with (first
          | (at_builtin; refine wpList_append_own_at _ rfl _ _ 36 rfl w.heap.size 2 i1 (.int .i64 0) 1 8 Tryd.underlying36 hj0 hj1 hj2 hj3 rfl (by decide) (.slice A1 a1.length cp1) a1.length (a1.map i64V) rfl (hGa.out.o1.alloc _) ⟨wc.heap.size, 0, none⟩ 1 1 [.int .i64 xv] rfl rfl (cell_one_new wc _ _) (fun u hu => by rw [List.mem_singleton] at hu; subst hu; rfl) (by unfold maxLen; omega) (by omega) (by have := hGa.out.mv.size; simp; omega) ?_; intro v2 w12 ho2 hg2 _ hl2; obtain ⟨HP, HM⟩ := hGa.out.put1 (x := xv) (mv_grow hg2) ho2; have HP := Lib.hid HP; have HM := Lib.hid HM; obtain ⟨e1, f1⟩ := hGa.out.grown1 (mv_grow hg2); obtain ⟨a4, c4, rfl⟩ := row_slice ho2; clear ho2 hg2 hl2))
        go_roundg ko
        case measure => omega
        case rel => exact ⟨i + 1, _, _, cf, a1 ++ [xv], rfl, rfl, by omega, ⟨by rw [List.length_append, List.length_singleton, hla.out]⟩, ⟨HP.out⟩, ⟨none_keep hRa.out hGa.out.o1 (by decide) (by omega) HM.out⟩, ⟨row_keep hSa.out hGa.out.box (by decide) hGa.out.o1 (by decide) HM.out⟩, ⟨spec_keep hNa.out hGa.out.o1 (by decide) (by omega) HM.out⟩, ⟨H1.out⟩⟩
  case rest =>
  obtain ⟨x, y, v1, c', a1, rfl, rfl, hG7, hR7, hN7, hGI⟩ := hcut
  clear hG6 hR6 hS6 hN6
  have hgi := hGI.out
  subst hgi
  simp only at HGR
  obtain ⟨GT, hGT⟩ : ∃ x, x = ownT L nn c' [] := ⟨_, rfl⟩
  rw [← hGT] at HGR
  have HGT := Lib.hid hGT
  clear hGT hGI
  -- the texts
  go_upto_block 2 with (fail)
  go_cut [14, 15] (fun v14 v15 wx => ∃ (x y v2 : Value) (c3 : Cur.Cur) (a2 : List ByteArray), v14 = x ∧ v15 = y ∧ Aside0 (Gm w wx g b c3 k v1 v2 (.slice none 0 0) a1 a2 []) ∧ Aside0 (NBox wx r 0 (.slice none 0 0) (.slice none 0 0) (.slice none 0 0)) ∧ Aside0 (wx.heap[s]? = some (.cells #[.slice B0 m0.length d0, .int .i64 nn, .int .i64 s2, .int .i64 s3] 97 (0, 0))) ∧ Aside0 (GT.1 = c3) ∧ Aside0 (c3.e = 0 → GT.2 = a2))
  case first =>
    go_wp2_with (fail)
    go_loopg [14, 15] nn (fun kq v14 v15 wr => ∃ (i : Nat) (y v2 : Value) (c3 : Cur.Cur) (a2 : List ByteArray), v14 = .int .i64 (i : Int) ∧ v15 = y ∧ i + kq = nn ∧ a2.length ≤ 4 ∧ Aside0 (a2.length ≤ i) ∧ Aside0 (Gm w wr g b c3 k v1 v2 (.slice none 0 0) a1 a2 []) ∧ Aside0 (NBox wr r 0 (.slice none 0 0) (.slice none 0 0) (.slice none 0 0)) ∧ Aside0 (wr.heap[s]? = some (.cells #[.slice B0 m0.length d0, .int .i64 nn, .int .i64 s2, .int .i64 s3] 97 (0, 0))) ∧ Aside0 ((ownT L kq c3 a2).1 = GT.1) ∧ Aside0 (c3.e = 0 → (ownT L kq c3 a2).2 = GT.2))
    case atStart => exact ⟨0, _, _, c', [], rfl, rfl, by omega, by simp, ⟨by simp⟩, ⟨hG7.out⟩, ⟨hR7.out⟩, ⟨hN7.out⟩, ⟨by rw [HGT.out]⟩, ⟨fun _ => by rw [HGT.out]⟩⟩
    case round =>
      clear hG7 hR7 hN7 HGT
      obtain ⟨i, y, v2, c3, a2, rfl, rfl, hik, hl4, hla, hG, hR, hN, hE, hF⟩ := hrel
      obtain ⟨wo, hwo⟩ : ∃ z, z = wr := ⟨_, rfl⟩
      subst hwo
      have y1 : wo.cell? ⟨s, 1, none⟩ = some (.int .i64 (nn : Int)) := (blk_cell hN.out 1).trans rfl
      have k2 := hG.out.cur.c2
      by_cases hdone : gk = 0 ∨ c3.e ≠ 0
      · have hX : ownT L gk c3 a2 = (c3, a2) := ownT_stop hdone
        have HX1 := Lib.hid (show GT.1 = c3 by rw [← hE.out, hX])
        have HX2 := Lib.hid (show c3.e = 0 → GT.2 = a2 from fun h => by rw [← hF.out h, hX])
        have hlt2 : (¬ (i : Int) < (nn : Int)) ∨ ((i : Int) < (nn : Int) ∧ (c3.e == 0) = false) := by
          by_cases h2 : (i : Int) < (nn : Int)
          · refine .inr ⟨h2, ?_⟩
            rcases hdone with h | h
            · omega
            · simpa using h
          · exact .inl h2
        clear hX hdone hE hF
        rcases hlt2 with h4 | ⟨h4, t5⟩
        · have t4 : decide ((i : Int) < (nn : Int)) = false := decide_eq_false h4
          go_wp2_with (fail)
          go_meet
          exact ⟨_, _, _, c3, a2, rfl, rfl, ⟨hG.out⟩, ⟨hR.out⟩, ⟨hN.out⟩, ⟨HX1.out⟩, ⟨HX2.out⟩⟩
        · have t4 : decide ((i : Int) < (nn : Int)) = true := decide_eq_true h4
          go_wp2_with (fail)
          go_meet
          exact ⟨_, _, _, c3, a2, rfl, rfl, ⟨hG.out⟩, ⟨hR.out⟩, ⟨hN.out⟩, ⟨HX1.out⟩, ⟨HX2.out⟩⟩
      · have hc0 : c3.e = 0 := by omega
        have hlt : (i : Int) < (nn : Int) := by omega
        have t4 : decide ((i : Int) < (nn : Int)) = true := decide_eq_true hlt
        have t5 : (c3.e == 0) = true := by simpa using hc0
        obtain ⟨ko, rfl⟩ : ∃ g, gk = g + 1 := ⟨gk - 1, by omega⟩
        have h1 := hE.out
        have h2 := hF.out hc0
        rw [ownT, if_neg (show ¬ c3.e ≠ 0 by simpa using hc0)] at h1 h2
        have H1 := Lib.hid h1
        have H2 := Lib.hid h2
        have hur := Cur.uint_range (c := c3) 16777216
        clear hE hF h1 h2 hdone
        go_wp2_with (fail)
        refine (Cur.muint_calls g c3 16777216 _ hG.out.cur hG.out.cok (by decide)).mono ?_
        rintro e w8 ⟨rfl, hC8, hM8⟩
        have HG8 := Lib.hid (hG.out.turn hC8 (Cur.uint_ok hG.out.cok _) hM8)
        have HR8 := Lib.hid (show NBox w8 r 0 (.slice none 0 0) (.slice none 0 0) (.slice none 0 0) from hM8.keep hR.out (fun e => by have e2 : r = g := e; omega))
        have HN8 := Lib.hid (hM8.keep hN.out (fun e => by have e2 : s = g := e; omega))
        clear hC8 hM8 y1 k2 hG hR hN
        generalize (c3.uint 16777216).2 = c8 at *
        obtain ⟨kn, hkn⟩ := Int.eq_ofNat_of_zero_le hur.1
        rw [hkn] at H1 H2 hur ⊢
        clear hkn
        have k2 := HG8.out.cur.c2
        go_upto_region 16 with (fail)
        obtain ⟨bz, hbz⟩ : ∃ bz : Bool, bz = decide (c8.e = 0 ∧ (L.length : Int) ≤ (kn : Int)) := ⟨_, rfl⟩
        go_cut [89] (fun v89 wx => v89 = .bool bz ∧ w8 = wx)
        case first =>
          by_cases d1 : c8.e = 0
          · have e1 : (c8.e == 0) = true := by simpa using d1
            by_cases d2 : (kn : Int) ≥ (L.length : Int)
            · have e2 : decide ((kn : Int) ≥ (L.length : Int)) = true := decide_eq_true d2
              have hq : bz = true := by rw [hbz]; exact decide_eq_true ⟨d1, d2⟩
              clear hbz d1
              go_wp2_with (fail)
              go_meet
              exact ⟨by rw [hq], rfl⟩
            · have e2 : decide ((kn : Int) ≥ (L.length : Int)) = false := decide_eq_false d2
              have hq : bz = false := by rw [hbz]; exact decide_eq_false (by omega)
              clear hbz d1
              go_wp2_with (fail)
              go_meet
              exact ⟨by rw [hq], rfl⟩
          · have e1 : (c8.e == 0) = false := by simpa using d1
            have hq : bz = false := by rw [hbz]; exact decide_eq_false (fun h => d1 h.1)
            clear hbz d1
            go_wp2_with (fail)
            go_meet
            exact ⟨by rw [hq], rfl⟩
        case rest =>
        obtain ⟨rfl, rfl⟩ := hcut
        obtain ⟨cf, hcf⟩ : ∃ cf, cf = (if bz = true then c8.fail 13 else c8) := ⟨_, rfl⟩
        have hcc : (if (atT L (kn : Int)).2 = true then c8 else c8.fail 13) = cf := by
          rw [hcf, hbz]
          by_cases d1 : c8.e = 0
          · by_cases d2 : kn < L.length
            · rw [atT_in d2, if_pos rfl, decide_eq_false (by omega), if_neg (by simp)]
            · have : atT L (kn : Int) = (⟨#[]⟩, false) := by unfold atT; rw [if_neg (by omega)]
              rw [this, if_neg (by simp), decide_eq_true ⟨d1, by omega⟩, if_pos rfl]
          · rw [fail_err d1]; simp
        have HK := Lib.hid (show cf.e = 0 → kn < L.length from fun h => by
          rw [hcf, hbz] at h
          split at h
          · exact absurd h (fail_ne _ (by decide))
          · rename_i hd
            rw [decide_eq_true_eq] at hd
            omega)
        rw [hcc] at H1 H2
        clear hbz hcc k2
        go_upto_if 89 with (fail)
        go_cut [] (fun wx => Aside0 (Gm w wx g b cf k v1 v2 (.slice none 0 0) a1 a2 []) ∧ Aside0 (NBox wx r 0 (.slice none 0 0) (.slice none 0 0) (.slice none 0 0)) ∧ Aside0 (wx.heap[s]? = some (.cells #[.slice B0 m0.length d0, .int .i64 nn, .int .i64 s2, .int .i64 s3] 97 (0, 0))))
        case first =>
          cases bz with
          | true =>
            rw [if_pos rfl] at hcf
            go_wp2_with (fail)
            refine (Cur.mfail_calls g c8 13 _ HG8.out.cur).mono ?_
            rintro e w9 ⟨rfl, hC9, hM9⟩
            have HG9 := Lib.hid (HG8.out.turn hC9 (Cur.fail_ok HG8.out.cok 13) hM9)
            have HR9 := Lib.hid (show NBox w9 r 0 (.slice none 0 0) (.slice none 0 0) (.slice none 0 0) from hM9.keep HR8.out (fun e => by have e2 : r = g := e; omega))
            have HN9 := Lib.hid (hM9.keep HN8.out (fun e => by have e2 : s = g := e; omega))
            clear hC9 hM9
            subst hcf
            go_wp2_with (fail)
            go_meet
            exact ⟨⟨HG9.out⟩, ⟨HR9.out⟩, ⟨HN9.out⟩⟩
          | false =>
            rw [if_neg (by simp)] at hcf
            subst hcf
            go_wp2_with (fail)
            go_meet
            exact ⟨⟨HG8.out⟩, ⟨HR8.out⟩, ⟨HN8.out⟩⟩
        case rest =>
        obtain ⟨hGa, hRa, hNa⟩ := hcut
        clear hcf HG8 HR8 HN8
        have k2 := hGa.out.cur.c2
        by_cases hcz : cf.e = 0
        · have t6 : (cf.e == 0) = true := by simpa using hcz
          have hk := HK.out hcz
          obtain ⟨A2, cp2, hv2⟩ := row_slice hGa.out.o2
          subst hv2
          obtain ⟨_, _, x2, _⟩ := hGa.out.box.cells
          obtain ⟨ad, e, u1⟩ := Kd.at_string (HL.out _ hGa.out.mv) (kn : Int) (by omega) (by omega)
          subst e
          rw [Int.toNat_natCast] at u1
          have HLC := Lib.hid (show ∀ w', Mv (one g) w w' → w'.cell? (ad.add kn) = some (.string (rdOf ByteArray.empty L (kn : Int))) from fun w' hm => by
            obtain ⟨ad', e', u'⟩ := Kd.at_string (HL.out w' hm) (kn : Int) (by omega) (by omega)
            cases e'
            rw [Int.toNat_natCast] at u'
            exact u')
          have hat' : atT L (kn : Int) = (rdOf ByteArray.empty L (kn : Int), true) := by rw [atT_in hk]; rfl
          rw [hat'] at H1 H2
          clear hat'
          generalize rdOf ByteArray.empty L (kn : Int) = sv at *
          have d1 : decide ((kn : Int) < (L.length : Int)) = true := decide_eq_true (by omega)
          have HO := Lib.hid (Kw.R_of_own (enc := Value.string) (h1 := fun _ => rfl) hGa.out.o2)
          go_wp2_with (fail)
          have x2d : wc.drew.cell? ⟨b, 2, none⟩ = some (.slice A2 a2.length cp2) := x2
          have u1d : wc.drew.cell? (ad.add kn) = some (.string sv) := u1
          have HOd : Hid (Kd.R Kd.string 9 wc.drew w.heap.size (fun _ => True) (.slice A2 a2.length cp2) a2) := HO
          have hsd : w.heap.size ≤ wc.drew.heap.size := hGa.out.mv.size
          refine start_ (n := 10) (S := fun w' => w'.cell? ⟨b, 2, none⟩ = some (.slice A2 a2.length cp2) ∧ w'.cell? (ad.add kn) = some (.string sv)) (ds := [9]) #[false, false, false, false, false, false, false, false, false, false] (by kernel_rfl) rfl rfl ⟨x2d, u1d⟩ (fun hHeld => ?_)
          refine pure_ (i := 0) (N := some 97) (v := ?_) (a' := ?_) #[true, false, false, false, false, false, false, false, false, false] rfl rfl (by kernel_rfl) (fun _ _ _ h => h) (Or.inl ⟨by rfl, ?_⟩) ?_ ?_
          rotate_left
          · intro w'
            go_simp
            with_reducible rfl
          rotate_left
          · simp only [Act.put, List.setIfInBounds_toArray, List.set_cons_zero, List.set_cons_succ, i64_w, i32_w]
            rfl
          refine pure_ (i := 2) (N := some 99) (v := ?_) (a' := ?_) #[true, false, true, false, false, false, false, false, false, false] rfl rfl (by kernel_rfl) (fun _ _ _ h => h) (Or.inl ⟨by rfl, ?_⟩) ?_ ?_
          rotate_left
          · intro w'
            go_simp
            with_reducible rfl
          rotate_left
          · simp only [Act.put, List.setIfInBounds_toArray, List.set_cons_zero, List.set_cons_succ, i64_w, i32_w]
            rfl
          refine pure_ (i := 3) (N := some 100) (v := ?_) (a' := ?_) #[true, false, true, true, false, false, false, false, false, false] rfl rfl (by kernel_rfl) (fun _ _ _ h => h) (Or.inl ⟨by rfl, ?_⟩) ?_ ?_
          rotate_left
          · intro w'
            go_simp
            with_reducible rfl
          rotate_left
          · simp only [Act.put, List.setIfInBounds_toArray, List.set_cons_zero, List.set_cons_succ, i64_w, i32_w]
            rfl
          refine pure_ (i := 4) (N := some 101) (v := ?_) (a' := ?_) #[true, false, true, true, true, false, false, false, false, false] rfl rfl (by kernel_rfl) (fun _ _ _ h => h) (Or.inl ⟨by rfl, ?_⟩) ?_ ?_
          rotate_left
          · intro w'
            go_simp
            with_reducible rfl
          rotate_left
          · simp only [Act.put, List.setIfInBounds_toArray, List.set_cons_zero, List.set_cons_succ, i64_w, i32_w]
            rfl
          refine take_ (i := 1) (N := some 98) (v := ?_) (a' := ?_) #[true, true, true, true, true, false, false, false, false, false] rfl rfl (by kernel_rfl) (fun _ _ _ h => h) (Or.inl ⟨by rfl, ?_⟩) hHeld ?_ ?_
          rotate_left
          · rintro w' ⟨s0, s1⟩
            go_simp
            with_reducible rfl
          rotate_left
          · simp only [Act.put, List.setIfInBounds_toArray, List.set_cons_zero, List.set_cons_succ, i64_w, i32_w]
            rfl
          refine take_ (i := 5) (N := some 102) (v := ?_) (a' := ?_) #[true, true, true, true, true, true, false, false, false, false] rfl rfl (by kernel_rfl) (fun _ _ _ h => h) (Or.inl ⟨by rfl, ?_⟩) hHeld ?_ ?_
          rotate_left
          · rintro w' ⟨s0, s1⟩
            go_simp
            with_reducible rfl
          rotate_left
          · simp only [Act.put, List.setIfInBounds_toArray, List.set_cons_zero, List.set_cons_succ, i64_w, i32_w]
            rfl
          refine one_ (i := 6) (N := some 103) #[true, true, true, true, true, true, true, false, false, false] rfl rfl (by kernel_rfl) (by decide) (fun K hK => ?_)
          refine value_ (w1 := ?_) (v := ?_) (by rfl) rfl ?_ ?_
          rotate_left 2
          · go_simp
            constructor
            · rfl
            · rfl
          refine hK.out _ _ ⟨(World.cell?_alloc_lt _ _ _ (World.block_lt_of_cell? _ _ x2d)).trans x2d, (World.cell?_alloc_lt _ _ _ (World.block_lt_of_cell? _ _ u1d)).trans u1d⟩ (fun hHeld => ?_)
          clear hK K
          refine norm_ (a' := ?_) ?_ ?_
          rotate_left
          · show Act.put _ (some 103) _ = _
            simp only [Act.put, List.setIfInBounds_toArray, List.set_cons_zero, List.set_cons_succ, i64_w, i32_w]
            rfl
          refine one_ (i := 7) (N := some 104) #[true, true, true, true, true, true, true, true, false, false] rfl rfl (by kernel_rfl) (by decide) (fun K hK => ?_)
          rw [show (wc.alloc (.cells #[.string sv] 9)).drew = wc.drew.alloc (.cells #[.string sv] 9) from rfl]
          refine Kd.R_append_step Kd.string w.heap.size (by rfl) (.tmp 98) (.tmp 103) 37 9 (.string ⟨#[]⟩) 16 rfl Tryd.underlying37 (by kernel_rfl) rfl (by decide) (by omega) (.slice A2 a2.length cp2) a2 sv [.string sv] (fun _ => True) (fun _ => False) rfl rfl ?aP (fun _ hk => hk.elim) ?aF ?aO (Below.refl _ _) ?aS ?aL ?_
          (case aP => exact rfl)
          (case aF => exact (fun _ _ => trivial))
          (case aO => exact HOd.out)
          (case aS => exact hsd)
          (case aL => omega)
          intro v20 w20 ho hb hg hat
          have hm20 : Mv (fun j => (Value.slice A2 a2.length cp2).ownBlock = some j) wc w20 := ((Mv.refl _ wc).drew).step (mv_grown hg)
          obtain ⟨HP, HM⟩ := hGa.out.put2 (x := sv) hm20 (by simpa using Kw.own_of_R (enc := Value.string) (h1 := fun _ => rfl) ho)
          have HP := Lib.hid HP
          have HM := Lib.hid HM
          obtain ⟨e1, f1⟩ := hGa.out.grown2 hm20
          obtain ⟨a4, c4, rfl⟩ : ∃ a c, v20 = .slice a (a2.length + 1) c := by obtain ⟨a, c, e⟩ := Kd.R_slice ho; exact ⟨a, c, by rw [e, List.length_append, List.length_singleton]⟩
          have u20 := HLC.out w20 (hGa.out.mv.trans hm20 (fun j hj => .inr ((hGa.out.o2.lt j hj).1)))
          clear ho hb hg hat hm20
          refine hK.out _ _ ⟨e1, u20⟩ (fun hHeld => ?_)
          clear hK K
          refine norm_ (a' := ?_) ?_ ?_
          rotate_left
          · show Act.put _ (some 104) _ = _
            simp only [Act.put, List.setIfInBounds_toArray, List.set_cons_zero, List.set_cons_succ, i64_w, i32_w]
            rfl
          refine pure_ (i := 8) (N := some 105) (v := ?_) (a' := ?_) #[true, true, true, true, true, true, true, true, true, false] rfl rfl (by kernel_rfl) (fun _ _ _ h => h) (Or.inl ⟨by rfl, ?_⟩) ?_ ?_
          rotate_left
          · intro w'
            go_simp
            with_reducible rfl
          rotate_left
          · simp only [Act.put, List.setIfInBounds_toArray, List.set_cons_zero, List.set_cons_succ, i64_w, i32_w]
            rfl
          refine last_ (i := 9) (N := none) #[true, true, true, true, true, true, true, true, true, true] rfl rfl (by kernel_rfl) (by decide) (fun K hK => ?_)
          refine skip_ (w1 := ?_) (by rfl) rfl ?_ ?_
          rotate_left
          · go_simp
            rfl
          refine hK.out _ _ ?_
          clear hK K
          refine done_ (by kernel_rfl) ?_
          go_wp2_with (fail)
          go_roundg ko
          case measure => omega
          case rel => exact ⟨i + 1, _, _, cf, a2 ++ [sv], rfl, rfl, by omega, by have := hla.out; rw [List.length_append, List.length_singleton]; omega, ⟨by have := hla.out; rw [List.length_append, List.length_singleton]; omega⟩, ⟨HP.out⟩, ⟨none_keep hRa.out hGa.out.o2 (by decide) (by omega) HM.out⟩, ⟨spec_keep hNa.out hGa.out.o2 (by decide) (by omega) HM.out⟩, ⟨H1.out⟩, ⟨fun _ => H2.out⟩⟩
        · have t6 : (cf.e == 0) = false := by simpa using hcz
          have HN0 := Lib.hid hcz
          have HX := Lib.hid (show (ownT L ko cf a2).1 = GT.1 by have := H1.out; rw [ownT_err _ _ _ hcz] at this ⊢; exact this)
          clear hcz
          go_wp2_with (fail)
          go_roundg ko
          case measure => omega
          case rel => exact ⟨i + 1, _, _, cf, a2, rfl, rfl, by omega, hl4, ⟨by have := hla.out; omega⟩, ⟨hGa.out⟩, ⟨hRa.out⟩, ⟨hNa.out⟩, ⟨HX.out⟩, ⟨fun h => absurd h HN0.out⟩⟩
  case rest =>
  obtain ⟨x, y, v2, c3, a2, rfl, rfl, hG8, hR8, hN8, hGT1, hGT2⟩ := hcut
  clear hG7 hR7 hN7
  obtain ⟨me, hme⟩ : ∃ me, me = max edges 0 := ⟨_, rfl⟩
  have hme0 : 0 ≤ me := by omega
  have hme1 : me ≤ 9223372036854775807 := by omega
  go_upto_if 107 with (fail)
  go_cut [3] (fun v3 wx => v3 = .int .i64 me ∧ wc = wx)
  case first =>
    by_cases h : edges < 0
    · have d1 : decide (edges < 0) = true := decide_eq_true h
      have e1 : me = 0 := by omega
      clear hme
      rw [d1]
      go_wp2_with (fail)
      go_meet
      exact ⟨by rw [e1], rfl⟩
    · have d1 : decide (edges < 0) = false := decide_eq_false h
      have e1 : me = edges := by omega
      clear hme
      rw [d1]
      go_wp2_with (fail)
      go_meet
      exact ⟨by rw [e1], rfl⟩
  case rest =>
  obtain ⟨rfl, rfl⟩ := hcut
  have hgt1 := hGT1.out
  rw [hgt1] at HGR
  have hGK : genK at' s2 s3 edges c3 = ownK at' (c3.uint me).1.toNat (if (c3.uint me).1 < s2 ∨ (0 ≤ s3 ∧ s3 < (c3.uint me).1) then (c3.uint me).2.fail 12 else (c3.uint me).2) [] := by unfold genK genC; rw [← hme]
  obtain ⟨GK, hGKd⟩ : ∃ x, x = genK at' s2 s3 edges c3 := ⟨_, rfl⟩
  rw [← hGKd] at HGR hGK
  have HGK := Lib.hid hGK
  have HE7 := Lib.hid (show (c3.uint me).2.e = 0 → GT.2 = a2 from fun h => hGT2.out (by
    by_cases h0 : c3.e = 0
    · exact h0
    · rw [uint_err h0] at h; exact h))
  have hum : IntKind.u64.wrap me = me := by rw [VM.u64_wrap]; omega
  clear hgt1 hGK hGKd hme hGT1 hGT2
  go_wp2_with (fail)
  try rw [hum]
  refine (Cur.muint_calls g c3 me _ hG8.out.cur hG8.out.cok hme0).mono ?_
  have hur := Cur.uint_range (c := c3) me
  rintro e w7 ⟨rfl, hC7, hM7⟩
  have HG7 := Lib.hid (hG8.out.turn hC7 (Cur.uint_ok hG8.out.cok _) hM7)
  have HR7 := Lib.hid (show NBox w7 r 0 (.slice none 0 0) (.slice none 0 0) (.slice none 0 0) from hM7.keep hR8.out (fun e => by have e2 : r = g := e; omega))
  have HN7 := Lib.hid (hM7.keep hN8.out (fun e => by have e2 : s = g := e; omega))
  have y2 : w7.cell? ⟨s, 2, none⟩ = some (.int .i64 s2) := (blk_cell HN7.out 2).trans rfl
  have y3 : w7.cell? ⟨s, 3, none⟩ = some (.int .i64 s3) := (blk_cell HN7.out 3).trans rfl
  clear hC7 hM7 hG8 hR8 hN8
  generalize (c3.uint me).2 = c7 at *
  obtain ⟨kk, hkk⟩ := Int.eq_ofNat_of_zero_le hur.1
  rw [hkk, Int.toNat_natCast] at HGK
  rw [hkk] at hur ⊢
  clear hkk
  go_upto_region 23 with (fail)
  obtain ⟨bq, hbq⟩ : ∃ bq : Bool, bq = decide ((kk : Int) < s2 ∨ (0 ≤ s3 ∧ s3 < (kk : Int))) := ⟨_, rfl⟩
  go_cut [126] (fun v52 wx => v52 = .bool bq ∧ w7 = wx)
  case first =>
    by_cases d1 : (kk : Int) < s2
    · have e1 : decide ((kk : Int) < s2) = true := decide_eq_true d1
      have hq : bq = true := by rw [hbq]; exact decide_eq_true (.inl d1)
      clear hbq
      go_wp2_with (fail)
      go_meet
      exact ⟨by rw [hq], rfl⟩
    · have e1 : decide ((kk : Int) < s2) = false := decide_eq_false d1
      by_cases d2 : s3 ≥ 0
      · have e2 : decide (s3 ≥ 0) = true := decide_eq_true d2
        by_cases d3 : (kk : Int) > s3
        · have e3 : decide ((kk : Int) > s3) = true := decide_eq_true d3
          have hq : bq = true := by rw [hbq]; exact decide_eq_true (.inr ⟨d2, d3⟩)
          clear hbq
          go_wp2_with (fail)
          go_meet
          exact ⟨by rw [hq], rfl⟩
        · have e3 : decide ((kk : Int) > s3) = false := decide_eq_false d3
          have hq : bq = false := by rw [hbq]; exact decide_eq_false (by omega)
          clear hbq
          go_wp2_with (fail)
          go_meet
          exact ⟨by rw [hq], rfl⟩
      · have e2 : decide (s3 ≥ 0) = false := decide_eq_false d2
        have hq : bq = false := by rw [hbq]; exact decide_eq_false (by omega)
        clear hbq
        go_wp2_with (fail)
        go_meet
        exact ⟨by rw [hq], rfl⟩
  case rest =>
  obtain ⟨rfl, rfl⟩ := hcut
  obtain ⟨c8, hc8⟩ : ∃ c8, c8 = (if (kk : Int) < s2 ∨ (0 ≤ s3 ∧ s3 < (kk : Int)) then c7.fail 12 else c7) := ⟨_, rfl⟩
  have hcc : c8 = if bq = true then c7.fail 12 else c7 := by
    rw [hc8, hbq]
    by_cases hd : (kk : Int) < s2 ∨ (0 ≤ s3 ∧ s3 < (kk : Int))
    · rw [if_pos hd, decide_eq_true hd, if_pos rfl]
    · rw [if_neg hd, decide_eq_false hd, if_neg (by simp)]
  rw [← hc8] at HGK
  have HE8 := Lib.hid (show c8.e = 0 → GT.2 = a2 from fun h => HE7.out (by
    rw [hcc] at h
    split at h
    · exact absurd h (fail_ne _ (by decide))
    · exact h))
  clear y2 y3 hbq hc8 HE7
  go_upto_if 126 with (fail)
  go_cut [] (fun wx => Aside0 (Gm w wx g b c8 k v1 v2 (.slice none 0 0) a1 a2 []) ∧ Aside0 (NBox wx r 0 (.slice none 0 0) (.slice none 0 0) (.slice none 0 0)))
  case first =>
    cases bq with
    | true =>
      rw [if_pos rfl] at hcc
      go_wp2_with (fail)
      refine (Cur.mfail_calls g c7 12 _ HG7.out.cur).mono ?_
      rintro e w8 ⟨rfl, hC8, hM8⟩
      have HG8 := Lib.hid (HG7.out.turn hC8 (Cur.fail_ok HG7.out.cok 12) hM8)
      have HR8 := Lib.hid (show NBox w8 r 0 (.slice none 0 0) (.slice none 0 0) (.slice none 0 0) from hM8.keep HR7.out (fun e => by have e2 : r = g := e; omega))
      clear hC8 hM8
      subst hcc
      go_wp2_with (fail)
      go_meet
      exact ⟨⟨HG8.out⟩, ⟨HR8.out⟩⟩
    | false =>
      rw [if_neg (by simp)] at hcc
      subst hcc
      go_wp2_with (fail)
      go_meet
      exact ⟨⟨HG7.out⟩, ⟨HR7.out⟩⟩
  case rest =>
  obtain ⟨hG8, hR8⟩ := hcut
  clear hcc HG7 HR7 HN7
  go_upto_block 4 with (fail)
  go_cut [17, 18] (fun v13 v14 wx => ∃ (x y v3 : Value) (c' : Cur.Cur) (a3 : List Int), v13 = x ∧ v14 = y ∧ Aside0 (Gm w wx g b c' k v1 v2 v3 a1 a2 a3) ∧ Aside0 (NBox wx r 0 (.slice none 0 0) (.slice none 0 0) (.slice none 0 0)) ∧ Aside0 (GK.1 = c') ∧ Aside0 (c'.e = 0 → GT.2 = a2 ∧ GK.2 = a3))
  case first =>
    go_wp2_with (fail)
    go_loopg [17, 18] kk (fun kq v13 v14 wr => ∃ (i : Nat) (y v3 : Value) (c' : Cur.Cur) (a3 : List Int), v13 = .int .i64 (i : Int) ∧ v14 = y ∧ i + kq = kk ∧ Aside0 (a3.length = i) ∧ Aside0 (Gm w wr g b c' k v1 v2 v3 a1 a2 a3) ∧ Aside0 (NBox wr r 0 (.slice none 0 0) (.slice none 0 0) (.slice none 0 0)) ∧ Aside0 ((ownK at' kq c' a3).1 = GK.1) ∧ Aside0 (c'.e = 0 → GT.2 = a2 ∧ (ownK at' kq c' a3).2 = GK.2))
    case atStart => exact ⟨0, _, _, c8, [], rfl, rfl, by omega, ⟨rfl⟩, ⟨hG8.out⟩, ⟨hR8.out⟩, ⟨by rw [HGK.out]⟩, ⟨fun h => ⟨HE8.out h, by rw [HGK.out]⟩⟩⟩
    case round =>
      clear hG8 hR8
      obtain ⟨i, y, v3, c', a3, rfl, rfl, hik, hla, hG, hR, hE, hF⟩ := hrel
      obtain ⟨wo, hwo⟩ : ∃ z, z = wr := ⟨_, rfl⟩
      subst hwo
      have k2 := hG.out.cur.c2
      by_cases hdone : gk = 0 ∨ c'.e ≠ 0
      · have hX : ownK at' gk c' a3 = (c', a3) := ownK_stop hdone
        have HX1 := Lib.hid (show GK.1 = c' by rw [← hE.out, hX])
        have HX2 := Lib.hid (show c'.e = 0 → GT.2 = a2 ∧ GK.2 = a3 from fun h => ⟨(hF.out h).1, by rw [← (hF.out h).2, hX]⟩)
        have hlt2 : (¬ (i : Int) < (kk : Int)) ∨ ((i : Int) < (kk : Int) ∧ (c'.e == 0) = false) := by
          by_cases h2 : (i : Int) < (kk : Int)
          · refine .inr ⟨h2, ?_⟩
            rcases hdone with h | h
            · omega
            · simpa using h
          · exact .inl h2
        clear hX hdone hE hF
        rcases hlt2 with h4 | ⟨h4, t5⟩
        · have t4 : decide ((i : Int) < (kk : Int)) = false := decide_eq_false h4
          go_wp2_with (fail)
          go_meet
          exact ⟨_, _, _, c', a3, rfl, rfl, ⟨hG.out⟩, ⟨hR.out⟩, ⟨HX1.out⟩, ⟨HX2.out⟩⟩
        · have t4 : decide ((i : Int) < (kk : Int)) = true := decide_eq_true h4
          go_wp2_with (fail)
          go_meet
          exact ⟨_, _, _, c', a3, rfl, rfl, ⟨hG.out⟩, ⟨hR.out⟩, ⟨HX1.out⟩, ⟨HX2.out⟩⟩
      · have hc0 : c'.e = 0 := by omega
        have hlt : (i : Int) < (kk : Int) := by omega
        have t4 : decide ((i : Int) < (kk : Int)) = true := decide_eq_true hlt
        have t5 : (c'.e == 0) = true := by simpa using hc0
        obtain ⟨ko, rfl⟩ : ∃ g, gk = g + 1 := ⟨gk - 1, by omega⟩
        have h1 := hE.out
        have h2 := hF.out hc0
        rw [ownK, if_neg (show ¬ c'.e ≠ 0 by simpa using hc0)] at h1 h2
        have H1 := Lib.hid h1
        have H2 := Lib.hid h2
        have hl4 : a3.length ≤ 16777216 := by have := hla.out; omega
        have hur2 := Cur.uint_range (c := c') 16777216
        clear hF hE h1 h2 hdone
        go_wp2_with (fail)
        refine (Cur.muint_calls g c' 16777216 _ hG.out.cur hG.out.cok (by decide)).mono ?_
        rintro e w10 ⟨rfl, hC10, hM10⟩
        have HG10 := Lib.hid (hG.out.turn hC10 (Cur.uint_ok hG.out.cok _) hM10)
        have HR10 := Lib.hid (show NBox w10 r 0 (.slice none 0 0) (.slice none 0 0) (.slice none 0 0) from hM10.keep hR.out (fun e => by have e2 : r = g := e; omega))
        clear hC10 hM10 hG hR k2
        generalize (c'.uint 16777216).2 = c10 at *
        generalize (c'.uint 16777216).1 = bk at *
        go_upto_region 29 with (fail)
        obtain ⟨bz, hbz⟩ : ∃ bz : Bool, bz = decide (bk < 1 ∨ at' < bk) := ⟨_, rfl⟩
        go_cut [149] (fun v73 wx => v73 = .bool bz ∧ w10 = wx)
        case first =>
          by_cases d1 : bk < 1
          · have e1 : decide (bk < 1) = true := decide_eq_true d1
            have hq : bz = true := by rw [hbz]; exact decide_eq_true (.inl d1)
            clear hbz
            go_wp2_with (fail)
            go_meet
            exact ⟨by rw [hq], rfl⟩
          · have e1 : decide (bk < 1) = false := decide_eq_false d1
            by_cases d2 : bk > at'
            · have e2 : decide (bk > at') = true := decide_eq_true d2
              have hq : bz = true := by rw [hbz]; exact decide_eq_true (.inr d2)
              clear hbz
              go_wp2_with (fail)
              go_meet
              exact ⟨by rw [hq], rfl⟩
            · have e2 : decide (bk > at') = false := decide_eq_false d2
              have hq : bz = false := by rw [hbz]; exact decide_eq_false (by omega)
              clear hbz
              go_wp2_with (fail)
              go_meet
              exact ⟨by rw [hq], rfl⟩
        case rest =>
        obtain ⟨rfl, rfl⟩ := hcut
        obtain ⟨cf, hcf⟩ : ∃ cf, cf = (if bk < 1 ∨ at' < bk then c10.fail 13 else c10) := ⟨_, rfl⟩
        have hcc : cf = if bz = true then c10.fail 13 else c10 := by
          rw [hcf, hbz]
          by_cases hd : bk < 1 ∨ at' < bk
          · rw [if_pos hd, decide_eq_true hd, if_pos rfl]
          · rw [if_neg hd, decide_eq_false hd, if_neg (by simp)]
        have hHST : ∀ x : Int, (cf.e = 0 → x = at' - bk) → (ownK at' ko cf (a3 ++ [x])).1 = GK.1 ∧ (cf.e = 0 → GT.2 = a2 ∧ (ownK at' ko cf (a3 ++ [x])).2 = GK.2) := fun x hx => by
          have g1 := H1.out
          have g2 := H2.out
          rw [← hcf] at g1 g2
          by_cases h0 : cf.e = 0
          · rw [hx h0]; exact ⟨g1, fun _ => g2⟩
          · rw [ownK_err _ _ _ h0] at g1 ⊢
            exact ⟨g1, fun h => absurd h h0⟩
        have hwx : cf.e = 0 → IntKind.i64.wrap (at' - bk) = at' - bk := fun h => by
          rw [hcf] at h
          split at h
          · exact absurd h (fail_ne _ (by decide))
          · rename_i hd
            rw [IntKind.wrap_i64]; omega
        have HST := Lib.hid (hHST (IntKind.i64.wrap (at' - bk)) hwx)
        clear hHST hwx H1 H2 hbz hcf
        go_upto_if 149 with (fail)
        go_cut [] (fun wx => Aside0 (Gm w wx g b cf k v1 v2 v3 a1 a2 a3) ∧ Aside0 (NBox wx r 0 (.slice none 0 0) (.slice none 0 0) (.slice none 0 0)))
        case first =>
          cases bz with
          | true =>
            rw [if_pos rfl] at hcc
            go_wp2_with (fail)
            refine (Cur.mfail_calls g c10 13 _ HG10.out.cur).mono ?_
            rintro e w8 ⟨rfl, hC8, hM8⟩
            have HG8 := Lib.hid (HG10.out.turn hC8 (Cur.fail_ok HG10.out.cok 13) hM8)
            have HR8 := Lib.hid (show NBox w8 r 0 (.slice none 0 0) (.slice none 0 0) (.slice none 0 0) from hM8.keep HR10.out (fun e => by have e2 : r = g := e; omega))
            clear hC8 hM8
            subst hcc
            go_wp2_with (fail)
            go_meet
            exact ⟨⟨HG8.out⟩, ⟨HR8.out⟩⟩
          | false =>
            rw [if_neg (by simp)] at hcc
            subst hcc
            go_wp2_with (fail)
            go_meet
            exact ⟨⟨HG10.out⟩, ⟨HR10.out⟩⟩
        case rest =>
        obtain ⟨hG11, hR11⟩ := hcut
        clear hcc HG10 HR10
        obtain ⟨A3, cp3, hv3⟩ := row_slice hG11.out.o3
        subst hv3
        obtain ⟨_, _, _, x3⟩ := hG11.out.box.cells
        obtain ⟨xv, hxv⟩ : ∃ xv, xv = IntKind.i64.wrap (at' - bk) := ⟨_, rfl⟩
        rw [← hxv] at HST
        have hxw : IntKind.i64.wrap (at' - bk) = xv := hxv.symm
        clear hxv
        go_wp2_with (first
          | (at_builtin; (try simp only [hxw]); refine wpList_append_own_at _ rfl _ _ 38 rfl w.heap.size 3 i0 (.int .i64 0) 1 8 Tryd.underlying38 hi0 hz0 hz1 hz2 rfl (by decide) (.slice A3 a3.length cp3) a3.length (a3.map i64V) rfl (hG11.out.o3.alloc _) ⟨wc.heap.size, 0, none⟩ 1 1 [.int .i64 xv] rfl rfl (cell_one_new wc _ _) (fun u hu => by rw [List.mem_singleton] at hu; subst hu; rfl) (by unfold maxLen; omega) (by omega) (by have := hG11.out.mv.size; simp; omega) ?_; intro v2 w12 ho2 hg2 _ hl2; obtain ⟨HP, HM⟩ := hG11.out.put3 (x := xv) (mv_grow hg2) ho2; have HP := Lib.hid HP; have HM := Lib.hid HM; obtain ⟨e1, f1⟩ := hG11.out.grown3 (mv_grow hg2); obtain ⟨a4, c4, rfl⟩ := row_slice ho2; clear ho2 hg2 hl2))
        go_roundg ko
        case measure => omega
        case rel => exact ⟨i + 1, _, _, cf, a3 ++ [xv], rfl, rfl, by omega, ⟨by rw [List.length_append, List.length_singleton, hla.out]⟩, ⟨HP.out⟩, ⟨none_keep hR11.out hG11.out.o3 (by decide) (by omega) HM.out⟩, ⟨HST.out.1⟩, ⟨HST.out.2⟩⟩
  case rest =>
  clear hG8 hR8 HE8 HGK
  obtain ⟨x, y, v3, c', a3, rfl, rfl, hG, hR, hX, hF⟩ := hcut
  have k2 := hG.out.cur.c2
  obtain ⟨z0, z1, z2, z3⟩ := hR.out.cells
  have f0 := blk_frozen hR.out 0
  have f1 := blk_frozen hR.out 1
  have f2 := blk_frozen hR.out 2
  have f3 := blk_frozen hR.out 3
  by_cases hc0 : c'.e = 0
  · have t5 : (c'.e != 0) = false := by simpa using hc0
    obtain ⟨h2, h3⟩ := hF.out hc0
    have HR0 := Lib.hid (show getR at' edges L c = (c', k, a1, a2, a3) by rw [HGR.out, hX.out, if_neg (by simpa using hc0), h2, h3])
    obtain ⟨x0, x1, x2, x3⟩ := hG.out.box.cells
    obtain ⟨A1, p1, hv1⟩ := row_slice hG.out.o1
    obtain ⟨A2, p2, hv2⟩ := row_slice hG.out.o2
    obtain ⟨A3, p3, hv3⟩ := row_slice hG.out.o3
    subst hv1 hv2 hv3
    clear h2 h3 hF
    go_wp2_with (fail)
    have hp3 := blk_put (blk_put (blk_put (blk_put hR.out 0 (.int .i64 k) rfl) 1 (.slice A1 a1.length p1) rfl) 2 (.slice A2 a2.length p2) rfl) 3 (.slice A3 a3.length p3) rfl
    refine bodyPost_ret (results_cell_row rfl _ _ r 40 #[.int .i64 k, .slice A1 a1.length p1, .slice A2 a2.length p2, .slice A3 a3.length p3] (0, 0) _ rfl hp3 Tryd.underlying40 rfl (by kernel_rfl)) rfl ?_
    have m4 := mv4 wc r (.int .i64 k) (.slice A1 a1.length p1) (.slice A2 a2.length p2) (.slice A3 a3.length p3)
    refine ⟨_, _, _, by rw [HR0.out], by rw [HR0.out]; exact hG.out.cur.mv m4 (fun e => by have e2 : g = r := e; omega), by rw [HR0.out]; exact hG.out.cok, ?_, hG.out.mv.trans m4 (fun k hk => .inr (by have e2 : k = r := hk; omega))⟩
    rw [HR0.out]
    exact ⟨row_mv hG.out.o1 m4 (fun j hj e => Lib.ownBlock_ne hG.out.o1 hR.out (by decide) (by rw [hj, show j = r from e])), row_mv hG.out.o2 m4 (fun j hj e => Lib.ownBlock_ne hG.out.o2 hR.out (by decide) (by rw [hj, show j = r from e])), row_mv hG.out.o3 m4 (fun j hj e => Lib.ownBlock_ne hG.out.o3 hR.out (by decide) (by rw [hj, show j = r from e]))⟩
  · have t5 : (c'.e != 0) = true := bne_iff_ne.mpr hc0
    have HR0 := Lib.hid (show getR at' edges L c = (c', 0, [], [], []) by rw [HGR.out, hX.out, if_pos hc0])
    go_wp2_with (fail)
    have hp3 := blk_put (blk_put (blk_put (blk_put hR.out 0 (.int .i64 0) rfl) 1 (.slice none 0 0) rfl) 2 (.slice none 0 0) rfl) 3 (.slice none 0 0) rfl
    refine bodyPost_ret (results_cell_row rfl _ _ r 40 #[.int .i64 0, .slice none 0 0, .slice none 0 0, .slice none 0 0] (0, 0) _ rfl hp3 Tryd.underlying40 rfl (by kernel_rfl)) rfl ?_
    have m4 := mv4 wc r (.int .i64 0) (.slice none 0 0) (.slice none 0 0) (.slice none 0 0)
    exact rget_none g L c at' edges w HR0.out (hG.out.cur.mv m4 (fun e => by have e2 : g = r := e; omega)) hG.out.cok (hG.out.mv.trans m4 (fun k hk => .inr (by have e2 : k = r := hk; omega)))
end
end Go.Proofs.YtoigkneoaemcfaaDoor.Rec
