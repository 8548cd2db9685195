/- dioramaref13.Put, called. -/
import Derived.Test.YtoigkneoaemcfaaDoorRxRcPut
import Derived.Test.YtoigkneoaemcfaaDoorRxTLawA
import Derived.Test.YtoigkneoaemcfaaDoorRxGRx10
import Derived.Test.YtoigkneoaemcfaaDoorRxGRx6
namespace Go.Proofs.YtoigkneoaemcfaaDoor.Rec
open Go.RowKit Go.Lib Go.Proofs.YtoigkneoaemcfaaDoorW.PrintWords Go.Proofs.YtoigkneoaemcfaaDoorW.PrintLast Go.Proofs.YtoigkneoaemcfaaDoorW.PrintMore Go.Proofs.YtoigkneoaemcfaaDoor.B Go.Proofs.YtoigkneoaemcfaaDoor.Bd Go.Proofs.YtoigkneoaemcfaaDoor.Tab Go.Proofs.YtoigkneoaemcfaaDoor.GR
set_option linter.unusedVariables false
set_option linter.unusedSimpArgs false
/-- The blocks of a row. -/
def Of (v : Value) : Nat → Prop := fun k => v.ownBlock = some k
/-- A row of texts that was made since the world w0. -/
def Own (w0 w : World) (v : Value) (L : List ByteArray) : Prop := Below w0.heap.size w0 w ∧ w.ownsRow w0.heap.size 9 1 v L.length (L.map Value.string)
/-- The reference's Intern. -/
theorem rint {w0 w : World} {v : Value} {L : List ByteArray} (h : Own w0 w v L) (s : ByteArray) (hl : L.length ≤ 100000000) :
    Calls Tryd.prog 47 #[v, .string s] w fun e w' => ∃ v', e = .returned (.tuple #[v', .int .i64 ((Tab.intern L s).2 : Int)]) ∧ Own w0 w' v' (Tab.intern L s).1 ∧ Mv (Of v) w w' ∧ ∀ k, Of v' k → Of v k ∨ w.heap.size ≤ k := by
  have hR : Kd.R Kd.string 9 w w0.heap.size (Of v) v L := by
    have := Kw.R_of_own (enc := Value.string) (h1 := fun _ => rfl) h.2
    exact ⟨fun k hk => hk, this.2.imp_ (fun _ _ hp => hp)⟩
  refine (dioramaref06_Intern.calls _ (Of v) v L s _ _ w0 w h.1 hR (intern_f L s hl (L.length + 1) (Nat.le_refl _))).mono ?_
  rintro e w' ⟨v', rfl, hR', hB, hK⟩
  exact ⟨v', rfl, ⟨hB, Kw.own_of_R (enc := Value.string) (h1 := fun _ => rfl) hR'⟩, mv_kept h.1 hB hK, fun k hk => hR'.1 k hk⟩
/-- What stands while the reference puts a record. -/
structure Rt (w0 w wr : World) (v v' : Value) (g : Nat) (L' : List ByteArray) (k : Int) (v1 v2 v3 : Value) : Prop where
  own : Own w0 wr v' L'
  mv : Mv (Of v) w wr
  fr : ∀ k, Of v' k → Of v k ∨ g < k
  box : NBox wr g k v1 v2 v3
  g0 : w.heap.size ≤ g
  lt : ∀ k, Of v k → k < w.heap.size
section
variable {w0 w wr w' : World} {v v' : Value} {g : Nat} {L' : List ByteArray} {k : Int} {v1 v2 v3 : Value}
theorem Own.below (h : Own w0 wr v' L') (hb : Below wr.heap.size wr w') : Own w0 w' v' L' := ⟨below_step h.1 hb, row_mv h.2 (Mv.of_below (S := nil) hb) (fun _ _ h => h)⟩
theorem Rt.below (h : Rt w0 w wr v v' g L' k v1 v2 v3) (hb : Below wr.heap.size wr w') : Rt w0 w w' v v' g L' k v1 v2 v3 :=
  ⟨h.own.below hb, h.mv.trans (Mv.of_below (S := nil) hb) (fun _ hk => hk.elim), h.fr, h.box.below hb, h.g0, h.lt⟩
theorem Rt.intern (h : Rt w0 w wr v v' g L' k v1 v2 v3) (s : ByteArray) (hl : L'.length ≤ 100000000) :
    Calls Tryd.prog 47 #[v', .string s] wr fun e w' => ∃ v'', e = .returned (.tuple #[v'', .int .i64 ((Tab.intern L' s).2 : Int)]) ∧ Rt w0 w w' v v'' g (Tab.intern L' s).1 k v1 v2 v3 := by
  refine (rint h.own s hl).mono ?_
  rintro e w' ⟨v'', rfl, h1, h2, h3⟩
  have hg : g < wr.heap.size := blk_lt h.box
  refine ⟨v'', rfl, h1, h.mv.trans h2 (fun k hk => by rcases h.fr k hk with h4 | h4; exact .inl h4; exact .inr (Nat.le_trans h.g0 (Nat.le_of_lt h4))), fun k hk => ?_, h2.keep h.box (fun hh => ?_), h.g0, h.lt⟩
  · rcases h3 k hk with h4 | h4
    · exact h.fr k h4
    · exact .inr (by omega)
  · rcases h.fr g hh with h4 | h4
    · have := h.lt g h4; have := h.g0; omega
    · omega
end
section
variable (w0 : World) (v : Value) (L : List ByteArray) (k at' : Int) (A1 : Option Addr) (c1 : Nat) (l1 : List Int) (A2 : Option Addr) (c2 : Nat) (l2 : List ByteArray) (A3 : Option Addr) (c3 : Nat) (l3 : List Int) (w : World)
/-- What dioramaref13.Put ends with. -/
def RPutPost (w : World) (e : Ending) (w' : World) : Prop := ∃ v', e = .returned (.tuple #[.string (putR k l1 l2 l3 at' L).1, v', .int .i64 (putR k l1 l2 l3 at' L).2.2]) ∧ Own w0 w' v' (putR k l1 l2 l3 at' L).2.1 ∧ Mv (Of v) w w' ∧ ∀ k, Of v' k → Of v k ∨ w.heap.size ≤ k
theorem rput_err {w' : World} {q : Int} (hq : putE k l1 l2 l3 at' = q) (h0 : q ≠ 0) (hT : Own w0 w' v L) (hM : Mv (Of v) w w') : RPutPost w0 v L k at' l1 l2 l3 w (.returned (.tuple #[.string ⟨#[]⟩, v, .int .i64 q])) w' := by
  unfold RPutPost putR
  rw [hq, if_pos h0]
  exact ⟨v, rfl, hT, hM, fun _ h => .inl h⟩
set_option maxHeartbeats 8000000 in
set_option maxRecDepth 100000 in
theorem rrecput_calls (hO : Own w0 w v L) (hn : ∀ w', Below w0.heap.size w0 w' → In w' A1 c1 l1 A2 c2 l2 A3 c3 l3) (hf : Fit l1 l2 l3) (hi1 : I64 l1) (hi3 : I64 l3) (hat : -9223372036854775808 ≤ at' ∧ at' ≤ 9223372036854775807) (hL : L.length ≤ 1000000) :
    Calls Tryd.prog 19 #[.agg #[.int .i64 k, .slice A1 l1.length c1, .slice A2 l2.length c2, .slice A3 l3.length c3], .int .i64 at', v] w fun e w' => RPutPost w0 v L k at' l1 l2 l3 w e w' := by
  have HN := Lib.hid hn
  have HOwn := Lib.hid hO
  have HF := Lib.hid hf
  have HI1 := Lib.hid hi1
  have HI3 := Lib.hid hi3
  have hn1 := hf.n1
  have hn2 := hf.n2
  have hn3 := hf.n3
  obtain ⟨hat0, hat1⟩ := hat
  have hlt : ∀ k, Of v k → k < w.heap.size := fun k hk => row_lt hO.2 hk
  have HLT := Lib.hid hlt
  clear hn hO hf hi1 hi3 hlt
  go_enter Tryd.func19, Tryd.ntmps19
  go_wp2_with (fail)
  generalize hw1 : w.alloc (.cells #[.int .i64 k, .slice A1 l1.length c1, .slice A2 l2.length c2, .slice A3 l3.length c3] 40) = w1
  have X1 : Hid (NBox w1 w.heap.size k (.slice A1 l1.length c1) (.slice A2 l2.length c2) (.slice A3 l3.length c3)) := Lib.hid (by rw [← hw1]; exact heap_alloc_new w _)
  have D1 : Hid (Below w.heap.size w w1) := Lib.hid (by rw [← hw1]; exact (Below.refl _ w).alloc (Nat.le_refl _) _)
  clear hw1
  obtain ⟨x0, x1, x2, x3⟩ := X1.out.cells
  have hg1 : Hid (w.heap.size < w1.heap.size) := Lib.hid (blk_lt X1.out)
  have R1 : Hid (Rt w0 w w1 v v w.heap.size L k (.slice A1 l1.length c1) (.slice A2 l2.length c2) (.slice A3 l3.length c3)) := Lib.hid ⟨HOwn.out.below D1.out, Mv.of_below D1.out, fun k hk => .inl hk, X1.out, Nat.le_refl _, HLT.out⟩
  clear D1 X1
  obtain ⟨⟨m0, s1, s2, s3, ok⟩, hS⟩ : ∃ x, x = newS k := ⟨_, rfl⟩
  have HS := Lib.hid hS
  clear hS
  go_wp2_with (fail)
  refine (dioramaref07_Spec.calls 1 2 k m0 s1 s2 s3 ok w1 (by rw [spec_ref 1 (Nat.le_refl _), ← HS.out])).mono ?_
  rintro e w2 ⟨v2, rfl, ho2, hb2⟩
  obtain ⟨B0, d0, rfl, hd0, hC2⟩ := Kd.R_reads ho2
  have R2 := Lib.hid (R1.out.below hb2)
  have HC2 := Lib.hid hC2
  clear hb2 hC2 ho2 x0 x1 x2 x3
  go_upto_region 2 with (fail)
  have hn3 := heap_alloc_new w2 (.cells #[.slice B0 m0.length d0, .int .i64 s1, .int .i64 s2, .int .i64 s3] 97)
  have hb3 : Below w2.heap.size w2 (w2.alloc (.cells #[.slice B0 m0.length d0, .int .i64 s1, .int .i64 s2, .int .i64 s3] 97)) := (Below.refl _ _).alloc (Nat.le_refl _) _
  generalize w2.alloc (.cells #[.slice B0 m0.length d0, .int .i64 s1, .int .i64 s2, .int .i64 s3] 97) = w3 at hn3 hb3 ⊢
  have R3 := Lib.hid (R2.out.below hb3)
  have HC3 := Lib.hid (Kd.C_below HC2.out hb3)
  have HN3 := Lib.hid hn3
  clear hb3 hn3
  cases ok with
  | false =>
    have hE : putE k l1 l2 l3 at' = 9 := by unfold putE nodeE; rw [← HS.out]; simp
    have HE := Lib.hid hE
    clear hE
    go_wp2_with (fail)
    go_ret3
    exact rput_err w0 v L k at' l1 l2 l3 w HE.out (by decide) R3.out.own R3.out.mv
  | true =>
    have hok : (newS k).2.2.2.2 = true := by rw [← HS.out]
    obtain ⟨k1, k8, _, _, _, _⟩ := newS_ok hok
    obtain ⟨kn, rfl⟩ : ∃ n : Nat, k = (n : Int) := ⟨k.toNat, by omega⟩
    have HNE := Lib.hid (show nodeE (kn : Int) l1 l2 l3 = chk l1 l2 l3 m0 s1 s2 s3 by unfold nodeE; rw [← HS.out]; simp)
    clear hok
    obtain ⟨x0, x1, x2, x3⟩ := R3.out.box.cells
    have y0 : w3.cell? ⟨w2.heap.size, 0, none⟩ = some (.slice B0 m0.length d0) := (blk_cell HN3.out 0).trans rfl
    have y1 : w3.cell? ⟨w2.heap.size, 1, none⟩ = some (.int .i64 s1) := (blk_cell HN3.out 1).trans rfl
    have y2 : w3.cell? ⟨w2.heap.size, 2, none⟩ = some (.int .i64 s2) := (blk_cell HN3.out 2).trans rfl
    have y3 : w3.cell? ⟨w2.heap.size, 3, none⟩ = some (.int .i64 s3) := (blk_cell HN3.out 3).trans rfl
    go_wp2_with (fail)
    have I3 := HN.out _ R3.out.own.1
    refine (dioramaref08_Check.calls 9000 (kn : Int) A1 c1 l1 A2 c2 l2 A3 c3 l3 B0 d0 m0 s1 s2 s3 (chk l1 l2 l3 m0 s1 s2 s3) w3 I3.r1 I3.e1 I3.r2 I3.e2 I3.r3 I3.e3 HC3.out hd0 (rchk 9000 (Nat.le_refl _) (kn : Int) m0 s1 s2 s3 HF.out)).mono ?_
    clear I3
    rintro e w4 ⟨rfl, hb4⟩
    have R4 := Lib.hid (R3.out.below hb4)
    clear hb4 x0 x1 x2 x3 y0 y1 y2 y3
    generalize chk l1 l2 l3 m0 s1 s2 s3 = q at *
    by_cases hq : q = 0
    rotate_left
    · have t32 : (q != 0) = true := bne_iff_ne.mpr hq
      have HE := Lib.hid (show putE (kn : Int) l1 l2 l3 at' = q by unfold putE; rw [HNE.out, if_pos hq])
      go_wp2_with (fail)
      go_ret3
      exact rput_err w0 v L (kn : Int) at' l1 l2 l3 w HE.out hq R4.out.own R4.out.mv
    have t32 : (q != 0) = false := by simpa using hq
    subst hq
    have I4 := Lib.hid (HN.out _ R4.out.own.1)
    go_wp2_with (fail)
    go_loopg [12] l3.length (fun kq v12 wr => ∃ (i : Nat), v12 = .int .i64 (i : Int) ∧ i + kq = l3.length ∧ Aside0 (kidsE at' (l3.drop i) = kidsE at' l3) ∧ w4 = wr)
    case atStart => exact ⟨0, rfl, by omega, ⟨rfl⟩, rfl⟩
    case round =>
      obtain ⟨i, rfl, hik, hK, hww⟩ := hrel
      subst hww
      obtain ⟨x0, x1, x2, x3⟩ := R4.out.box.cells
      by_cases hlt : (i : Int) < (l3.length : Int)
      · have t4 : decide ((i : Int) < (l3.length : Int)) = true := decide_eq_true hlt
        obtain ⟨ko, rfl⟩ : ∃ g, gk = g + 1 := ⟨gk - 1, by omega⟩
        obtain ⟨ad, e, u1⟩ := Kd.at_int I4.out.r3 (i : Int) (by omega) hlt
        subst e
        rw [Int.toNat_natCast] at u1
        have HD := Lib.hid (num_at (l := l3) (i := i) (by omega))
        generalize rd l3 (i : Int) = y at *
        have hcons : kidsE at' (l3.drop i) = (decide (y < 0 ∨ at' ≤ y) || kidsE at' (l3.drop (i + 1))) := by rw [HD.out]; rfl
        have HCONS := Lib.hid hcons
        clear hcons
        have herr : (y < 0 ∨ at' ≤ y) → putE (kn : Int) l1 l2 l3 at' = 13 := fun hy => by
          have h1 := HCONS.out
          rw [hK.out, decide_eq_true hy, Bool.true_or] at h1
          unfold putE
          rw [HNE.out, if_neg (by simp), if_pos h1]
        have HERR := Lib.hid herr
        clear herr
        by_cases hy0 : y < 0
        · have e1 : decide (y < 0) = true := decide_eq_true hy0
          have HE := Lib.hid (HERR.out (.inl hy0))
          go_wp2_with (fail)
          go_ret3
          exact rput_err w0 v L (kn : Int) at' l1 l2 l3 w HE.out (by decide) R4.out.own R4.out.mv
        have e1 : decide (y < 0) = false := decide_eq_false hy0
        by_cases hy1 : y ≥ at'
        · have e2 : decide (y ≥ at') = true := decide_eq_true hy1
          have HE := Lib.hid (HERR.out (.inr hy1))
          go_wp2_with (fail)
          go_ret3
          exact rput_err w0 v L (kn : Int) at' l1 l2 l3 w HE.out (by decide) R4.out.own R4.out.mv
        have e2 : decide (y ≥ at') = false := decide_eq_false hy1
        have HK2 := Lib.hid (show kidsE at' (l3.drop (i + 1)) = kidsE at' l3 by rw [← hK.out, HCONS.out, decide_eq_false (by omega), Bool.false_or])
        go_wp2_with (fail)
        go_roundg ko
        case measure => omega
        case rel => exact ⟨i + 1, rfl, by omega, ⟨HK2.out⟩, rfl⟩
      · have t4 : decide ((i : Int) < (l3.length : Int)) = false := decide_eq_false hlt
        have hk0 : kidsE at' l3 = false := by rw [← hK.out, List.drop_of_length_le (by omega)]; rfl
        have HK0 := Lib.hid hk0
        have HP0 := Lib.hid (show putE (kn : Int) l1 l2 l3 at' = 0 by unfold putE; rw [HNE.out, hk0]; simp)
        clear hk0 hK
        have hwk : IntKind.u64.wrap (kn : Int) = (kn : Int) := by rw [VM.u64_wrap]; omega
        go_wp2_with (fail)
        try rw [hwk]
        refine (Cur.refput_calls kn (by omega) _).mono ?_
        rintro e w5 ⟨rfl, hb5⟩
        have R5 := Lib.hid (R4.out.below hb5)
        have hps := Cur.put_size_le (n := kn) (by omega)
        have HBW := Lib.hid (show bI (Cur.put kn) l1 = bI (Cur.put ((kn : Int)).toNat) l1 by rw [Int.toNat_natCast])
        clear hb5 x0 x1 x2 x3
        generalize Cur.put kn = o6 at *
        go_wp2_with (fail)
        go_loopg [13, 14] l1.length (fun kq v13 v14 wr => ∃ (i : Nat) (o : ByteArray), v13 = .string o ∧ v14 = .int .i64 (i : Int) ∧ i + kq = l1.length ∧ o.size ≤ 10 + 10 * i ∧ Aside0 (Rt w0 w wr v v w.heap.size L (kn : Int) (.slice A1 l1.length c1) (.slice A2 l2.length c2) (.slice A3 l3.length c3)) ∧ Aside0 (bI o (l1.drop i) = bI (Cur.put ((kn : Int)).toNat) l1))
        case atStart => exact ⟨0, o6, rfl, rfl, by omega, by omega, ⟨R5.out⟩, ⟨HBW.out⟩⟩
        case round =>
          obtain ⟨i, o, rfl, rfl, hik, ho1, hSt, hBI⟩ := hrel
          obtain ⟨wo, hwo⟩ : ∃ z, z = wr := ⟨_, rfl⟩
          subst hwo
          obtain ⟨x0, x1, x2, x3⟩ := hSt.out.box.cells
          by_cases hlt : (i : Int) < (l1.length : Int)
          · have t4 : decide ((i : Int) < (l1.length : Int)) = true := decide_eq_true hlt
            obtain ⟨ko, rfl⟩ : ∃ g, gk = g + 1 := ⟨gk - 1, by omega⟩
            obtain ⟨ad, e, u1⟩ := Kd.at_int (HN.out _ hSt.out.own.1).r1 (i : Int) (by omega) hlt
            subst e
            rw [Int.toNat_natCast] at u1
            have HD := Lib.hid (num_at (l := l1) (i := i) (by omega))
            have hyr := HI1.out.drop i (rd l1 (i : Int)) (by rw [HD.out]; exact List.mem_cons_self)
            generalize rd l1 (i : Int) = y at *
            obtain ⟨z, hz⟩ := Int.eq_ofNat_of_zero_le (Cur.zg_nonneg y)
            have HZ := Lib.hid hz
            have hzl : z < 18446744073709551616 := by unfold Cur.zg at hz; split at hz <;> omega
            go_wp2_with (fail)
            refine (Cur.refzig_calls y hyr.1 hyr.2 _).mono ?_
            rw [hz]
            rintro e w7 ⟨rfl, hd7⟩
            have S7 := Lib.hid (hSt.out.below hd7.below)
            clear hd7 u1 hz x0 x1 x2 x3
            have hpz := Cur.put_size_le (n := z) hzl
            have hsa : (o ++ Cur.put z).size = o.size + (Cur.put z).size := ByteArray.size_append
            have hsb1 : decide (o.size + (Cur.put z).size ≤ 9223372036854775807) = true := decide_eq_true (by omega)
            have hsb2 : (9223372036854775807 < o.size + (Cur.put z).size) = False := eq_false (by omega)
            go_wp2_with (fail)
            refine (Cur.refput_calls z hzl _).mono ?_
            rintro e w8 ⟨rfl, hb8⟩
            have S8 := Lib.hid (S7.out.below hb8)
            clear hb8
            have HB9 := Lib.hid (show bI (o ++ Cur.put z) (l1.drop (i + 1)) = bI (Cur.put ((kn : Int)).toNat) l1 by rw [← hBI.out, HD.out, bI, HZ.out]; rfl)
            go_wp2_with (fail)
            go_roundg ko
            case measure => omega
            case rel => exact ⟨i + 1, o ++ Cur.put z, rfl, rfl, by omega, by omega, ⟨S8.out⟩, ⟨HB9.out⟩⟩
          · have t4 : decide ((i : Int) < (l1.length : Int)) = false := decide_eq_false hlt
            have HOI := Lib.hid (show o = bI (Cur.put ((kn : Int)).toNat) l1 by rw [← hBI.out, List.drop_of_length_le (by omega)]; rfl)
            clear hBI
            go_wp2_with (fail)
            clear x0 x1 x2 x3
            go_loopg [2, 13, 15, 16] l2.length (fun kq v2 v13 v15 v16 wr => ∃ (vx : Value) (i : Nat) (L' : List ByteArray) (o : ByteArray) (x : Value), vx = v2 ∧ v13 = .string o ∧ v15 = .int .i64 (i : Int) ∧ v16 = x ∧ i + kq = l2.length ∧ o.size ≤ 20000 + 10 * i ∧ L'.length ≤ L.length + i ∧ Aside0 (Rt w0 w wr v vx w.heap.size L' (kn : Int) (.slice A1 l1.length c1) (.slice A2 l2.length c2) (.slice A3 l3.length c3)) ∧ Aside0 (bT o L' (l2.drop i) = bT (bI (Cur.put ((kn : Int)).toNat) l1) L l2))
            case atStart => exact ⟨v, 0, L, o, _, rfl, rfl, rfl, rfl, by omega, by omega, by omega, ⟨hSt.out⟩, ⟨by rw [HOI.out]; rfl⟩⟩
            case round =>
              clear hSt HOI ho1 hik hlt
              obtain ⟨vx, i, L', o, x, rfl, rfl, rfl, rfl, hik, ho1, hL1, hSt, hBT⟩ := hrel
              obtain ⟨wo, hwo⟩ : ∃ z, z = wr := ⟨_, rfl⟩
              subst hwo
              obtain ⟨x0, x1, x2, x3⟩ := hSt.out.box.cells
              by_cases hlt : (i : Int) < (l2.length : Int)
              · have t4 : decide ((i : Int) < (l2.length : Int)) = true := decide_eq_true hlt
                obtain ⟨ko, rfl⟩ : ∃ g, gk = g + 1 := ⟨gk - 1, by omega⟩
                obtain ⟨ad, e, u1⟩ := Kd.at_string (HN.out _ hSt.out.own.1).r2 (i : Int) (by omega) hlt
                subst e
                rw [Int.toNat_natCast] at u1
                have HD := Lib.hid (txt_at (l := l2) (i := i) (by omega))
                generalize rdOf ByteArray.empty l2 (i : Int) = y at *
                have hil := (intern_len L' y).1
                have hix := intern_lt L' y
                go_wp2_with (fail)
                refine (hSt.out.intern y (by omega)).mono ?_
                have HX : Hid ((bT (o ++ Cur.put (intern L' y).2) (intern L' y).1 (l2.drop (i + 1))) = bT (bI (Cur.put ((kn : Int)).toNat) l1) L l2) := Lib.hid (by rw [← hBT.out, HD.out]; rfl)
                generalize (intern L' y).1 = L2 at *
                generalize (intern L' y).2 = z at *
                rintro e w7 ⟨v7, rfl, h7⟩
                have S7 := Lib.hid h7
                clear h7 u1 x0 x1 x2 x3
                have hwz : IntKind.u64.wrap (z : Int) = (z : Int) := by rw [VM.u64_wrap]; omega
                have hpz := Cur.put_size_le (n := z) (by omega)
                have hsa : (o ++ Cur.put z).size = o.size + (Cur.put z).size := ByteArray.size_append
                have hsb1 : decide (o.size + (Cur.put z).size ≤ 9223372036854775807) = true := decide_eq_true (by omega)
                have hsb2 : (9223372036854775807 < o.size + (Cur.put z).size) = False := eq_false (by omega)
                go_wp2_with (fail)
                try rw [hwz]
                refine (Cur.refput_calls z (by omega) _).mono ?_
                rintro e w8 ⟨rfl, hb8⟩
                have S8 := Lib.hid (S7.out.below hb8)
                clear hb8
                go_wp2_with (fail)
                go_roundg ko
                case measure => omega
                case rel => exact ⟨v7, i + 1, L2, o ++ Cur.put z, _, rfl, rfl, rfl, rfl, by omega, by omega, by omega, ⟨S8.out⟩, ⟨HX.out⟩⟩
              · have t4 : decide ((i : Int) < (l2.length : Int)) = false := decide_eq_false hlt
                have HOT := Lib.hid (show (o, L') = bT (bI (Cur.put ((kn : Int)).toNat) l1) L l2 by rw [← hBT.out, List.drop_of_length_le (by omega)]; rfl)
                have hS0 := Lib.hid hSt.out
                have hwl : IntKind.u64.wrap (l3.length : Int) = (l3.length : Int) := by rw [VM.u64_wrap]; omega
                have hpz := Cur.put_size_le (n := l3.length) (by omega)
                have hsa : (o ++ Cur.put l3.length).size = o.size + (Cur.put l3.length).size := ByteArray.size_append
                have hsb1 : decide (o.size + (Cur.put l3.length).size ≤ 9223372036854775807) = true := decide_eq_true (by omega)
                have hsb2 : (9223372036854775807 < o.size + (Cur.put l3.length).size) = False := eq_false (by omega)
                clear hBT hSt
                go_wp2_with (fail)
                try rw [hwl]
                refine (Cur.refput_calls l3.length (by omega) _).mono ?_
                rintro e w7 ⟨rfl, hb7⟩
                have S7 := Lib.hid (hS0.out.below hb7)
                clear hb7 hS0 x0 x1 x2 x3
                have HOK := Lib.hid (show putO (kn : Int) l1 l2 l3 at' L = (bK at' (o ++ Cur.put l3.length) l3, L') by unfold putO; rw [← HOT.out])
                go_wp2_with (fail)
                generalize o ++ Cur.put l3.length = o8 at *
                go_loopg [13, 17] l3.length (fun kq v13 v17 wr => ∃ (i : Nat) (o : ByteArray), v13 = .string o ∧ v17 = .int .i64 (i : Int) ∧ i + kq = l3.length ∧ o.size ≤ 40000 + 10 * i ∧ Aside0 (Rt w0 w wr v vx w.heap.size L' (kn : Int) (.slice A1 l1.length c1) (.slice A2 l2.length c2) (.slice A3 l3.length c3)) ∧ Aside0 (bK at' o (l3.drop i) = bK at' o8 l3))
                case atStart => exact ⟨0, o8, rfl, rfl, by omega, by omega, ⟨S7.out⟩, ⟨rfl⟩⟩
                case round =>
                  clear S7 hsa hsb1 hsb2 hpz hwl ho1 hL1 hik hlt
                  obtain ⟨i, o, rfl, rfl, hik, ho1, hSt, hBK⟩ := hrel
                  obtain ⟨wo, hwo⟩ : ∃ z, z = wr := ⟨_, rfl⟩
                  subst hwo
                  obtain ⟨x0, x1, x2, x3⟩ := hSt.out.box.cells
                  by_cases hlt : (i : Int) < (l3.length : Int)
                  · have t4 : decide ((i : Int) < (l3.length : Int)) = true := decide_eq_true hlt
                    obtain ⟨ko, rfl⟩ : ∃ g, gk = g + 1 := ⟨gk - 1, by omega⟩
                    obtain ⟨ad, e, u1⟩ := Kd.at_int (HN.out _ hSt.out.own.1).r3 (i : Int) (by omega) hlt
                    subst e
                    rw [Int.toNat_natCast] at u1
                    have HD := Lib.hid (num_at (l := l3) (i := i) (by omega))
                    have hyk : ¬ (rd l3 (i : Int) < 0 ∨ at' ≤ rd l3 (i : Int)) := by
                      have h1 := HK0.out
                      unfold kidsE at h1
                      rw [List.any_eq_false] at h1
                      have h2 := h1 (rd l3 (i : Int)) (List.mem_of_mem_drop (show _ ∈ l3.drop i by rw [HD.out]; exact List.mem_cons_self))
                      simpa using h2
                    generalize rd l3 (i : Int) = y at *
                    obtain ⟨z, hz⟩ : ∃ z : Nat, at' - y = (z : Int) := ⟨(at' - y).toNat, by omega⟩
                    have HZ := Lib.hid (show (at' - y).toNat = z by omega)
                    have hwi : IntKind.i64.wrap (at' - y) = (z : Int) := by rw [IntKind.wrap_i64]; omega
                    have hwz : IntKind.u64.wrap (z : Int) = (z : Int) := by rw [VM.u64_wrap]; omega
                    have hzl : z < 18446744073709551616 := by omega
                    have hpz := Cur.put_size_le (n := z) hzl
                    have hsa : (o ++ Cur.put z).size = o.size + (Cur.put z).size := ByteArray.size_append
                    have hsb1 : decide (o.size + (Cur.put z).size ≤ 9223372036854775807) = true := decide_eq_true (by omega)
                    have hsb2 : (9223372036854775807 < o.size + (Cur.put z).size) = False := eq_false (by omega)
                    go_wp2_with (fail)
                    try rw [hwi]
                    try rw [hwz]
                    refine (Cur.refput_calls z hzl _).mono ?_
                    rintro e w9 ⟨rfl, hb9⟩
                    have S9 := Lib.hid (hSt.out.below hb9)
                    clear hb9 u1 x0 x1 x2 x3
                    have HB10 := Lib.hid (show bK at' (o ++ Cur.put z) (l3.drop (i + 1)) = bK at' o8 l3 by rw [← hBK.out, HD.out, bK, HZ.out])
                    go_wp2_with (fail)
                    go_roundg ko
                    case measure => omega
                    case rel => exact ⟨i + 1, o ++ Cur.put z, rfl, rfl, by omega, by omega, ⟨S9.out⟩, ⟨HB10.out⟩⟩
                  · have t4 : decide ((i : Int) < (l3.length : Int)) = false := decide_eq_false hlt
                    have HOE := Lib.hid (show putO (kn : Int) l1 l2 l3 at' L = (o, L') by rw [HOK.out, ← hBK.out, List.drop_of_length_le (by omega)]; rfl)
                    have HS9 := Lib.hid hSt.out
                    clear hBK hSt
                    go_wp2_with (fail)
                    go_ret3
                    have hR : putR (kn : Int) l1 l2 l3 at' L = (o, L', 0) := by unfold putR; rw [HP0.out, if_neg (by simp), HOE.out]
                    unfold RPutPost
                    rw [hR]
                    exact ⟨vx, rfl, HS9.out.own, HS9.out.mv, fun k hk => by rcases HS9.out.fr k hk with h | h; exact .inl h; exact .inr (Nat.le_of_lt h)⟩
end
end Go.Proofs.YtoigkneoaemcfaaDoor.Rec
