/- Numbers and texts that are put one behind the other are read so: for every input. -/
import Derived.Test.YtcgbfpoekappeaaCurL
import Derived.Test.YtcgbfpoekappeaaCurP
namespace Go.Proofs.Ytcgbfpoekappeaa.Cur
open Go.RowKit Go.Proofs.YtcgbfpoekappeaaW.PrintWords Go.Proofs.YtcgbfpoekappeaaW.PrintLast Go.Proofs.YtcgbfpoekappeaaW.PrintMore Go.Proofs.Ytcgbfpoekappeaa.VM Go.Proofs.Ytcgbfpoekappeaa.B
set_option linter.unusedVariables false
set_option linter.unusedSimpArgs false
theorem uint_of {c : Cur} {v nx : Nat} {most : Int} (he : c.e = 0) (hg : gt c.b c.at' = ((v : Int), (nx : Int), 0)) (h1 : (v : Int) ≤ most) (h2 : v ≤ 16777216) : c.uint most = ((v : Int), { c with at' := nx }) := by
  unfold Cur.uint
  rw [hg, if_neg (by simpa using he), if_neg (by simp), if_neg (by simp only; omega)]
  simp
theorem int_of {c : Cur} {v nx : Nat} (he : c.e = 0) (hg : gt c.b c.at' = ((v : Int), (nx : Int), 0)) : c.int = (zag v, { c with at' := nx }) := by
  unfold Cur.int
  rw [hg, if_neg (by simpa using he), if_neg (by simp)]
  simp
theorem bytes_of {c : Cur} {n : Nat} (he : c.e = 0) (h : c.at' + n ≤ c.b.size) : c.bytes n = (c.b.extract c.at' (c.at' + n), { c with at' := c.at' + n }) := by
  unfold Cur.bytes Cur.left
  rw [if_neg (by simpa using he), if_neg (by omega), if_neg (by omega), Int.toNat_natCast]
theorem text_of {c : Cur} {v nx : Nat} {most : Int} (he : c.e = 0) (hg : gt c.b c.at' = ((v : Int), (nx : Int), 0)) (h0 : 0 ≤ most) (h1 : (v : Int) ≤ most) (h2 : v ≤ 16777216) (h3 : nx + v ≤ c.b.size) :
    c.text most = (c.b.extract nx (nx + v), { c with at' := nx + v }) := by
  unfold Cur.text
  rw [if_neg (by simpa using he), if_neg (by omega), uint_of he hg h1 h2]
  simp only
  rw [bytes_of (c := { c with at' := nx }) he h3]
  unfold Cur.textOf
  rw [if_neg (by simpa using he)]
theorem parts_pure (n : Nat) (m : Int) (s : ByteArray) (hn : n ≤ 16777216) (m0 : -9223372036854775808 ≤ m) (m1 : m ≤ 9223372036854775807) (hs : s.size ≤ 500) :
    ∃ c1 c2 c3 : Cur, (new (put n ++ put (zg m).toNat ++ put s.size ++ s)).uint n = ((n : Int), c1) ∧ c1.int = (m, c2) ∧ c2.text s.size = (s, c3) ∧ c3.left = 0 ∧ c3.e = 0 := by
  have hz : zg m < 18446744073709551616 := by unfold zg; split <;> omega
  have hz0 := zg_nonneg m
  have z1 : (zg m).toNat < 18446744073709551616 := by omega
  have hb : bl (put n ++ put (zg m).toNat ++ put s.size ++ s) = enc n ++ (enc (zg m).toNat ++ (enc s.size ++ bl s)) := by
    rw [append_bl, append_bl, append_bl, bl_put, bl_put, bl_put, List.append_assoc, List.append_assoc]
  have hsz : (put n ++ put (zg m).toNat ++ put s.size ++ s).size = (enc n).length + (enc (zg m).toNat).length + (enc s.size).length + s.size := by
    rw [append_size, append_size, append_size, put_size, put_size, put_size]
  generalize hB : put n ++ put (zg m).toNat ++ put s.size ++ s = B at *
  have g1 := gt_put B 0 n [] _ (by omega) hb rfl
  have g2 := gt_put B (0 + (enc n).length) (zg m).toNat (enc n) _ z1 hb (by omega)
  have g3 := gt_put B (0 + (enc n).length + (enc (zg m).toNat).length) s.size (enc n ++ enc (zg m).toNat) (bl s) (by omega) (by rw [hb, List.append_assoc]) (by simp)
  have u1 := uint_of (c := new B) (most := n) rfl g1 (by omega) hn
  have u2 := int_of (c := ⟨B, 0 + (enc n).length, 0⟩) rfl g2
  have u3 := text_of (c := ⟨B, 0 + (enc n).length + (enc (zg m).toNat).length, 0⟩) (most := s.size) rfl g3 (by omega) (by omega) (by omega) (by simp only; omega)
  refine ⟨⟨B, 0 + (enc n).length, 0⟩, ⟨B, 0 + (enc n).length + (enc (zg m).toNat).length, 0⟩, ⟨B, 0 + (enc n).length + (enc (zg m).toNat).length + (enc s.size).length + s.size, 0⟩, u1, ?_, ?_, ?_, rfl⟩
  · have e : ((zg m).toNat : Int) = zg m := by omega
    rw [e, zag_zg] at u2
    exact u2
  · refine u3.trans ?_
    congr 1
    apply bl_inj
    rw [extract_bl, hb]
    have e : (enc n ++ (enc (zg m).toNat ++ (enc s.size ++ bl s))) = (enc n ++ enc (zg m).toNat ++ enc s.size) ++ bl s := by simp [List.append_assoc]
    rw [e, List.take_of_length_le (by simp [bl_length]; omega), List.drop_left' (by simp; omega)]
  · unfold Cur.left
    simp only
    omega

theorem parts_long (n : Int) (m : Int) (s : ByteArray) (w : World) (h : (500 < s.size) ∨ (s.size ≤ 500 ∧ 16777216 < n)) :
    Calls Try.prog 12 #[.int .u64 n, .int .i64 m, .string s] w fun e w' => e = .returned (.bool true) ∧ Below w.heap.size w w' := by
  rcases h with h | ⟨h1, h2⟩
  · have d1 : decide ((s.size : Int) > 500) = true := decide_eq_true (by omega)
    have d2 : decide (500 < s.size) = true := decide_eq_true h
    go_enter Try.func12, Try.ntmps12
    go_wp2_with (fail)
    refine (awake_calls _).mono ?_
    rintro e w1 ⟨rfl, b1⟩
    go_wp2_with (fail)
    refine (awake_calls _).mono ?_
    rintro e w2 ⟨rfl, b2⟩
    go_wp2_with (fail)
    go_ret
    exact ⟨rfl, below_step b1 b2⟩
  · have d1 : decide ((s.size : Int) > 500) = false := decide_eq_false (by omega)
    have d2 : decide (500 < s.size) = false := decide_eq_false (by omega)
    have d3 : decide (16777216 < n) = true := decide_eq_true h2
    go_enter Try.func12, Try.ntmps12
    go_wp2_with (fail)
    refine (awake_calls _).mono ?_
    rintro e w1 ⟨rfl, b1⟩
    go_wp2_with (fail)
    refine (awake_calls _).mono ?_
    rintro e w2 ⟨rfl, b2⟩
    go_wp2_with (fail)
    go_ret
    exact ⟨rfl, below_step b1 b2⟩
theorem parts_walk (n : Nat) (m : Int) (zn : Nat) (s b : ByteArray) (c1 c2 c3 : Cur) (w : World) (hn : n ≤ 16777216) (m0 : -9223372036854775808 ≤ m) (m1 : m ≤ 9223372036854775807) (hs : s.size ≤ 500)
    (hz : zg m = (zn : Int)) (hzn : zn < 18446744073709551616) (hb : put n ++ put zn ++ put s.size ++ s = b) (hbs : b.size ≤ 1000)
    (hu : (new b).uint n = ((n : Int), c1)) (ok1 : c1.ok) (hi : c1.int = (m, c2)) (ok2 : c2.ok) (ht : c2.text s.size = (s, c3)) (ok3 : c3.ok) (hl : c3.left = 0) (he : c3.e = 0) :
    Calls Try.prog 12 #[.int .u64 n, .int .i64 m, .string s] w fun e w' => e = .returned (.bool true) ∧ Below w.heap.size w w' := by
  have d2 : decide (500 < s.size) = false := decide_eq_false (by omega)
  have d3 : decide (16777216 < (n : Int)) = false := decide_eq_false (by omega)
  have HZ := Lib.hid hz
  have HB := Lib.hid hb
  have HU := Lib.hid hu
  have HI := Lib.hid hi
  have HT := Lib.hid ht
  have HL := Lib.hid hl
  have HE := Lib.hid he
  have p1 := put_size_le (n := n) (by omega)
  have p2 := put_size_le (n := zn) hzn
  have p3 := put_size_le (n := s.size) (by omega)
  have a1 : (put n).size + (put zn).size ≤ 9223372036854775807 := by omega
  have a2 : (put n ++ put zn).size + (put s.size).size ≤ 9223372036854775807 := by rw [append_size]; omega
  have a3 : (put n ++ put zn ++ put s.size).size + s.size ≤ 9223372036854775807 := by rw [append_size, append_size]; omega
  clear hz hb hu hi ht hl he p1 p2 p3
  go_enter Try.func12, Try.ntmps12
  go_wp2_with (fail)
  refine (awake_calls _).mono ?_
  rintro e w1 ⟨rfl, b1⟩
  go_wp2_with (fail)
  refine (refput_calls n (by omega) _).mono ?_
  rintro e w2 ⟨rfl, b2⟩
  have b2 := below_step b1 b2
  clear b1
  go_wp2_with (fail)
  refine (refzig_calls m m0 m1 _).mono ?_
  rw [HZ.out]
  rintro e w3 ⟨rfl, ⟨n3, rfl⟩⟩
  have b3 := pw_below_drewN b2 n3
  clear b2
  go_wp2_with (fail)
  refine (refput_calls zn hzn _).mono ?_
  rintro e w4 ⟨rfl, b4⟩
  have b4 := below_step b3 b4
  clear b3
  go_wp2_with (fail)
  refine (refput_calls s.size (by omega) _).mono ?_
  rintro e w5 ⟨rfl, b5⟩
  have b5 := below_step b4 b5
  clear b4
  go_wp2_with (fail)
  rw [HB.out]
  refine (new_any _ _).mono ?_
  rintro e w6 ⟨g, rfl, hg, h6, b6⟩
  have m6 : Mv nil w w6 := Mv.of_below (below_step b5 b6)
  have hg := Nat.le_trans b5.size hg
  clear b5 b6
  go_wp2_with (fail)
  refine (uint_calls g _ _ _ h6 (new_ok (by omega)) (by omega)).mono ?_
  rw [HU.out]
  rintro e w7 ⟨rfl, h7, b7⟩
  have m7 : Mv nil w w7 := m6.trans b7 (one_new hg)
  clear m6 b7 h6
  go_wp2_with (fail)
  refine (int_calls g _ _ h7 ok1).mono ?_
  rw [HI.out]
  rintro e w8 ⟨rfl, h8, b8⟩
  have m8 : Mv nil w w8 := m7.trans b8 (one_new hg)
  clear m7 b8 h7
  go_wp2_with (fail)
  refine (text_calls g _ _ _ h8 ok2 (by omega) (by omega)).mono ?_
  rw [HT.out]
  rintro e w9 ⟨rfl, h9, b9⟩
  have m9 : Mv nil w w9 := m8.trans b9 (one_new hg)
  clear m8 b9 h8
  go_wp2_with (fail)
  refine (left_calls g _ _ h9 ok3).mono ?_
  rw [HL.out]
  rintro e w10 ⟨rfl, ⟨n10, rfl⟩⟩
  go_wp2_with (fail)
  refine (err_calls g _ _ (h9.drewN _)).mono ?_
  rw [HE.out]
  rintro e w11 ⟨rfl, rfl⟩
  go_wp2_with (fail)
  go_ret
  exact ⟨rfl, (m9.drewN _).below (fun _ h => h.elim)⟩
theorem parts (n m : Int) (s : ByteArray) (w : World) (n0 : 0 ≤ n) (m0 : -9223372036854775808 ≤ m) (m1 : m ≤ 9223372036854775807) :
    Calls Try.prog 12 #[.int .u64 n, .int .i64 m, .string s] w fun e w' => e = .returned (.bool true) ∧ Below w.heap.size w w' := by
  obtain ⟨n, rfl⟩ := Int.eq_ofNat_of_zero_le n0
  by_cases hs : s.size ≤ 500
  · by_cases hn : n ≤ 16777216
    · have hz : zg m < 18446744073709551616 := by unfold zg; split <;> omega
      have hz0 := zg_nonneg m
      obtain ⟨c1, c2, c3, u1, u2, u3, hl, he⟩ := parts_pure n m s hn m0 m1 hs
      have hbs : (put n ++ put (zg m).toNat ++ put s.size ++ s).size ≤ 1000 := by
        have p1 := put_size_le (n := n) (by omega)
        have p2 := put_size_le (n := (zg m).toNat) (by omega)
        have p3 := put_size_le (n := s.size) (by omega)
        rw [append_size, append_size, append_size]; omega
      have ok1 : c1.ok := by have := uint_ok (new_ok (b := put n ++ put (zg m).toNat ++ put s.size ++ s) (by omega)) n; rw [u1] at this; exact this
      have ok2 : c2.ok := by have := int_ok ok1; rw [u2] at this; exact this
      have ok3 : c3.ok := by have := text_ok ok2 s.size; rw [u3] at this; exact this
      exact parts_walk n m (zg m).toNat s _ c1 c2 c3 w hn m0 m1 hs (by omega) (by omega) rfl hbs u1 ok1 u2 ok2 u3 ok3 hl he
    · exact parts_long _ m s w (.inr ⟨hs, by omega⟩)
  · exact parts_long _ m s w (.inl (by omega))
end Go.Proofs.Ytcgbfpoekappeaa.Cur
