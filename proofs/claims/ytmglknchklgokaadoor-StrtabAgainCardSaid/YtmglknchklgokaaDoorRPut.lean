/- dioramaref06.Put, called (its printed walk hangs). -/
import Derived.Test.YtmglknchklgokaaDoorTPut
namespace Go.Proofs.YtmglknchklgokaaDoor.Tab
open Go.RowKit Go.Lib Go.Proofs.YtmglknchklgokaaDoorW.PrintWords Go.Proofs.YtmglknchklgokaaDoorW.PrintLast Go.Proofs.YtmglknchklgokaaDoorW.PrintMore Go.Proofs.YtmglknchklgokaaDoor.B Go.Proofs.YtmglknchklgokaaDoor.Bd
set_option linter.unusedVariables false
set_option linter.unusedSimpArgs false
theorem rdOf_getD (l : List ByteArray) (i : Int) : rdOf ByteArray.empty l i = l.getD i.toNat ⟨#[]⟩ := rfl
set_option maxHeartbeats 4000000 in
set_option maxRecDepth 100000 in
theorem rput_calls (A0 : Option Addr) (c0 : Nat) (l : List ByteArray) (w : World) (hr0 : Kd.C Kd.string w A0 l.length l) (hc0 : l.length ≤ c0) (hl : l.length ≤ 1000000) (ht : total l ≤ 1000000000) :
    Calls Tryd.prog 38 #[.slice A0 l.length c0] w fun e w' => e = .returned (.string (tabB l)) ∧ Below w.heap.size w w' := by
  have HR := Lib.hid hr0
  clear hr0
  go_enter Tryd.func38, Tryd.ntmps38
  go_wp2_with (fail)
  refine (Cur.refput_calls l.length (by omega) _).mono ?_
  rintro e w1 ⟨rfl, hb1⟩
  go_wp2_with (fail)
  go_loopg [3, 4] l.length (fun kq v3 v4 wr => ∃ i : Int, v3 = .string (tabN l i.toNat) ∧ v4 = .int .i64 i ∧ 0 ≤ i ∧ i + kq = l.length ∧ Aside0 (Below w.heap.size w wr))
  case atStart => exact ⟨0, rfl, rfl, by omega, by omega, ⟨hb1⟩⟩
  case round =>
    obtain ⟨i, rfl, rfl, hi0, hik, hW⟩ := hrel
    obtain ⟨wo, hwo⟩ : ∃ z, z = wr := ⟨_, rfl⟩
    subst hwo
    by_cases hlt : i < (l.length : Int)
    · have t4 : decide (i < (l.length : Int)) = true := decide_eq_true hlt
      obtain ⟨ko, rfl⟩ : ∃ g, gk = g + 1 := ⟨gk - 1, by omega⟩
      obtain ⟨ad, e, c1⟩ := Kd.at_string (Kd.C_below HR.out hW.out) i hi0 hlt
      subst e
      have hsz := size_le_total l i.toNat
      have hsucc := Lib.hid (tabN_succ l (i := i.toNat) (by omega))
      have hnn := tabN_size l i.toNat hl ht
      rw [rdOf_getD] at c1
      generalize l.getD i.toNat ⟨#[]⟩ = y at *
      have hps := Cur.put_size_le (n := y.size) (by omega)
      have hsa : (Cur.put y.size ++ y).size = (Cur.put y.size).size + y.size := ByteArray.size_append
      have hsb1 : decide ((Cur.put y.size).size + y.size ≤ 9223372036854775807) = true := decide_eq_true (by omega)
      have hsb2 : (9223372036854775807 < (Cur.put y.size).size + y.size) = False := eq_false (by omega)
      have hsc1 : decide ((tabN l i.toNat).size + (Cur.put y.size ++ y).size ≤ 9223372036854775807) = true := decide_eq_true (by omega)
      have hsc2 : (9223372036854775807 < (tabN l i.toNat).size + (Cur.put y.size ++ y).size) = False := eq_false (by omega)
      have hsc3 : (9223372036854775807 < (tabN l i.toNat).size + ((Cur.put y.size).size + y.size)) = False := eq_false (by omega)
      have HPc : ∀ wz : World, Calls Tryd.prog 55 #[.int .u64 (IntKind.u64.wrap (y.size : Int))] wz fun e w' => e = .returned (.string (Cur.put y.size)) ∧ Below wz.heap.size wz w' := fun wz => by
        rw [show IntKind.u64.wrap (y.size : Int) = (y.size : Int) by rw [VM.u64_wrap]; omega]
        exact Cur.refput_calls y.size (by omega) wz
      go_wp2_with (fail)
      refine start_ (n := 15) (S := fun w' => w'.cell? (ad.add i.toNat) = some (.string y)) (ds := []) #[false, false, false, false, false, false, false, false, false, false, false, false, false, false, false] (by kernel_rfl) rfl rfl (c1) (fun hHeld => ?_)
      refine pure_ (i := 0) (N := some 15) (v := ?_) (a' := ?_) #[true, false, false, false, false, false, false, false, false, false, false, false, false, false, false] rfl rfl (by kernel_rfl) (fun _ _ _ h => h) (Or.inl ⟨by rfl, ?_⟩) ?_ ?_
      rotate_left
      · intro w'
        go_simp
        with_reducible rfl
      rotate_left
      · simp only [Act.put, List.setIfInBounds_toArray, List.set_cons_zero, List.set_cons_succ, i64_w, i32_w]
        rfl
      refine pure_ (i := 1) (N := some 16) (v := ?_) (a' := ?_) #[true, true, false, false, false, false, false, false, false, false, false, false, false, false, false] rfl rfl (by kernel_rfl) (fun _ _ _ h => h) (Or.inl ⟨by rfl, ?_⟩) ?_ ?_
      rotate_left
      · intro w'
        go_simp
        with_reducible rfl
      rotate_left
      · simp only [Act.put, List.setIfInBounds_toArray, List.set_cons_zero, List.set_cons_succ, i64_w, i32_w]
        rfl
      refine pure_ (i := 2) (N := some 17) (v := ?_) (a' := ?_) #[true, true, true, false, false, false, false, false, false, false, false, false, false, false, false] rfl rfl (by kernel_rfl) (fun _ _ _ h => h) (Or.inl ⟨by rfl, ?_⟩) ?_ ?_
      rotate_left
      · intro w'
        go_simp
        with_reducible rfl
      rotate_left
      · simp only [Act.put, List.setIfInBounds_toArray, List.set_cons_zero, List.set_cons_succ, i64_w, i32_w]
        rfl
      refine pure_ (i := 3) (N := some 18) (v := ?_) (a' := ?_) #[true, true, true, true, false, false, false, false, false, false, false, false, false, false, false] rfl rfl (by kernel_rfl) (fun _ _ _ h => h) (Or.inl ⟨by rfl, ?_⟩) ?_ ?_
      rotate_left
      · intro w'
        go_simp
        with_reducible rfl
      rotate_left
      · simp only [Act.put, List.setIfInBounds_toArray, List.set_cons_zero, List.set_cons_succ, i64_w, i32_w]
        rfl
      refine pure_ (i := 8) (N := some 23) (v := ?_) (a' := ?_) #[true, true, true, true, false, false, false, false, true, false, false, false, false, false, false] rfl rfl (by kernel_rfl) (fun _ _ _ h => h) (Or.inl ⟨by rfl, ?_⟩) ?_ ?_
      rotate_left
      · intro w'
        go_simp
        with_reducible rfl
      rotate_left
      · simp only [Act.put, List.setIfInBounds_toArray, List.set_cons_zero, List.set_cons_succ, i64_w, i32_w]
        rfl
      refine pure_ (i := 9) (N := some 24) (v := ?_) (a' := ?_) #[true, true, true, true, false, false, false, false, true, true, false, false, false, false, false] rfl rfl (by kernel_rfl) (fun _ _ _ h => h) (Or.inl ⟨by rfl, ?_⟩) ?_ ?_
      rotate_left
      · intro w'
        go_simp
        with_reducible rfl
      rotate_left
      · simp only [Act.put, List.setIfInBounds_toArray, List.set_cons_zero, List.set_cons_succ, i64_w, i32_w]
        rfl
      refine pure_ (i := 10) (N := some 25) (v := ?_) (a' := ?_) #[true, true, true, true, false, false, false, false, true, true, true, false, false, false, false] rfl rfl (by kernel_rfl) (fun _ _ _ h => h) (Or.inl ⟨by rfl, ?_⟩) ?_ ?_
      rotate_left
      · intro w'
        go_simp
        with_reducible rfl
      rotate_left
      · simp only [Act.put, List.setIfInBounds_toArray, List.set_cons_zero, List.set_cons_succ, i64_w, i32_w]
        rfl
      refine take_ (i := 4) (N := some 19) (v := ?_) (a' := ?_) #[true, true, true, true, true, false, false, false, true, true, true, false, false, false, false] rfl rfl (by kernel_rfl) (fun _ _ _ h => h) (Or.inl ⟨by rfl, ?_⟩) hHeld ?_ ?_
      rotate_left
      · intro w' s0
        go_simp
        with_reducible rfl
      rotate_left
      · simp only [Act.put, List.setIfInBounds_toArray, List.set_cons_zero, List.set_cons_succ, i64_w, i32_w]
        rfl
      refine pure_ (i := 5) (N := some 20) (v := ?_) (a' := ?_) #[true, true, true, true, true, true, false, false, true, true, true, false, false, false, false] rfl rfl (by kernel_rfl) (fun _ _ _ h => h) (Or.inl ⟨by rfl, ?_⟩) ?_ ?_
      rotate_left
      · intro w'
        go_simp
        with_reducible rfl
      rotate_left
      · simp only [Act.put, List.setIfInBounds_toArray, List.set_cons_zero, List.set_cons_succ, i64_w, i32_w]
        rfl
      refine pure_ (i := 6) (N := some 21) (v := ?_) (a' := ?_) #[true, true, true, true, true, true, true, false, true, true, true, false, false, false, false] rfl rfl (by kernel_rfl) (fun _ _ _ h => h) (Or.inl ⟨by rfl, ?_⟩) ?_ ?_
      rotate_left
      · intro w'
        go_simp
        with_reducible rfl
      rotate_left
      · simp only [Act.put, List.setIfInBounds_toArray, List.set_cons_zero, List.set_cons_succ, i64_w, i32_w]
        rfl
      refine take_ (i := 11) (N := some 26) (v := ?_) (a' := ?_) #[true, true, true, true, true, true, true, false, true, true, true, true, false, false, false] rfl rfl (by kernel_rfl) (fun _ _ _ h => h) (Or.inl ⟨by rfl, ?_⟩) hHeld ?_ ?_
      rotate_left
      · intro w' s0
        go_simp
        with_reducible rfl
      rotate_left
      · simp only [Act.put, List.setIfInBounds_toArray, List.set_cons_zero, List.set_cons_succ, i64_w, i32_w]
        rfl
      refine one_ (i := 7) (N := some 22) #[true, true, true, true, true, true, true, true, true, true, true, true, false, false, false] rfl rfl (by kernel_rfl) (by decide) (fun K hK => ?_)
      refine goes_ Tryd.func55 (by kernel_rfl) rfl #[.int .u64 (IntKind.u64.wrap (y.size : Int))] (by rfl) rfl rfl (by (try simp only [List.map_toArray, List.map_cons, List.map_nil]); first | done | rfl) ?_
      with_reducible refine (HPc _).mono ?_
      rintro e w3 ⟨rfl, hb3⟩
      refine ⟨_, rfl, ?_⟩
      have c3 := (hb3.cell (World.block_lt_of_cell? _ _ c1)).trans c1
      refine hK.out _ _ (c3) (fun hHeld => ?_)
      clear hK K
      refine norm_ (a' := ?_) ?_ ?_
      rotate_left
      · show Act.put _ (some 22) _ = _
        simp only [Act.put, List.setIfInBounds_toArray, List.set_cons_zero, List.set_cons_succ, i64_w, i32_w]
        rfl
      refine pure_ (i := 12) (N := some 27) (v := ?_) (a' := ?_) #[true, true, true, true, true, true, true, true, true, true, true, true, true, false, false] rfl rfl (by kernel_rfl) (fun _ _ _ h => h) (Or.inl ⟨by rfl, ?_⟩) ?_ ?_
      rotate_left
      · intro w'
        go_simp
        with_reducible rfl
      rotate_left
      · simp only [Act.put, List.setIfInBounds_toArray, List.set_cons_zero, List.set_cons_succ, i64_w, i32_w]
        rfl
      refine pure_ (i := 13) (N := some 28) (v := ?_) (a' := ?_) #[true, true, true, true, true, true, true, true, true, true, true, true, true, true, false] rfl rfl (by kernel_rfl) (fun _ _ _ h => h) (Or.inl ⟨by rfl, ?_⟩) ?_ ?_
      rotate_left
      · intro w'
        go_simp
        with_reducible rfl
      rotate_left
      · simp only [Act.put, List.setIfInBounds_toArray, List.set_cons_zero, List.set_cons_succ, i64_w, i32_w]
        rfl
      refine pure_ (i := 14) (N := some 3) (v := ?_) (a' := ?_) #[true, true, true, true, true, true, true, true, true, true, true, true, true, true, true] rfl rfl (by kernel_rfl) (fun _ _ _ h => h) (Or.inl ⟨by rfl, ?_⟩) ?_ ?_
      rotate_left
      · intro w'
        go_simp
        with_reducible rfl
      rotate_left
      · simp only [Act.put, List.setIfInBounds_toArray, List.set_cons_zero, List.set_cons_succ, i64_w, i32_w]
        rfl
      refine done_ (by kernel_rfl) ?_
      have hW3 := below_step (show Below w.heap.size w _ from by repeat (first | exact hW.out | apply below_alloc | apply pw_below_drewN | apply below_drew1)) hb3
      go_wp2_with (fail)
      go_roundg ko
      case measure => omega
      case rel => exact ⟨i + 1, by rw [show (i + 1).toNat = i.toNat + 1 by omega, hsucc.out], rfl, by omega, by omega, ⟨by repeat (first | exact hW3 | apply below_alloc | apply pw_below_drewN | apply below_drew1)⟩⟩
    · have t4 : decide (i < (l.length : Int)) = false := decide_eq_false hlt
      have he : tabN l i.toNat = tabB l := by rw [show i.toNat = l.length by omega]; exact tabN_all l
      go_wp2_with (fail)
      go_ret
      exact ⟨rfl, hW.out⟩
end Go.Proofs.YtmglknchklgokaaDoor.Tab
