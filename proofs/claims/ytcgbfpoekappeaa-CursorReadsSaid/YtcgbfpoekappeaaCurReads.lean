/- In every order of calls any bytes are read as the document says, up to the first error, which is the one that it says: for every input. -/
import Derived.Test.YtcgbfpoekappeaaCurAct
import Derived.LoopTactic
namespace Go.Proofs.Ytcgbfpoekappeaa.Cur
open Go.RowKit Go.Proofs.YtcgbfpoekappeaaW.PrintWords Go.Proofs.YtcgbfpoekappeaaW.PrintLast Go.Proofs.YtcgbfpoekappeaaW.PrintMore Go.Proofs.Ytcgbfpoekappeaa.VM Go.Proofs.Ytcgbfpoekappeaa.B
set_option linter.unusedVariables false
set_option linter.unusedSimpArgs false
theorem reads_long (b : ByteArray) (A : Option Addr) (l : List (Int × Int)) (cap : Nat) (w : World) (h : (1000 < b.size) ∨ (b.size ≤ 1000 ∧ 200 < l.length)) :
    Calls Try.prog 9 #[.string b, .slice A l.length cap] w fun e w' => e = .returned (.bool true) ∧ Below w.heap.size w w' := by
  rcases h with h | ⟨h1, h2⟩
  · have d2 : decide (1000 < b.size) = true := decide_eq_true h
    go_enter Try.func9, Try.ntmps9
    go_wp2_with (fail)
    refine (awake_calls _).mono ?_
    rintro e w1 ⟨rfl, b1⟩
    go_wp2_with (fail)
    refine (awake_calls _).mono ?_
    rintro e w2 ⟨rfl, b2⟩
    go_wp2_with (fail)
    go_ret
    exact ⟨rfl, below_step b1 b2⟩
  · have d2 : decide (1000 < b.size) = false := decide_eq_false (by omega)
    have d3 : decide (200 < l.length) = true := decide_eq_true h2
    go_enter Try.func9, Try.ntmps9
    go_wp2_with (fail)
    refine (awake_calls _).mono ?_
    rintro e w1 ⟨rfl, b1⟩
    go_wp2_with (fail)
    refine (awake_calls _).mono ?_
    rintro e w2 ⟨rfl, b2⟩
    go_wp2_with (fail)
    go_ret
    exact ⟨rfl, below_step b1 b2⟩
theorem bytes1_size {c : Cur} (ok : c.ok) : (c.bytes 1).1.size = 0 ∨ (c.bytes 1).1.size = 1 := by
  unfold Cur.bytes Cur.left
  repeat' split
  · exact .inl rfl
  · exact .inl rfl
  · exact .inl rfl
  · right
    rw [ByteArray.size_extract]
    have := ok.1
    omega
theorem left_calls2 (g : Nat) (b : ByteArray) (a : Nat) (er : Int) (w : World) (h : IsC w g ⟨b, a, er⟩) (ok : Cur.ok ⟨b, a, er⟩) :
    Calls Try.prog 38 #[.pointer (some ⟨g, 0, none⟩)] w fun en w' => en = .returned (.int .i64 ((b.size : Int) - (a : Int))) ∧ Drawn0 w w' := left_calls g ⟨b, a, er⟩ w h ok
theorem mne {g h : Nat} (e : g ≠ h) : ¬ one h g := fun k => e k

set_option maxHeartbeats 4000000 in
set_option maxRecDepth 100000 in
theorem reads_walk (b : ByteArray) (A : Option Addr) (l : List (Int × Int)) (cap : Nat) (w : World) (hA : Acts w A l) (hI : InI64 l) (hb : b.size ≤ 1000) (hl : l.length ≤ 200) :
    Calls Try.prog 9 #[.string b, .slice A l.length cap] w fun e w' => e = .returned (.bool true) ∧ Below w.heap.size w w' := by
  have d2 : decide (1000 < b.size) = false := decide_eq_false (by omega)
  have d3 : decide (200 < l.length) = false := decide_eq_false (by omega)
  have HA := Lib.hid hA
  have HI := Lib.hid hI
  clear hA hI
  go_enter Try.func9, Try.ntmps9
  go_wp2_with (fail)
  refine (awake_calls _).mono ?_
  rintro e w1 ⟨rfl, b1⟩
  go_wp2_with (fail)
  refine (new_any _ _).mono ?_
  rintro e w2 ⟨g, rfl, hg, h2, b2⟩
  have m2 : Mv nil w w2 := Mv.of_below (below_step b1 b2)
  have hg := Nat.le_trans b1.size hg
  have hgm : w.heap.size ≤ w2.heap.size := m2.size
  have hgg : g ≠ w2.heap.size := by have := h2.lt; omega
  have k3 : IsM (w2.alloc (.cells #[.string b, .int .i64 0, .int .i64 0] 44)) w2.heap.size (new b) := IsM.new w2 b 0
  have h3 := h2.below (below_alloc (Below.refl _ w2) (.cells #[.string b, .int .i64 0, .int .i64 0] 44))
  have m3 := m2.alloc (.cells #[.string b, .int .i64 0, .int .i64 0] 44)
  clear b1 b2 h2 m2
  go_wp2_with (fail)
  clear d2 d3
  generalize w2.heap.size = gm at *
  go_loopw [34] (fun i wr => ∃ (k : Nat) (c : Cur), k ≤ l.length ∧ i = .int .i64 k ∧ c.b = b ∧ IsC wr g c ∧ IsM wr gm c ∧ c.ok ∧ Mv nil w wr) (fun i _ => l.length - (intOf i).toNat)
  case atStart => exact ⟨0, new b, Nat.zero_le _, rfl, rfl, h3, k3, new_ok (by omega), m3⟩
  case round =>
    clear h3 k3 m3
    obtain ⟨k, c, hk, rfl, hcb, h2, k2, ok, m2⟩ := hrel
    by_cases hlt : k < l.length
    · obtain ⟨ab, off, x, y, rfl, hxy, c0, c1, ⟨x0, x1⟩, ⟨y0, y1⟩, hab⟩ := HA.out.at _ wr _ _ HI.out m2 k hlt
      have h2a : IsC (wr.alloc (.cells #[.int .i64 x, .int .i64 y] 46)) g c := h2.below ((Below.refl _ _).alloc (Nat.le_refl _) _)
      have k2a : IsM (wr.alloc (.cells #[.int .i64 x, .int .i64 y] 46)) gm c := k2.below ((Below.refl _ _).alloc (Nat.le_refl _) _)
      have m2a : Mv nil w (wr.alloc (.cells #[.int .i64 x, .int .i64 y] 46)) := m2.alloc _
      have qa : (wr.alloc (.cells #[.int .i64 x, .int .i64 y] 46)).heap[wr.heap.size]? = some (.cells #[.int .i64 x, .int .i64 y] 46 (0, 0)) := heap_alloc_new wr _
      have qa0 : (wr.alloc (.cells #[.int .i64 x, .int .i64 y] 46)).cell? ⟨wr.heap.size, 0, none⟩ = some (.int .i64 x) := (blk_cell qa 0).trans rfl
      have qa1 : (wr.alloc (.cells #[.int .i64 x, .int .i64 y] 46)).cell? ⟨wr.heap.size, 1, none⟩ = some (.int .i64 y) := (blk_cell qa 1).trans rfl
      have hga : ¬ one g wr.heap.size := by have := h2.lt; intro e; rw [show wr.heap.size = g from e] at this; omega
      have hgma : ¬ one gm wr.heap.size := by have := k2.lt; intro e; rw [show wr.heap.size = gm from e] at this; omega
      clear h2 k2 hxy m2
      go_upto_region 10 with (fail)
      generalize hW : wr.alloc (.cells #[.int .i64 x, .int .i64 y] 46) = W at *
      generalize hga0 : wr.heap.size = ga at *
      clear hW hga0 c0 c1
      go_upto_block 2 with (fail)
      go_cut [9] (fun v9 wx => v9 = .bool true ∧ ∃ c3 : Cur, c3.b = b ∧ IsC wx g c3 ∧ IsM wx gm c3 ∧ c3.ok ∧ Mv nil w wx)
      case first =>
        by_cases e1 : x = 1
        · have z1 : (x == 1) = true := beq_iff_eq.mpr e1
          clear e1
          go_wp2_with (fail)
          refine (mbytes_calls gm c 1 _ k2a ok (by omega)).mono ?_
          rintro e w3 ⟨rfl, k3, b4⟩
          have h2b := h2a.mv b4 (mne hgg)
          rcases bytes1_size ok with hz | hz
          · have z10 : ((c.bytes 1).1.size == 1) = false := beq_eq_false_iff_ne.mpr (by omega)
            have hby := Lib.hid (show c.byte.1 = 0 by unfold Cur.byte; rw [if_pos hz])
            have hby2 := Lib.hid (show c.byte.2 = (c.bytes 1).2 from rfl)
            clear hz
            generalize (c.bytes 1).1 = s at *
            go_wp2_with (fail)
            refine (byte_calls g c _ h2b ok).mono ?_
            rw [hby.out, hby2.out]
            rintro e w4 ⟨rfl, h3, b3⟩
            have k3 := k3.mv b3 (mne (Ne.symm hgg))
            have m3 := (m2a.trans b4 (one_new hgm)).trans b3 (one_new hg)
            have ok3 := bytes_ok ok 1
            have hb3 := (bytes_b 1).trans hcb
            clear hby hby2
            generalize hc3 : (c.bytes 1).2 = c3 at *
            clear hc3 b3 b4 z10
            go_wp2_with (fail)
            go_meet
            case rel => exact ⟨rfl, _, hb3, h3, k3, ok3, m3⟩
          · have z10 : ((c.bytes 1).1.size == 1) = true := beq_iff_eq.mpr hz
            have z11 : 0 < (c.bytes 1).1.size := by omega
            have hby := Lib.hid (show c.byte.1 = bt (c.bytes 1).1 0 by unfold Cur.byte; rw [if_neg (by omega)])
            have hby2 := Lib.hid (show c.byte.2 = (c.bytes 1).2 from rfl)
            clear hz
            generalize (c.bytes 1).1 = s at *
            go_wp2_with (fail)
            refine (byte_calls g c _ h2b ok).mono ?_
            rw [hby.out, hby2.out]
            rintro e w4 ⟨rfl, h3, b3⟩
            have k3 := k3.mv b3 (mne (Ne.symm hgg))
            have m3 := (m2a.trans b4 (one_new hgm)).trans b3 (one_new hg)
            have ok3 := bytes_ok ok 1
            have hb3 := (bytes_b 1).trans hcb
            clear hby hby2
            generalize hc3 : (c.bytes 1).2 = c3 at *
            clear hc3 b3 b4
            have hbt : ((s[0]'z11).toNat : Int) = bt s 0 := bt_at s 0 z11
            generalize hv : bt s 0 = v at *
            clear hv
            go_wp2_with (fail)
            go_meet
            case rel => exact ⟨rfl, _, hb3, h3, k3, ok3, m3⟩
        have z1 : (x == 1) = false := beq_eq_false_iff_ne.mpr e1
        clear e1
        by_cases e2 : x = 2
        · have z2 : (x == 2) = true := beq_iff_eq.mpr e2
          clear e2
          go_wp2_with (fail)
          refine start_ (n := 10) (S := fun w' => w'.cell? ⟨ga, 1, none⟩ = some (.int .i64 y)) (ds := []) #[false, false, false, false, false, false, false, false, false, false] (by kernel_rfl) rfl rfl (qa1) (fun hHeld => ?_)
          refine pure_ (i := 0) (N := some 55) (v := ?_) (a' := ?_) #[true, false, false, false, false, false, false, false, false, false] rfl rfl (by kernel_rfl) (fun _ _ _ h => h) (Or.inl ⟨by rfl, ?_⟩) ?_ ?_
          rotate_left
          · intro w'
            go_simp
            with_reducible rfl
          rotate_left
          · simp only [Act.put, List.setIfInBounds_toArray, List.set_cons_zero, List.set_cons_succ, i64_w, i32_w]
            rfl
          refine pure_ (i := 1) (N := some 56) (v := ?_) (a' := ?_) #[true, true, false, false, false, false, false, false, false, false] rfl rfl (by kernel_rfl) (fun _ _ _ h => h) (Or.inl ⟨by rfl, ?_⟩) ?_ ?_
          rotate_left
          · intro w'
            go_simp
            with_reducible rfl
          rotate_left
          · simp only [Act.put, List.setIfInBounds_toArray, List.set_cons_zero, List.set_cons_succ, i64_w, i32_w]
            rfl
          refine pure_ (i := 4) (N := some 59) (v := ?_) (a' := ?_) #[true, true, false, false, true, false, false, false, false, false] rfl rfl (by kernel_rfl) (fun _ _ _ h => h) (Or.inl ⟨by rfl, ?_⟩) ?_ ?_
          rotate_left
          · intro w'
            go_simp
            with_reducible rfl
          rotate_left
          · simp only [Act.put, List.setIfInBounds_toArray, List.set_cons_zero, List.set_cons_succ, i64_w, i32_w]
            rfl
          refine pure_ (i := 5) (N := some 60) (v := ?_) (a' := ?_) #[true, true, false, false, true, true, false, false, false, false] rfl rfl (by kernel_rfl) (fun _ _ _ h => h) (Or.inl ⟨by rfl, ?_⟩) ?_ ?_
          rotate_left
          · intro w'
            go_simp
            with_reducible rfl
          rotate_left
          · simp only [Act.put, List.setIfInBounds_toArray, List.set_cons_zero, List.set_cons_succ, i64_w, i32_w]
            rfl
          refine take_ (i := 2) (N := some 57) (v := ?_) (a' := ?_) #[true, true, true, false, true, true, false, false, false, false] rfl rfl (by kernel_rfl) (fun _ _ _ h => h) (Or.inl ⟨by rfl, ?_⟩) hHeld ?_ ?_
          rotate_left
          · intro w' s0
            go_simp
            with_reducible rfl
          rotate_left
          · simp only [Act.put, List.setIfInBounds_toArray, List.set_cons_zero, List.set_cons_succ, i64_w, i32_w]
            rfl
          refine take_ (i := 6) (N := some 61) (v := ?_) (a' := ?_) #[true, true, true, false, true, true, true, false, false, false] rfl rfl (by kernel_rfl) (fun _ _ _ h => h) (Or.inl ⟨by rfl, ?_⟩) hHeld ?_ ?_
          rotate_left
          · intro w' s0
            go_simp
            with_reducible rfl
          rotate_left
          · simp only [Act.put, List.setIfInBounds_toArray, List.set_cons_zero, List.set_cons_succ, i64_w, i32_w]
            rfl
          refine one_ (i := 3) (N := some 58) #[true, true, true, true, true, true, true, false, false, false] rfl rfl (by kernel_rfl) (by decide) (fun K hK => ?_)
          refine goes_ Try.func28 (by kernel_rfl) rfl #[.pointer (some ⟨g, 0, none⟩), .int .i64 y] (by rfl) rfl rfl (by (try simp only [List.map_toArray, List.map_cons, List.map_nil]); first | done | rfl) ?_
          with_reducible refine (bytes_calls g c y _ h2a.drew ok (by omega)).mono ?_
          rintro e w3 ⟨rfl, h3, b3⟩
          refine ⟨_, rfl, ?_⟩
          have qa3 := b3.keep qa hga
          have k2b := (k2a.drewN 1).mv b3 (mne (Ne.symm hgg))
          refine hK.out _ _ (((blk_cell qa3 1).trans rfl)) (fun hHeld => ?_)
          clear hK K
          refine norm_ (a' := ?_) ?_ ?_
          rotate_left
          · show Act.put _ (some 58) _ = _
            simp only [Act.put, List.setIfInBounds_toArray, List.set_cons_zero, List.set_cons_succ, i64_w, i32_w]
            rfl
          refine one_ (i := 7) (N := some 62) #[true, true, true, true, true, true, true, true, false, false] rfl rfl (by kernel_rfl) (by decide) (fun K hK => ?_)
          refine goes_ Try.func26 (by kernel_rfl) rfl #[.pointer (some ⟨gm, 0, none⟩), .int .i64 y] (by rfl) rfl rfl (by (try simp only [List.map_toArray, List.map_cons, List.map_nil]); first | done | rfl) ?_
          with_reducible refine (mbytes_calls gm c y _ k2b ok (by omega)).mono ?_
          rintro e w4 ⟨rfl, k3, b4⟩
          refine ⟨_, rfl, ?_⟩
          have qa4 := b4.keep qa3 hgma
          refine hK.out _ _ (((blk_cell qa4 1).trans rfl)) (fun hHeld => ?_)
          clear hK K
          refine norm_ (a' := ?_) ?_ ?_
          rotate_left
          · show Act.put _ (some 62) _ = _
            simp only [Act.put, List.setIfInBounds_toArray, List.set_cons_zero, List.set_cons_succ, i64_w, i32_w]
            rfl
          refine pure_ (i := 8) (N := some 63) (v := ?_) (a' := ?_) #[true, true, true, true, true, true, true, true, true, false] rfl rfl (by kernel_rfl) (fun _ _ _ h => h) (Or.inl ⟨by rfl, ?_⟩) ?_ ?_
          rotate_left
          · intro w'
            go_simp
            with_reducible rfl
          rotate_left
          · simp only [Act.put, List.setIfInBounds_toArray, List.set_cons_zero, List.set_cons_succ, i64_w, i32_w]
            rfl
          refine pure_ (i := 9) (N := some 9) (v := ?_) (a' := ?_) #[true, true, true, true, true, true, true, true, true, true] rfl rfl (by kernel_rfl) (fun _ _ _ h => h) (Or.inl ⟨by rfl, ?_⟩) ?_ ?_
          rotate_left
          · intro w'
            go_simp
            with_reducible rfl
          rotate_left
          · simp only [Act.put, List.setIfInBounds_toArray, List.set_cons_zero, List.set_cons_succ, i64_w, i32_w]
            rfl
          refine done_ (by kernel_rfl) ?_
          have m3 := (m2a.drew.trans b3 (one_new hg)).trans b4 (one_new hgm)
          have ok3 := bytes_ok ok y
          have hb3 := (bytes_b y).trans hcb
          have h3 := h3.mv b4 (mne hgg)
          generalize hc3 : (c.bytes y).2 = c3 at *
          clear hc3 b3 b4
          go_wp2_with (fail)
          go_meet
          case rel => exact ⟨rfl, _, hb3, h3, k3, ok3, m3⟩
        have z2 : (x == 2) = false := beq_eq_false_iff_ne.mpr e2
        clear e2
        by_cases e3 : x = 3
        · have z3 : (x == 3) = true := beq_iff_eq.mpr e3
          clear e3
          go_wp2_with (fail)
          refine start_ (n := 12) (S := fun w' => w'.cell? ⟨ga, 1, none⟩ = some (.int .i64 y)) (ds := []) #[false, false, false, false, false, false, false, false, false, false, false, false] (by kernel_rfl) rfl rfl (qa1) (fun hHeld => ?_)
          refine pure_ (i := 0) (N := some 66) (v := ?_) (a' := ?_) #[true, false, false, false, false, false, false, false, false, false, false, false] rfl rfl (by kernel_rfl) (fun _ _ _ h => h) (Or.inl ⟨by rfl, ?_⟩) ?_ ?_
          rotate_left
          · intro w'
            go_simp
            with_reducible rfl
          rotate_left
          · simp only [Act.put, List.setIfInBounds_toArray, List.set_cons_zero, List.set_cons_succ, i64_w, i32_w]
            rfl
          refine pure_ (i := 1) (N := some 67) (v := ?_) (a' := ?_) #[true, true, false, false, false, false, false, false, false, false, false, false] rfl rfl (by kernel_rfl) (fun _ _ _ h => h) (Or.inl ⟨by rfl, ?_⟩) ?_ ?_
          rotate_left
          · intro w'
            go_simp
            with_reducible rfl
          rotate_left
          · simp only [Act.put, List.setIfInBounds_toArray, List.set_cons_zero, List.set_cons_succ, i64_w, i32_w]
            rfl
          refine pure_ (i := 5) (N := some 71) (v := ?_) (a' := ?_) #[true, true, false, false, false, true, false, false, false, false, false, false] rfl rfl (by kernel_rfl) (fun _ _ _ h => h) (Or.inl ⟨by rfl, ?_⟩) ?_ ?_
          rotate_left
          · intro w'
            go_simp
            with_reducible rfl
          rotate_left
          · simp only [Act.put, List.setIfInBounds_toArray, List.set_cons_zero, List.set_cons_succ, i64_w, i32_w]
            rfl
          refine pure_ (i := 6) (N := some 72) (v := ?_) (a' := ?_) #[true, true, false, false, false, true, true, false, false, false, false, false] rfl rfl (by kernel_rfl) (fun _ _ _ h => h) (Or.inl ⟨by rfl, ?_⟩) ?_ ?_
          rotate_left
          · intro w'
            go_simp
            with_reducible rfl
          rotate_left
          · simp only [Act.put, List.setIfInBounds_toArray, List.set_cons_zero, List.set_cons_succ, i64_w, i32_w]
            rfl
          refine take_ (i := 2) (N := some 68) (v := ?_) (a' := ?_) #[true, true, true, false, false, true, true, false, false, false, false, false] rfl rfl (by kernel_rfl) (fun _ _ _ h => h) (Or.inl ⟨by rfl, ?_⟩) hHeld ?_ ?_
          rotate_left
          · intro w' s0
            go_simp
            with_reducible rfl
          rotate_left
          · simp only [Act.put, List.setIfInBounds_toArray, List.set_cons_zero, List.set_cons_succ, i64_w, i32_w]
            rfl
          refine pure_ (i := 3) (N := some 69) (v := ?_) (a' := ?_) #[true, true, true, true, false, true, true, false, false, false, false, false] rfl rfl (by kernel_rfl) (fun _ _ _ h => h) (Or.inl ⟨by rfl, ?_⟩) ?_ ?_
          rotate_left
          · intro w'
            go_simp
            with_reducible rfl
          rotate_left
          · simp only [Act.put, List.setIfInBounds_toArray, List.set_cons_zero, List.set_cons_succ, i64_w, i32_w]
            rfl
          refine take_ (i := 7) (N := some 73) (v := ?_) (a' := ?_) #[true, true, true, true, false, true, true, true, false, false, false, false] rfl rfl (by kernel_rfl) (fun _ _ _ h => h) (Or.inl ⟨by rfl, ?_⟩) hHeld ?_ ?_
          rotate_left
          · intro w' s0
            go_simp
            with_reducible rfl
          rotate_left
          · simp only [Act.put, List.setIfInBounds_toArray, List.set_cons_zero, List.set_cons_succ, i64_w, i32_w]
            rfl
          refine pure_ (i := 8) (N := some 74) (v := ?_) (a' := ?_) #[true, true, true, true, false, true, true, true, true, false, false, false] rfl rfl (by kernel_rfl) (fun _ _ _ h => h) (Or.inl ⟨by rfl, ?_⟩) ?_ ?_
          rotate_left
          · intro w'
            go_simp
            with_reducible rfl
          rotate_left
          · simp only [Act.put, List.setIfInBounds_toArray, List.set_cons_zero, List.set_cons_succ, i64_w, i32_w]
            rfl
          refine one_ (i := 4) (N := some 70) #[true, true, true, true, true, true, true, true, true, false, false, false] rfl rfl (by kernel_rfl) (by decide) (fun K hK => ?_)
          refine goes_ Try.func29 (by kernel_rfl) rfl #[.pointer (some ⟨g, 0, none⟩), .int .u64 (IntKind.u64.wrap y)] (by rfl) rfl rfl (by (try simp only [List.map_toArray, List.map_cons, List.map_nil]); first | done | rfl) ?_
          with_reducible refine (uint_calls g c (IntKind.u64.wrap y) _ h2a.drew ok (u64w _)).mono ?_
          rintro e w3 ⟨rfl, h3, b3⟩
          refine ⟨_, rfl, ?_⟩
          have qa3 := b3.keep qa hga
          have k2b := (k2a.drewN 1).mv b3 (mne (Ne.symm hgg))
          refine hK.out _ _ (((blk_cell qa3 1).trans rfl)) (fun hHeld => ?_)
          clear hK K
          refine norm_ (a' := ?_) ?_ ?_
          rotate_left
          · show Act.put _ (some 70) _ = _
            simp only [Act.put, List.setIfInBounds_toArray, List.set_cons_zero, List.set_cons_succ, i64_w, i32_w]
            rfl
          refine one_ (i := 9) (N := some 75) #[true, true, true, true, true, true, true, true, true, true, false, false] rfl rfl (by kernel_rfl) (by decide) (fun K hK => ?_)
          refine goes_ Try.func30 (by kernel_rfl) rfl #[.pointer (some ⟨gm, 0, none⟩), .int .u64 (IntKind.u64.wrap y)] (by rfl) rfl rfl (by (try simp only [List.map_toArray, List.map_cons, List.map_nil]); first | done | rfl) ?_
          with_reducible refine (muint_calls gm c (IntKind.u64.wrap y) _ k2b ok (u64w _)).mono ?_
          rintro e w4 ⟨rfl, k3, b4⟩
          refine ⟨_, rfl, ?_⟩
          have qa4 := b4.keep qa3 hgma
          refine hK.out _ _ (((blk_cell qa4 1).trans rfl)) (fun hHeld => ?_)
          clear hK K
          refine norm_ (a' := ?_) ?_ ?_
          rotate_left
          · show Act.put _ (some 75) _ = _
            simp only [Act.put, List.setIfInBounds_toArray, List.set_cons_zero, List.set_cons_succ, i64_w, i32_w]
            rfl
          refine pure_ (i := 10) (N := some 76) (v := ?_) (a' := ?_) #[true, true, true, true, true, true, true, true, true, true, true, false] rfl rfl (by kernel_rfl) (fun _ _ _ h => h) (Or.inl ⟨by rfl, ?_⟩) ?_ ?_
          rotate_left
          · intro w'
            go_simp
            with_reducible rfl
          rotate_left
          · simp only [Act.put, List.setIfInBounds_toArray, List.set_cons_zero, List.set_cons_succ, i64_w, i32_w]
            rfl
          refine pure_ (i := 11) (N := some 9) (v := ?_) (a' := ?_) #[true, true, true, true, true, true, true, true, true, true, true, true] rfl rfl (by kernel_rfl) (fun _ _ _ h => h) (Or.inl ⟨by rfl, ?_⟩) ?_ ?_
          rotate_left
          · intro w'
            go_simp
            with_reducible rfl
          rotate_left
          · simp only [Act.put, List.setIfInBounds_toArray, List.set_cons_zero, List.set_cons_succ, i64_w, i32_w]
            rfl
          refine done_ (by kernel_rfl) ?_
          have m3 := (m2a.drew.trans b3 (one_new hg)).trans b4 (one_new hgm)
          have ok3 := uint_ok ok (IntKind.u64.wrap y)
          have hb3 := (uint_b (IntKind.u64.wrap y)).trans hcb
          have h3 := h3.mv b4 (mne hgg)
          generalize hc3 : (c.uint (IntKind.u64.wrap y)).2 = c3 at *
          clear hc3 b3 b4
          go_wp2_with (fail)
          go_meet
          case rel => exact ⟨rfl, _, hb3, h3, k3, ok3, m3⟩
        have z3 : (x == 3) = false := beq_eq_false_iff_ne.mpr e3
        clear e3
        by_cases e4 : x = 4
        · have z4 : (x == 4) = true := beq_iff_eq.mpr e4
          clear e4
          go_wp2_with (fail)
          refine (int_calls g c _ h2a ok).mono ?_
          rintro e w3 ⟨rfl, h3, b3⟩
          have k2b := k2a.mv b3 (mne (Ne.symm hgg))
          go_wp2_with (fail)
          refine (mint_calls gm c _ k2b ok).mono ?_
          rintro e w4 ⟨rfl, k3, b4⟩
          have m3 := (m2a.trans b3 (one_new hg)).trans b4 (one_new hgm)
          have ok3 := int_ok ok
          have hb3 := int_b.trans hcb
          have h3 := h3.mv b4 (mne hgg)
          generalize hc3 : (c.int).2 = c3 at *
          clear hc3 b3 b4
          go_wp2_with (fail)
          go_meet
          case rel => exact ⟨rfl, _, hb3, h3, k3, ok3, m3⟩
        have z4 : (x == 4) = false := beq_eq_false_iff_ne.mpr e4
        clear e4
        by_cases e5 : x = 5
        · have z5 : (x == 5) = true := beq_iff_eq.mpr e5
          clear e5
          go_wp2_with (fail)
          refine start_ (n := 10) (S := fun w' => w'.cell? ⟨ga, 1, none⟩ = some (.int .i64 y)) (ds := []) #[false, false, false, false, false, false, false, false, false, false] (by kernel_rfl) rfl rfl (qa1) (fun hHeld => ?_)
          refine pure_ (i := 0) (N := some 86) (v := ?_) (a' := ?_) #[true, false, false, false, false, false, false, false, false, false] rfl rfl (by kernel_rfl) (fun _ _ _ h => h) (Or.inl ⟨by rfl, ?_⟩) ?_ ?_
          rotate_left
          · intro w'
            go_simp
            with_reducible rfl
          rotate_left
          · simp only [Act.put, List.setIfInBounds_toArray, List.set_cons_zero, List.set_cons_succ, i64_w, i32_w]
            rfl
          refine pure_ (i := 1) (N := some 87) (v := ?_) (a' := ?_) #[true, true, false, false, false, false, false, false, false, false] rfl rfl (by kernel_rfl) (fun _ _ _ h => h) (Or.inl ⟨by rfl, ?_⟩) ?_ ?_
          rotate_left
          · intro w'
            go_simp
            with_reducible rfl
          rotate_left
          · simp only [Act.put, List.setIfInBounds_toArray, List.set_cons_zero, List.set_cons_succ, i64_w, i32_w]
            rfl
          refine pure_ (i := 4) (N := some 90) (v := ?_) (a' := ?_) #[true, true, false, false, true, false, false, false, false, false] rfl rfl (by kernel_rfl) (fun _ _ _ h => h) (Or.inl ⟨by rfl, ?_⟩) ?_ ?_
          rotate_left
          · intro w'
            go_simp
            with_reducible rfl
          rotate_left
          · simp only [Act.put, List.setIfInBounds_toArray, List.set_cons_zero, List.set_cons_succ, i64_w, i32_w]
            rfl
          refine pure_ (i := 5) (N := some 91) (v := ?_) (a' := ?_) #[true, true, false, false, true, true, false, false, false, false] rfl rfl (by kernel_rfl) (fun _ _ _ h => h) (Or.inl ⟨by rfl, ?_⟩) ?_ ?_
          rotate_left
          · intro w'
            go_simp
            with_reducible rfl
          rotate_left
          · simp only [Act.put, List.setIfInBounds_toArray, List.set_cons_zero, List.set_cons_succ, i64_w, i32_w]
            rfl
          refine take_ (i := 2) (N := some 88) (v := ?_) (a' := ?_) #[true, true, true, false, true, true, false, false, false, false] rfl rfl (by kernel_rfl) (fun _ _ _ h => h) (Or.inl ⟨by rfl, ?_⟩) hHeld ?_ ?_
          rotate_left
          · intro w' s0
            go_simp
            with_reducible rfl
          rotate_left
          · simp only [Act.put, List.setIfInBounds_toArray, List.set_cons_zero, List.set_cons_succ, i64_w, i32_w]
            rfl
          refine take_ (i := 6) (N := some 92) (v := ?_) (a' := ?_) #[true, true, true, false, true, true, true, false, false, false] rfl rfl (by kernel_rfl) (fun _ _ _ h => h) (Or.inl ⟨by rfl, ?_⟩) hHeld ?_ ?_
          rotate_left
          · intro w' s0
            go_simp
            with_reducible rfl
          rotate_left
          · simp only [Act.put, List.setIfInBounds_toArray, List.set_cons_zero, List.set_cons_succ, i64_w, i32_w]
            rfl
          refine one_ (i := 3) (N := some 89) #[true, true, true, true, true, true, true, false, false, false] rfl rfl (by kernel_rfl) (by decide) (fun K hK => ?_)
          refine goes_ Try.func33 (by kernel_rfl) rfl #[.pointer (some ⟨g, 0, none⟩), .int .i64 y] (by rfl) rfl rfl (by (try simp only [List.map_toArray, List.map_cons, List.map_nil]); first | done | rfl) ?_
          with_reducible refine (text_calls g c y _ h2a.drew ok (by omega) (by omega)).mono ?_
          rintro e w3 ⟨rfl, h3, b3⟩
          refine ⟨_, rfl, ?_⟩
          have qa3 := b3.keep qa hga
          have k2b := (k2a.drewN 1).mv b3 (mne (Ne.symm hgg))
          refine hK.out _ _ (((blk_cell qa3 1).trans rfl)) (fun hHeld => ?_)
          clear hK K
          refine norm_ (a' := ?_) ?_ ?_
          rotate_left
          · show Act.put _ (some 89) _ = _
            simp only [Act.put, List.setIfInBounds_toArray, List.set_cons_zero, List.set_cons_succ, i64_w, i32_w]
            rfl
          refine one_ (i := 7) (N := some 93) #[true, true, true, true, true, true, true, true, false, false] rfl rfl (by kernel_rfl) (by decide) (fun K hK => ?_)
          refine goes_ Try.func34 (by kernel_rfl) rfl #[.pointer (some ⟨gm, 0, none⟩), .int .i64 y] (by rfl) rfl rfl (by (try simp only [List.map_toArray, List.map_cons, List.map_nil]); first | done | rfl) ?_
          with_reducible refine (mtext_calls gm c y _ k2b ok (by omega) (by omega)).mono ?_
          rintro e w4 ⟨rfl, k3, b4⟩
          refine ⟨_, rfl, ?_⟩
          have qa4 := b4.keep qa3 hgma
          refine hK.out _ _ (((blk_cell qa4 1).trans rfl)) (fun hHeld => ?_)
          clear hK K
          refine norm_ (a' := ?_) ?_ ?_
          rotate_left
          · show Act.put _ (some 93) _ = _
            simp only [Act.put, List.setIfInBounds_toArray, List.set_cons_zero, List.set_cons_succ, i64_w, i32_w]
            rfl
          refine pure_ (i := 8) (N := some 94) (v := ?_) (a' := ?_) #[true, true, true, true, true, true, true, true, true, false] rfl rfl (by kernel_rfl) (fun _ _ _ h => h) (Or.inl ⟨by rfl, ?_⟩) ?_ ?_
          rotate_left
          · intro w'
            go_simp
            with_reducible rfl
          rotate_left
          · simp only [Act.put, List.setIfInBounds_toArray, List.set_cons_zero, List.set_cons_succ, i64_w, i32_w]
            rfl
          refine pure_ (i := 9) (N := some 9) (v := ?_) (a' := ?_) #[true, true, true, true, true, true, true, true, true, true] rfl rfl (by kernel_rfl) (fun _ _ _ h => h) (Or.inl ⟨by rfl, ?_⟩) ?_ ?_
          rotate_left
          · intro w'
            go_simp
            with_reducible rfl
          rotate_left
          · simp only [Act.put, List.setIfInBounds_toArray, List.set_cons_zero, List.set_cons_succ, i64_w, i32_w]
            rfl
          refine done_ (by kernel_rfl) ?_
          have m3 := (m2a.drew.trans b3 (one_new hg)).trans b4 (one_new hgm)
          have ok3 := text_ok ok y
          have hb3 := (text_b y).trans hcb
          have h3 := h3.mv b4 (mne hgg)
          generalize hc3 : (c.text y).2 = c3 at *
          clear hc3 b3 b4
          go_wp2_with (fail)
          go_meet
          case rel => exact ⟨rfl, _, hb3, h3, k3, ok3, m3⟩
        have z5 : (x == 5) = false := beq_eq_false_iff_ne.mpr e5
        clear e5
        by_cases e6 : x = 6
        · have z6 : (x == 6) = true := beq_iff_eq.mpr e6
          clear e6
          go_wp2_with (fail)
          refine (fail_calls g c _ _ h2a).mono ?_
          rintro e w3 ⟨rfl, h3, b3⟩
          have k2b := k2a.mv b3 (mne (Ne.symm hgg))
          have qa3 := b3.keep qa hga
          have qa4 : w3.cell? ⟨ga, 1, none⟩ = some (.int .i64 y) := (blk_cell qa3 1).trans rfl
          clear qa qa1 qa0 qa3
          go_wp2_with (fail)
          refine (mfail_calls gm c _ _ k2b).mono ?_
          rintro e w4 ⟨rfl, k3, b4⟩
          have m3 := (m2a.trans b3 (one_new hg)).trans b4 (one_new hgm)
          have ok3 := fail_ok ok y
          have hb3 := (fail_b y).trans hcb
          have h3 := h3.mv b4 (mne hgg)
          generalize hc3 : c.fail y = c3 at *
          clear hc3 b3 b4 qa4
          go_wp2_with (fail)
          go_meet
          case rel => exact ⟨rfl, _, hb3, h3, k3, ok3, m3⟩
        have z6 : (x == 6) = false := beq_eq_false_iff_ne.mpr e6
        clear e6
        have m3 := m2a
        have ok3 := ok
        have hb3 := hcb
        have h3 := h2a
        have k3 := k2a
        go_wp2_with (fail)
        go_meet
        case rel => exact ⟨rfl, _, hb3, h3, k3, ok3, m3⟩
      case rest =>
        obtain ⟨rfl, c3, hb3, h3, k3, ok3, m3⟩ := hcut
        clear qa qa0 qa1 h2a k2a m2a ok hcb
        obtain ⟨cb3, ca3, ce3⟩ := c3
        simp only at hb3
        subst hb3
        have r1 := k3.c1
        have r2 := k3.c2
        have okA := ok3.1
        have okB := ok3.2
        simp only at okA okB r1 r2
        have H3 := Lib.hid h3
        have K3 := Lib.hid k3
        have OK3 := Lib.hid ok3
        clear h3 k3 ok3
        go_wp2_with (fail)
        go_quiet ((first | (go_at_call 37; exact quietS (err_calls g _ _ (H3.out.drewN _))) | (go_at_call 38; exact quietD (left_calls2 g _ _ _ _ (H3.out.drewN _) OK3.out))))
        go_wp2_with (fail)
        go_roundw
        case rel => exact ⟨k + 1, ⟨cb3, ca3, ce3⟩, by omega, by go_num, rfl, H3.out.drewN _, K3.out.drewN _, OK3.out, m3.drewN _⟩
        case measure => simp [intOf]; omega
    · go_wp2_with (fail)
      go_ret
      exact ⟨rfl, m2.below (fun _ h => h.elim)⟩
theorem reads (b : ByteArray) (A : Option Addr) (l : List (Int × Int)) (cap : Nat) (w : World) (hA : Acts w A l) (hI : InI64 l) :
    Calls Try.prog 9 #[.string b, .slice A l.length cap] w fun e w' => e = .returned (.bool true) ∧ Below w.heap.size w w' := by
  by_cases hb : b.size ≤ 1000
  · by_cases hl : l.length ≤ 200
    · exact reads_walk b A l cap w hA hI hb hl
    · exact reads_long b A l cap w (.inr ⟨hb, by omega⟩)
  · exact reads_long b A l cap w (.inl (by omega))
end Go.Proofs.Ytcgbfpoekappeaa.Cur
