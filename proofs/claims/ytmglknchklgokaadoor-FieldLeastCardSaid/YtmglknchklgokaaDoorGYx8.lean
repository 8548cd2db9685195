-- Printed by a program of the session (wip/gen/tprint.py, over a turned copy of the kit's print): Lean checks it.
import Derived.Test.YtmglknchklgokaaDoorGYx0
import Derived.Test.YtmglknchklgokaaDoorGYx7
namespace Go.Proofs.YtmglknchklgokaaDoor.GY
open Go.RowKit Go.Proofs.YtmglknchklgokaaDoorW.PrintWords Go.Proofs.YtmglknchklgokaaDoorW.PrintLast Go.Proofs.YtmglknchklgokaaDoorW.PrintMore
attribute [local go_sem] max2_int min2_int max_two min_two max_three min_three max_four min_four   -- for this text's walks alone
set_option linter.unusedVariables false
set_option linter.unusedSimpArgs false

/-! ### slices_Repeat_int_int: function 77 -/
def Repeat.cur (c : Int) (N k : Nat) : List Value := List.replicate k (.int .i64 c) ++ List.replicate (N - k) (.int .i64 0)
theorem Repeat.cur_len (c : Int) {N k : Nat} (h : k ≤ N) : (Repeat.cur c N k).length = N := by simp [Repeat.cur]; omega
theorem Repeat.cur_splice (c : Int) (N k d : Nat) (h : k + d ≤ N) : Go.splice (Repeat.cur c N k) k (List.replicate d (.int .i64 c)) = Repeat.cur c N (k + d) := by
 unfold Go.splice Repeat.cur
 rw [List.take_append_of_le_length (by simp), List.take_of_length_le (by simp), List.length_replicate, List.drop_append, List.drop_eq_nil_of_le (by simp), List.nil_append, List.drop_replicate, ← List.append_assoc, List.replicate_append_replicate, List.length_replicate]
 congr 2
 omega
theorem Repeat.mk (P : Program) (hu : P.underlying 24 = some (.slice 3)) (hinfo : (P.info? 3).map (fun i => (i.zero, i.size, i.bytes)) = some (some (.int .i64 0), 1, 8)) (N : Nat) (h : N ≤ 1000) (W : World) :
  (Instr.makeSlice 24 (.int .i64 (N : Int)) (.int .i64 (N : Int))).run P W = .ok (.slice (some ⟨W.heap.size, 0, none⟩) N N) (W.alloc (.cells (Array.replicate N (Value.int .i64 0)) 3)) := by
 obtain ⟨i0, hi, hzz⟩ := Option.map_eq_some_iff.1 hinfo
 simp only [Prod.mk.injEq] at hzz
 obtain ⟨hz0, hz1, hz2⟩ := hzz
 have hr := run_make (P := P) W 24 3 i0 _ hu hi hz0 .i64 .i64 (N : Int) (N : Int) (by omega) (by omega) (by rw [hz2]; omega) (by omega)
 simp only [Int.toNat_natCast] at hr
 rw [hr, hz1]
 congr 3
 apply Array.ext
 ·simp [madeCells]
 ·intro i h1 h2
  simp [madeCells, Value.cells, Nat.mod_one]
theorem Repeat.reps (R : Int → List Value → Prop) (c : Int) (h : R c [.int .i64 c]) : ∀ N, Reps R 1 (List.replicate N c) (List.replicate N (.int .i64 c))
 | 0 => Reps.none _ _
 | N + 1 => Reps.one h (Repeat.reps R c h N)
theorem Repeat.own (W : World) (base N g : Nat) (c : Int) (hb : base ≤ g) (h : W.heap[g]? = some (.cells (Repeat.cur c N N).toArray 3 (0, 0))) (hm : N ≤ 1000) : Kd.R (Kd.int .i64) 3 W base (fun _ => True) (.slice (some ⟨g, 0, none⟩) N N) (List.replicate N c) := by
 refine ⟨fun _ _ => trivial, List.replicate N (.int .i64 c), ⟨by simp [Kd.int, Kd.scalar], .inr ⟨g, N, _, by simp, hb, h, by simp, by simp [maxLen]; omega, ?_, ?_⟩⟩, ?_⟩
 ·simp [Repeat.cur, Kd.int, Kd.scalar]
 ·simp [Repeat.cur, Kd.int, Kd.scalar]
 ·exact Repeat.reps _ c rfl N
def slices_Repeat_int_int.f (l0 : List Int) (a1 : Int) : Option (List Int) := if l0.length = 1 then (if a1 = 1 ∨ a1 = 3 ∨ a1 = 4 then some (List.replicate a1.toNat (rd l0 0)) else none) else none
set_option maxHeartbeats 4000000 in
set_option maxRecDepth 100000 in
theorem slices_Repeat_int_int.at (A : Option Addr) (c0 : Nat) (c : Int) (N : Nat) (w : World) (hA : ∃ ad, A = some ad ∧ ∀ W' : World, Below w.heap.size w W' → W'.cell? ad = some (.int .i64 c)) (hN : 1 ≤ N) (hm : N ≤ 1000) (hq : bits_Mul.f 1 N = some (0, (N : Int))) :
  Calls Tryd.prog 77 #[.slice A 1 c0, .int .i64 N] w fun e w' => e = .returned (.slice (some ⟨w.heap.size, 0, none⟩) N N) ∧ w'.heap[w.heap.size]? = some (.cells (Repeat.cur c N N).toArray 3 (0, 0)) ∧ Below w.heap.size w w' := by
 obtain ⟨ad, rfl, had⟩ := hA
 have mk := Repeat.mk Tryd.prog Tryd.underlying24 info3 N hm
 have HD := Lib.hid had
 have HQ := Lib.hid hq
 clear had hq
 have z1 : decide ((N : Int) < 0) = false := decide_eq_false (by omega)
 have z2 : decide ((N : Int) > 9223372036854775807) = false := decide_eq_false (by omega)
 have z3 : IntKind.u64.wrap (N : Int) = N := by rw [IntKind.wrap_u64]; omega
 have z4 : IntKind.i64.wrap (N : Int) = N := by rw [IntKind.wrap_i64]; omega
 go_enter Tryd.func77, Tryd.ntmps77
 go_wp2_with (fail)
 refine (bits_Mul.calls 1 N 0 N _ HQ.out).mono ?_
 rintro e w1 ⟨rfl, m, rfl⟩
 have hsz : (Tryd.prog.info? 3).map (·.size) = some 1 := by
  obtain ⟨i0, hi, hzz⟩ := Option.map_eq_some_iff.1 info3
  simp only [Prod.mk.injEq] at hzz
  rw [hi]; simp [hzz.2.1]
 have hg0 := Lib.hid (show ((w.drewN m).alloc (.cells (Array.replicate N (Value.int .i64 0)) 3)).heap[w.heap.size]? = some (.cells (Repeat.cur c N 0).toArray 3 (0, 0)) from by
  have := heap_alloc_new (w.drewN m) (.cells (Array.replicate N (Value.int .i64 0)) 3)
  simpa [Repeat.cur] using this)
 have hb0 := Lib.hid (show Below w.heap.size w ((w.drewN m).alloc (.cells (Array.replicate N (Value.int .i64 0)) 3)) from by apply below_alloc; apply pw_below_drewN; exact Below.refl _ _)
 have hd0 := Lib.hid (show ((w.drewN m).alloc (.cells (Array.replicate N (Value.int .i64 0)) 3)).cell? ad = some (.int .i64 c) from HD.out _ hb0.out)
 have hn1 : ([Value.int .i64 c] : List Value).length = Nat.min 1 N := by show 1 = min 1 N; omega
 have hp1 : 0 < ([Value.int .i64 c] : List Value).length → (some ⟨w.heap.size, 0, none⟩ : Option Addr) = some ⟨w.heap.size, 0, none⟩ ∧ ∃ ad', some ad = some ad' ∧ ∀ j v, ([Value.int .i64 c] : List Value)[j]? = some v → ((w.drewN m).alloc (.cells (Array.replicate N (Value.int .i64 0)) 3)).cell? (ad'.add j) = some v := by
  refine fun _ => ⟨rfl, ad, rfl, fun j v hj => ?_⟩
  match j, hj with
  | 0, hj =>
   have hz : ad.add 0 = ad := by simp [Addr.add]
   rw [hz, hd0.out]
   simpa using hj
  | j + 1, hj => simp at hj
 have hf1 : 0 + ([Value.int .i64 c] : List Value).length ≤ (Repeat.cur c N 0).length := by rw [Repeat.cur_len c (Nat.zero_le _)]; exact hN
 have ho1 : ∀ v ∈ ([Value.int .i64 c] : List Value), v.oneCell' = true := by intro v hv; simp at hv; subst hv; rfl
 have HP1 := Lib.hid hp1
 clear hp1
 go_wp2_with ((with_reducible refine gate_dst (N := 33) rfl ?_); refine wpList_copy_splice rfl (.tmp 31) (.tmp 32) 24 24 rfl 3 Tryd.underlying24 hsz (some ⟨w.heap.size, 0, none⟩) (some ad) N N 1 c0 rfl rfl w.heap.size 0 (Repeat.cur c N 0) 3 hg0.out [.int .i64 c] hn1 (fun hh => ⟨rfl, (HP1.out hh).2⟩) hf1 ho1 w.heap.size w hb0.out (Nat.le_refl _) ?_; intro w2 hg2 hb2)
 clear hn1 HP1 hf1 ho1
 go_loopw [8, 46] (fun v _ wr => ∃ k : Nat, v = .int .i64 k ∧ 1 ≤ k ∧ k ≤ N ∧ Hid (wr.heap[w.heap.size]? = some (.cells (Repeat.cur c N k).toArray 3 (0, 0))) ∧ Below w.heap.size w wr) (fun v _ _ => N - (Go.RowKit.intOf v).toNat)
 case atStart =>
  refine ⟨1, rfl, Nat.le_refl _, hN, ?_, hb2⟩
  have := hg2.out
  rw [show ([Value.int .i64 c] : List Value) = List.replicate 1 (.int .i64 c) from rfl, Repeat.cur_splice c N 0 1 (by omega)] at this
  exact Lib.hid this
 case round =>
  clear hg2 hb2
  obtain ⟨k, rfl, h1, h2, hg, hb⟩ := hrel
  by_cases hlt : k < N
  ·have t1 : decide ((k : Int) < N) = true := decide_eq_true (by omega)
   have b1 : (0 : Int) ≤ k := by omega
   have b2 : (k : Int) ≤ N := by omega
   have src : 0 < (List.replicate (min k (N - k)) (Value.int .i64 c)).length → (some ⟨w.heap.size, k, none⟩ : Option Addr) = some ⟨w.heap.size, k, none⟩ ∧ ∃ ad', (some ⟨w.heap.size, 0, none⟩ : Option Addr) = some ad' ∧ ∀ j v, (List.replicate (min k (N - k)) (Value.int .i64 c))[j]? = some v → wr.cell? (ad'.add j) = some v := by
    refine fun _ => ⟨rfl, _, rfl, fun j v hj => ?_⟩
    have hj1 : j < min k (N - k) := by
     rcases Nat.lt_or_ge j (min k (N - k)) with h | h
     ·exact h
     ·rw [List.getElem?_eq_none (by simpa using h)] at hj; cases hj
    have e : (Repeat.cur c N k)[j]? = some v := by
     rw [Repeat.cur, List.getElem?_append_left (by simp; omega)]
     rw [List.getElem?_replicate, if_pos hj1] at hj
     rw [List.getElem?_replicate, if_pos (by omega)]
     exact hj
    have := blk_cell hg.out j
    have hj3 : (⟨w.heap.size, 0, none⟩ : Addr).add j = ⟨w.heap.size, j, none⟩ := by
     simp only [Addr.add, Nat.zero_add]
     split <;> simp_all
    rw [hj3, this]
    simpa using e
   have SRC := Lib.hid src
   have wk : IntKind.i64.wrap ((k : Int) + ((min k (N - k) : Nat) : Int)) = ((k + min k (N - k) : Nat) : Int) := by rw [IntKind.wrap_i64]; omega
   clear src
   have e1 : (0 : Nat) + k = k := Nat.zero_add _
   go_wp2_with (fail)
   go_region_law (refine step_copy_splice rfl (.tmp 41) (.tmp 44) 24 24 rfl 3 Tryd.underlying24 hsz (some ⟨w.heap.size, k, none⟩) (some ⟨w.heap.size, 0, none⟩) (N - k) (N - k) k N (by simp [Act.eval, Act.put]; omega) (by simp [Act.eval, Act.put]) w.heap.size k (Repeat.cur c N k) 3 hg.out (List.replicate (min k (N - k)) (.int .i64 c)) (by rw [List.length_replicate]) (fun hh => ⟨rfl, (SRC.out hh).2⟩) (by rw [Repeat.cur_len c h2, List.length_replicate]; omega) (by intro v hv; rw [List.eq_of_mem_replicate hv]; rfl) w.heap.size w (by apply below_drew1; exact hb) (Nat.le_refl _) ?_; intro w4 hg4 hb4)
   have hg5 := hg4.out
   rw [Repeat.cur_splice c N k (min k (N - k)) (by omega)] at hg5
   have HG5 := Lib.hid hg5
   clear hg4 hg5
   go_wp2_with (fail)
   go_roundw
   case rel => exact ⟨k + min k (N - k), by omega, by omega, by omega, HG5⟩
   case measure =>
    simp only [Go.RowKit.intOf, Int.toNat_natCast]
    omega
  ·have t1 : decide ((k : Int) < N) = false := decide_eq_false (by omega)
   obtain rfl : k = N := by omega
   go_wp2_with (fail)
   go_ret
   exact ⟨rfl, hg.out, hb⟩
theorem slices_Repeat_int_int.calls (A0 : Option Addr) (c0 : Nat) (l0 : List Int) (a1 : Int) (r : List Int) (w : World) (hr0 : Kd.C (Kd.int .i64) w A0 l0.length l0) (hc0 : l0.length ≤ c0) (h : slices_Repeat_int_int.f l0 a1 = some r) :
  Calls Tryd.prog 77 #[.slice A0 l0.length c0, .int .i64 a1] w fun e w' => ∃ v0_ : Value, e = .returned (v0_) ∧ Kd.R (Kd.int .i64) 3 w' w.heap.size (fun _ => True) v0_ r ∧ Below w.heap.size w w' := by
 unfold slices_Repeat_int_int.f at h
 by_cases h1 : l0.length = 1
 ·rw [if_pos h1] at h
  by_cases h2 : a1 = 1 ∨ a1 = 3 ∨ a1 = 4
  ·rw [if_pos h2] at h
   obtain rfl := Option.some.inj h
   obtain ⟨c, rfl⟩ : ∃ c, l0 = [c] := by
    match l0, h1 with
    | [c], _ => exact ⟨c, rfl⟩
   have hc : (rd [c] 0) = c := rfl
   rw [hc]
   have hA : ∃ ad, A0 = some ad ∧ ∀ W' : World, Below w.heap.size w W' → W'.cell? ad = some (.int .i64 c) := by
    obtain ⟨ad, cs, e, _, hK, hc0⟩ := Kd.C_get hr0 (0 : Int) 0 (by omega) (by simp)
    refine ⟨ad, e, fun W' hW => ?_⟩
    obtain ⟨ad2, cs2, e2, _, hK2, hc2⟩ := Kd.C_get (Kd.C_below hr0 hW) (0 : Int) 0 (by omega) (by simp)
    obtain rfl := Option.some.inj (e.symm.trans e2)
    obtain rfl : cs2 = [.int .i64 c] := hK2
    have := hc2 0 _ rfl
    simpa [Addr.add] using this
   have go : ∀ N : Nat, a1 = N → 1 ≤ N → N ≤ 1000 → bits_Mul.f 1 N = some (0, (N : Int)) → _ := fun N e h1 h2 hq => ((slices_Repeat_int_int.at A0 c0 c N w hA h1 h2 hq).mono (fun e w' ⟨he, hg, hb⟩ => (⟨_, he, Repeat.own w' w.heap.size N w.heap.size c (Nat.le_refl _) hg h2, hb⟩ : ∃ v0_ : Value, e = Ending.returned v0_ ∧ Kd.R (Kd.int .i64) 3 w' w.heap.size (fun _ => True) v0_ (List.replicate N c) ∧ Below w.heap.size w w')))
   rcases h2 with rfl | rfl | rfl
   ·exact go 1 rfl (by omega) (by omega) (by decide +kernel)
   ·exact go 3 rfl (by omega) (by omega) (by decide +kernel)
   ·exact go 4 rfl (by omega) (by omega) (by decide +kernel)
  ·rw [if_neg h2] at h; cases h
 ·rw [if_neg h1] at h; cases h


/-! ### schema_ints: function 67 -/
def schema_ints.f (a0 : Int) (a1 : Int) : Option (List Int) := (slices_Repeat_int_int.f (([a1] : List Int)) a0).bind fun t177 => (some t177)
set_option maxHeartbeats 8000000 in
set_option maxRecDepth 100000 in
theorem schema_ints.calls (a0 : Int) (a1 : Int) (r : List Int) (w : World) (h : schema_ints.f a0 a1 = some r) :
  Calls Tryd.prog 67 #[.int .i64 a0, .int .i64 a1] w fun e w' => ∃ v0_ : Value, e = .returned (v0_) ∧ Kd.R (Kd.int .i64) 3 w' w.heap.size (fun _ => True) v0_ r ∧ Below w.heap.size w w' := by
 have HB := Aside0.mk (Below.refl w.heap.size w)
 have H : ((slices_Repeat_int_int.f (([a1] : List Int)) a0).bind fun t177 => (some t177)) = some r := h
 clear h
 obtain ⟨y174, hy174⟩ : ∃ y_ : List Int, y_ = (([a1] : List Int)) := ⟨_, rfl⟩
 replace H : ((slices_Repeat_int_int.f y174 a0).bind fun t177 => (some t177)) = some r := by first | (rw [hy174]; with_reducible exact H) | (have H2_ := (Option.bind_some _ _).symm.trans H; rw [hy174]; with_reducible exact H2_) | (have H2_ := (Option.bind_some _ _).symm.trans H; with_reducible exact H2_) | with_reducible exact H | (rw [hy174]; exact H) | exact H
 have Ny174 := Aside0.mk hy174
 clear hy174
 replace H := Option.bind_eq_some_iff.mp H
 obtain ⟨t177, A30, H⟩ := H
 replace H : (some t177) = some r := H
 have A3 := Aside0.mk A30
 clear A30
 obtain rfl := Option.some.inj H
 go_enter Tryd.func67, Tryd.ntmps67
 go_wp2_with (first | ((with_reducible refine gate_dst (N := 6) rfl ?_); refine Kd.R_lit (Kd.int .i64) _ 3 ?hg (N := 6) ?hd (xs := ([a1] : List Int)) (inner := [.int .i64 a1]) (ok := fun _ => True) (okp := fun _ => True) ?hr ?hp (fun _ hk => hk) trivial (Below.refl _ _) (Nat.le_refl _) (by simp) ?_; (case hd => rfl); (case hg => rfl); (case hr => first | (go_simp; done) | (go_simp; rfl)); (case hp => exact (Reps.one (show Kd.M (Kd.int .i64) _ _ _ a1 [.int .i64 a1] from rfl) (Reps.none _ _))); intro v175 w4 ho5 hb hg_ hnew_; clear hg_ hnew_; (first | rw [← Ny174.out] at ho5 | (simp only [Int.reduceToNat] at ho5; rw [← Ny174.out] at ho5)); have n0_ := Aside0.mk (Kd.R_lower ho5 (below_size (BB HB))); have n1_ := Aside0.mk (below_step (BB HB) hb); clear HB; have HO176 := n0_; have HB := n1_; clear n0_ n1_; clear hb ho5; obtain ⟨Ao6, co6, eo6⟩ := Kd.R_slice HO176.out; subst eo6) | ((with_reducible refine gate_callee (f := 77) rfl ?_); refine goesL_ (some 8) rfl rfl Tryd.func77 (by kernel_rfl) rfl #[.slice Ao6 y174.length co6, .int .i64 a0] rfl (by (try simp only [List.map_toArray, List.map_cons, List.map_nil]); first | done | rfl | (simp only [List.length_drop, List.length_take]; rfl)) ?_; (with_reducible refine (slices_Repeat_int_int.calls _ _ y174 a0 t177 _ ?side1 ?side2 A3.out).mono ?_); (case side1 => exact CR HO176); (case side2 => exact (Kd.R_reads' HO176.out).2.1); rintro e w7 ⟨v178, rfl, ho0, hb⟩; refine ⟨_, rfl, ?_⟩; have n0_ := Aside0.mk (Kd.R_elder' (RL HO176) (Kd.R_base ho0) hb); have n1_ := Aside0.mk (Kd.R_lower (Kd.R_new' ho0 (Kd.R_lt (RL HO176))) (below_size (BB HB))); have n2_ := Aside0.mk (below_step (BB HB) hb); clear HO176; clear HB; have HO176 := n0_; have HO179 := n1_; have HB := n2_; clear n0_ n1_ n2_; (try clear hb); (try clear hb2); (try clear hk); (try clear hi); (try clear ho0)))
 go_ret
 exact ⟨_, by first | rfl | (simp [errW_none, errW_some] <;> rfl) | (simp [*, errW_none, errW_some] <;> rfl), by (with_reducible repeat (first | apply Kd.R_alloc | apply Kd.R_drewN | apply Kd.R_drew)); exact Kd.R_mono HO179.out (fun _ hk => trivial), BB HB⟩

/-! ### schema_New: function 43 -/
set_option maxHeartbeats 8000000 in
set_option maxRecDepth 100000 in
theorem find_some (ad : Addr) (n c : Nat) (i : Int) (A0 : Option Addr) (n0 c0 : Nat) (f1 f2 f3 : Int) (w : World) (h1 : 1 ≤ i) (h2 : i < n)
  (hx : ∀ w', Below w.heap.size w w' → w'.cell? (ad.add (i.toNat * 4)) = some (.slice A0 n0 c0) ∧ w'.cell? ⟨(ad.add (i.toNat * 4)).block, (ad.add (i.toNat * 4)).off + 1, none⟩ = some (.int .i64 f1) ∧ w'.cell? ⟨(ad.add (i.toNat * 4)).block, (ad.add (i.toNat * 4)).off + 2, none⟩ = some (.int .i64 f2) ∧ w'.cell? ⟨(ad.add (i.toNat * 4)).block, (ad.add (i.toNat * 4)).off + 3, none⟩ = some (.int .i64 f3)) :
  Calls Tryd.prog 66 #[.slice (some ad) n c, .int .i64 i] w fun e w' => e = .returned (.tuple #[.agg #[.slice A0 n0 c0, .int .i64 f1, .int .i64 f2, .int .i64 f3], .bool true]) ∧ Below w.heap.size w w' := by
 have hu25 := Tryd.underlying28
 have c3b0 : decide (i < 1) = false := decide_eq_false (by omega)
 have c6b0 : decide ((n : Int) ≤ i) = false := decide_eq_false (by omega)
 have p102 : (0 ≤ i) = True := eq_true (by omega)
 have q102 : (i < (n : Int)) = True := eq_true (by omega)
 have HX := Lib.hid hx
 clear hx
 go_enter Tryd.func66, Tryd.ntmps66
 go_wp2_with (first | ((with_reducible refine gate_dst (N := 4) rfl ?_); (try (refine gate_guard (by rfl) ?_; dsimp only)); refine box_event ?hg (N := 4) ?hd (cs := #[.slice none 0 0, .int .i64 0, .int .i64 0, .int .i64 0]) (t := 28) ?hr ?_; (case hd => rfl); (case hg => rfl); (case hr => first | (go_simp; done) | (go_simp; rfl)); intro g hg w11 hbox hb; have BK := Aside0.mk hbox; have HB := Aside0.mk hb; have hbl := Lib.hid (show w.heap.size ≤ g from Nat.le_of_eq hg.symm); obtain ⟨hx0, hx1, hx2, hx3⟩ := HX.out w11 hb; clear hb hbox hg; have hcz0 : w11.cell? ⟨g, 0, none⟩ = some (.slice none 0 0) := (blk_cell BK.out 0).trans rfl; have hcz1 : w11.cell? ⟨g, 1, none⟩ = some (.int .i64 0) := (blk_cell BK.out 1).trans rfl; have hcz2 : w11.cell? ⟨g, 2, none⟩ = some (.int .i64 0) := (blk_cell BK.out 2).trans rfl; have hcz3 : w11.cell? ⟨g, 3, none⟩ = some (.int .i64 0) := (blk_cell BK.out 3).trans rfl; have hf0 := blk_frozen BK.out 0; have hf1 := blk_frozen BK.out 1; have hf2 := blk_frozen BK.out 2; have hf3 := blk_frozen BK.out 3))
 refine bodyPost_ret (results_ct rfl _ _ g 28 #[.slice A0 n0 c0, .int .i64 f1, .int .i64 f2, .int .i64 f3] (0, 0) _ rfl (by refine blk_put (cs := #[.slice A0 n0 c0, .int .i64 f1, .int .i64 f2, .int .i64 0]) ?_ 3 _ rfl; refine blk_put (cs := #[.slice A0 n0 c0, .int .i64 f1, .int .i64 0, .int .i64 0]) ?_ 2 _ rfl; refine blk_put (cs := #[.slice A0 n0 c0, .int .i64 0, .int .i64 0, .int .i64 0]) ?_ 1 _ rfl; refine blk_put (cs := #[.slice none 0 0, .int .i64 0, .int .i64 0, .int .i64 0]) ?_ 0 _ rfl; (with_reducible repeat (first | refine blk_drewN ?_ _ | refine blk_drew ?_ | refine blk_alloc ?_ _)); exact BK.out) Tryd.underlying28 rfl (by kernel_rfl)) rfl ?_
 exact ⟨rfl, by repeat (first | (with_reducible first | exact HB.out | apply below_alloc | apply pw_below_drewN | apply below_drew1 | refine below_set ?_ hbl.out) | exact HB.out)⟩
set_option maxHeartbeats 8000000 in
set_option maxRecDepth 100000 in
theorem find_none (A : Option Addr) (n c : Nat) (i : Int) (w : World) (h : i < 1 ∨ n ≤ i) :
  Calls Tryd.prog 66 #[.slice A n c, .int .i64 i] w fun e w' => e = .returned (.tuple #[.agg #[.slice none 0 0, .int .i64 0, .int .i64 0, .int .i64 0], .bool false]) ∧ Below w.heap.size w w' := by
 have hu25 := Tryd.underlying28
 by_cases h1 : i < 1
 ·have c3b0 : decide (i < 1) = true := decide_eq_true h1
  go_enter Tryd.func66, Tryd.ntmps66
  go_wp2_with (first | ((with_reducible refine gate_dst (N := 4) rfl ?_); (try (refine gate_guard (by rfl) ?_; dsimp only)); refine box_event ?hg (N := 4) ?hd (cs := #[.slice none 0 0, .int .i64 0, .int .i64 0, .int .i64 0]) (t := 28) ?hr ?_; (case hd => rfl); (case hg => rfl); (case hr => first | (go_simp; done) | (go_simp; rfl)); intro g hg w11 hbox hb; have BK := Aside0.mk hbox; have HB := Aside0.mk hb; have hbl := Lib.hid (show w.heap.size ≤ g from Nat.le_of_eq hg.symm); clear hb hbox hg; have hcz0 : w11.cell? ⟨g, 0, none⟩ = some (.slice none 0 0) := (blk_cell BK.out 0).trans rfl; have hcz1 : w11.cell? ⟨g, 1, none⟩ = some (.int .i64 0) := (blk_cell BK.out 1).trans rfl; have hcz2 : w11.cell? ⟨g, 2, none⟩ = some (.int .i64 0) := (blk_cell BK.out 2).trans rfl; have hcz3 : w11.cell? ⟨g, 3, none⟩ = some (.int .i64 0) := (blk_cell BK.out 3).trans rfl; have hf0 := blk_frozen BK.out 0; have hf1 := blk_frozen BK.out 1; have hf2 := blk_frozen BK.out 2; have hf3 := blk_frozen BK.out 3))
  refine bodyPost_ret (results_ct rfl _ _ g 28 #[.slice none 0 0, .int .i64 0, .int .i64 0, .int .i64 0] (0, 0) _ rfl (by refine blk_put (cs := #[.slice none 0 0, .int .i64 0, .int .i64 0, .int .i64 0]) ?_ 3 _ rfl; refine blk_put (cs := #[.slice none 0 0, .int .i64 0, .int .i64 0, .int .i64 0]) ?_ 2 _ rfl; refine blk_put (cs := #[.slice none 0 0, .int .i64 0, .int .i64 0, .int .i64 0]) ?_ 1 _ rfl; refine blk_put (cs := #[.slice none 0 0, .int .i64 0, .int .i64 0, .int .i64 0]) ?_ 0 _ rfl; (with_reducible repeat (first | refine blk_drewN ?_ _ | refine blk_drew ?_ | refine blk_alloc ?_ _)); exact BK.out) Tryd.underlying28 rfl (by kernel_rfl)) rfl ?_
  exact ⟨rfl, by repeat (first | (with_reducible first | exact HB.out | apply below_alloc | apply pw_below_drewN | apply below_drew1 | refine below_set ?_ hbl.out) | exact HB.out)⟩
 ·have c3b0 : decide (i < 1) = false := decide_eq_false h1
  have c6b0 : decide ((n : Int) ≤ i) = true := decide_eq_true (by omega)
  go_enter Tryd.func66, Tryd.ntmps66
  go_wp2_with (first | ((with_reducible refine gate_dst (N := 4) rfl ?_); (try (refine gate_guard (by rfl) ?_; dsimp only)); refine box_event ?hg (N := 4) ?hd (cs := #[.slice none 0 0, .int .i64 0, .int .i64 0, .int .i64 0]) (t := 28) ?hr ?_; (case hd => rfl); (case hg => rfl); (case hr => first | (go_simp; done) | (go_simp; rfl)); intro g hg w11 hbox hb; have BK := Aside0.mk hbox; have HB := Aside0.mk hb; have hbl := Lib.hid (show w.heap.size ≤ g from Nat.le_of_eq hg.symm); clear hb hbox hg; have hcz0 : w11.cell? ⟨g, 0, none⟩ = some (.slice none 0 0) := (blk_cell BK.out 0).trans rfl; have hcz1 : w11.cell? ⟨g, 1, none⟩ = some (.int .i64 0) := (blk_cell BK.out 1).trans rfl; have hcz2 : w11.cell? ⟨g, 2, none⟩ = some (.int .i64 0) := (blk_cell BK.out 2).trans rfl; have hcz3 : w11.cell? ⟨g, 3, none⟩ = some (.int .i64 0) := (blk_cell BK.out 3).trans rfl; have hf0 := blk_frozen BK.out 0; have hf1 := blk_frozen BK.out 1; have hf2 := blk_frozen BK.out 2; have hf3 := blk_frozen BK.out 3))
  refine bodyPost_ret (results_ct rfl _ _ g 28 #[.slice none 0 0, .int .i64 0, .int .i64 0, .int .i64 0] (0, 0) _ rfl (by refine blk_put (cs := #[.slice none 0 0, .int .i64 0, .int .i64 0, .int .i64 0]) ?_ 3 _ rfl; refine blk_put (cs := #[.slice none 0 0, .int .i64 0, .int .i64 0, .int .i64 0]) ?_ 2 _ rfl; refine blk_put (cs := #[.slice none 0 0, .int .i64 0, .int .i64 0, .int .i64 0]) ?_ 1 _ rfl; refine blk_put (cs := #[.slice none 0 0, .int .i64 0, .int .i64 0, .int .i64 0]) ?_ 0 _ rfl; (with_reducible repeat (first | refine blk_drewN ?_ _ | refine blk_drew ?_ | refine blk_alloc ?_ _)); exact BK.out) Tryd.underlying28 rfl (by kernel_rfl)) rfl ?_
  exact ⟨rfl, by repeat (first | (with_reducible first | exact HB.out | apply below_alloc | apply pw_below_drewN | apply below_drew1 | refine below_set ?_ hbl.out) | exact HB.out)⟩
def schema_New.f (a0 : Int) : Option (List Int × Int × Int × Int × Bool) := if a0 = 1 then some (([] : List Int), 1, 0, (-1), true) else if a0 = 2 then some (([2, 2, 2] : List Int), 0, 1, 1, true) else if a0 = 3 then some (([3, 3, 3] : List Int), 1, 0, 0, true) else if a0 = 4 then some (([3] : List Int), 1, 0, 0, true) else if a0 = 5 then some (([3] : List Int), 2, 0, 0, true) else if a0 = 6 then some (([1] : List Int), 0, 0, (-1), true) else if a0 = 7 then some (([4, 4, 4, 5] : List Int), 0, 0, 0, true) else if a0 = 8 then some (([2, 2, 2] : List Int), 0, 1, 1, true) else some (([] : List Int), 0, 0, 0, false)
theorem schema_New.far {W : World} {base g : Nat} {v : Value} {xs : List Int} (h : Kd.R (Kd.int .i64) 3 W base (fun _ => True) v xs) (hg : g < base) (u0 u1 u2 u3 : Value) : Kd.R (Kd.int .i64) 3 ((((W.setCell ⟨g, 0, none⟩ u0).setCell ⟨g, 1, none⟩ u1).setCell ⟨g, 2, none⟩ u2).setCell ⟨g, 3, none⟩ u3) base (fun _ => True) v xs := by
 have f : ∀ {W : World} (p : Addr) (hp : p.block = g) (u : Value), Kd.R (Kd.int .i64) 3 W base (fun _ => True) v xs → Kd.R (Kd.int .i64) 3 (W.setCell p u) base (fun _ => True) v xs := fun p hp u h =>
  Kd.R_mono (Kd.R_far (Kd.R_bound h) (fun k hk => by have := hk.2.1; omega) u) (fun _ _ => trivial)
 exact f _ rfl _ (f _ rfl _ (f _ rfl _ (f _ rfl _ h)))
theorem schema_New.cells {W w' : World} {b : Nat} {cs : Array Value} (h : W.heap[b]? = some (.cells cs 28 (0, 0))) (hb : Below W.heap.size W w') (j : Nat) (v0 v1 v2 v3 : Value) (h0 : cs[j]? = some v0) (h1 : cs[j + 1]? = some v1) (h2 : cs[j + 2]? = some v2) (h3 : cs[j + 3]? = some v3) :
  w'.cell? ((⟨b, 0, none⟩ : Addr).add j) = some v0 ∧ w'.cell? ⟨((⟨b, 0, none⟩ : Addr).add j).block, ((⟨b, 0, none⟩ : Addr).add j).off + 1, none⟩ = some v1 ∧ w'.cell? ⟨((⟨b, 0, none⟩ : Addr).add j).block, ((⟨b, 0, none⟩ : Addr).add j).off + 2, none⟩ = some v2 ∧ w'.cell? ⟨((⟨b, 0, none⟩ : Addr).add j).block, ((⟨b, 0, none⟩ : Addr).add j).off + 3, none⟩ = some v3 := by
 have hk := blk_below h hb
 have e : (⟨b, 0, none⟩ : Addr).add j = ⟨b, j, none⟩ := by
  simp only [Addr.add, Nat.zero_add]
  split <;> simp_all
 rw [e]
 exact ⟨(blk_cell hk j).trans h0, (blk_cell hk (j + 1)).trans h1, (blk_cell hk (j + 2)).trans h2, (blk_cell hk (j + 3)).trans h3⟩
set_option maxHeartbeats 16000000 in
set_option maxRecDepth 100000 in
theorem schema_New.calls (a0 : Int) (r1 : List Int) (r2 : Int) (r3 : Int) (r4 : Int) (r5 : Bool) (w : World) (h : schema_New.f a0 = some (r1, r2, r3, r4, r5)) :
  Calls Tryd.prog 43 #[.int .i64 a0] w fun e w' => ∃ v0_ : Value, e = .returned (.tuple #[.agg #[v0_, .int .i64 r2, .int .i64 r3, .int .i64 r4], .bool r5]) ∧ Kd.R (Kd.int .i64) 3 w' w.heap.size (fun _ => True) v0_ r1 ∧ Below w.heap.size w w' := by
 have hu25 := Tryd.underlying28
 have H := Lib.hid h
 clear h
 go_enter Tryd.func43, Tryd.ntmps43
 go_wp2_with (first | ((with_reducible refine gate_dst (N := 2) rfl ?_); refine box_event ?hg (N := 2) ?hd (cs := #[.slice none 0 0, .int .i64 0, .int .i64 0, .int .i64 0]) (t := 28) ?hr ?_; (case hd => rfl); (case hg => rfl); (case hr => first | (go_simp; done) | (go_simp; rfl)); intro g hg w0 hbox hb; have BK := Lib.hid hbox; have HB := Lib.hid hb; have hgl := Lib.hid (show w.heap.size ≤ g from Nat.le_of_eq hg.symm); clear hb hbox hg))
 have hgs := Lib.hid (blk_lt BK.out)
 refine (schema_ints.calls 3 2 [2, 2, 2] _ (by decide +kernel)).mono ?_
 rintro e w1 ⟨v, rfl, ho, hb⟩
 obtain ⟨A1, c1, rfl⟩ := Kd.R_slice ho
 have B1 := Lib.hid hb
 have R1 := Lib.hid ho
 clear ho hb
 go_wp2_with (fail)
 refine (schema_ints.calls 3 3 [3, 3, 3] _ (by decide +kernel)).mono ?_
 rintro e w2 ⟨v, rfl, ho, hb⟩
 obtain ⟨A2, c2, rfl⟩ := Kd.R_slice ho
 have B2 := Lib.hid hb
 have R2 := Lib.hid ho
 clear ho hb
 go_wp2_with (fail)
 refine (schema_ints.calls 1 3 [3] _ (by decide +kernel)).mono ?_
 rintro e w3 ⟨v, rfl, ho, hb⟩
 obtain ⟨A3, c3, rfl⟩ := Kd.R_slice ho
 have B3 := Lib.hid hb
 have R3 := Lib.hid ho
 clear ho hb
 go_wp2_with (fail)
 refine (schema_ints.calls 1 3 [3] _ (by decide +kernel)).mono ?_
 rintro e w4 ⟨v, rfl, ho, hb⟩
 obtain ⟨A4, c4, rfl⟩ := Kd.R_slice ho
 have B4 := Lib.hid hb
 have R4 := Lib.hid ho
 clear ho hb
 go_wp2_with (fail)
 refine (schema_ints.calls 1 1 [1] _ (by decide +kernel)).mono ?_
 rintro e w5 ⟨v, rfl, ho, hb⟩
 obtain ⟨A5, c5, rfl⟩ := Kd.R_slice ho
 have B5 := Lib.hid hb
 have R5 := Lib.hid ho
 clear ho hb
 go_wp2_with (fail)
 refine (schema_ints.calls 3 4 [4, 4, 4] _ (by decide +kernel)).mono ?_
 rintro e w6 ⟨v, rfl, ho, hb⟩
 obtain ⟨A6, c6, rfl⟩ := Kd.R_slice ho
 have B6 := Lib.hid hb
 have R6 := Lib.hid ho
 clear ho hb
 go_wp2_with (first | ((with_reducible refine gate_builtin (b := .append) (xs := #[.tmp 15, .tmp 16]) rfl ?_); at_builtin; refine Kd.R_append (Kd.int .i64) (w0 := w5) w5.heap.size rfl (.tmp 15) (.tmp 16) 24 3 (.int .i64 0) 8 rfl Tryd.underlying24 info3 rfl (by decide) (by omega) _ [4, 4, 4] 5 [.int .i64 5] (fun _ => True) (fun _ => False) rfl rfl ?aP (fun _ hk => hk.elim) (fun _ _ => trivial) ?aO ?aB ?aS ?aL ?_; (case aP => exact rfl); (case aB => exact B6.out); (case aO => exact R6.out); (case aS => exact B6.out.size); (case aL => decide); intro v wa ho hb hg1 hat; obtain ⟨AA, ca, rfl⟩ := Kd.R_slice ho; have BA := Lib.hid hb; have RA := Lib.hid ho; clear ho hb hg1 hat))
 go_wp2_with (fail)
 refine (schema_ints.calls 3 2 [2, 2, 2] _ (by decide +kernel)).mono ?_
 rintro e w7 ⟨v, rfl, ho, hb⟩
 obtain ⟨A7, c7, rfl⟩ := Kd.R_slice ho
 have B7 := Lib.hid hb
 have R7 := Lib.hid ho
 clear ho hb
 go_wp2_with (fail)
 have Z1 := Lib.hid (Kd.R_below (Kd.R_below (Kd.R_below (Kd.R_below (Kd.R_below (Kd.R_below R1.out B2.out) B3.out) B4.out) B5.out) BA.out) B7.out)
 have Z2 := Lib.hid (Kd.R_below (Kd.R_below (Kd.R_below (Kd.R_below (Kd.R_below R2.out B3.out) B4.out) B5.out) BA.out) B7.out)
 have Z3 := Lib.hid (Kd.R_below (Kd.R_below (Kd.R_below (Kd.R_below R3.out B4.out) B5.out) BA.out) B7.out)
 have Z4 := Lib.hid (Kd.R_below (Kd.R_below (Kd.R_below R4.out B5.out) BA.out) B7.out)
 have Z5 := Lib.hid (Kd.R_below (Kd.R_below R5.out BA.out) B7.out)
 have Z6 := Lib.hid (Kd.R_below RA.out B7.out)
 have Z7 := Lib.hid R7.out
 have BKL := Lib.hid (blk_below (blk_below (blk_below (blk_below (blk_below (blk_below (blk_below BK.out B1.out) B2.out) B3.out) B4.out) B5.out) BA.out) B7.out)
 have HBL := Lib.hid (below_step (below_step (below_step (below_step (below_step (below_step (below_step HB.out B1.out) B2.out) B3.out) B4.out) B5.out) BA.out) B7.out)
 have G1 := Lib.hid (show g < w0.heap.size from by have := hgs.out; have := B1.out.size; have := B2.out.size; have := B3.out.size; have := B4.out.size; have := B5.out.size; have := BA.out.size; have := B7.out.size; omega)
 have G2 := Lib.hid (show g < w1.heap.size from by have := hgs.out; have := B1.out.size; have := B2.out.size; have := B3.out.size; have := B4.out.size; have := B5.out.size; have := BA.out.size; have := B7.out.size; omega)
 have G3 := Lib.hid (show g < w2.heap.size from by have := hgs.out; have := B1.out.size; have := B2.out.size; have := B3.out.size; have := B4.out.size; have := B5.out.size; have := BA.out.size; have := B7.out.size; omega)
 have G4 := Lib.hid (show g < w3.heap.size from by have := hgs.out; have := B1.out.size; have := B2.out.size; have := B3.out.size; have := B4.out.size; have := B5.out.size; have := BA.out.size; have := B7.out.size; omega)
 have G5 := Lib.hid (show g < w4.heap.size from by have := hgs.out; have := B1.out.size; have := B2.out.size; have := B3.out.size; have := B4.out.size; have := B5.out.size; have := BA.out.size; have := B7.out.size; omega)
 have G6 := Lib.hid (show g < w5.heap.size from by have := hgs.out; have := B1.out.size; have := B2.out.size; have := B3.out.size; have := B4.out.size; have := B5.out.size; have := BA.out.size; have := B7.out.size; omega)
 have G7 := Lib.hid (show g < wa.heap.size from by have := hgs.out; have := B1.out.size; have := B2.out.size; have := B3.out.size; have := B4.out.size; have := B5.out.size; have := BA.out.size; have := B7.out.size; omega)
 by_cases k1 : a0 = 1
 ·subst k1
  have h := H.out
  simp only [show schema_New.f 1 = some (([] : List Int), 1, 0, (-1), true) from rfl, Option.some.injEq, Prod.mk.injEq] at h
  obtain ⟨rfl, rfl, rfl, rfl, rfl⟩ := h
  refine (find_some ⟨w7.heap.size, 0, none⟩ 9 9 1 none 0 0 1 0 (-1) _ (by decide) (by decide) (fun w' hb => schema_New.cells (heap_alloc_new w7 _) hb 4 _ _ _ _ rfl rfl rfl rfl)).mono ?_
  rintro e w8 ⟨rfl, hbf⟩
  have BK8 := Aside0.mk (blk_below (blk_alloc BKL.out _) hbf)
  have hcz0 : w8.cell? ⟨g, 0, none⟩ = some (.slice none 0 0) := (blk_cell BK8.out 0).trans rfl
  have hcz1 : w8.cell? ⟨g, 1, none⟩ = some (.int .i64 0) := (blk_cell BK8.out 1).trans rfl
  have hcz2 : w8.cell? ⟨g, 2, none⟩ = some (.int .i64 0) := (blk_cell BK8.out 2).trans rfl
  have hcz3 : w8.cell? ⟨g, 3, none⟩ = some (.int .i64 0) := (blk_cell BK8.out 3).trans rfl
  have hf0 := blk_frozen BK8.out 0
  have hf1 := blk_frozen BK8.out 1
  have hf2 := blk_frozen BK8.out 2
  have hf3 := blk_frozen BK8.out 3
  have HB8 := Aside0.mk (below_step (below_alloc HBL.out _) hbf)
  have HF := Lib.hid hbf
  clear hbf
  go_wp2_with (fail)
  refine bodyPost_ret (results_ct rfl _ _ g 28 #[.slice none 0 0, .int .i64 1, .int .i64 0, .int .i64 (-1)] (0, 0) _ rfl (by refine blk_put (cs := #[.slice none 0 0, .int .i64 1, .int .i64 0, .int .i64 0]) ?_ 3 _ rfl; refine blk_put (cs := #[.slice none 0 0, .int .i64 1, .int .i64 0, .int .i64 0]) ?_ 2 _ rfl; refine blk_put (cs := #[.slice none 0 0, .int .i64 0, .int .i64 0, .int .i64 0]) ?_ 1 _ rfl; refine blk_put (cs := #[.slice none 0 0, .int .i64 0, .int .i64 0, .int .i64 0]) ?_ 0 _ rfl; (with_reducible repeat (first | refine blk_drewN ?_ _ | refine blk_drew ?_ | refine blk_alloc ?_ _)); exact BK8.out) Tryd.underlying28 rfl (by kernel_rfl)) rfl ?_
  exact ⟨_, rfl, Kd.R_nil _ _ _ _ _, by repeat (first | (with_reducible first | exact HB8.out | refine below_set ?_ hgl.out) | exact HB8.out)⟩
 by_cases k2 : a0 = 2
 ·subst k2
  have h := H.out
  simp only [show schema_New.f 2 = some (([2, 2, 2] : List Int), 0, 1, 1, true) from rfl, Option.some.injEq, Prod.mk.injEq] at h
  obtain ⟨rfl, rfl, rfl, rfl, rfl⟩ := h
  refine (find_some ⟨w7.heap.size, 0, none⟩ 9 9 2 A1 3 c1 0 1 1 _ (by decide) (by decide) (fun w' hb => schema_New.cells (heap_alloc_new w7 _) hb 8 _ _ _ _ rfl rfl rfl rfl)).mono ?_
  rintro e w8 ⟨rfl, hbf⟩
  have BK8 := Aside0.mk (blk_below (blk_alloc BKL.out _) hbf)
  have hcz0 : w8.cell? ⟨g, 0, none⟩ = some (.slice none 0 0) := (blk_cell BK8.out 0).trans rfl
  have hcz1 : w8.cell? ⟨g, 1, none⟩ = some (.int .i64 0) := (blk_cell BK8.out 1).trans rfl
  have hcz2 : w8.cell? ⟨g, 2, none⟩ = some (.int .i64 0) := (blk_cell BK8.out 2).trans rfl
  have hcz3 : w8.cell? ⟨g, 3, none⟩ = some (.int .i64 0) := (blk_cell BK8.out 3).trans rfl
  have hf0 := blk_frozen BK8.out 0
  have hf1 := blk_frozen BK8.out 1
  have hf2 := blk_frozen BK8.out 2
  have hf3 := blk_frozen BK8.out 3
  have HB8 := Aside0.mk (below_step (below_alloc HBL.out _) hbf)
  have HF := Lib.hid hbf
  clear hbf
  go_wp2_with (fail)
  refine bodyPost_ret (results_ct rfl _ _ g 28 #[.slice A1 3 c1, .int .i64 0, .int .i64 1, .int .i64 1] (0, 0) _ rfl (by refine blk_put (cs := #[.slice A1 3 c1, .int .i64 0, .int .i64 1, .int .i64 0]) ?_ 3 _ rfl; refine blk_put (cs := #[.slice A1 3 c1, .int .i64 0, .int .i64 0, .int .i64 0]) ?_ 2 _ rfl; refine blk_put (cs := #[.slice A1 3 c1, .int .i64 0, .int .i64 0, .int .i64 0]) ?_ 1 _ rfl; refine blk_put (cs := #[.slice none 0 0, .int .i64 0, .int .i64 0, .int .i64 0]) ?_ 0 _ rfl; (with_reducible repeat (first | refine blk_drewN ?_ _ | refine blk_drew ?_ | refine blk_alloc ?_ _)); exact BK8.out) Tryd.underlying28 rfl (by kernel_rfl)) rfl ?_
  exact ⟨_, rfl, Kd.R_lower (schema_New.far (Kd.R_below (Kd.R_alloc Z1.out _) HF.out) G1.out _ _ _ _) (Nat.le_of_lt (Nat.lt_of_le_of_lt hgl.out G1.out)), by repeat (first | (with_reducible first | exact HB8.out | refine below_set ?_ hgl.out) | exact HB8.out)⟩
 by_cases k3 : a0 = 3
 ·subst k3
  have h := H.out
  simp only [show schema_New.f 3 = some (([3, 3, 3] : List Int), 1, 0, 0, true) from rfl, Option.some.injEq, Prod.mk.injEq] at h
  obtain ⟨rfl, rfl, rfl, rfl, rfl⟩ := h
  refine (find_some ⟨w7.heap.size, 0, none⟩ 9 9 3 A2 3 c2 1 0 0 _ (by decide) (by decide) (fun w' hb => schema_New.cells (heap_alloc_new w7 _) hb 12 _ _ _ _ rfl rfl rfl rfl)).mono ?_
  rintro e w8 ⟨rfl, hbf⟩
  have BK8 := Aside0.mk (blk_below (blk_alloc BKL.out _) hbf)
  have hcz0 : w8.cell? ⟨g, 0, none⟩ = some (.slice none 0 0) := (blk_cell BK8.out 0).trans rfl
  have hcz1 : w8.cell? ⟨g, 1, none⟩ = some (.int .i64 0) := (blk_cell BK8.out 1).trans rfl
  have hcz2 : w8.cell? ⟨g, 2, none⟩ = some (.int .i64 0) := (blk_cell BK8.out 2).trans rfl
  have hcz3 : w8.cell? ⟨g, 3, none⟩ = some (.int .i64 0) := (blk_cell BK8.out 3).trans rfl
  have hf0 := blk_frozen BK8.out 0
  have hf1 := blk_frozen BK8.out 1
  have hf2 := blk_frozen BK8.out 2
  have hf3 := blk_frozen BK8.out 3
  have HB8 := Aside0.mk (below_step (below_alloc HBL.out _) hbf)
  have HF := Lib.hid hbf
  clear hbf
  go_wp2_with (fail)
  refine bodyPost_ret (results_ct rfl _ _ g 28 #[.slice A2 3 c2, .int .i64 1, .int .i64 0, .int .i64 0] (0, 0) _ rfl (by refine blk_put (cs := #[.slice A2 3 c2, .int .i64 1, .int .i64 0, .int .i64 0]) ?_ 3 _ rfl; refine blk_put (cs := #[.slice A2 3 c2, .int .i64 1, .int .i64 0, .int .i64 0]) ?_ 2 _ rfl; refine blk_put (cs := #[.slice A2 3 c2, .int .i64 0, .int .i64 0, .int .i64 0]) ?_ 1 _ rfl; refine blk_put (cs := #[.slice none 0 0, .int .i64 0, .int .i64 0, .int .i64 0]) ?_ 0 _ rfl; (with_reducible repeat (first | refine blk_drewN ?_ _ | refine blk_drew ?_ | refine blk_alloc ?_ _)); exact BK8.out) Tryd.underlying28 rfl (by kernel_rfl)) rfl ?_
  exact ⟨_, rfl, Kd.R_lower (schema_New.far (Kd.R_below (Kd.R_alloc Z2.out _) HF.out) G2.out _ _ _ _) (Nat.le_of_lt (Nat.lt_of_le_of_lt hgl.out G2.out)), by repeat (first | (with_reducible first | exact HB8.out | refine below_set ?_ hgl.out) | exact HB8.out)⟩
 by_cases k4 : a0 = 4
 ·subst k4
  have h := H.out
  simp only [show schema_New.f 4 = some (([3] : List Int), 1, 0, 0, true) from rfl, Option.some.injEq, Prod.mk.injEq] at h
  obtain ⟨rfl, rfl, rfl, rfl, rfl⟩ := h
  refine (find_some ⟨w7.heap.size, 0, none⟩ 9 9 4 A3 1 c3 1 0 0 _ (by decide) (by decide) (fun w' hb => schema_New.cells (heap_alloc_new w7 _) hb 16 _ _ _ _ rfl rfl rfl rfl)).mono ?_
  rintro e w8 ⟨rfl, hbf⟩
  have BK8 := Aside0.mk (blk_below (blk_alloc BKL.out _) hbf)
  have hcz0 : w8.cell? ⟨g, 0, none⟩ = some (.slice none 0 0) := (blk_cell BK8.out 0).trans rfl
  have hcz1 : w8.cell? ⟨g, 1, none⟩ = some (.int .i64 0) := (blk_cell BK8.out 1).trans rfl
  have hcz2 : w8.cell? ⟨g, 2, none⟩ = some (.int .i64 0) := (blk_cell BK8.out 2).trans rfl
  have hcz3 : w8.cell? ⟨g, 3, none⟩ = some (.int .i64 0) := (blk_cell BK8.out 3).trans rfl
  have hf0 := blk_frozen BK8.out 0
  have hf1 := blk_frozen BK8.out 1
  have hf2 := blk_frozen BK8.out 2
  have hf3 := blk_frozen BK8.out 3
  have HB8 := Aside0.mk (below_step (below_alloc HBL.out _) hbf)
  have HF := Lib.hid hbf
  clear hbf
  go_wp2_with (fail)
  refine bodyPost_ret (results_ct rfl _ _ g 28 #[.slice A3 1 c3, .int .i64 1, .int .i64 0, .int .i64 0] (0, 0) _ rfl (by refine blk_put (cs := #[.slice A3 1 c3, .int .i64 1, .int .i64 0, .int .i64 0]) ?_ 3 _ rfl; refine blk_put (cs := #[.slice A3 1 c3, .int .i64 1, .int .i64 0, .int .i64 0]) ?_ 2 _ rfl; refine blk_put (cs := #[.slice A3 1 c3, .int .i64 0, .int .i64 0, .int .i64 0]) ?_ 1 _ rfl; refine blk_put (cs := #[.slice none 0 0, .int .i64 0, .int .i64 0, .int .i64 0]) ?_ 0 _ rfl; (with_reducible repeat (first | refine blk_drewN ?_ _ | refine blk_drew ?_ | refine blk_alloc ?_ _)); exact BK8.out) Tryd.underlying28 rfl (by kernel_rfl)) rfl ?_
  exact ⟨_, rfl, Kd.R_lower (schema_New.far (Kd.R_below (Kd.R_alloc Z3.out _) HF.out) G3.out _ _ _ _) (Nat.le_of_lt (Nat.lt_of_le_of_lt hgl.out G3.out)), by repeat (first | (with_reducible first | exact HB8.out | refine below_set ?_ hgl.out) | exact HB8.out)⟩
 by_cases k5 : a0 = 5
 ·subst k5
  have h := H.out
  simp only [show schema_New.f 5 = some (([3] : List Int), 2, 0, 0, true) from rfl, Option.some.injEq, Prod.mk.injEq] at h
  obtain ⟨rfl, rfl, rfl, rfl, rfl⟩ := h
  refine (find_some ⟨w7.heap.size, 0, none⟩ 9 9 5 A4 1 c4 2 0 0 _ (by decide) (by decide) (fun w' hb => schema_New.cells (heap_alloc_new w7 _) hb 20 _ _ _ _ rfl rfl rfl rfl)).mono ?_
  rintro e w8 ⟨rfl, hbf⟩
  have BK8 := Aside0.mk (blk_below (blk_alloc BKL.out _) hbf)
  have hcz0 : w8.cell? ⟨g, 0, none⟩ = some (.slice none 0 0) := (blk_cell BK8.out 0).trans rfl
  have hcz1 : w8.cell? ⟨g, 1, none⟩ = some (.int .i64 0) := (blk_cell BK8.out 1).trans rfl
  have hcz2 : w8.cell? ⟨g, 2, none⟩ = some (.int .i64 0) := (blk_cell BK8.out 2).trans rfl
  have hcz3 : w8.cell? ⟨g, 3, none⟩ = some (.int .i64 0) := (blk_cell BK8.out 3).trans rfl
  have hf0 := blk_frozen BK8.out 0
  have hf1 := blk_frozen BK8.out 1
  have hf2 := blk_frozen BK8.out 2
  have hf3 := blk_frozen BK8.out 3
  have HB8 := Aside0.mk (below_step (below_alloc HBL.out _) hbf)
  have HF := Lib.hid hbf
  clear hbf
  go_wp2_with (fail)
  refine bodyPost_ret (results_ct rfl _ _ g 28 #[.slice A4 1 c4, .int .i64 2, .int .i64 0, .int .i64 0] (0, 0) _ rfl (by refine blk_put (cs := #[.slice A4 1 c4, .int .i64 2, .int .i64 0, .int .i64 0]) ?_ 3 _ rfl; refine blk_put (cs := #[.slice A4 1 c4, .int .i64 2, .int .i64 0, .int .i64 0]) ?_ 2 _ rfl; refine blk_put (cs := #[.slice A4 1 c4, .int .i64 0, .int .i64 0, .int .i64 0]) ?_ 1 _ rfl; refine blk_put (cs := #[.slice none 0 0, .int .i64 0, .int .i64 0, .int .i64 0]) ?_ 0 _ rfl; (with_reducible repeat (first | refine blk_drewN ?_ _ | refine blk_drew ?_ | refine blk_alloc ?_ _)); exact BK8.out) Tryd.underlying28 rfl (by kernel_rfl)) rfl ?_
  exact ⟨_, rfl, Kd.R_lower (schema_New.far (Kd.R_below (Kd.R_alloc Z4.out _) HF.out) G4.out _ _ _ _) (Nat.le_of_lt (Nat.lt_of_le_of_lt hgl.out G4.out)), by repeat (first | (with_reducible first | exact HB8.out | refine below_set ?_ hgl.out) | exact HB8.out)⟩
 by_cases k6 : a0 = 6
 ·subst k6
  have h := H.out
  simp only [show schema_New.f 6 = some (([1] : List Int), 0, 0, (-1), true) from rfl, Option.some.injEq, Prod.mk.injEq] at h
  obtain ⟨rfl, rfl, rfl, rfl, rfl⟩ := h
  refine (find_some ⟨w7.heap.size, 0, none⟩ 9 9 6 A5 1 c5 0 0 (-1) _ (by decide) (by decide) (fun w' hb => schema_New.cells (heap_alloc_new w7 _) hb 24 _ _ _ _ rfl rfl rfl rfl)).mono ?_
  rintro e w8 ⟨rfl, hbf⟩
  have BK8 := Aside0.mk (blk_below (blk_alloc BKL.out _) hbf)
  have hcz0 : w8.cell? ⟨g, 0, none⟩ = some (.slice none 0 0) := (blk_cell BK8.out 0).trans rfl
  have hcz1 : w8.cell? ⟨g, 1, none⟩ = some (.int .i64 0) := (blk_cell BK8.out 1).trans rfl
  have hcz2 : w8.cell? ⟨g, 2, none⟩ = some (.int .i64 0) := (blk_cell BK8.out 2).trans rfl
  have hcz3 : w8.cell? ⟨g, 3, none⟩ = some (.int .i64 0) := (blk_cell BK8.out 3).trans rfl
  have hf0 := blk_frozen BK8.out 0
  have hf1 := blk_frozen BK8.out 1
  have hf2 := blk_frozen BK8.out 2
  have hf3 := blk_frozen BK8.out 3
  have HB8 := Aside0.mk (below_step (below_alloc HBL.out _) hbf)
  have HF := Lib.hid hbf
  clear hbf
  go_wp2_with (fail)
  refine bodyPost_ret (results_ct rfl _ _ g 28 #[.slice A5 1 c5, .int .i64 0, .int .i64 0, .int .i64 (-1)] (0, 0) _ rfl (by refine blk_put (cs := #[.slice A5 1 c5, .int .i64 0, .int .i64 0, .int .i64 0]) ?_ 3 _ rfl; refine blk_put (cs := #[.slice A5 1 c5, .int .i64 0, .int .i64 0, .int .i64 0]) ?_ 2 _ rfl; refine blk_put (cs := #[.slice A5 1 c5, .int .i64 0, .int .i64 0, .int .i64 0]) ?_ 1 _ rfl; refine blk_put (cs := #[.slice none 0 0, .int .i64 0, .int .i64 0, .int .i64 0]) ?_ 0 _ rfl; (with_reducible repeat (first | refine blk_drewN ?_ _ | refine blk_drew ?_ | refine blk_alloc ?_ _)); exact BK8.out) Tryd.underlying28 rfl (by kernel_rfl)) rfl ?_
  exact ⟨_, rfl, Kd.R_lower (schema_New.far (Kd.R_below (Kd.R_alloc Z5.out _) HF.out) G5.out _ _ _ _) (Nat.le_of_lt (Nat.lt_of_le_of_lt hgl.out G5.out)), by repeat (first | (with_reducible first | exact HB8.out | refine below_set ?_ hgl.out) | exact HB8.out)⟩
 by_cases k7 : a0 = 7
 ·subst k7
  have h := H.out
  simp only [show schema_New.f 7 = some (([4, 4, 4, 5] : List Int), 0, 0, 0, true) from rfl, Option.some.injEq, Prod.mk.injEq] at h
  obtain ⟨rfl, rfl, rfl, rfl, rfl⟩ := h
  refine (find_some ⟨w7.heap.size, 0, none⟩ 9 9 7 AA 4 ca 0 0 0 _ (by decide) (by decide) (fun w' hb => schema_New.cells (heap_alloc_new w7 _) hb 28 _ _ _ _ rfl rfl rfl rfl)).mono ?_
  rintro e w8 ⟨rfl, hbf⟩
  have BK8 := Aside0.mk (blk_below (blk_alloc BKL.out _) hbf)
  have hcz0 : w8.cell? ⟨g, 0, none⟩ = some (.slice none 0 0) := (blk_cell BK8.out 0).trans rfl
  have hcz1 : w8.cell? ⟨g, 1, none⟩ = some (.int .i64 0) := (blk_cell BK8.out 1).trans rfl
  have hcz2 : w8.cell? ⟨g, 2, none⟩ = some (.int .i64 0) := (blk_cell BK8.out 2).trans rfl
  have hcz3 : w8.cell? ⟨g, 3, none⟩ = some (.int .i64 0) := (blk_cell BK8.out 3).trans rfl
  have hf0 := blk_frozen BK8.out 0
  have hf1 := blk_frozen BK8.out 1
  have hf2 := blk_frozen BK8.out 2
  have hf3 := blk_frozen BK8.out 3
  have HB8 := Aside0.mk (below_step (below_alloc HBL.out _) hbf)
  have HF := Lib.hid hbf
  clear hbf
  go_wp2_with (fail)
  refine bodyPost_ret (results_ct rfl _ _ g 28 #[.slice AA 4 ca, .int .i64 0, .int .i64 0, .int .i64 0] (0, 0) _ rfl (by refine blk_put (cs := #[.slice AA 4 ca, .int .i64 0, .int .i64 0, .int .i64 0]) ?_ 3 _ rfl; refine blk_put (cs := #[.slice AA 4 ca, .int .i64 0, .int .i64 0, .int .i64 0]) ?_ 2 _ rfl; refine blk_put (cs := #[.slice AA 4 ca, .int .i64 0, .int .i64 0, .int .i64 0]) ?_ 1 _ rfl; refine blk_put (cs := #[.slice none 0 0, .int .i64 0, .int .i64 0, .int .i64 0]) ?_ 0 _ rfl; (with_reducible repeat (first | refine blk_drewN ?_ _ | refine blk_drew ?_ | refine blk_alloc ?_ _)); exact BK8.out) Tryd.underlying28 rfl (by kernel_rfl)) rfl ?_
  exact ⟨_, rfl, Kd.R_lower (schema_New.far (Kd.R_below (Kd.R_alloc Z6.out _) HF.out) G6.out _ _ _ _) (Nat.le_of_lt (Nat.lt_of_le_of_lt hgl.out G6.out)), by repeat (first | (with_reducible first | exact HB8.out | refine below_set ?_ hgl.out) | exact HB8.out)⟩
 by_cases k8 : a0 = 8
 ·subst k8
  have h := H.out
  simp only [show schema_New.f 8 = some (([2, 2, 2] : List Int), 0, 1, 1, true) from rfl, Option.some.injEq, Prod.mk.injEq] at h
  obtain ⟨rfl, rfl, rfl, rfl, rfl⟩ := h
  refine (find_some ⟨w7.heap.size, 0, none⟩ 9 9 8 A7 3 c7 0 1 1 _ (by decide) (by decide) (fun w' hb => schema_New.cells (heap_alloc_new w7 _) hb 32 _ _ _ _ rfl rfl rfl rfl)).mono ?_
  rintro e w8 ⟨rfl, hbf⟩
  have BK8 := Aside0.mk (blk_below (blk_alloc BKL.out _) hbf)
  have hcz0 : w8.cell? ⟨g, 0, none⟩ = some (.slice none 0 0) := (blk_cell BK8.out 0).trans rfl
  have hcz1 : w8.cell? ⟨g, 1, none⟩ = some (.int .i64 0) := (blk_cell BK8.out 1).trans rfl
  have hcz2 : w8.cell? ⟨g, 2, none⟩ = some (.int .i64 0) := (blk_cell BK8.out 2).trans rfl
  have hcz3 : w8.cell? ⟨g, 3, none⟩ = some (.int .i64 0) := (blk_cell BK8.out 3).trans rfl
  have hf0 := blk_frozen BK8.out 0
  have hf1 := blk_frozen BK8.out 1
  have hf2 := blk_frozen BK8.out 2
  have hf3 := blk_frozen BK8.out 3
  have HB8 := Aside0.mk (below_step (below_alloc HBL.out _) hbf)
  have HF := Lib.hid hbf
  clear hbf
  go_wp2_with (fail)
  refine bodyPost_ret (results_ct rfl _ _ g 28 #[.slice A7 3 c7, .int .i64 0, .int .i64 1, .int .i64 1] (0, 0) _ rfl (by refine blk_put (cs := #[.slice A7 3 c7, .int .i64 0, .int .i64 1, .int .i64 0]) ?_ 3 _ rfl; refine blk_put (cs := #[.slice A7 3 c7, .int .i64 0, .int .i64 0, .int .i64 0]) ?_ 2 _ rfl; refine blk_put (cs := #[.slice A7 3 c7, .int .i64 0, .int .i64 0, .int .i64 0]) ?_ 1 _ rfl; refine blk_put (cs := #[.slice none 0 0, .int .i64 0, .int .i64 0, .int .i64 0]) ?_ 0 _ rfl; (with_reducible repeat (first | refine blk_drewN ?_ _ | refine blk_drew ?_ | refine blk_alloc ?_ _)); exact BK8.out) Tryd.underlying28 rfl (by kernel_rfl)) rfl ?_
  exact ⟨_, rfl, Kd.R_lower (schema_New.far (Kd.R_below (Kd.R_alloc Z7.out _) HF.out) G7.out _ _ _ _) (Nat.le_of_lt (Nat.lt_of_le_of_lt hgl.out G7.out)), by repeat (first | (with_reducible first | exact HB8.out | refine below_set ?_ hgl.out) | exact HB8.out)⟩
 have h := H.out
 have hz : schema_New.f a0 = some (([] : List Int), 0, 0, 0, false) := by unfold schema_New.f; rw [if_neg k1, if_neg k2, if_neg k3, if_neg k4, if_neg k5, if_neg k6, if_neg k7, if_neg k8]
 rw [hz] at h
 simp only [Option.some.injEq, Prod.mk.injEq] at h
 obtain ⟨rfl, rfl, rfl, rfl, rfl⟩ := h
 refine (find_none _ 9 9 a0 _ (by omega)).mono ?_
 rintro e w8 ⟨rfl, hbf⟩
 have BK8 := Aside0.mk (blk_below (blk_alloc BKL.out _) hbf)
 have hcz0 : w8.cell? ⟨g, 0, none⟩ = some (.slice none 0 0) := (blk_cell BK8.out 0).trans rfl
 have hcz1 : w8.cell? ⟨g, 1, none⟩ = some (.int .i64 0) := (blk_cell BK8.out 1).trans rfl
 have hcz2 : w8.cell? ⟨g, 2, none⟩ = some (.int .i64 0) := (blk_cell BK8.out 2).trans rfl
 have hcz3 : w8.cell? ⟨g, 3, none⟩ = some (.int .i64 0) := (blk_cell BK8.out 3).trans rfl
 have hf0 := blk_frozen BK8.out 0
 have hf1 := blk_frozen BK8.out 1
 have hf2 := blk_frozen BK8.out 2
 have hf3 := blk_frozen BK8.out 3
 have HB8 := Aside0.mk (below_step (below_alloc HBL.out _) hbf)
 have HF := Lib.hid hbf
 clear hbf
 go_wp2_with (fail)
 refine bodyPost_ret (results_ct rfl _ _ g 28 #[.slice none 0 0, .int .i64 0, .int .i64 0, .int .i64 0] (0, 0) _ rfl (by refine blk_put (cs := #[.slice none 0 0, .int .i64 0, .int .i64 0, .int .i64 0]) ?_ 3 _ rfl; refine blk_put (cs := #[.slice none 0 0, .int .i64 0, .int .i64 0, .int .i64 0]) ?_ 2 _ rfl; refine blk_put (cs := #[.slice none 0 0, .int .i64 0, .int .i64 0, .int .i64 0]) ?_ 1 _ rfl; refine blk_put (cs := #[.slice none 0 0, .int .i64 0, .int .i64 0, .int .i64 0]) ?_ 0 _ rfl; (with_reducible repeat (first | refine blk_drewN ?_ _ | refine blk_drew ?_ | refine blk_alloc ?_ _)); exact BK8.out) Tryd.underlying28 rfl (by kernel_rfl)) rfl ?_
 exact ⟨_, rfl, Kd.R_nil _ _ _ _ _, by repeat (first | (with_reducible first | exact HB8.out | refine below_set ?_ hgl.out) | exact HB8.out)⟩


end Go.Proofs.YtmglknchklgokaaDoor.GY
