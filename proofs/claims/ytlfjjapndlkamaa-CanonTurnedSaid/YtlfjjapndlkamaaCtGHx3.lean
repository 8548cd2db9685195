-- Printed by a program of the session (wip/gen/tprint.py, over a turned copy of the kit's print): Lean checks it.
import Derived.Test.YtlfjjapndlkamaaCtGHx0
import Derived.Test.YtlfjjapndlkamaaCtGHx2
namespace Go.Proofs.Ytlfjjapndlkamaa.GH
open Go.RowKit Go.Proofs.YtlfjjapndlkamaaW.PrintWords Go.Proofs.YtlfjjapndlkamaaW.PrintLast Go.Proofs.YtlfjjapndlkamaaW.PrintMore
attribute [local go_sem] max2_int min2_int max_two min_two max_three min_three max_four min_four   -- for this text's walks alone
set_option linter.unusedVariables false
set_option linter.unusedSimpArgs false

/-! ### canon_order: function 42 -/
section
open Go.Lib
/-- 'm[j] = true' in a literal. -/
theorem wpList_insert {ops : Array Oper} {rest : List Oper} {o : Oper} {a : Act} {Q : Exit → Act → World → Prop} (w : World)
  (hg : o.guard = none) (m x v : Operand) (hop : o.op = Op.insert 44 m x v) (b n : Nat) (met : List Nat) (hown : Set.IsSet w b n met) (j : Nat) (hj : j ≤ 9223372036854775807) (ji : Int) (hji : ji = (j : Int)) (hn : n < maxLen)
  (hm : a.eval m = .map (some b)) (hx : a.eval x = .int .i64 ji) (hv : a.eval v = .bool true)
  (hK : ∀ w', Set.IsSet w' b (n + 1) (j :: met) → w.grownBy w' (some b) → wpList Try.prog ops Q rest (a.put o.dst undef) w') :
  wpList Try.prog ops Q (o :: rest) a w := by
 subst hji; refine wpList_plain hg fun K' hK' => ?_
 obtain ⟨w', hrun, r1, r2⟩ := hown.store hj hn; unfold Oper.wp
 simp [execOp, hop, hm, hx, hv, hrun, Result.andThen]
 exact hK' _ _ (hK w' r1 r2)
/-- The stack's cells, its top last. -/
def stackV (st : List (Nat × Nat)) : List Value := st.flatMap fun p => [.int .i64 (p.1 : Int), .int .i64 (p.2 : Int)]
theorem stackV_len : ∀ st : List (Nat × Nat), (stackV st).length = st.length * 2
 | [] => rfl
 | p :: st => by
  have := stackV_len st; unfold stackV at this ⊢
  rw [List.flatMap_cons, List.length_append, this, List.length_cons]; simp
  omega
theorem stackV_snoc (st : List (Nat × Nat)) (p : Nat × Nat) : stackV (st ++ [p]) = stackV st ++ [.int .i64 (p.1 : Int), .int .i64 (p.2 : Int)] := by
 unfold stackV
 rw [List.flatMap_append]; simp
/-- Two rows of different types are not one. -/
theorem own_apart {w : World} {b b' e e' s s' n n' : Nat} {v v' : Value} {xs ys : List Value} (h : w.ownsRow b e s v n xs) (h2 : w.ownsRow b' e' s' v' n' ys) (he : e ≠ e') : v.ownBlock = none ∨ v.ownBlock ≠ v'.ownBlock := by
 rcases h.2 with ⟨rfl, _⟩ | ⟨g, cap, cur, rfl, hg, hh, _⟩
 ·exact .inl rfl
 ·refine .inr (fun hx => ?_)
  rcases h2.2 with ⟨rfl, _⟩ | ⟨g', cap', cur', rfl, hg', hh', _⟩
  ·simp [Value.ownBlock] at hx
  ·simp [Value.ownBlock] at hx
   subst hx; rw [hh] at hh'; simp only [Option.some.injEq, Obj.cells.injEq] at hh'
   exact he hh'.2.1
/-- A row cut by its last element. -/
theorem own_cut2 {w : World} {base e g n cap : Nat} {xs : List Value} {x y : Value} (h : w.ownsRow base e 2 (.slice (some ⟨g, 0, none⟩) (n + 1) cap) (n + 1) (xs ++ [x, y])) : w.ownsRow base e 2 (.slice (some ⟨g, 0, none⟩) n cap) n xs := by
 obtain ⟨hl, h2⟩ := h; have hx : xs.length = n * 2 := by simp at hl; omega
 refine ⟨hx, ?_⟩
 rcases h2 with ⟨h2, _⟩ | ⟨g', cap', cur, hv, hg, hh, hn, hc, hs, ht⟩
 ·cases h2
 ·cases hv
  refine .inr ⟨g, cap, cur, rfl, hg, hh, by omega, hc, hs, ?_⟩
  have : (cur.toList.take ((n + 1) * 2)).take (n * 2) = (xs ++ [x, y]).take (n * 2) := by rw [ht]
  rw [List.take_take, Nat.min_eq_left (by omega), ← hx, List.take_left] at this
  rw [← hx]; exact this
theorem own_cap {w : World} {base e s g n cap n' : Nat} {xs : List Value} (h : w.ownsRow base e s (.slice (some ⟨g, 0, none⟩) n cap) n' xs) : n ≤ cap ∧ cap ≤ maxLen := by
 rcases h.2 with ⟨h, _⟩ | ⟨g', cap', cur, hv, _, _, hn, hm, _⟩
 ·cases h
 ·cases hv; exact ⟨hn, hm⟩
set_option maxHeartbeats 8000000 in
set_option maxRecDepth 100000 in
theorem corder_calls (A0 : Option Addr) (c0 : Nat) (l0 : List (S40)) (a1 : Int) (w : World) (hr0 : Kd.C k40 w A0 l0.length l0) (hc0 : l0.length ≤ c0) (hlen : l0.length ≤ 1000000) (hsum : ((kidsI l0).map List.length).sum ≤ 1000000)
  (h0 : 0 ≤ a1) (h1 : a1 < (l0.length : Int)) (hgood : GT.firstBad (kidsI l0) = none) (o : List Nat) (ho : GT.ordL (GT.toG (kidsI l0)) 10000000 [(a1.toNat, 0)] [a1.toNat] [] = some o) :
  Calls Try.prog 42 #[.agg #[.slice A0 l0.length c0, .int .i64 a1]] w fun e w' => ∃ v0_ : Value, e = .returned (v0_) ∧ Kd.R (Kd.int .i64) 3 w' w.heap.size (fun _ => True) v0_ (intsOf o) ∧ Below w.heap.size w w' := by
 have HW := Lib.hid (GT.wf_of_firstBad hgood); have HR := Lib.hid hr0; have HS := Lib.hid hsum; have HG := Lib.hid hgood; have HO := Lib.hid ho; have HU := Lib.hid hc0; clear hr0 hsum hgood ho hc0; have hmm := @run_makeMap Try.prog; obtain ⟨r, hr⟩ : ∃ r : Nat, a1 = (r : Int) := ⟨a1.toNat, by omega⟩
 have HRT := Lib.hid hr; have hrl : r < l0.length := by omega
 have hrw : r ≤ 9223372036854775807 := by omega
 have HO2 : Hid (GT.ordL (GT.toG (kidsI l0)) 10000000 [(r, 0)] [r] [] = some o) := Lib.hid (by have h := HO.out; rw [hr, Int.toNat_natCast] at h; exact h)
 clear HO hr; go_enter Try.func42, Try.ntmps42
 go_wp2_with (first
  | (refine wpList_insert _ rfl _ _ _ rfl (w.heap.size + 1) 0 [] (by have := Set.made (w.alloc (.cells #[.slice A0 l0.length c0, .int .i64 a1] 24)); simpa using this) r hrw a1 HRT.out (by unfold maxLen; omega) rfl rfl rfl ?_; intro w5 hset5 hg5; have HS5 := Lib.hid hset5; have HB5 := Lib.hid (Kw.grown_below (((Below.refl _ w).alloc (Nat.le_refl _) (.cells #[.slice A0 l0.length c0, .int .i64 a1] 24)).alloc (by simp) (.map #[] 0)) hg5 (fun g h => by cases h; omega)); have HX5 : Hid (SBox w5 w.heap.size A0 l0.length c0 a1) := Lib.hid ((hg5.block w.heap.size (by simp; omega) (by simp)).trans (blk_alloc (heap_alloc_new w _) _)); have q1 : w5.cell? ⟨w.heap.size, 1, none⟩ = some (.int .i64 a1) := (blk_cell HX5.out 1).trans rfl; have hsz5 : w.heap.size + 2 ≤ w5.heap.size := (by have := hg5.size; simp at this; omega); have HZ5 := Lib.hid hsz5; clear hset5 hg5 hsz5))
 clear q1; obtain ⟨iI, hiI, hzI0, hzI1, hzI2⟩ := info_parts (show (Try.prog.info? 3).map (fun i => (i.zero, i.size, i.bytes)) = some (some (.int .i64 0), 1, 8) from by kernel_rfl)
 obtain ⟨iF, hiF, hzF0, hzF1, hzF2⟩ := info_parts (show (Try.prog.info? 67).map (fun i => (i.zero, i.size, i.bytes)) = some (some (.agg #[.int .i64 0, .int .i64 0]), 2, 16) from by kernel_rfl)
 go_loopg [3, 5] 10000000 (fun kq v3 v5 wr => ∃ (S : List (Nat × Nat)) (met out : List Nat) (m : Nat), Aside0 (GT.ordL (GT.toG (kidsI l0)) kq S met out = some o) ∧ Aside0 (wr.ownsRow (w.heap.size + 2) 67 2 v5 S.length (stackV S.reverse)) ∧ Aside0 (wr.ownsRow (w.heap.size + 2) 3 1 v3 out.length ((intsOf out).map (Value.int .i64))) ∧ Aside0 (Set.IsSet wr (w.heap.size + 1) m met ∧ m + kq ≤ 10000001) ∧
   Aside0 (∀ s ∈ S, s.1 < l0.length ∧ s.2 ≤ (GT.kids (GT.toG (kidsI l0)) s.1).length) ∧ Aside0 (S.length + kq ≤ 10000001) ∧ Aside0 (out.length + kq ≤ 10000000) ∧ Aside0 (SBox wr w.heap.size A0 l0.length c0 a1) ∧ Aside0 (Below w.heap.size w wr))
 case atStart =>
  refine ⟨[(r, 0)], [r], [], 1, ⟨HO2.out⟩, ⟨?_⟩, ⟨?_⟩, ⟨?_, by omega⟩, ⟨?_⟩, ⟨by simp⟩, ⟨by simp⟩, ⟨?_⟩, ⟨?_⟩⟩
  ·have hz := HZ5.out; rw [HRT.out]; exact ⟨rfl, .inr ⟨w5.heap.size, 1, #[.int .i64 (r : Int), .int .i64 0], rfl, hz, heap_alloc_new w5 _, Nat.le_refl _, by unfold maxLen; omega, rfl, rfl⟩⟩
  ·exact ⟨rfl, .inl ⟨rfl, rfl⟩⟩
  ·exact HS5.out.alloc _
  ·intro s hs
   rw [List.mem_singleton] at hs; subst hs; exact ⟨hrl, Nat.zero_le _⟩
  ·exact blk_alloc HX5.out _
  ·exact HB5.out.alloc (by have := HZ5.out; omega) _
 case round =>
  obtain ⟨S, met, out, m, hord, hst, hout, hset, hin, hsl, hol, hbx, hbel⟩ := hrel; have q0 : wr.cell? ⟨w.heap.size, 0, none⟩ = some (.slice A0 l0.length c0) := (blk_cell hbx.out 0).trans rfl; cases gk with
  | zero => have := hord.out; simp [GT.ordL] at this
  | succ gk =>
   cases S with
   | nil =>
    have hform : ∃ A c, u5 = .slice A 0 c := by
     rcases hst.out.2 with ⟨rfl, _⟩ | ⟨g, cap, cur, rfl, _⟩
     ·exact ⟨_, _, rfl⟩
     ·exact ⟨_, _, rfl⟩
    obtain ⟨A, c, rfl⟩ := hform; go_wp2_with (fail)
    go_ret
    have h := hord.out; rw [GT.ordL] at h; obtain rfl := Option.some.inj h; exact ⟨_, rfl, Kd.R_lower (Kw.R_of_own (by rw [intsOf_len]; exact hout.out)) (by omega), hbel.out⟩
   | cons p S =>
    obtain ⟨x, i⟩ := p; have hstd0 := hst.out.drew; have houtd := hout.out.drew; have hsetd := hset.out.1.drew; have hsetm := hset.out.2; have hbxd : SBox wr.drew w.heap.size A0 l0.length c0 a1 := blk_drew hbx.out; have hbeld := hbel.out.drew; have q0d : wr.drew.cell? ⟨w.heap.size, 0, none⟩ = some (.slice A0 l0.length c0) := q0; clear q0; obtain ⟨g, cap, hv⟩ : ∃ g cap, u5 = .slice (some ⟨g, 0, none⟩) (S.length + 1) cap := by
     rcases hstd0.2 with ⟨_, h0⟩ | ⟨g, cap, cur, hv, _⟩
     ·simp at h0
     ·exact ⟨g, cap, by simpa using hv⟩
    subst hv; have hst2 := hstd0; rw [List.length_cons, List.reverse_cons, stackV_snoc] at hst2; have hsr : (stackV S.reverse).length = S.length * 2 := by rw [stackV_len, List.length_reverse]
    obtain ⟨xi, hxi⟩ : ∃ z : Int, z = (x : Int) := ⟨_, rfl⟩; obtain ⟨ii, hii⟩ : ∃ z : Int, z = (i : Int) := ⟨_, rfl⟩; have hcx : wr.drew.cell? ⟨g, S.length * 2, none⟩ = some (.int .i64 xi) := by
     rw [hst2.cellAt _ (by omega), List.getElem?_append_right (by omega), hsr, hxi]
     simp
    have hc1 : wr.drew.cell? ⟨g, S.length * 2 + 1, none⟩ = some (.int .i64 ii) := by
     rw [hst2.cellAt _ (by omega), List.getElem?_append_right (by omega), hsr, hii]
     simp
    have hfr : wr.drew.frozen? ⟨g, S.length * 2 + 1, none⟩ = false := hst2.frozenAt _; have hcaps := own_cap hst2; have hcap := hcaps.1; have hcap2 := hcaps.2; have hgb : w.heap.size + 2 ≤ g := own_base hst2 g rfl; obtain ⟨hxl, hil⟩ := hin.out (x, i) (by simp)
    have hxl : x < l0.length := hxl; have hil : i ≤ (GT.kids (GT.toG (kidsI l0)) x).length := hil; have hin2 : ∀ s ∈ S, s.1 < l0.length ∧ s.2 ≤ (GT.kids (GT.toG (kidsI l0)) s.1).length := fun s hs => hin.out s (by simp [hs])
    have hxp : 0 ≤ xi := by omega
    have hxq : xi < (l0.length : Int) := by omega
    have hip : 0 ≤ ii := by omega
    obtain ⟨ad, A1, c1, A2, c2, A3, c3, e, hx0, hx1, hx2, hx3, hl1, hi1, hl2, hi2, hl3, hi3⟩ := at_T40 (Kd.C_below HR.out hbeld) xi hxp hxq; cases e
    have hkl : ((rd_T40 l0 xi).f3).length ≤ 1000000 := kid_len l0 HS.out xi; have hki : intsOf (GT.kids (GT.toG (kidsI l0)) x) = (rd_T40 l0 xi).f3 := by
     have h := kids_ints HG.out xi; rw [hxi, Int.toNat_natCast] at h; rw [hxi]; exact h
    have hkln : ((rd_T40 l0 xi).f3).length = (GT.kids (GT.toG (kidsI l0)) x).length := by rw [← hki, intsOf_len]
    have HI3 := Lib.hid hi3; have HIN := Lib.hid hin2; have HKI := Lib.hid hki; have HKN := Lib.hid hkln; have HXI := Lib.hid hxi; have HII := Lib.hid hii; have HST := Lib.hid hst2; have HSR := Lib.hid hsr; have hsz := hbeld.size; have hsz2 : w.heap.size + 2 ≤ wr.drew.heap.size := by have := (hst2.lt g rfl).2; omega
    have hsw : S.length ≤ 10000000 := by have := hsl.out; simp at this; omega
    have e1 : IntKind.i64.wrap ((S.length : Int) + 1 - 1) = S.length := IntWalk.i64_in _ (by omega) |>.trans (by omega)
    have hsl2 : S.length + 1 + (gk + 1) ≤ 10000001 := by have := hsl.out; simpa using this
    have HSL := Lib.hid hsl2; clear hst2 hsr hxi hii hx0 hx1 hx2 hl1 hi1 hl2 hi2 hi3 hin2 hki hkln hin hst hsl hcaps hsl2 hstd0 hset hout hbx hbel; go_wp2_with (fail)
    go_region_held3 (fun w' => w'.cell? ⟨w.heap.size, 0, none⟩ = some (.slice (some ad) l0.length c0) ∧ w'.cell? ⟨g, S.length * 2, none⟩ = some (.int .i64 xi) ∧ w'.cell? ⟨(ad.add (xi.toNat * 4)).block, (ad.add (xi.toNat * 4)).off + 3, none⟩ = some (.slice A3 (rd_T40 l0 xi).f3.length c3)) (go_keep) (fail)
    rename_i hS9; clear hS9; have HSET := Lib.hid hsetd; have HOUT := Lib.hid houtd; have HBX := Lib.hid hbxd; have HBEL := Lib.hid hbeld; have HSM := Lib.hid hsetm; clear hsetd houtd hbxd hbeld q0d hx3 hsetm; generalize wr.drew = wd at HSET HOUT HBX HBEL HST HI3 hcx hc1 hfr hsz hsz2 ⊢
    by_cases hik : i = (GT.kids (GT.toG (kidsI l0)) x).length
    ·have t4 : decide (ii = (((rd_T40 l0 xi).f3).length : Int)) = true := decide_eq_true (by have := HII.out; have := HKN.out; omega)
     have t4b : (ii == (((rd_T40 l0 xi).f3).length : Int)) = true := by simpa using t4
     go_wp2_with (at_builtin; refine wpList_append_own _ rfl _ _ 31 rfl (w.heap.size + 2) 3 iI (.int .i64 0) 1 8 Try.underlying31 hiI hzI0 hzI1 hzI2 rfl (by decide) u3 out.length ((intsOf out).map (Value.int .i64)) rfl (HOUT.out.alloc _) ⟨wd.heap.size, 0, none⟩ 1 1 [.int .i64 xi] rfl rfl (fun j u hj => by match j, hj with | 0, hj => cases hj; exact (blk_cell (heap_alloc_new wd _) 0).trans rfl) (fun u hu => by rw [List.mem_singleton] at hu; subst hu; rfl) (by have := hol.out; unfold maxLen; omega) (by have := hol.out; omega) (by simp; omega) ?_; intro v2 w2 hown2 hgrow2 hnil2)
     go_wp2_with (fail)
     go_roundg gk
     case measure => omega
     case rel =>
      have hap := own_apart (HST.out.alloc (.cells #[.int .i64 xi] 3)) (HOUT.out.alloc (.cells #[.int .i64 xi] 3)) (by decide)
      have hob := own_base HOUT.out; refine ⟨S, met, out ++ [x], m, ⟨?_⟩, ⟨(own_cut2 (HST.out.alloc _)).kept hgrow2 hap⟩, ⟨?_⟩, ⟨(HSET.out.alloc _).kept hgrow2 (fun h => by have := hob _ h.symm; omega), by have := HSM.out; omega⟩, ⟨HIN.out⟩, ⟨by have := HSL.out; omega⟩, ⟨by have := hol.out; simp; omega⟩, ⟨(hgrow2.block w.heap.size (by have := blk_lt HBX.out; simp; omega) (fun h => by have := hob _ h.symm; omega)).trans (blk_alloc HBX.out _)⟩, ⟨Kw.grown_below (HBEL.out.alloc hsz _) hgrow2 (fun g h => by have := hob _ h; omega)⟩⟩
      ·have h := hord.out; rw [GT.ordL, if_pos hik] at h; exact h
      ·have e : (intsOf (out ++ [x])).map (Value.int .i64) = (intsOf out).map (Value.int .i64) ++ [.int .i64 xi] := by unfold intsOf; rw [HXI.out]; simp
       rw [e, List.length_append]; exact hown2
    ·have hi1 : ii < (((rd_T40 l0 xi).f3).length : Int) := by have := HII.out; have := HKN.out; omega
     have t4 : decide (ii = (((rd_T40 l0 xi).f3).length : Int)) = false := decide_eq_false (by omega)
     have t4b : (ii == (((rd_T40 l0 xi).f3).length : Int)) = false := by simpa using t4
     have t4n : ¬ ii = (((rd_T40 l0 xi).f3).length : Int) := by omega
     obtain ⟨ad3, e3, hx4⟩ := Kd.at_int HI3.out ii hip hi1; cases e3
     obtain ⟨kn, hkn⟩ : ∃ kn, kn = (GT.kids (GT.toG (kidsI l0)) x).getD i 0 := ⟨_, rfl⟩; obtain ⟨ki, hki⟩ : ∃ ki, ki = rd ((rd_T40 l0 xi).f3) ii := ⟨_, rfl⟩; have hil2 : i < (GT.kids (GT.toG (kidsI l0)) x).length := by omega
     have hkm : kn ∈ GT.kids (GT.toG (kidsI l0)) x := by rw [hkn, List.getD_eq_getElem?_getD, List.getElem?_eq_getElem hil2]; exact List.getElem_mem _
     have hknl : kn < l0.length := by have := HW.out x kn hkm; rw [GT.length_toG, kids_len] at this; exact this
     have hkr : ki = (kn : Int) := by
      rw [hki, hkn, ← HKI.out, HII.out]; show (intsOf _).getD ((i : Int)).toNat 0 = _
      unfold intsOf
      rw [Int.toNat_natCast, List.getD_eq_getElem?_getD, List.getD_eq_getElem?_getD, List.getElem?_map]; cases (GT.kids (GT.toG (kidsI l0)) x)[i]? <;> rfl
     rw [← hki] at hx4; have HKR := Lib.hid hkr; have HKN2 := Lib.hid hkn; have HIL := Lib.hid hil2; have hkw : kn ≤ 9223372036854775807 := by omega
     have hstd := HST.out.stored (S.length * 2 + 1) (.int .i64 (ii + 1)); have HSE := Lib.hid (HSET.out.kept hstd.2 (by intro h; cases h; omega))
     have HSX : Hid (SBox (wd.setCell ⟨g, S.length * 2 + 1, none⟩ (.int .i64 (ii + 1))) w.heap.size (some ad) l0.length c0 a1) := Lib.hid ((hstd.2.block w.heap.size (blk_lt HBX.out) (by intro h; cases h; omega)).trans HBX.out)
     have HSB := Lib.hid (Kw.grown_below HBEL.out hstd.2 (fun g h => by cases h; omega))
     have hso : Hid ((wd.setCell ⟨g, S.length * 2 + 1, none⟩ (.int .i64 (ii + 1))).ownsRow (w.heap.size + 2) 67 2 (.slice (some ⟨g, 0, none⟩) (S.length + 1) cap) (S.length + 1) (stackV S.reverse ++ [.int .i64 xi, .int .i64 (ii + 1)])) := Lib.hid (by
      have h := hstd.1; rw [List.set_append_right _ _ (by rw [HSR.out]; omega), HSR.out, show S.length * 2 + 1 - S.length * 2 = 1 by omega, ← HXI.out] at h
      exact h)
     have HOU := Lib.hid (HOUT.out.kept hstd.2 (by
      rcases own_apart HOUT.out HST.out (by decide) with h | h
      ·exact .inl h
      ·exact .inr h))
     have hszs : (wd.setCell ⟨g, S.length * 2 + 1, none⟩ (.int .i64 (ii + 1))).heap.size = wd.heap.size := by simp
     have HZS := Lib.hid hszs; clear hkn hki hkr hkm hil2 hstd hszs; by_cases hm : kn ∈ met
     ·have hd : decide (kn ∈ met) = true := decide_eq_true hm; go_wp2_with (at_lookup; refine Set.wpList_look _ rfl _ _ rfl (w.heap.size + 1) m met HSE.out kn hkw ki HKR.out rfl rfl ?_; rw [hd])
      go_roundg gk
      case measure => omega
      case rel =>
       refine ⟨(x, i + 1) :: S, met, out, m, ⟨?_⟩, ⟨?_⟩, ⟨HOU.out⟩, ⟨HSE.out, by have := HSM.out; omega⟩, ⟨?_⟩, ⟨by have := HSL.out; simp; omega⟩, ⟨by have := hol.out; omega⟩, ⟨HSX.out⟩, ⟨HSB.out⟩⟩
       ·have h := hord.out; rw [GT.ordL, if_neg hik, ← HKN2.out, if_pos hm] at h; exact h
       ·have e : [Value.int .i64 ((x, i + 1).1 : Int), .int .i64 (((x, i + 1).2 : Nat) : Int)] = [.int .i64 xi, .int .i64 (ii + 1)] := by rw [HXI.out, HII.out]; simp
        rw [List.length_cons, List.reverse_cons, stackV_snoc, e]; exact hso.out
       ·intro s hs
        rcases List.mem_cons.1 hs with rfl | hs
        ·exact ⟨hxl, HIL.out⟩
        ·exact HIN.out s hs
     ·have hd : decide (kn ∈ met) = false := decide_eq_false hm; have hmx : m < maxLen := by have := HSM.out; unfold maxLen; omega
      go_wp2_with (first
       | (at_lookup; refine Set.wpList_look _ rfl _ _ rfl (w.heap.size + 1) m met HSE.out kn hkw ki HKR.out rfl rfl ?_; rw [hd])
       | (at_mapUpdate; refine Set.wpList_store _ rfl _ _ _ rfl (w.heap.size + 1) m met HSE.out kn hkw ki HKR.out hmx rfl rfl rfl ?_; intro w1 hset1 hg1; have HS1 := Lib.hid hset1; have HG1 := Lib.hid hg1; have HO1 := Lib.hid (hso.out.kept hg1 (.inr (fun h => by simp [Value.ownBlock] at h; omega))); clear hset1 hg1)
       | (at_builtin; refine wpList_append_own _ rfl _ _ 68 rfl (w.heap.size + 2) 67 iF (.agg #[.int .i64 0, .int .i64 0]) 2 16 Try.underlying68 hiF hzF0 hzF1 hzF2 rfl (by decide) (.slice (some ⟨g, 0, none⟩) (S.length + 1) cap) (S.length + 1) (stackV S.reverse ++ [.int .i64 xi, .int .i64 (ii + 1)]) rfl (HO1.out.alloc _) ⟨w1.heap.size, 0, none⟩ 1 1 [.int .i64 ki, .int .i64 0] rfl rfl (fun j u hj => by match j, hj with | 0, hj => cases hj; exact (blk_cell (heap_alloc_new w1 _) 0).trans rfl | 1, hj => cases hj; exact (blk_cell (heap_alloc_new w1 _) 1).trans rfl) (fun u hu => by simp at hu; rcases hu with rfl | rfl <;> rfl) (by have := HSL.out; unfold maxLen; omega) (by have := HSL.out; omega) (by have := HG1.out.size; have := HZS.out; simp; omega) ?_; intro v2 w2 hown2 hgrow2 hnil2))
      go_wp2_with (fail)
      go_roundg gk
      case measure => omega
      case rel =>
       have hz1 := HG1.out.size; have hz0 := HZS.out; have hbz := blk_lt HBX.out; have hob := own_base HOUT.out; have hou1 := HOU.out.kept HG1.out (by
        rcases h : u3.ownBlock with _ | q
        ·exact .inl rfl
        ·refine .inr (fun h2 => ?_)
         have := hob q h; cases h2
         omega)
       have hap := own_apart (hou1.alloc (.cells #[.int .i64 ki, .int .i64 0] 67)) (HO1.out.alloc (.cells #[.int .i64 ki, .int .i64 0] 67)) (by decide)
       refine ⟨(kn, 0) :: (x, i + 1) :: S, kn :: met, out, m + 1, ⟨?_⟩, ⟨?_⟩, ⟨(hou1.alloc _).kept hgrow2 hap⟩, ⟨(HS1.out.alloc _).kept hgrow2 (fun h => by simp [Value.ownBlock] at h; omega), by have := HSM.out; omega⟩, ⟨?_⟩, ⟨by have := HSL.out; simp; omega⟩, ⟨by have := hol.out; omega⟩, ⟨(hgrow2.block w.heap.size (by simp; omega) (fun h => by simp [Value.ownBlock] at h; omega)).trans (blk_alloc ((HG1.out.block w.heap.size (by omega) (fun h => by simp at h)).trans HSX.out) _)⟩, ⟨?_⟩⟩
       ·have h := hord.out; rw [GT.ordL, if_neg hik, ← HKN2.out, if_neg hm] at h; exact h
       ·rw [List.length_cons, List.length_cons, List.reverse_cons, stackV_snoc, List.reverse_cons, stackV_snoc]; have e : [Value.int .i64 ((x, i + 1).1 : Int), .int .i64 (((x, i + 1).2 : Nat) : Int)] = [.int .i64 xi, .int .i64 (ii + 1)] := by rw [HXI.out, HII.out]; simp
        have e2 : [Value.int .i64 ((kn, 0).1 : Int), .int .i64 (((kn, 0).2 : Nat) : Int)] = [.int .i64 ki, .int .i64 0] := by rw [HKR.out]; simp
        rw [e, e2]; exact hown2
       ·intro s hs
        rcases List.mem_cons.1 hs with rfl | hs
        ·exact ⟨hknl, Nat.zero_le _⟩
        ·rcases List.mem_cons.1 hs with rfl | hs
         ·exact ⟨hxl, HIL.out⟩
         ·exact HIN.out s hs
       ·exact Kw.grown_below ((Kw.grown_below HSB.out HG1.out (fun g h => by cases h; omega)).alloc (by omega) _) hgrow2 (fun g h => by simp [Value.ownBlock] at h; omega)
end
def canon_order.f (l0_0 : List (S40)) (a0_1 : Int) : Option (List Int) :=
 if l0_0.length ≤ 1000000 ∧ ((kidsI l0_0).map List.length).sum ≤ 1000000 ∧ 0 ≤ a0_1 ∧ a0_1 < (l0_0.length : Int) ∧ GT.firstBad (kidsI l0_0) = none then
  ((GT.ordL (GT.toG (kidsI l0_0)) 10000000 [(a0_1.toNat, 0)] [a0_1.toNat] []).bind fun o => some (intsOf o))
 else none

/-! ### canon_Numbers: function 18 -/
section
open Go.Lib
/-- Nothing is wrong: what that means for the root and the kids. -/
theorem check_zero {k : Nat} {l0 : List (S40)} {a1 p : Int} (h : graph_Check.f k l0 a1 = some (0, p)) : 0 ≤ a1 ∧ a1 < (l0.length : Int) ∧ GT.firstBad (kidsI l0) = none ∧ l0.length ≤ 1000000 ∧ ((kidsI l0).map List.length).sum ≤ 1000000 := by
 unfold graph_Check.f at h
 split at h
 ·rename_i hb; split at h
  ·simp at h
  ·rename_i hr; split at h
   ·simp at h
   ·rename_i hg; exact ⟨by omega, by omega, hg, hb.1, hb.2⟩
 ·cases h
/-- The places, as they are told one by one. -/
def numsAt (n : Nat) (o : List Nat) : Nat → List Int
 | 0 => List.replicate n 0
 | i + 1 => (numsAt n o i).set (o.getD i 0) (i : Int)
theorem numsAt_len (n : Nat) (o : List Nat) : ∀ i, (numsAt n o i).length = n
 | 0 => by rw [numsAt, List.length_replicate]
 | i + 1 => by rw [numsAt, List.length_set, numsAt_len n o i]
/-- The canonical order, of a scene that is right. -/
def ordOf (l0 : List (S40)) (a1 : Int) : Option (List Nat) := GT.ordL (GT.toG (kidsI l0)) 10000000 [(a1.toNat, 0)] [a1.toNat] []
set_option maxHeartbeats 8000000 in
set_option maxRecDepth 100000 in
theorem numbers_calls (k : Nat) (A0 : Option Addr) (c0 : Nat) (l0 : List (S40)) (a1 : Int) (w : World) (hr0 : Kd.C k40 w A0 l0.length l0) (hc0 : l0.length ≤ c0) (p : Int) (hck : graph_Check.f k l0 a1 = some (0, p))
  (o : List Nat) (ho : ordOf l0 a1 = some o) (hol : o.length ≤ 1000000) (hon : ∀ x ∈ o, x < l0.length) :
  Calls Try.prog 18 #[.agg #[.slice A0 l0.length c0, .int .i64 a1]] w fun e w' => ∃ v0_ : Value, e = .returned (v0_) ∧ Kd.R (Kd.int .i64) 3 w' w.heap.size (fun _ => True) v0_ (numsAt l0.length o o.length) ∧ Below w.heap.size w w' := by
 obtain ⟨h0, h1, hgood, hlen, hsum⟩ := check_zero hck; have HR := Lib.hid hr0; have HS := Lib.hid hsum; have HG := Lib.hid hgood; have HO := Lib.hid ho; have HK := Lib.hid hck; have HN := Lib.hid hon; clear hr0 hsum hgood ho hck hon; have hn0 : 0 < l0.length := by omega
 go_enter Try.func18, Try.ntmps18
 go_wp2_with (fail)
 have hal : Below w.heap.size w (w.alloc (.cells #[.slice A0 l0.length c0, .int .i64 a1] 24)) := (Below.refl _ _).alloc (Nat.le_refl _) _; refine (graph_Check.calls k A0 c0 l0 a1 0 p _ (Kd.C_below HR.out hal) hc0 HK.out).mono ?_
 rintro e w1 ⟨rfl, hb1⟩
 have HB1 := Lib.hid (below_step hal hb1); have HX1 : Hid (SBox w1 w.heap.size A0 l0.length c0 a1) := Lib.hid ((hb1.block w.heap.size (blk_lt (heap_alloc_new w _))).trans (heap_alloc_new w _)); have q0 : w1.cell? ⟨w.heap.size, 0, none⟩ = some (.slice A0 l0.length c0) := (blk_cell HX1.out 0).trans rfl; have q1 : w1.cell? ⟨w.heap.size, 1, none⟩ = some (.int .i64 a1) := (blk_cell HX1.out 1).trans rfl; have hbl := blk_lt HX1.out; clear hb1 hal; go_wp2_with (first
  | ((with_reducible refine gate_dst (N := 18) rfl ?_); refine Kd.R_make (Kd.int .i64) _ 3 rfl (N := 18) rfl 31 _ _ rfl (l0.length : Int) rfl rfl Try.underlying31 (.int .i64 0) 8 (show (Try.prog.info? 3).map (fun i => (i.zero, i.size, i.bytes)) = some (some (.int .i64 0), 1, 8) from by kernel_rfl) rfl (by decide) (by omega) 0 (ok := fun _ => True) (okp := fun _ => True) rfl (fun _ hk => hk) trivial (by omega) (by simp; omega) (Below.refl _ _) (Nat.le_refl _) ?_; intro v2 w2 hR2 hb2 hg2 _; have HB2 := Lib.hid (below_step HB1.out hb2); have HX2 : Hid (SBox w2 w.heap.size A0 l0.length c0 a1) := Lib.hid ((hb2.block w.heap.size hbl).trans HX1.out); have q0b : w2.cell? ⟨w.heap.size, 0, none⟩ = some (.slice A0 l0.length c0) := (blk_cell HX2.out 0).trans rfl; have q1b : w2.cell? ⟨w.heap.size, 1, none⟩ = some (.int .i64 a1) := (blk_cell HX2.out 1).trans rfl; have HO2 := Lib.hid (Kw.own_of_R (Kd.R_lower hR2 HB1.out.size)); clear hR2 hb2 hg2))
 have ho2 := HO2.out; rw [Int.toNat_natCast, List.length_replicate] at ho2; obtain ⟨g, cap, rfl, _, _⟩ := ho2.form hn0; have HOW := Lib.hid ho2; clear q0 q1 ho2 HO2; refine (corder_calls A0 c0 l0 a1 w2 (Kd.C_below HR.out HB2.out) hc0 hlen HS.out h0 h1 HG.out o HO.out).mono ?_
 rintro e w3 ⟨v3, rfl, hR3, hb3⟩
 obtain ⟨A3, c3, rfl⟩ := Kd.R_slice hR3; have hil : (intsOf o).length = o.length := intsOf_len o; have HO3 := Lib.hid (Kw.own_of_R hR3); rw [hil] at HO3 ⊢; have HB3 := Lib.hid (below_step HB2.out hb3); have hgl := HOW.out.lt g rfl; have HOW3 := Lib.hid (HOW.out.kept (grown_of_below hb3 none) (.inr (by simp [Value.ownBlock])))
 clear hb3 hR3 q0b q1b; go_wp2_with (fail)
 go_loopg [22] o.length (fun kq v22 wr => ∃ i : Int, v22 = .int .i64 i ∧ 0 ≤ i ∧ i + kq = o.length ∧ Aside0 (wr.ownsRow w.heap.size 3 1 (.slice (some ⟨g, 0, none⟩) l0.length cap) l0.length ((numsAt l0.length o i.toNat).map (Value.int .i64))) ∧ Aside0 (wr.ownsRow w2.heap.size 3 1 (.slice A3 o.length c3) o.length ((intsOf o).map (Value.int .i64))) ∧ Aside0 (Below w.heap.size w wr))
 case atStart => exact ⟨0, rfl, by omega, by omega, ⟨by simpa [numsAt] using HOW3.out⟩, ⟨HO3.out⟩, ⟨HB3.out⟩⟩
 case round =>
  obtain ⟨i, rfl, hi0, hik, hrow, hor, hbel⟩ := hrel; by_cases hlt : i < (o.length : Int)
  ·have t4 : decide (i < (o.length : Int)) = true := decide_eq_true hlt; obtain ⟨gk, rfl⟩ : ∃ g, gk = g + 1 := ⟨gk - 1, by omega⟩
   obtain ⟨g3, cap3, hv3, _, _⟩ := hor.out.form (by omega)
   cases hv3
   obtain ⟨x, hx⟩ : ∃ x, x = o.getD i.toNat 0 := ⟨_, rfl⟩; have hxm : x ∈ o := by rw [hx, List.getD_eq_getElem?_getD, List.getElem?_eq_getElem (by omega)]; exact List.getElem_mem _
   have hxl := HN.out x hxm; obtain ⟨xi, hxi⟩ : ∃ xi : Int, xi = (x : Int) := ⟨_, rfl⟩; have hc1 : wr.cell? ⟨g3, i.toNat, none⟩ = some (.int .i64 xi) := by
    rw [hor.out.cellAt i.toNat (by omega), hxi, hx]
    unfold intsOf
    rw [List.map_map, List.getElem?_map, List.getD_eq_getElem?_getD, List.getElem?_eq_getElem (by omega)]
    rfl
   have hxt : xi.toNat = x := by omega
   obtain ⟨ov, hov⟩ : ∃ ov, wr.cell? ⟨g, xi.toNat, none⟩ = some (.int .i64 ov) := by
    rw [hrow.out.cellAt xi.toNat (by omega), List.getElem?_map, List.getElem?_eq_getElem (by rw [numsAt_len]; omega)]
    exact ⟨_, rfl⟩
   have hfr : wr.frozen? ⟨g, xi.toNat, none⟩ = false := hrow.out.frozenAt _; have hx0 : 0 ≤ xi := by omega
   have hx1 : xi < (l0.length : Int) := by omega
   have HX := Lib.hid hx; have HXT := Lib.hid hxt; clear hx hxi hxm hxt; go_wp2_with (fail)
   go_roundg gk
   case measure => omega
   case rel =>
    obtain ⟨hs1, hs2⟩ := hrow.out.stored xi.toNat (.int .i64 i); have hg3 := own_base hor.out g3 rfl; have hgw := own_base hrow.out g rfl; refine ⟨i + 1, rfl, by omega, by omega, ⟨?_⟩, ⟨hor.out.kept hs2 (.inr (fun h => by simp [Value.ownBlock] at h; omega))⟩, ⟨Kw.grown_below hbel.out hs2 (fun q h => by cases h; omega)⟩⟩
    rw [show (i + 1).toNat = i.toNat + 1 by omega, numsAt, ← HX.out, ← HXT.out, List.map_set, show ((i.toNat : Nat) : Int) = i by omega]
    exact hs1
  ·have t4 : decide (i < (o.length : Int)) = false := decide_eq_false hlt; go_wp2_with (fail)
   go_ret
   have hie : i.toNat = o.length := by omega
   have hr := hrow.out; rw [hie] at hr; exact ⟨_, rfl, Kw.R_of_own (by rw [numsAt_len]; exact hr), hbel.out⟩
set_option maxHeartbeats 8000000 in
set_option maxRecDepth 100000 in
theorem numbers_none (k : Nat) (A0 : Option Addr) (c0 : Nat) (l0 : List (S40)) (a1 : Int) (w : World) (hr0 : Kd.C k40 w A0 l0.length l0) (hc0 : l0.length ≤ c0) (q p : Int) (hck : graph_Check.f k l0 a1 = some (q, p)) (hq : ¬ q = 0) :
  Calls Try.prog 18 #[.agg #[.slice A0 l0.length c0, .int .i64 a1]] w fun e w' => ∃ v0_ : Value, e = .returned (v0_) ∧ Kd.R (Kd.int .i64) 3 w' w.heap.size (fun _ => True) v0_ [] ∧ Below w.heap.size w w' := by
 have HR := Lib.hid hr0; have HK := Lib.hid hck; clear hr0 hck; have hqb : (q == 0) = false := by simpa using hq
 go_enter Try.func18, Try.ntmps18
 go_wp2_with (fail)
 have hal : Below w.heap.size w (w.alloc (.cells #[.slice A0 l0.length c0, .int .i64 a1] 24)) := (Below.refl _ _).alloc (Nat.le_refl _) _; refine (graph_Check.calls k A0 c0 l0 a1 q p _ (Kd.C_below HR.out hal) hc0 HK.out).mono ?_
 rintro e w1 ⟨rfl, hb1⟩
 have HB1 := Lib.hid (below_step hal hb1); clear hb1 hal; go_wp2_with (fail)
 go_ret
 exact ⟨_, rfl, Kd.R_nil _ _ _ _ _, HB1.out⟩
end
def canon_Numbers.f (k : Nat) (l0_0 : List (S40)) (a0_1 : Int) : Option (List Int) :=
 (graph_Check.f k l0_0 a0_1).bind fun c => if c.1 = 0 then (ordOf l0_0 a0_1).bind fun o => if o.length ≤ 1000000 ∧ (o.all fun x => decide (x < l0_0.length)) = true then some (numsAt l0_0.length o o.length) else none
  else some []
theorem canon_Numbers.mono : ∀ a0 a1 k, LeO (canon_Numbers.f k a0 a1) (canon_Numbers.f (k + 1) a0 a1) := by
 intro l0_0 a0_1 k r h
 unfold canon_Numbers.f at h ⊢
 obtain ⟨c, hc, h2⟩ := Option.bind_eq_some_iff.1 h; rw [graph_Check.mono l0_0 a0_1 k c hc]; exact h2
theorem canon_Numbers.calls (k : Nat) (A0_0 : Option Addr) (c0_0 : Nat) (l0_0 : List (S40)) (a0_1 : Int) (r : List Int) (w : World) (hr0_0 : Kd.C k40 w A0_0 l0_0.length l0_0) (hc0_0 : l0_0.length ≤ c0_0) (h : canon_Numbers.f k l0_0 a0_1 = some r) :
  Calls Try.prog 18 #[.agg #[.slice A0_0 l0_0.length c0_0, .int .i64 a0_1]] w fun e w' => ∃ v0_ : Value, e = .returned (v0_) ∧ Kd.R (Kd.int .i64) 3 w' w.heap.size (fun _ => True) v0_ r ∧ Below w.heap.size w w' := by
 unfold canon_Numbers.f at h
 obtain ⟨⟨q, p⟩, hc, h2⟩ := Option.bind_eq_some_iff.1 h; simp only at h2
 split at h2
 ·rename_i hq; subst hq; obtain ⟨o, ho, h3⟩ := Option.bind_eq_some_iff.1 h2; split at h3
  ·rename_i hb; obtain rfl := Option.some.inj h3; exact numbers_calls k A0_0 c0_0 l0_0 a0_1 w hr0_0 hc0_0 p hc o ho hb.1 (fun x hx => by simpa using List.all_eq_true.1 hb.2 x hx)
  ·cases h3
 ·rename_i hq; obtain rfl := Option.some.inj h2; exact numbers_none k A0_0 c0_0 l0_0 a0_1 w hr0_0 hc0_0 q p hc hq

/-! ### slices_Clone_int64_int64: function 54 -/
def slices_Clone_int64_int64.f (l0 : List Int) : Option (List Int) := if l0.length < 8796093022208 then some l0 else none
set_option maxHeartbeats 4000000 in
set_option maxRecDepth 100000 in
theorem slices_Clone_int64_int64.calls (A0 : Option Addr) (c0 : Nat) (l0 : List Int) (r : List Int) (w : World) (hr0 : Kd.C (Kd.int .i64) w A0 l0.length l0) (hc0 : l0.length ≤ c0) (h : slices_Clone_int64_int64.f l0 = some r) :
  Calls Try.prog 54 #[.slice A0 l0.length c0] w fun e w' => ∃ v0_ : Value, e = .returned (v0_) ∧ Kd.R (Kd.int .i64) 2 w' w.heap.size (fun _ => True) v0_ r ∧ Below w.heap.size w w' := by
 unfold slices_Clone_int64_int64.f at h
 by_cases hlen : l0.length < 8796093022208
 ·rw [if_pos hlen] at h; obtain rfl := Option.some.inj h; have q22 : ∀ (w : World) (a : Option Addr) (n c n' c' : Nat), (binOp .eql 37 (.slice a n c) (.slice none n' c')).run Try.prog w = .ok (.bool a.isNone) w := fun w a n c n' c' => Lib.run_eql_slice_nil w _ _ a n c n' c' Try.underlying37
  clear h; cases A0 with
  | none =>
   obtain rfl := Go.Proofs.Ytlfjjapndlkamaa.Kw.nil_of hr0; clear hr0; go_enter Try.func54, Try.ntmps54
   go_wp2
   go_ret
   exact ⟨_, rfl, Kd.R_nil _ _ _ _ _, Below.refl _ _⟩
  | some ad =>
   have HN := Lib.hid (Go.Proofs.Ytlfjjapndlkamaa.Kw.cells_of hr0); obtain ⟨i0, hi, hz0, hz1, hz2⟩ := info_parts (show (Try.prog.info? 2).map (fun i => (i.zero, i.size, i.bytes)) = some (some (.int .i64 0), 1, 8) from by kernel_rfl)
   clear hr0; go_enter Try.func54, Try.ntmps54
   go_wp2_with (at_builtin; refine wpList_append_own _ rfl _ _ 37 rfl w.heap.size 2 i0 (.int .i64 0) 1 8 Try.underlying37 hi hz0 hz1 hz2 rfl (by decide) _ _ _ rfl (World.ownsRow_made w #[] 0 (Nat.le_refl _) (Nat.zero_le _) rfl) ad l0.length c0 (l0.map (Value.int .i64)) rfl ?qc1 ?qc2 ?qc3 ?qc4 ?qc5 ?qc6 ?_)
   case qc1 => simp
   case qc2 => intro j u hj; exact Lib.cell?_alloc_some _ (HN.out j u hj)
   case qc3 => intro u hu; obtain ⟨x, _, rfl⟩ := List.mem_map.1 hu; rfl
   case qc4 => unfold maxLen; omega
   case qc5 => omega
   case qc6 => simp
   intro v' w1 hown hgrow hnil
   go_wp2
   go_ret
   refine ⟨v', rfl, Go.Proofs.Ytlfjjapndlkamaa.Kw.R_of_own (by simpa using hown), ?_⟩
   exact ((Below.refl _ w).alloc (Nat.le_refl _) _).grown hgrow (by simp) (by intro k hk; simp [Value.ownBlock] at hk; omega)
 ·rw [if_neg hlen] at h; cases h

/-! ### slices_Clone_string_string: function 55 -/
def slices_Clone_string_string.f (l0 : List ByteArray) : Option (List ByteArray) := if l0.length < 8796093022208 then some l0 else none
set_option maxHeartbeats 4000000 in
set_option maxRecDepth 100000 in
theorem slices_Clone_string_string.calls (A0 : Option Addr) (c0 : Nat) (l0 : List ByteArray) (r : List ByteArray) (w : World) (hr0 : Kd.C Kd.string w A0 l0.length l0) (hc0 : l0.length ≤ c0) (h : slices_Clone_string_string.f l0 = some r) :
  Calls Try.prog 55 #[.slice A0 l0.length c0] w fun e w' => ∃ v0_ : Value, e = .returned (v0_) ∧ Kd.R Kd.string 9 w' w.heap.size (fun _ => True) v0_ r ∧ Below w.heap.size w w' := by
 unfold slices_Clone_string_string.f at h
 by_cases hlen : l0.length < 8796093022208
 ·rw [if_pos hlen] at h; obtain rfl := Option.some.inj h; have q22 : ∀ (w : World) (a : Option Addr) (n c n' c' : Nat), (binOp .eql 38 (.slice a n c) (.slice none n' c')).run Try.prog w = .ok (.bool a.isNone) w := fun w a n c n' c' => Lib.run_eql_slice_nil w _ _ a n c n' c' Try.underlying38
  clear h; cases A0 with
  | none =>
   obtain rfl := Go.Proofs.Ytlfjjapndlkamaa.Kw.nil_of hr0; clear hr0; go_enter Try.func55, Try.ntmps55
   go_wp2
   go_ret
   exact ⟨_, rfl, Kd.R_nil _ _ _ _ _, Below.refl _ _⟩
  | some ad =>
   have HN := Lib.hid (Go.Proofs.Ytlfjjapndlkamaa.Kw.cells_of hr0); obtain ⟨i0, hi, hz0, hz1, hz2⟩ := info_parts (show (Try.prog.info? 9).map (fun i => (i.zero, i.size, i.bytes)) = some (some (.string ByteArray.empty), 1, 16) from by kernel_rfl)
   clear hr0; go_enter Try.func55, Try.ntmps55
   go_wp2_with (at_builtin; refine wpList_append_own _ rfl _ _ 38 rfl w.heap.size 9 i0 (.string ByteArray.empty) 1 16 Try.underlying38 hi hz0 hz1 hz2 rfl (by decide) _ _ _ rfl (World.ownsRow_made w #[] 0 (Nat.le_refl _) (Nat.zero_le _) rfl) ad l0.length c0 (l0.map Value.string) rfl ?qc1 ?qc2 ?qc3 ?qc4 ?qc5 ?qc6 ?_)
   case qc1 => simp
   case qc2 => intro j u hj; exact Lib.cell?_alloc_some _ (HN.out j u hj)
   case qc3 => intro u hu; obtain ⟨x, _, rfl⟩ := List.mem_map.1 hu; rfl
   case qc4 => unfold maxLen; omega
   case qc5 => omega
   case qc6 => simp
   intro v' w1 hown hgrow hnil
   go_wp2
   go_ret
   refine ⟨v', rfl, Go.Proofs.Ytlfjjapndlkamaa.Kw.R_of_own (by simpa using hown), ?_⟩
   exact ((Below.refl _ w).alloc (Nat.le_refl _) _).grown hgrow (by simp) (by intro k hk; simp [Value.ownBlock] at hk; omega)
 ·rw [if_neg hlen] at h; cases h

/-! ### field_Copy: function 41 -/
def field_Copy.f (a0_0 : Int) (l0_1 : List Int) (l0_2 : List ByteArray) (l0_3 : List Int) : Option (Int × List Int × List ByteArray × List Int) := (slices_Clone_int64_int64.f l0_1).bind fun t132 => ((slices_Clone_string_string.f l0_2).bind fun t135 => ((slices_Clone_int_int.f l0_3).bind fun t138 => (some (a0_0, t132, t135, t138))))
def field_Copy.T1 : Bool × List (List Nat × List Nat) := (true, [([], []), ([0], [0]), ([], []), ([2], [2]), ([3], [3]), ([], []), ([5], [5]), ([6, 4], [6]), ([], []), ([8], [8]), ([9, 7], [9]), ([1, 4, 7, 10], [1, 4, 7, 10]), ([11, 10, 0, 1, 2, 3, 4, 5, 6, 7, 8, 9, 10, 11], [11])])
def field_Copy.B1 : List Nat := [0, 1, 0, 4, 12, 0, 32, 124, 0, 256, 1020, 2047, 4095]
theorem field_Copy.tab1 : rtab .any (opsOf Try.f41 1) = field_Copy.T1 := by kernel_rfl
theorem field_Copy.bits1 : waitsOk field_Copy.T1.2 field_Copy.B1 = true := by kernel_rfl
set_option maxHeartbeats 8000000 in
set_option maxRecDepth 100000 in
theorem field_Copy.calls (a0_0 : Int) (A0_1 : Option Addr) (c0_1 : Nat) (l0_1 : List Int) (A0_2 : Option Addr) (c0_2 : Nat) (l0_2 : List ByteArray) (A0_3 : Option Addr) (c0_3 : Nat) (l0_3 : List Int) (r1 : Int) (r2 : List Int) (r3 : List ByteArray) (r4 : List Int) (w : World) (hr0_1 : Kd.C (Kd.int .i64) w A0_1 l0_1.length l0_1) (hc0_1 : l0_1.length ≤ c0_1) (hr0_2 : Kd.C Kd.string w A0_2 l0_2.length l0_2) (hc0_2 : l0_2.length ≤ c0_2) (hr0_3 : Kd.C (Kd.int .i64) w A0_3 l0_3.length l0_3) (hc0_3 : l0_3.length ≤ c0_3) (h : field_Copy.f a0_0 l0_1 l0_2 l0_3 = some (r1, r2, r3, r4)) :
  Calls Try.prog 41 #[.agg #[.int .i64 a0_0, .slice A0_1 l0_1.length c0_1, .slice A0_2 l0_2.length c0_2, .slice A0_3 l0_3.length c0_3]] w fun e w' => ∃ v1_ v2_ v3_ : Value, e = .returned (.agg #[.int .i64 r1, v1_, v2_, v3_]) ∧ Kd.R (Kd.int .i64) 2 w' w.heap.size (fun _ => True) v1_ r2 ∧ Kd.R Kd.string 9 w' w.heap.size (fun _ => True) v2_ r3 ∧ Kd.R (Kd.int .i64) 3 w' w.heap.size (fun _ => True) v3_ r4 ∧ Below w.heap.size w w' := by
 have hu40 := Try.underlying40; have HR0_1 := AM hr0_1; have HC0_1 := AM hc0_1; clear hr0_1 hc0_1; have HR0_2 := AM hr0_2; have HC0_2 := AM hc0_2; clear hr0_2 hc0_2; have HR0_3 := AM hr0_3; have HC0_3 := AM hc0_3; clear hr0_3 hc0_3; have HB := AM (Below.refl w.heap.size w); have H : ((slices_Clone_int64_int64.f l0_1).bind fun t132 => ((slices_Clone_string_string.f l0_2).bind fun t135 => ((slices_Clone_int_int.f l0_3).bind fun t138 => (some (a0_0, t132, t135, t138))))) = some (r1, r2, r3, r4) := h
 clear h; replace H := Option.bind_eq_some_iff.mp H; obtain ⟨t132, A20, H⟩ := H; replace H : ((slices_Clone_string_string.f l0_2).bind fun t135 => ((slices_Clone_int_int.f l0_3).bind fun t138 => (some (a0_0, t132, t135, t138)))) = some (r1, r2, r3, r4) := H
 have A2 := AM A20; clear A20; replace H := Option.bind_eq_some_iff.mp H; obtain ⟨t135, A30, H⟩ := H; replace H : ((slices_Clone_int_int.f l0_3).bind fun t138 => (some (a0_0, t132, t135, t138))) = some (r1, r2, r3, r4) := H
 have A3 := AM A30; clear A30; replace H := Option.bind_eq_some_iff.mp H; obtain ⟨t138, A40, H⟩ := H; replace H : (some (a0_0, t132, t135, t138)) = some (r1, r2, r3, r4) := H; have A4 := AM A40; clear A40; simp only [Option.some.injEq, Prod.mk.injEq] at H
 obtain ⟨rfl, rfl, rfl, rfl⟩ := H; go_enter Try.func41, Try.ntmps41
 try go_wp2_with (first | ((with_reducible refine gate_dst (N := 1) rfl ?_); refine box_event ?hg (N := 1) ?hd (cs := #[.int .i64 a0_0, .slice A0_1 l0_1.length c0_1, .slice A0_2 l0_2.length c0_2, .slice A0_3 l0_3.length c0_3]) (t := 40) ?hr ?_; (case hd => rfl); (case hg => rfl); (case hr => first | (go_simp; done) | (go_simp; rfl)); intro gb130 hg w5 hbox hb; have BK130 := AM (hbox); have GW130 := GW HB hg; have GE130 := GW HB hg; replace HB := BS HB hb; clear hb hbox hg) | ((with_reducible refine gate_dst (N := 2) rfl ?_); refine box_event ?hg (N := 2) ?hd (cs := #[.int .i64 0, .slice none 0 0, .slice none 0 0, .slice none 0 0]) (t := 40) ?hr ?_; (case hd => rfl); (case hg => rfl); (case hr => first | (go_simp; done) | (go_simp; rfl)); intro gb131 hg w6 hbox hb; have BK131 := AM (hbox); have GW131 := GW HB hg; have GE131 := GW HB hg; replace HB := BS HB hb; have NB130_131 := NL BK130 hg; have NB131_130 := NG BK130 hg; replace BK130 := BE BK130 hb; clear hb hbox hg))
 replace BK130 := AM (blk_drew BK130.out); replace BK131 := AM (blk_drew BK131.out); replace HB := AM (below_drew1 HB.out); refine start_ (n := 13) (S := fun w' => w'.cell? ⟨gb130, 0, none⟩ = some (.int .i64 a0_0) ∧ w'.cell? ⟨gb130, 1, none⟩ = some (.slice A0_1 l0_1.length c0_1) ∧ w'.cell? ⟨gb130, 2, none⟩ = some (.slice A0_2 l0_2.length c0_2) ∧ w'.cell? ⟨gb130, 3, none⟩ = some (.slice A0_3 l0_3.length c0_3)) (ds := []) #[false, false, false, false, false, false, false, false, false, false, false, false, false] (by kernel_rfl) rfl rfl ⟨(blk_cell BK130.out 0).trans rfl, (blk_cell BK130.out 1).trans rfl, (blk_cell BK130.out 2).trans rfl, (blk_cell BK130.out 3).trans rfl⟩ (fun hHeld => ?_); refine with_tabW field_Copy.tab1 field_Copy.bits1 (fun HT_ HW_ => ?_)
 generalize w6.drew = w7 at BK130 BK131 HB hHeld ⊢
 refine pure_ (i := 0) (N := some 3) (v := ?_) (a' := ?_) #[true, false, false, false, false, false, false, false, false, false, false, false, false] rfl rfl (any_of HT_.out (by kernel_rfl)) (fun _ _ _ h => h) (Or.inl ⟨by rfl, ?_⟩) ?_ ?_
 rotate_left
 ·intro w'
  go_simp
  with_reducible rfl
 rotate_left
 ·simp only [Act.put, List.setIfInBounds_toArray, List.set_cons_zero, List.set_cons_succ, i64_w, i32_w]
  rfl
 refine pure_ (i := 2) (N := some 5) (v := ?_) (a' := ?_) #[true, false, true, false, false, false, false, false, false, false, false, false, false] rfl rfl (any_of HT_.out (by kernel_rfl)) (fun _ _ _ h => h) (Or.inl ⟨by rfl, ?_⟩) ?_ ?_
 rotate_left
 ·intro w'
  go_simp
  with_reducible rfl
 rotate_left
 ·simp only [Act.put, List.setIfInBounds_toArray, List.set_cons_zero, List.set_cons_succ, i64_w, i32_w]
  rfl
 refine pure_ (i := 5) (N := some 8) (v := ?_) (a' := ?_) #[true, false, true, false, false, true, false, false, false, false, false, false, false] rfl rfl (any_of HT_.out (by kernel_rfl)) (fun _ _ _ h => h) (Or.inl ⟨by rfl, ?_⟩) ?_ ?_
 rotate_left
 ·intro w'
  go_simp
  with_reducible rfl
 rotate_left
 ·simp only [Act.put, List.setIfInBounds_toArray, List.set_cons_zero, List.set_cons_succ, i64_w, i32_w]
  rfl
 refine pure_ (i := 8) (N := some 11) (v := ?_) (a' := ?_) #[true, false, true, false, false, true, false, false, true, false, false, false, false] rfl rfl (any_of HT_.out (by kernel_rfl)) (fun _ _ _ h => h) (Or.inl ⟨by rfl, ?_⟩) ?_ ?_
 rotate_left
 ·intro w'
  go_simp
  with_reducible rfl
 rotate_left
 ·simp only [Act.put, List.setIfInBounds_toArray, List.set_cons_zero, List.set_cons_succ, i64_w, i32_w]
  rfl
 refine take_ (i := 1) (N := some 4) (v := ?_) (a' := ?_) #[true, true, true, false, false, true, false, false, true, false, false, false, false] rfl rfl (take_ofW HT_.out HW_.out (by kernel_rfl)) (fun _ _ _ h => h) (Or.inl ⟨by rfl, ?_⟩) hHeld ?_ ?_
 rotate_left
 ·rintro w' ⟨s0, s1, s2, s3⟩
  go_simp
  with_reducible rfl
 rotate_left
 ·simp only [Act.put, List.setIfInBounds_toArray, List.set_cons_zero, List.set_cons_succ, i64_w, i32_w]
  rfl
 refine take_ (i := 3) (N := some 6) (v := ?_) (a' := ?_) #[true, true, true, true, false, true, false, false, true, false, false, false, false] rfl rfl (take_ofW HT_.out HW_.out (by kernel_rfl)) (fun _ _ _ h => h) (Or.inl ⟨by rfl, ?_⟩) hHeld ?_ ?_
 rotate_left
 ·rintro w' ⟨s0, s1, s2, s3⟩
  go_simp
  with_reducible rfl
 rotate_left
 ·simp only [Act.put, List.setIfInBounds_toArray, List.set_cons_zero, List.set_cons_succ, i64_w, i32_w]
  rfl
 refine take_ (i := 6) (N := some 9) (v := ?_) (a' := ?_) #[true, true, true, true, false, true, true, false, true, false, false, false, false] rfl rfl (take_ofW HT_.out HW_.out (by kernel_rfl)) (fun _ _ _ h => h) (Or.inl ⟨by rfl, ?_⟩) hHeld ?_ ?_
 rotate_left
 ·rintro w' ⟨s0, s1, s2, s3⟩
  go_simp
  with_reducible rfl
 rotate_left
 ·simp only [Act.put, List.setIfInBounds_toArray, List.set_cons_zero, List.set_cons_succ, i64_w, i32_w]
  rfl
 refine take_ (i := 9) (N := some 12) (v := ?_) (a' := ?_) #[true, true, true, true, false, true, true, false, true, true, false, false, false] rfl rfl (take_ofW HT_.out HW_.out (by kernel_rfl)) (fun _ _ _ h => h) (Or.inl ⟨by rfl, ?_⟩) hHeld ?_ ?_
 rotate_left
 ·rintro w' ⟨s0, s1, s2, s3⟩
  go_simp
  with_reducible rfl
 rotate_left
 ·simp only [Act.put, List.setIfInBounds_toArray, List.set_cons_zero, List.set_cons_succ, i64_w, i32_w]
  rfl
 refine one_ (i := 4) (N := some 7) #[true, true, true, true, true, true, true, false, true, true, false, false, false] rfl rfl (one_of HT_.out (by kernel_rfl)) (by decide) (fun K hK => ?_)
 refine goes_ Try.func54 (by kernel_rfl) rfl #[.slice A0_1 l0_1.length c0_1] (by rfl) rfl rfl (by (try simp only [List.map_toArray, List.map_cons, List.map_nil]); first | done | rfl | (simp only [List.length_drop, List.length_take]; rfl)) ?_
 with_reducible refine (slices_Clone_int64_int64.calls _ _ l0_1 t132 _ ?side1 ?side2 A2.out).mono ?_
 (case side1 => exact Kd.C_below HR0_1.out (BB HB))
 (case side2 => exact HC0_1.out)
 rintro e w8 ⟨v133, rfl, ho0, hb⟩
 refine ⟨_, rfl, ?_⟩
 have HO134 := AM (Kd.R_lower ho0 (below_size (BB HB))); replace BK130 := BE BK130 hb; replace BK131 := BE BK131 hb; replace HB := BS HB hb; (try clear hb)
 (try clear hb2)
 (try clear hk)
 (try clear hi)
 (try clear ho0)
 refine hK.out _ _ ⟨(blk_cell BK130.out 0).trans rfl, (blk_cell BK130.out 1).trans rfl, (blk_cell BK130.out 2).trans rfl, (blk_cell BK130.out 3).trans rfl⟩ (fun hHeld => ?_)
 clear hK K; refine norm_ (a' := ?_) ?_ ?_
 rotate_left
 ·show Act.put _ (some 7) _ = _
  simp only [Act.put, List.setIfInBounds_toArray, List.set_cons_zero, List.set_cons_succ, i64_w, i32_w]
  rfl
 refine one_ (i := 7) (N := some 10) #[true, true, true, true, true, true, true, true, true, true, false, false, false] rfl rfl (one_of HT_.out (by kernel_rfl)) (by decide) (fun K hK => ?_)
 refine goes_ Try.func55 (by kernel_rfl) rfl #[.slice A0_2 l0_2.length c0_2] (by rfl) rfl rfl (by (try simp only [List.map_toArray, List.map_cons, List.map_nil]); first | done | rfl | (simp only [List.length_drop, List.length_take]; rfl)) ?_
 with_reducible refine (slices_Clone_string_string.calls _ _ l0_2 t135 _ ?side1 ?side2 A3.out).mono ?_
 (case side1 => exact Kd.C_below HR0_2.out (BB HB))
 (case side2 => exact HC0_2.out)
 rintro e w9 ⟨v136, rfl, ho0, hb⟩
 refine ⟨_, rfl, ?_⟩
 replace HO134 := AM (Kd.R_below (RL HO134) hb); have HO137 := AM (Kd.R_lower ho0 (below_size (BB HB))); replace BK130 := BE BK130 hb; replace BK131 := BE BK131 hb; replace HB := BS HB hb; (try clear hb)
 (try clear hb2)
 (try clear hk)
 (try clear hi)
 (try clear ho0)
 refine hK.out _ _ ⟨(blk_cell BK130.out 0).trans rfl, (blk_cell BK130.out 1).trans rfl, (blk_cell BK130.out 2).trans rfl, (blk_cell BK130.out 3).trans rfl⟩ (fun hHeld => ?_)
 clear hK K; refine norm_ (a' := ?_) ?_ ?_
 rotate_left
 ·show Act.put _ (some 10) _ = _
  simp only [Act.put, List.setIfInBounds_toArray, List.set_cons_zero, List.set_cons_succ, i64_w, i32_w]
  rfl
 refine one_ (i := 10) (N := some 13) #[true, true, true, true, true, true, true, true, true, true, true, false, false] rfl rfl (one_of HT_.out (by kernel_rfl)) (by decide) (fun K hK => ?_)
 refine goes_ Try.func51 (by kernel_rfl) rfl #[.slice A0_3 l0_3.length c0_3] (by rfl) rfl rfl (by (try simp only [List.map_toArray, List.map_cons, List.map_nil]); first | done | rfl | (simp only [List.length_drop, List.length_take]; rfl)) ?_
 with_reducible refine (slices_Clone_int_int.calls _ _ l0_3 t138 _ ?side1 ?side2 A4.out).mono ?_
 (case side1 => exact Kd.C_below HR0_3.out (BB HB))
 (case side2 => exact HC0_3.out)
 rintro e w10 ⟨v139, rfl, ho0, hb⟩
 refine ⟨_, rfl, ?_⟩
 replace HO134 := AM (Kd.R_below (RL HO134) hb); replace HO137 := AM (Kd.R_below (RL HO137) hb); have HO140 := AM (Kd.R_lower ho0 (below_size (BB HB))); replace BK130 := BE BK130 hb; replace BK131 := BE BK131 hb; replace HB := BS HB hb; (try clear hb)
 (try clear hb2)
 (try clear hk)
 (try clear hi)
 (try clear ho0)
 obtain ⟨Ao11, co11, eo11⟩ := Kd.R_slice HO140.out; (first | subst eo11 | (injection eo11 with f1_ f2_ f3_; have f4_ := f1_.symm; have f5_ := f3_.symm; clear f1_ f2_ f3_; subst f4_; subst f5_))
 obtain ⟨Ao12, co12, eo12⟩ := Kd.R_slice HO137.out; (first | subst eo12 | (injection eo12 with f1_ f2_ f3_; have f4_ := f1_.symm; have f5_ := f3_.symm; clear f1_ f2_ f3_; subst f4_; subst f5_))
 obtain ⟨Ao13, co13, eo13⟩ := Kd.R_slice HO134.out; (first | subst eo13 | (injection eo13 with f1_ f2_ f3_; have f4_ := f1_.symm; have f5_ := f3_.symm; clear f1_ f2_ f3_; subst f4_; subst f5_))
 refine hK.out _ _ ⟨(blk_cell BK130.out 0).trans rfl, (blk_cell BK130.out 1).trans rfl, (blk_cell BK130.out 2).trans rfl, (blk_cell BK130.out 3).trans rfl⟩ (fun hHeld => ?_)
 clear hK K; refine norm_ (a' := ?_) ?_ ?_
 rotate_left
 ·show Act.put _ (some 13) _ = _
  simp only [Act.put, List.setIfInBounds_toArray, List.set_cons_zero, List.set_cons_succ, i64_w, i32_w]
  rfl
 refine pure_ (i := 11) (N := some 14) (v := ?_) (a' := ?_) #[true, true, true, true, true, true, true, true, true, true, true, true, false] rfl rfl (any_of HT_.out (by kernel_rfl)) (fun _ _ _ h => h) (Or.inl ⟨by rfl, ?_⟩) ?_ ?_
 rotate_left
 ·intro w'
  go_simp
  with_reducible rfl
 rotate_left
 ·simp only [Act.put, List.setIfInBounds_toArray, List.set_cons_zero, List.set_cons_succ, i64_w, i32_w]
  rfl
 refine one_ (i := 12) (N := none) #[true, true, true, true, true, true, true, true, true, true, true, true, true] rfl rfl (one_of HT_.out (by kernel_rfl)) (by decide) (fun K hK => ?_)
 have hs14 : w10.cell? ⟨gb131, 0, none⟩ = some (.int .i64 0) := (blk_cell BK131.out 0).trans rfl; have hfs14 := BF BK131 0; have hns14_0 := NB130_131.out; have hms14_0 := NB131_130.out; have hs15 : w10.cell? ⟨gb131, 1, none⟩ = some (.slice none 0 0) := (blk_cell BK131.out 1).trans rfl; have hfs15 := BF BK131 1; have hns15_0 := NB130_131.out; have hms15_0 := NB131_130.out; have hs16 : w10.cell? ⟨gb131, 2, none⟩ = some (.slice none 0 0) := (blk_cell BK131.out 2).trans rfl; have hfs16 := BF BK131 2; have hns16_0 := NB130_131.out; have hms16_0 := NB131_130.out; have hs17 : w10.cell? ⟨gb131, 3, none⟩ = some (.slice none 0 0) := (blk_cell BK131.out 3).trans rfl; have hfs17 := BF BK131 3; have hns17_0 := NB130_131.out; have hms17_0 := NB131_130.out; refine skip_ (w1 := ?_) (by rfl) rfl ?_ ?_
 rotate_left
 ·go_simp
  rfl
 refine hK.out _ _ ⟨((cell_far (p := ⟨gb131, _, none⟩) NB130_131.out _).trans (((cell_far (p := ⟨gb131, _, none⟩) NB130_131.out _).trans (((cell_far (p := ⟨gb131, _, none⟩) NB130_131.out _).trans (((cell_far (p := ⟨gb131, _, none⟩) NB130_131.out _).trans (hHeld.1)))))))), ((cell_far (p := ⟨gb131, _, none⟩) NB130_131.out _).trans (((cell_far (p := ⟨gb131, _, none⟩) NB130_131.out _).trans (((cell_far (p := ⟨gb131, _, none⟩) NB130_131.out _).trans (((cell_far (p := ⟨gb131, _, none⟩) NB130_131.out _).trans (hHeld.2.1)))))))), ((cell_far (p := ⟨gb131, _, none⟩) NB130_131.out _).trans (((cell_far (p := ⟨gb131, _, none⟩) NB130_131.out _).trans (((cell_far (p := ⟨gb131, _, none⟩) NB130_131.out _).trans (((cell_far (p := ⟨gb131, _, none⟩) NB130_131.out _).trans (hHeld.2.2.1)))))))), ((cell_far (p := ⟨gb131, _, none⟩) NB130_131.out _).trans (((cell_far (p := ⟨gb131, _, none⟩) NB130_131.out _).trans (((cell_far (p := ⟨gb131, _, none⟩) NB130_131.out _).trans (((cell_far (p := ⟨gb131, _, none⟩) NB130_131.out _).trans (hHeld.2.2.2))))))))⟩ (fun hHeld => ?_)
 clear hK K; refine done_ (done_of HT_.out (by kernel_rfl)) ?_
 try go_wp2
 refine bodyPost_ret (results_cell_row rfl _ _ gb131 40 #[.int .i64 a0_0, .slice Ao13 t132.length co13, .slice Ao12 t135.length co12, .slice Ao11 t138.length co11] (0, 0) _ rfl (by refine blk_put (cs := #[.int .i64 a0_0, .slice Ao13 t132.length co13, .slice Ao12 t135.length co12, .slice none 0 0]) ?_ 3 _ rfl; refine blk_put (cs := #[.int .i64 a0_0, .slice Ao13 t132.length co13, .slice none 0 0, .slice none 0 0]) ?_ 2 _ rfl; refine blk_put (cs := #[.int .i64 a0_0, .slice none 0 0, .slice none 0 0, .slice none 0 0]) ?_ 1 _ rfl; refine blk_put (cs := #[.int .i64 0, .slice none 0 0, .slice none 0 0, .slice none 0 0]) ?_ 0 _ rfl; (with_reducible repeat (first | refine blk_drewN ?_ _ | refine blk_drew ?_ | refine blk_alloc ?_ _)); exact BK131.out) Try.underlying40 rfl (by kernel_rfl)) rfl ?_
 exact ⟨_, _, _, by first | rfl | (simp [errW_none, errW_some] <;> rfl) | (simp [*, errW_none, errW_some] <;> rfl), by exact Kd.R_mono (Kd.R_far (p := ⟨gb131, 3, none⟩) (Kd.R_far (p := ⟨gb131, 2, none⟩) (Kd.R_far (p := ⟨gb131, 1, none⟩) (Kd.R_far (p := ⟨gb131, 0, none⟩) (Kd.R_types HO134.out BK131.out (by decide)) (fun _ hk => hk.2) (.int .i64 a0_0)) (fun _ hk => hk.2) (.slice Ao13 t132.length co13)) (fun _ hk => hk.2) (.slice Ao12 t135.length co12)) (fun _ hk => hk.2) (.slice Ao11 t138.length co11)) (fun _ hk => trivial), by exact Kd.R_mono (Kd.R_far (p := ⟨gb131, 3, none⟩) (Kd.R_far (p := ⟨gb131, 2, none⟩) (Kd.R_far (p := ⟨gb131, 1, none⟩) (Kd.R_far (p := ⟨gb131, 0, none⟩) (Kd.R_types HO137.out BK131.out (by decide)) (fun _ hk => hk.2) (.int .i64 a0_0)) (fun _ hk => hk.2) (.slice Ao13 t132.length co13)) (fun _ hk => hk.2) (.slice Ao12 t135.length co12)) (fun _ hk => hk.2) (.slice Ao11 t138.length co11)) (fun _ hk => trivial), by exact Kd.R_mono (Kd.R_far (p := ⟨gb131, 3, none⟩) (Kd.R_far (p := ⟨gb131, 2, none⟩) (Kd.R_far (p := ⟨gb131, 1, none⟩) (Kd.R_far (p := ⟨gb131, 0, none⟩) (Kd.R_types HO140.out BK131.out (by decide)) (fun _ hk => hk.2) (.int .i64 a0_0)) (fun _ hk => hk.2) (.slice Ao13 t132.length co13)) (fun _ hk => hk.2) (.slice Ao12 t135.length co12)) (fun _ hk => hk.2) (.slice Ao11 t138.length co11)) (fun _ hk => trivial), BB HB⟩

end Go.Proofs.Ytlfjjapndlkamaa.GH
