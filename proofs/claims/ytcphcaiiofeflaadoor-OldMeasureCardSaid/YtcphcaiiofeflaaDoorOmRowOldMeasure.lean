/- Flat, a scene has the same measure, and is valid within the same limits: for every input; Go's utf8 tables are taken as its text lays them (the card ties them). -/
import Derived.Test.YtcphcaiiofeflaaDoorRows
import Derived.Test.YtcphcaiiofeflaaDoorCards
import Derived.Test.YtcphcaiiofeflaaDoorTie
import Derived.Test.YtcphcaiiofeflaaDoorOmShelf
import Derived.Test.YtcphcaiiofeflaaDoorOmOpenG
import Derived.Test.YtcphcaiiofeflaaDoorOmOpenL
import Derived.Test.YtcphcaiiofeflaaDoorOmPlain
import Derived.WalkKit
import Derived.ProofKit
import Derived.OpenShut
import Derived.ShutString
import Derived.ChangeOld
import Derived.Below
import Derived.SizedLaws
import Derived.LaidMore
import Derived.Stop.Joined
import Derived.Lay
import Derived.PinnedBridge
import Derived.Lib.LaidU8
import Derived.SevenTiedAt
namespace Go.Proofs.YtcphcaiiofeflaaDoor.oldMeasure
open Go.ChangeShapes Go.WideShapes Go.ChangeAt Go.RowKit
open Go.ChangeMaps (open_string shut_string)
set_option linter.unusedVariables false
theorem own : ownKnob Tryd.prog.godebug = none := by kernel_rfl
theorem laidOut : laidOutB Tryd.prog = true := by kernel_rfl
set_option maxRecDepth 100000 in
theorem lifted (os : Os) (started : os.Started) (H : Type) (enc : TypeId × Value → H) :
    ReturnsInHanded {} Tryd.checked os 11 .any (fun w args => (Rows.oldMeasureSpec.pre enc Tryd.prog Tryd.f11 [] false w args ∧ laidMetH Tryd.prog Rows.oldMeasureRow.laid w) ∧ sizedMet enc Tryd.prog Tryd.f11 (OpenSpec.ofChange Rows.oldMeasureSpec) false w args) (Rows.oldMeasureSpec.post enc Tryd.prog Tryd.f11 false true false false) := by
  refine returnsInHanded_of_change_and (C := Tryd.checked) (X := fun w _ => laidMetH Tryd.prog Rows.oldMeasureRow.laid w) (fun _ _ _ hh h => h.of_heap hh) own started (by kernel_rfl) Tryd.func11
    (ChangeSpec.witness_shaped (enc := enc) (C := Tryd.checked) (os := os) (X := fun w _ => laidMetH Tryd.prog Rows.oldMeasureRow.laid w) false (World.laidAll Tryd.prog os Rows.oldMeasureRow.laid) #[.agg #[.slice none 0 0, .int .i64 0], .agg #[.int .i64 0, .int .i64 0, .int .i64 0, .int .i64 0, .int .i64 0]] 8 (World.laidAll_os _ _ _)
      (World.shaped_of_ZipB (by kernel_rfl) (by kernel_rfl)) (by kernel_rfl) (by kernel_rfl) (by kernel_rfl)
      (by rw [MakeChecks.laidMetH_plain _ _ _ (by kernel_rfl)]; exact laidMet_laidAll _ (by kernel_rfl) (by kernel_rfl))) ?_
  intro W base args ds gs before hval0 hW hcnd hsz0 hL _
  rw [MakeChecks.laidMetH_plain _ _ _ (by kernel_rfl)] at hL
  have hT : Lib.Utf8Tabs 0 1 W := Go.Proofs.utf8Tabs_of_reads Tryd.lays260 ⟨by kernel_rfl, by kernel_rfl, by kernel_rfl, by kernel_rfl, by kernel_rfl, by kernel_rfl, by kernel_rfl⟩ (Pinned.utf8First_eq ▸ Lib.laidMet.reads hL (.tail _ (.head _))) (Lib.laidMet.reads hL (.head _))
  have hTabs : ∀ w', Below W.heap.size W w' → Lib.Utf8Tabs 0 1 w' := fun w' hb => Utf8Tabs_below hT hb
  have hsz : (DataW.weightsEach Tryd.prog (Tryd.f11.params.toList ++ Rows.oldMeasureSpec.plain.varTypes Tryd.prog) (ds ++ gs)).all (· ≤ reachBytes) = true := hsz0
  have hval : ∀ (j : Nat) t v, Tryd.f11.params[j]? = some t → args[j]? = some v → Value.okWide Tryd.prog W .any base t v := hval0
  have hW' := hW
  obtain ⟨p, q, hA0, hV, rfl, hfz, hnd⟩ := hW
  have hA : DataW.TrodAll enc Tryd.prog W 0 (fun _ => true) true Tryd.f11.params.toList args.toList ds p := hA0
  rw [Tryd.params11] at hA hval hsz
  obtain ⟨v0, vs0, d0, ds0, p0, q0, hargs, rfl, rfl, h0, r0⟩ := trodAll_cons hA
  obtain ⟨v1, vs1, d1, ds1, p1, q1, rfl, rfl, rfl, h1, r1⟩ := trodAll_cons r0
  obtain ⟨rfl, rfl, rfl⟩ := trodAll_nil r1
  obtain rfl : args = #[v0, v1] := by cases args; simp_all
  obtain ⟨rfl, rfl⟩ := trodVars_none hV
  have k0 := h0
  have lt0 : ∀ x ∈ p0, x.block < W.heap.size := by obtain ⟨m, hm⟩ := k0; exact DataW.trod_lt m _ _ _ hm
  obtain ⟨x0, K0, Q0⟩ := O.opens_arg GO.opens_scene h0 hsz (j := 0) rfl rfl
  have sl0 := (hval 0 24 v0 rfl rfl)
  obtain ⟨A0, c0, rfl, hc0, hr0⟩ := GO.scene_of K0 (okWide_struct Tryd.underlying24 sl0)
  have k1 := h1
  have lt1 : ∀ x ∈ p1, x.block < W.heap.size := by obtain ⟨m, hm⟩ := k1; exact DataW.trod_lt m _ _ _ hm
  obtain ⟨x1, K1, Q1⟩ := O.opens_arg GO.opens_limits h1 hsz (j := 1) rfl rfl
  have sl1 := (hval 1 26 v1 rfl rfl)
  obtain rfl := GO.limits_of K1 (okWide_struct Tryd.underlying26 sl1)
  obtain ⟨kp, hp⟩ := GO.oldmeasure_true x0.1 x0.2 x1.1 x1.2.1 x1.2.2.1 x1.2.2.2.1 x1.2.2.2.2
  clear hA0 hval0 hsz0 hsz
  refine (GO.w16_OldMeasure.calls kp A0 c0 x0.1 x0.2 x1.1 x1.2.1 x1.2.2.1 x1.2.2.2.1 x1.2.2.2.2 true W hTabs hr0 hc0 hp).mono fun e W' ⟨he, bel⟩ => ?_
  subst he
  exact ⟨_, rfl, _, _, _, [], _, [], hW', trodAll_mk1 (shut_bool Tryd.underlying4 _), (trodAll_cons_mk (Below.trod laidOut (by kernel_rfl) (of_decide_eq_true (by kernel_rfl)) k0 bel lt0) (trodAll_cons_mk (Below.trod laidOut (by kernel_rfl) (of_decide_eq_true (by kernel_rfl)) k1 bel lt1) trodAll_mk0)), rfl, bel.frame _, fun h => by cases h⟩
theorem over : Rows.oldMeasureRow.holds Tryd.pinned (OpenSpec.ofChange Rows.oldMeasureSpec) :=
  OpenClaim.holds_of_wide 11 Tryd.f11 rfl rfl rfl rfl rfl rfl rfl ⟨rfl, rfl, rfl, rfl, rfl⟩ rfl rfl rfl rfl rfl (by kernel_rfl) Tryd.func11 (by kernel_rfl)
    (of_decide_eq_true (by kernel_rfl)) (by unfold Func.isWrapper; first | (rw [if_pos (by decide +kernel)]; kernel_rfl) | (rw [if_neg (by decide +kernel)]; exact ⟨rfl, rfl⟩))
    (fun os started H enc _ => lifted os started H enc)
theorem proved : Rows.OldMeasureCardSaid :=
  Claim7.holds_tied_plain_at .later [] [.data, .pinned] true (true, "d11f2a72ce1c35b1b5ef2a568ccc43c59b244b9dc3aede7fb839d52fe2e24aa8") false over (fun _ h => by cases h) (by kernel_rfl) (fun _ h => by cases h) oldMeasure_row_tie rfl ⟨rfl, rfl⟩ (by kernel_rfl) rfl
    (fun f fn hf hfn => by
      obtain rfl : f = 11 := Option.some.inj ((show Tryd.prog.funcNamed "diorama/dioramalaw16.OldMeasure" = some 11 by kernel_rfl).symm.trans hf) |>.symm
      obtain rfl : fn = Tryd.f11 := (Option.some.inj (Tryd.func11.symm.trans hfn)).symm
      exact ⟨by kernel_rfl, fun j t ht => by
        rw [Tryd.params11] at ht
        have hm : t ∈ [24, 26] := by simpa using Array.mem_of_getElem? ht
        have hall : ([24, 26].all fun u => !Tryd.prog.wantsStandIn u) = true := by kernel_rfl
        exact (show Tryd.prog.wantsStandIn t = false by simpa using List.all_eq_true.1 hall t hm)⟩)
    (by kernel_rfl)
end Go.Proofs.YtcphcaiiofeflaaDoor.oldMeasure
namespace Go.Proofs.YtcphcaiiofeflaaDoor
/-- The row, under a short name, for the claim. -/
theorem oldMeasure_holds : Rows.OldMeasureCardSaid := oldMeasure.proved
end Go.Proofs.YtcphcaiiofeflaaDoor
