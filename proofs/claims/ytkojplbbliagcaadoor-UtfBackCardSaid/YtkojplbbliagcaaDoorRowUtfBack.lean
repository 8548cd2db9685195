/- Characters that are put are read as they were; a text that is UTF-8 is put as it was: for every input; Go's utf8 tables are taken as its text lays them (the card ties them). -/
import Derived.Test.YtkojplbbliagcaaDoorRows
import Derived.Test.YtkojplbbliagcaaDoorCards
import Derived.Test.YtkojplbbliagcaaDoorTie
import Derived.Test.YtkojplbbliagcaaDoorShelf
import Derived.Test.YtkojplbbliagcaaDoorOpenR
import Derived.Test.YtkojplbbliagcaaDoorPureUtfBack
import Derived.Test.YtkojplbbliagcaaDoorGUtfx4
import Derived.WalkKit
import Derived.ProofKit
import Derived.OpenShut
import Derived.ShutString
import Derived.ChangeOld
import Derived.Below
import Derived.SizedLaws
import Derived.LaidMore
import Derived.Stop.Joined
import Derived.Lay
import Derived.PinnedBridge
import Derived.Lib.LaidU8
import Derived.SevenTiedAt
namespace Go.Proofs.YtkojplbbliagcaaDoor.utfBack
open Go.ChangeShapes Go.WideShapes Go.ChangeAt Go.RowKit
open Go.ChangeMaps (open_string shut_string)
set_option linter.unusedVariables false
theorem own : ownKnob Tryd.prog.godebug = none := by kernel_rfl
theorem laidOut : laidOutB Tryd.prog = true := by kernel_rfl
set_option maxRecDepth 100000 in
theorem lifted (os : Os) (started : os.Started) (H : Type) (enc : TypeId × Value → H) :
    ReturnsInHanded {} Tryd.checked os 5 .any (fun w args => (Rows.utfBackSpec.pre enc Tryd.prog Tryd.f5 [] false w args ∧ laidMetH Tryd.prog Rows.utfBackRow.laid w) ∧ sizedMet enc Tryd.prog Tryd.f5 (OpenSpec.ofChange Rows.utfBackSpec) false w args) (Rows.utfBackSpec.post enc Tryd.prog Tryd.f5 false true false false) := by
  refine returnsInHanded_of_change_and (C := Tryd.checked) (X := fun w _ => laidMetH Tryd.prog Rows.utfBackRow.laid w) (fun _ _ _ hh h => h.of_heap hh) own started (by kernel_rfl) Tryd.func5
    (ChangeSpec.witness_shaped (enc := enc) (C := Tryd.checked) (os := os) (X := fun w _ => laidMetH Tryd.prog Rows.utfBackRow.laid w) false (World.laidAll Tryd.prog os Rows.utfBackRow.laid) #[.slice none 0 0, .string ByteArray.empty] 8 (World.laidAll_os _ _ _)
      (World.shaped_of_ZipB (by kernel_rfl) (by kernel_rfl)) (by kernel_rfl) (by kernel_rfl) (by kernel_rfl)
      (by rw [MakeChecks.laidMetH_plain _ _ _ (by kernel_rfl)]; exact laidMet_laidAll _ (by kernel_rfl) (by kernel_rfl))) ?_
  intro W base args ds gs before hval0 hW hcnd hsz0 hL _
  rw [MakeChecks.laidMetH_plain _ _ _ (by kernel_rfl)] at hL
  have hT : Lib.Utf8Tabs 0 1 W := Go.Proofs.utf8Tabs_of_reads Tryd.lays260 ⟨by kernel_rfl, by kernel_rfl, by kernel_rfl, by kernel_rfl, by kernel_rfl, by kernel_rfl, by kernel_rfl⟩ (Pinned.utf8First_eq ▸ Lib.laidMet.reads hL (.tail _ (.head _))) (Lib.laidMet.reads hL (.head _))
  have hTabs : ∀ w', Below W.heap.size W w' → Lib.Utf8Tabs 0 1 w' := fun w' hb => Utf8Tabs_below hT hb
  have hsz : (DataW.weightsEach Tryd.prog (Tryd.f5.params.toList ++ Rows.utfBackSpec.plain.varTypes Tryd.prog) (ds ++ gs)).all (· ≤ reachBytes) = true := hsz0
  have hval : ∀ (j : Nat) t v, Tryd.f5.params[j]? = some t → args[j]? = some v → Value.okWide Tryd.prog W .any base t v := hval0
  have hW' := hW
  obtain ⟨p, q, hA0, hV, rfl, hfz, hnd⟩ := hW
  have hA : DataW.TrodAll enc Tryd.prog W 0 (fun _ => true) true Tryd.f5.params.toList args.toList ds p := hA0
  rw [Tryd.params5] at hA hval hsz
  obtain ⟨v0, vs0, d0, ds0, p0, q0, hargs, rfl, rfl, h0, r0⟩ := trodAll_cons hA
  obtain ⟨v1, vs1, d1, ds1, p1, q1, rfl, rfl, rfl, h1, r1⟩ := trodAll_cons r0
  obtain ⟨rfl, rfl, rfl⟩ := trodAll_nil r1
  obtain rfl : args = #[v0, v1] := by cases args; simp_all
  obtain ⟨rfl, rfl⟩ := trodVars_none hV
  have k0 := h0
  have lt0 : ∀ x ∈ p0, x.block < W.heap.size := by obtain ⟨m, hm⟩ := k0; exact DataW.trod_lt m _ _ _ hm
  obtain ⟨x0, K0, Q0⟩ := O.opens_arg (O.opens_slice Tryd.underlying23 (by kernel_rfl) (O.opens_int Tryd.underlying21)) h0 hsz (j := 0) rfl rfl
  have sl0 := okWide_slice Tryd.underlying23 (hval 0 23 v0 rfl rfl)
  obtain ⟨A0, c0, rfl, hc0, hr0⟩ := O.slice_of K0 sl0
  have hb0 : Tryd.prog.bytesOf 21 = 4 := by kernel_rfl
  have hq0 := Q0.1
  rw [hb0] at hq0
  obtain ⟨a1, rfl, rfl, rfl, y1⟩ := open_string Tryd.underlying9 (hval 1 9 v1 rfl rfl) h1
  have w1 : a1.size ≤ 140737488351232 := by
    have z := sized_string hsz (j := 1) (t := 9) rfl rfl
    rw [Array.length_toList] at z
    exact z
  obtain ⟨kp, hp⟩ := Pure.UtfBack x0 a1 (by unfold maxLen; unfold reachBytes at hq0; omega) hq0 Q0.2 w1
  clear hA0 hval0 hsz0 hsz
  refine (GUtf.dioramalaw05_UtfBack.calls kp A0 c0 x0 a1 true W hTabs hr0 hc0 hp).mono fun e W' ⟨he, bel⟩ => ?_
  subst he
  exact ⟨_, rfl, _, _, _, [], _, [], hW', trodAll_mk1 (shut_bool Tryd.underlying4 _), (trodAll_cons_mk (Below.trod laidOut (by kernel_rfl) (of_decide_eq_true (by kernel_rfl)) k0 bel lt0) (trodAll_cons_mk (shut_string Tryd.underlying9 y1) trodAll_mk0)), rfl, bel.frame _, fun h => by cases h⟩
theorem over : Rows.utfBackRow.holds Tryd.pinned (OpenSpec.ofChange Rows.utfBackSpec) :=
  OpenClaim.holds_of_wide 5 Tryd.f5 rfl rfl rfl rfl rfl rfl rfl ⟨rfl, rfl, rfl, rfl, rfl⟩ rfl rfl rfl rfl rfl (by kernel_rfl) Tryd.func5 (by kernel_rfl)
    (of_decide_eq_true (by kernel_rfl)) (by unfold Func.isWrapper; first | (rw [if_pos (by decide +kernel)]; kernel_rfl) | (rw [if_neg (by decide +kernel)]; exact ⟨rfl, rfl⟩))
    (fun os started H enc _ => lifted os started H enc)
theorem proved : Rows.UtfBackCardSaid :=
  Claim7.holds_tied_plain_at .later [] [.data, .pinned] true (true, "21a46ae35432c692d66d0021fa049c49f17ccd8af47ecd7736c647a5160fd4ba") false over (fun _ h => by cases h) (by kernel_rfl) (fun _ h => by cases h) utfBack_row_tie rfl ⟨rfl, rfl⟩ (by kernel_rfl) rfl
    (fun f fn hf hfn => by
      obtain rfl : f = 5 := Option.some.inj ((show Tryd.prog.funcNamed "diorama/dioramalaw05.UtfBack" = some 5 by kernel_rfl).symm.trans hf) |>.symm
      obtain rfl : fn = Tryd.f5 := (Option.some.inj (Tryd.func5.symm.trans hfn)).symm
      exact ⟨by kernel_rfl, fun j t ht => by
        rw [Tryd.params5] at ht
        have hm : t ∈ [23, 9] := by simpa using Array.mem_of_getElem? ht
        have hall : ([23, 9].all fun u => !Tryd.prog.wantsStandIn u) = true := by kernel_rfl
        exact (show Tryd.prog.wantsStandIn t = false by simpa using List.all_eq_true.1 hall t hm)⟩)
    (by kernel_rfl)
end Go.Proofs.YtkojplbbliagcaaDoor.utfBack
namespace Go.Proofs.YtkojplbbliagcaaDoor
/-- The row, under a short name, for the claim. -/
theorem utfBack_holds : Rows.UtfBackCardSaid := utfBack.proved
end Go.Proofs.YtkojplbbliagcaaDoor
