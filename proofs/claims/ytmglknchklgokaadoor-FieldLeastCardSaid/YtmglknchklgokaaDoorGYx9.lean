-- Printed by a program of the session (wip/gen/tprint.py, over a turned copy of the kit's print): Lean checks it.
import Derived.Test.YtmglknchklgokaaDoorGYx0
import Derived.Test.YtmglknchklgokaaDoorGYx1
import Derived.Test.YtmglknchklgokaaDoorGYx2
import Derived.Test.YtmglknchklgokaaDoorGYx3
import Derived.Test.YtmglknchklgokaaDoorGYx4
import Derived.Test.YtmglknchklgokaaDoorGYx6
import Derived.Test.YtmglknchklgokaaDoorGYx7
import Derived.Test.YtmglknchklgokaaDoorGYx8
namespace Go.Proofs.YtmglknchklgokaaDoor.GY
open Go.RowKit Go.Proofs.YtmglknchklgokaaDoorW.PrintWords Go.Proofs.YtmglknchklgokaaDoorW.PrintLast Go.Proofs.YtmglknchklgokaaDoorW.PrintMore
attribute [local go_sem] max2_int min2_int max_two min_two max_three min_three max_four min_four   -- for this text's walks alone
set_option linter.unusedVariables false
set_option linter.unusedSimpArgs false

attribute [local go_sem high] eqA75
/-! ### dioramalaw08_awake: function 13 -/
def dioramalaw08_awake.f (k : Nat)  : Option (Bool) := (schema_New.f 4).bind fun bt180 => ((some (([5] : List Int) : List Int)).bind fun y188 => ((some (([(⟨#[119, 111, 111, 100]⟩ : ByteArray)] : List ByteArray) : List ByteArray)).bind fun y191 => ((some (([6] : List Int) : List Int)).bind fun y195 => ((some (([(⟨#[119, 111, 111, 100]⟩ : ByteArray)] : List ByteArray) : List ByteArray)).bind fun y198 => ((field_Diff.f k 4 y188 y191 ([] : List Int) 4 y195 y198 ([] : List Int)).bind fun bt202 => ((field_Set.f k 4 y188 y191 ([] : List Int) bt202.1).bind fun bt206 => ((field_Set.f k 4 y188 y191 ([] : List Int) (([(⟨false, 1, 0, (⟨#[]⟩ : ByteArray)⟩ : S75)] : List (S75)))).bind fun bt221 => ((field_Check.f k 4 y188 y191 ([] : List Int) bt180.1 bt180.2.1 bt180.2.2.1 bt180.2.2.2.1).bind fun t233 => (if t233 = 0 then ((field_Check.f k 0 ([] : List Int) ([] : List ByteArray) ([] : List Int) bt180.1 bt180.2.1 bt180.2.2.1 bt180.2.2.2.1).bind fun t234 => (if t234 = 10 then (if bt202.2 = true then (if (bt202.1.length : Int) = 1 then (if 0 < (bt202.1.length : Int) then (if (!((rd_T75 bt202.1 0).f0) && (((rd_T75 bt202.1 0).f1) == 0 && (((rd_T75 bt202.1 0).f2) == 6 && ((((rd_T75 bt202.1 0).f3).toList) == ([] : List UInt8))))) = true then (if bt206.2.2.2.2 = 0 then ((dioramaref08_Same.f k bt206.1 bt206.2.1 bt206.2.2.1 bt206.2.2.2.1 4 y195 y198 ([] : List Int)).bind fun t236 => (if t236 = true then (if bt221.2.2.2.2 = 21 then ((field_Copy.f 4 y188 y191 ([] : List Int)).bind fun bt237 => ((dioramaref08_Same.f k bt237.1 bt237.2.1 bt237.2.2.1 bt237.2.2.2 4 y188 y191 ([] : List Int)).bind fun t247 => (some t247))) else (none)) else (none))) else (none)) else (none)) else (none)) else (none)) else (none)) else (none))) else (none))))))))))
theorem dioramalaw08_awake.mono : ∀ k, LeO (dioramalaw08_awake.f k ) (dioramalaw08_awake.f (k + 1) ) := by
 intro  k
 unfold dioramalaw08_awake.f
 repeat' first
   | (with_reducible exact dioramaref08_Same.mono _ _ _ _ _ _ _ _ _)
   | (with_reducible exact field_Check.mono _ _ _ _ _ _ _ _ _)
   | (with_reducible exact field_Diff.mono _ _ _ _ _ _ _ _ _)
   | (with_reducible exact field_Set.mono _ _ _ _ _ _)
   | (with_reducible exact LeO.refl _)
   | (with_reducible exact LeO.none _)
   | (with_reducible refine LeO.ite ?_ ?_)
   | (with_reducible refine LeO.bind ?_ (fun _ => ?_))
   | exact dioramaref08_Same.mono _ _ _ _ _ _ _ _ _
   | exact field_Check.mono _ _ _ _ _ _ _ _ _
   | exact field_Diff.mono _ _ _ _ _ _ _ _ _
   | exact field_Set.mono _ _ _ _ _ _
   | exact LeO.none _
   | refine LeO.ite ?_ ?_
   | refine LeO.bind ?_ (fun _ => ?_)
def dioramalaw08_awake.T7 : Bool × List (List Nat × List Nat) := (true, [([], []), ([], []), ([0, 1], [0, 1]), ([2], [2]), ([3, 2], [3]), ([4], [4]), ([4], [4]), ([5, 6, 4, 4], [4, 5, 6]), ([7, 4], [4, 7]), ([4, 8], [4, 8]), ([9, 7], [9]), ([10], [10]), ([10, 11], [10, 11]), ([12, 10], [12]), ([13], [13]), ([14, 13], [13, 14]), ([15, 13], [13, 15]), ([13, 16], [13, 16]), ([17, 13], [17]), ([18], [18]), ([19, 18], [18, 19]), ([20, 18], [18, 20]), ([18], [18]), ([21, 22, 18], [18, 21, 22]), ([18, 23], [18, 23]), ([24, 18], [24]), ([25], [25]), ([26, 25], [25, 26]), ([25, 27], [25, 27]), ([28, 25], [28]), ([29], [29]), ([29], [29]), ([30, 31, 29, 29], [29, 30, 31]), ([29, 32], [29, 32]), ([33, 32], [33]), ([34], [34]), ([35, 34], [34, 35]), ([34, 36], [34, 36]), ([37, 34], [37]), ([38], [38]), ([39, 38, 38], [38, 39]), ([38], [38]), ([40, 41, 40, 38], [38, 40, 41]), ([38, 42], [38, 42]), ([43, 42, 0, 1, 2, 3, 4, 5, 6, 7, 8, 9, 10, 11, 12, 13, 14, 15, 16, 17, 18, 19, 20, 21, 22, 23, 24, 25, 26, 27, 28, 29, 30, 31, 32, 33, 34, 35, 36, 37, 38, 39, 40, 41, 42, 43], [43])])
def dioramalaw08_awake.B7 : List Nat := [0, 0, 3, 7, 15, 31, 31, 127, 255, 511, 1023, 2047, 4095, 8191, 16383, 32767, 65535, 131071, 262143, 524287, 1048575, 2097151, 524287, 8388607, 16777215, 33554431, 67108863, 134217727, 268435455, 536870911, 1073741823, 1073741823, 4294967295, 8589934591, 17179869183, 34359738367, 68719476735, 137438953471, 274877906943, 549755813887, 1099511627775, 549755813887, 4398046511103, 8796093022207, 17592186044415]
theorem dioramalaw08_awake.tab7 : rtab .any (opsOf Tryd.f13 7) = dioramalaw08_awake.T7 := by kernel_rfl
theorem dioramalaw08_awake.bits7 : waitsOk dioramalaw08_awake.T7.2 dioramalaw08_awake.B7 = true := by kernel_rfl
set_option maxHeartbeats 8000000 in
set_option maxRecDepth 100000 in
theorem dioramalaw08_awake.calls (k : Nat)  (r : Bool) (w : World) (ht_ : ∀ w', Below w.heap.size w w' → Go.Lib.Utf8Tabs 0 1 w') (h : dioramalaw08_awake.f k  = some r) :
  Calls Tryd.prog 13 #[] w fun e w' => e = .returned (.bool r) ∧ Below w.heap.size w w' := by
 have HTB_ := Aside0.mk ht_
 clear ht_
 have hu28 := Tryd.underlying28
 have hu26 := Tryd.underlying26
 have hu75 := Tryd.underlying75
 have HB := Aside0.mk (Below.refl w.heap.size w)
 have H : ((schema_New.f 4).bind fun bt180 => ((some (([5] : List Int) : List Int)).bind fun y188 => ((some (([(⟨#[119, 111, 111, 100]⟩ : ByteArray)] : List ByteArray) : List ByteArray)).bind fun y191 => ((some (([6] : List Int) : List Int)).bind fun y195 => ((some (([(⟨#[119, 111, 111, 100]⟩ : ByteArray)] : List ByteArray) : List ByteArray)).bind fun y198 => ((field_Diff.f k 4 y188 y191 ([] : List Int) 4 y195 y198 ([] : List Int)).bind fun bt202 => ((field_Set.f k 4 y188 y191 ([] : List Int) bt202.1).bind fun bt206 => ((field_Set.f k 4 y188 y191 ([] : List Int) (([(⟨false, 1, 0, (⟨#[]⟩ : ByteArray)⟩ : S75)] : List (S75)))).bind fun bt221 => ((field_Check.f k 4 y188 y191 ([] : List Int) bt180.1 bt180.2.1 bt180.2.2.1 bt180.2.2.2.1).bind fun t233 => (if t233 = 0 then ((field_Check.f k 0 ([] : List Int) ([] : List ByteArray) ([] : List Int) bt180.1 bt180.2.1 bt180.2.2.1 bt180.2.2.2.1).bind fun t234 => (if t234 = 10 then (if bt202.2 = true then (if (bt202.1.length : Int) = 1 then (if 0 < (bt202.1.length : Int) then (if (!((rd_T75 bt202.1 0).f0) && (((rd_T75 bt202.1 0).f1) == 0 && (((rd_T75 bt202.1 0).f2) == 6 && ((((rd_T75 bt202.1 0).f3).toList) == ([] : List UInt8))))) = true then (if bt206.2.2.2.2 = 0 then ((dioramaref08_Same.f k bt206.1 bt206.2.1 bt206.2.2.1 bt206.2.2.2.1 4 y195 y198 ([] : List Int)).bind fun t236 => (if t236 = true then (if bt221.2.2.2.2 = 21 then ((field_Copy.f 4 y188 y191 ([] : List Int)).bind fun bt237 => ((dioramaref08_Same.f k bt237.1 bt237.2.1 bt237.2.2.1 bt237.2.2.2 4 y188 y191 ([] : List Int)).bind fun t247 => (some t247))) else (none)) else (none))) else (none)) else (none)) else (none)) else (none)) else (none)) else (none))) else (none))))))))))) = some r := h
 clear h
 replace H := Option.bind_eq_some_iff.mp H
 obtain ⟨⟨t180, t183, t184, t185, t186⟩, A10, H⟩ := H
 replace H : ((some (([5] : List Int) : List Int)).bind fun y188 => ((some (([(⟨#[119, 111, 111, 100]⟩ : ByteArray)] : List ByteArray) : List ByteArray)).bind fun y191 => ((some (([6] : List Int) : List Int)).bind fun y195 => ((some (([(⟨#[119, 111, 111, 100]⟩ : ByteArray)] : List ByteArray) : List ByteArray)).bind fun y198 => ((field_Diff.f k 4 y188 y191 ([] : List Int) 4 y195 y198 ([] : List Int)).bind fun bt202 => ((field_Set.f k 4 y188 y191 ([] : List Int) bt202.1).bind fun bt206 => ((field_Set.f k 4 y188 y191 ([] : List Int) (([(⟨false, 1, 0, (⟨#[]⟩ : ByteArray)⟩ : S75)] : List (S75)))).bind fun bt221 => ((field_Check.f k 4 y188 y191 ([] : List Int) t180 t183 t184 t185).bind fun t233 => (if t233 = 0 then ((field_Check.f k 0 ([] : List Int) ([] : List ByteArray) ([] : List Int) t180 t183 t184 t185).bind fun t234 => (if t234 = 10 then (if bt202.2 = true then (if (bt202.1.length : Int) = 1 then (if 0 < (bt202.1.length : Int) then (if (!((rd_T75 bt202.1 0).f0) && (((rd_T75 bt202.1 0).f1) == 0 && (((rd_T75 bt202.1 0).f2) == 6 && ((((rd_T75 bt202.1 0).f3).toList) == ([] : List UInt8))))) = true then (if bt206.2.2.2.2 = 0 then ((dioramaref08_Same.f k bt206.1 bt206.2.1 bt206.2.2.1 bt206.2.2.2.1 4 y195 y198 ([] : List Int)).bind fun t236 => (if t236 = true then (if bt221.2.2.2.2 = 21 then ((field_Copy.f 4 y188 y191 ([] : List Int)).bind fun bt237 => ((dioramaref08_Same.f k bt237.1 bt237.2.1 bt237.2.2.1 bt237.2.2.2 4 y188 y191 ([] : List Int)).bind fun t247 => (some t247))) else (none)) else (none))) else (none)) else (none)) else (none)) else (none)) else (none)) else (none))) else (none)))))))))) = some r := H
 have A1 := Aside0.mk A10
 clear A10
 obtain ⟨y188, hy188⟩ : ∃ y_ : List Int, y_ = (([5] : List Int)) := ⟨_, rfl⟩
 replace H : ((some (([(⟨#[119, 111, 111, 100]⟩ : ByteArray)] : List ByteArray) : List ByteArray)).bind fun y191 => ((some (([6] : List Int) : List Int)).bind fun y195 => ((some (([(⟨#[119, 111, 111, 100]⟩ : ByteArray)] : List ByteArray) : List ByteArray)).bind fun y198 => ((field_Diff.f k 4 y188 y191 ([] : List Int) 4 y195 y198 ([] : List Int)).bind fun bt202 => ((field_Set.f k 4 y188 y191 ([] : List Int) bt202.1).bind fun bt206 => ((field_Set.f k 4 y188 y191 ([] : List Int) (([(⟨false, 1, 0, (⟨#[]⟩ : ByteArray)⟩ : S75)] : List (S75)))).bind fun bt221 => ((field_Check.f k 4 y188 y191 ([] : List Int) t180 t183 t184 t185).bind fun t233 => (if t233 = 0 then ((field_Check.f k 0 ([] : List Int) ([] : List ByteArray) ([] : List Int) t180 t183 t184 t185).bind fun t234 => (if t234 = 10 then (if bt202.2 = true then (if (bt202.1.length : Int) = 1 then (if 0 < (bt202.1.length : Int) then (if (!((rd_T75 bt202.1 0).f0) && (((rd_T75 bt202.1 0).f1) == 0 && (((rd_T75 bt202.1 0).f2) == 6 && ((((rd_T75 bt202.1 0).f3).toList) == ([] : List UInt8))))) = true then (if bt206.2.2.2.2 = 0 then ((dioramaref08_Same.f k bt206.1 bt206.2.1 bt206.2.2.1 bt206.2.2.2.1 4 y195 y198 ([] : List Int)).bind fun t236 => (if t236 = true then (if bt221.2.2.2.2 = 21 then ((field_Copy.f 4 y188 y191 ([] : List Int)).bind fun bt237 => ((dioramaref08_Same.f k bt237.1 bt237.2.1 bt237.2.2.1 bt237.2.2.2 4 y188 y191 ([] : List Int)).bind fun t247 => (some t247))) else (none)) else (none))) else (none)) else (none)) else (none)) else (none)) else (none)) else (none))) else (none))))))))) = some r := by first | (rw [hy188]; with_reducible exact H) | (have H2_ := (Option.bind_some _ _).symm.trans H; rw [hy188]; with_reducible exact H2_) | (have H2_ := (Option.bind_some _ _).symm.trans H; with_reducible exact H2_) | with_reducible exact H | (rw [hy188]; exact H) | exact H
 have Ny188 := Aside0.mk hy188
 clear hy188
 obtain ⟨y191, hy191⟩ : ∃ y_ : List ByteArray, y_ = (([(⟨#[119, 111, 111, 100]⟩ : ByteArray)] : List ByteArray)) := ⟨_, rfl⟩
 replace H : ((some (([6] : List Int) : List Int)).bind fun y195 => ((some (([(⟨#[119, 111, 111, 100]⟩ : ByteArray)] : List ByteArray) : List ByteArray)).bind fun y198 => ((field_Diff.f k 4 y188 y191 ([] : List Int) 4 y195 y198 ([] : List Int)).bind fun bt202 => ((field_Set.f k 4 y188 y191 ([] : List Int) bt202.1).bind fun bt206 => ((field_Set.f k 4 y188 y191 ([] : List Int) (([(⟨false, 1, 0, (⟨#[]⟩ : ByteArray)⟩ : S75)] : List (S75)))).bind fun bt221 => ((field_Check.f k 4 y188 y191 ([] : List Int) t180 t183 t184 t185).bind fun t233 => (if t233 = 0 then ((field_Check.f k 0 ([] : List Int) ([] : List ByteArray) ([] : List Int) t180 t183 t184 t185).bind fun t234 => (if t234 = 10 then (if bt202.2 = true then (if (bt202.1.length : Int) = 1 then (if 0 < (bt202.1.length : Int) then (if (!((rd_T75 bt202.1 0).f0) && (((rd_T75 bt202.1 0).f1) == 0 && (((rd_T75 bt202.1 0).f2) == 6 && ((((rd_T75 bt202.1 0).f3).toList) == ([] : List UInt8))))) = true then (if bt206.2.2.2.2 = 0 then ((dioramaref08_Same.f k bt206.1 bt206.2.1 bt206.2.2.1 bt206.2.2.2.1 4 y195 y198 ([] : List Int)).bind fun t236 => (if t236 = true then (if bt221.2.2.2.2 = 21 then ((field_Copy.f 4 y188 y191 ([] : List Int)).bind fun bt237 => ((dioramaref08_Same.f k bt237.1 bt237.2.1 bt237.2.2.1 bt237.2.2.2 4 y188 y191 ([] : List Int)).bind fun t247 => (some t247))) else (none)) else (none))) else (none)) else (none)) else (none)) else (none)) else (none)) else (none))) else (none)))))))) = some r := by first | (rw [hy191]; with_reducible exact H) | (have H2_ := (Option.bind_some _ _).symm.trans H; rw [hy191]; with_reducible exact H2_) | (have H2_ := (Option.bind_some _ _).symm.trans H; with_reducible exact H2_) | with_reducible exact H | (rw [hy191]; exact H) | exact H
 have Ny191 := Aside0.mk hy191
 clear hy191
 obtain ⟨y195, hy195⟩ : ∃ y_ : List Int, y_ = (([6] : List Int)) := ⟨_, rfl⟩
 replace H : ((some (([(⟨#[119, 111, 111, 100]⟩ : ByteArray)] : List ByteArray) : List ByteArray)).bind fun y198 => ((field_Diff.f k 4 y188 y191 ([] : List Int) 4 y195 y198 ([] : List Int)).bind fun bt202 => ((field_Set.f k 4 y188 y191 ([] : List Int) bt202.1).bind fun bt206 => ((field_Set.f k 4 y188 y191 ([] : List Int) (([(⟨false, 1, 0, (⟨#[]⟩ : ByteArray)⟩ : S75)] : List (S75)))).bind fun bt221 => ((field_Check.f k 4 y188 y191 ([] : List Int) t180 t183 t184 t185).bind fun t233 => (if t233 = 0 then ((field_Check.f k 0 ([] : List Int) ([] : List ByteArray) ([] : List Int) t180 t183 t184 t185).bind fun t234 => (if t234 = 10 then (if bt202.2 = true then (if (bt202.1.length : Int) = 1 then (if 0 < (bt202.1.length : Int) then (if (!((rd_T75 bt202.1 0).f0) && (((rd_T75 bt202.1 0).f1) == 0 && (((rd_T75 bt202.1 0).f2) == 6 && ((((rd_T75 bt202.1 0).f3).toList) == ([] : List UInt8))))) = true then (if bt206.2.2.2.2 = 0 then ((dioramaref08_Same.f k bt206.1 bt206.2.1 bt206.2.2.1 bt206.2.2.2.1 4 y195 y198 ([] : List Int)).bind fun t236 => (if t236 = true then (if bt221.2.2.2.2 = 21 then ((field_Copy.f 4 y188 y191 ([] : List Int)).bind fun bt237 => ((dioramaref08_Same.f k bt237.1 bt237.2.1 bt237.2.2.1 bt237.2.2.2 4 y188 y191 ([] : List Int)).bind fun t247 => (some t247))) else (none)) else (none))) else (none)) else (none)) else (none)) else (none)) else (none)) else (none))) else (none))))))) = some r := by first | (rw [hy195]; with_reducible exact H) | (have H2_ := (Option.bind_some _ _).symm.trans H; rw [hy195]; with_reducible exact H2_) | (have H2_ := (Option.bind_some _ _).symm.trans H; with_reducible exact H2_) | with_reducible exact H | (rw [hy195]; exact H) | exact H
 have Ny195 := Aside0.mk hy195
 clear hy195
 obtain ⟨y198, hy198⟩ : ∃ y_ : List ByteArray, y_ = (([(⟨#[119, 111, 111, 100]⟩ : ByteArray)] : List ByteArray)) := ⟨_, rfl⟩
 replace H : ((field_Diff.f k 4 y188 y191 ([] : List Int) 4 y195 y198 ([] : List Int)).bind fun bt202 => ((field_Set.f k 4 y188 y191 ([] : List Int) bt202.1).bind fun bt206 => ((field_Set.f k 4 y188 y191 ([] : List Int) (([(⟨false, 1, 0, (⟨#[]⟩ : ByteArray)⟩ : S75)] : List (S75)))).bind fun bt221 => ((field_Check.f k 4 y188 y191 ([] : List Int) t180 t183 t184 t185).bind fun t233 => (if t233 = 0 then ((field_Check.f k 0 ([] : List Int) ([] : List ByteArray) ([] : List Int) t180 t183 t184 t185).bind fun t234 => (if t234 = 10 then (if bt202.2 = true then (if (bt202.1.length : Int) = 1 then (if 0 < (bt202.1.length : Int) then (if (!((rd_T75 bt202.1 0).f0) && (((rd_T75 bt202.1 0).f1) == 0 && (((rd_T75 bt202.1 0).f2) == 6 && ((((rd_T75 bt202.1 0).f3).toList) == ([] : List UInt8))))) = true then (if bt206.2.2.2.2 = 0 then ((dioramaref08_Same.f k bt206.1 bt206.2.1 bt206.2.2.1 bt206.2.2.2.1 4 y195 y198 ([] : List Int)).bind fun t236 => (if t236 = true then (if bt221.2.2.2.2 = 21 then ((field_Copy.f 4 y188 y191 ([] : List Int)).bind fun bt237 => ((dioramaref08_Same.f k bt237.1 bt237.2.1 bt237.2.2.1 bt237.2.2.2 4 y188 y191 ([] : List Int)).bind fun t247 => (some t247))) else (none)) else (none))) else (none)) else (none)) else (none)) else (none)) else (none)) else (none))) else (none)))))) = some r := by first | (rw [hy198]; with_reducible exact H) | (have H2_ := (Option.bind_some _ _).symm.trans H; rw [hy198]; with_reducible exact H2_) | (have H2_ := (Option.bind_some _ _).symm.trans H; with_reducible exact H2_) | with_reducible exact H | (rw [hy198]; exact H) | exact H
 have Ny198 := Aside0.mk hy198
 clear hy198
 replace H := Option.bind_eq_some_iff.mp H
 obtain ⟨⟨t202, t205⟩, A20, H⟩ := H
 replace H : ((field_Set.f k 4 y188 y191 ([] : List Int) t202).bind fun bt206 => ((field_Set.f k 4 y188 y191 ([] : List Int) (([(⟨false, 1, 0, (⟨#[]⟩ : ByteArray)⟩ : S75)] : List (S75)))).bind fun bt221 => ((field_Check.f k 4 y188 y191 ([] : List Int) t180 t183 t184 t185).bind fun t233 => (if t233 = 0 then ((field_Check.f k 0 ([] : List Int) ([] : List ByteArray) ([] : List Int) t180 t183 t184 t185).bind fun t234 => (if t234 = 10 then (if t205 = true then (if (t202.length : Int) = 1 then (if 0 < (t202.length : Int) then (if (!((rd_T75 t202 0).f0) && (((rd_T75 t202 0).f1) == 0 && (((rd_T75 t202 0).f2) == 6 && ((((rd_T75 t202 0).f3).toList) == ([] : List UInt8))))) = true then (if bt206.2.2.2.2 = 0 then ((dioramaref08_Same.f k bt206.1 bt206.2.1 bt206.2.2.1 bt206.2.2.2.1 4 y195 y198 ([] : List Int)).bind fun t236 => (if t236 = true then (if bt221.2.2.2.2 = 21 then ((field_Copy.f 4 y188 y191 ([] : List Int)).bind fun bt237 => ((dioramaref08_Same.f k bt237.1 bt237.2.1 bt237.2.2.1 bt237.2.2.2 4 y188 y191 ([] : List Int)).bind fun t247 => (some t247))) else (none)) else (none))) else (none)) else (none)) else (none)) else (none)) else (none)) else (none))) else (none))))) = some r := H
 have A2 := Aside0.mk A20
 clear A20
 replace H := Option.bind_eq_some_iff.mp H
 obtain ⟨⟨t206, t207, t210, t213, t216⟩, A30, H⟩ := H
 replace H : ((field_Set.f k 4 y188 y191 ([] : List Int) (([(⟨false, 1, 0, (⟨#[]⟩ : ByteArray)⟩ : S75)] : List (S75)))).bind fun bt221 => ((field_Check.f k 4 y188 y191 ([] : List Int) t180 t183 t184 t185).bind fun t233 => (if t233 = 0 then ((field_Check.f k 0 ([] : List Int) ([] : List ByteArray) ([] : List Int) t180 t183 t184 t185).bind fun t234 => (if t234 = 10 then (if t205 = true then (if (t202.length : Int) = 1 then (if 0 < (t202.length : Int) then (if (!((rd_T75 t202 0).f0) && (((rd_T75 t202 0).f1) == 0 && (((rd_T75 t202 0).f2) == 6 && ((((rd_T75 t202 0).f3).toList) == ([] : List UInt8))))) = true then (if t216 = 0 then ((dioramaref08_Same.f k t206 t207 t210 t213 4 y195 y198 ([] : List Int)).bind fun t236 => (if t236 = true then (if bt221.2.2.2.2 = 21 then ((field_Copy.f 4 y188 y191 ([] : List Int)).bind fun bt237 => ((dioramaref08_Same.f k bt237.1 bt237.2.1 bt237.2.2.1 bt237.2.2.2 4 y188 y191 ([] : List Int)).bind fun t247 => (some t247))) else (none)) else (none))) else (none)) else (none)) else (none)) else (none)) else (none)) else (none))) else (none)))) = some r := H
 have A3 := Aside0.mk A30
 clear A30
 obtain ⟨y218, hy218⟩ : ∃ y_ : List (S75), y_ = (([(⟨false, 1, 0, (⟨#[]⟩ : ByteArray)⟩ : S75)] : List (S75))) := ⟨_, rfl⟩
 replace H : ((field_Set.f k 4 y188 y191 ([] : List Int) y218).bind fun bt221 => ((field_Check.f k 4 y188 y191 ([] : List Int) t180 t183 t184 t185).bind fun t233 => (if t233 = 0 then ((field_Check.f k 0 ([] : List Int) ([] : List ByteArray) ([] : List Int) t180 t183 t184 t185).bind fun t234 => (if t234 = 10 then (if t205 = true then (if (t202.length : Int) = 1 then (if 0 < (t202.length : Int) then (if (!((rd_T75 t202 0).f0) && (((rd_T75 t202 0).f1) == 0 && (((rd_T75 t202 0).f2) == 6 && ((((rd_T75 t202 0).f3).toList) == ([] : List UInt8))))) = true then (if t216 = 0 then ((dioramaref08_Same.f k t206 t207 t210 t213 4 y195 y198 ([] : List Int)).bind fun t236 => (if t236 = true then (if bt221.2.2.2.2 = 21 then ((field_Copy.f 4 y188 y191 ([] : List Int)).bind fun bt237 => ((dioramaref08_Same.f k bt237.1 bt237.2.1 bt237.2.2.1 bt237.2.2.2 4 y188 y191 ([] : List Int)).bind fun t247 => (some t247))) else (none)) else (none))) else (none)) else (none)) else (none)) else (none)) else (none)) else (none))) else (none)))) = some r := by first | (rw [hy218]; with_reducible exact H) | (have H2_ := (Option.bind_some _ _).symm.trans H; rw [hy218]; with_reducible exact H2_) | (have H2_ := (Option.bind_some _ _).symm.trans H; with_reducible exact H2_) | with_reducible exact H | (rw [hy218]; exact H) | exact H
 have Ny218 := Aside0.mk hy218
 clear hy218
 replace H := Option.bind_eq_some_iff.mp H
 obtain ⟨⟨t221, t222, t225, t228, t231⟩, A40, H⟩ := H
 replace H : ((field_Check.f k 4 y188 y191 ([] : List Int) t180 t183 t184 t185).bind fun t233 => (if t233 = 0 then ((field_Check.f k 0 ([] : List Int) ([] : List ByteArray) ([] : List Int) t180 t183 t184 t185).bind fun t234 => (if t234 = 10 then (if t205 = true then (if (t202.length : Int) = 1 then (if 0 < (t202.length : Int) then (if (!((rd_T75 t202 0).f0) && (((rd_T75 t202 0).f1) == 0 && (((rd_T75 t202 0).f2) == 6 && ((((rd_T75 t202 0).f3).toList) == ([] : List UInt8))))) = true then (if t216 = 0 then ((dioramaref08_Same.f k t206 t207 t210 t213 4 y195 y198 ([] : List Int)).bind fun t236 => (if t236 = true then (if t231 = 21 then ((field_Copy.f 4 y188 y191 ([] : List Int)).bind fun bt237 => ((dioramaref08_Same.f k bt237.1 bt237.2.1 bt237.2.2.1 bt237.2.2.2 4 y188 y191 ([] : List Int)).bind fun t247 => (some t247))) else (none)) else (none))) else (none)) else (none)) else (none)) else (none)) else (none)) else (none))) else (none))) = some r := H
 have A4 := Aside0.mk A40
 clear A40
 replace H := Option.bind_eq_some_iff.mp H
 obtain ⟨t233, A50, H⟩ := H
 replace H : (if t233 = 0 then ((field_Check.f k 0 ([] : List Int) ([] : List ByteArray) ([] : List Int) t180 t183 t184 t185).bind fun t234 => (if t234 = 10 then (if t205 = true then (if (t202.length : Int) = 1 then (if 0 < (t202.length : Int) then (if (!((rd_T75 t202 0).f0) && (((rd_T75 t202 0).f1) == 0 && (((rd_T75 t202 0).f2) == 6 && ((((rd_T75 t202 0).f3).toList) == ([] : List UInt8))))) = true then (if t216 = 0 then ((dioramaref08_Same.f k t206 t207 t210 t213 4 y195 y198 ([] : List Int)).bind fun t236 => (if t236 = true then (if t231 = 21 then ((field_Copy.f 4 y188 y191 ([] : List Int)).bind fun bt237 => ((dioramaref08_Same.f k bt237.1 bt237.2.1 bt237.2.2.1 bt237.2.2.2 4 y188 y191 ([] : List Int)).bind fun t247 => (some t247))) else (none)) else (none))) else (none)) else (none)) else (none)) else (none)) else (none)) else (none))) else (none)) = some r := H
 have A5 := Aside0.mk A50
 clear A50
 by_cases c6 : t233 = 0
 ·rw [if_pos c6] at H
  have c6b0 : (t233 == 0) = true := beq_iff_eq.mpr c6
  have c6b1 : (t233 != 0) = false := bne_eq_false_iff_eq.mpr c6
  clear c6
  replace H := Option.bind_eq_some_iff.mp H
  obtain ⟨t234, A70, H⟩ := H
  replace H : (if t234 = 10 then (if t205 = true then (if (t202.length : Int) = 1 then (if 0 < (t202.length : Int) then (if (!((rd_T75 t202 0).f0) && (((rd_T75 t202 0).f1) == 0 && (((rd_T75 t202 0).f2) == 6 && ((((rd_T75 t202 0).f3).toList) == ([] : List UInt8))))) = true then (if t216 = 0 then ((dioramaref08_Same.f k t206 t207 t210 t213 4 y195 y198 ([] : List Int)).bind fun t236 => (if t236 = true then (if t231 = 21 then ((field_Copy.f 4 y188 y191 ([] : List Int)).bind fun bt237 => ((dioramaref08_Same.f k bt237.1 bt237.2.1 bt237.2.2.1 bt237.2.2.2 4 y188 y191 ([] : List Int)).bind fun t247 => (some t247))) else (none)) else (none))) else (none)) else (none)) else (none)) else (none)) else (none)) else (none)) = some r := H
  have A7 := Aside0.mk A70
  clear A70
  by_cases c8 : t234 = 10
  ·rw [if_pos c8] at H
   have c8b0 : (t234 == 10) = true := beq_iff_eq.mpr c8
   have c8b1 : (t234 != 10) = false := bne_eq_false_iff_eq.mpr c8
   clear c8
   by_cases c9 : t205 = true
   ·subst c9
    have H1 : (if (t202.length : Int) = 1 then (if 0 < (t202.length : Int) then (if (!((rd_T75 t202 0).f0) && (((rd_T75 t202 0).f1) == 0 && (((rd_T75 t202 0).f2) == 6 && ((((rd_T75 t202 0).f3).toList) == ([] : List UInt8))))) = true then (if t216 = 0 then ((dioramaref08_Same.f k t206 t207 t210 t213 4 y195 y198 ([] : List Int)).bind fun t236 => (if t236 = true then (if t231 = 21 then ((field_Copy.f 4 y188 y191 ([] : List Int)).bind fun bt237 => ((dioramaref08_Same.f k bt237.1 bt237.2.1 bt237.2.2.1 bt237.2.2.2 4 y188 y191 ([] : List Int)).bind fun t247 => (some t247))) else (none)) else (none))) else (none)) else (none)) else (none)) else (none)) = some r := by rw [if_pos rfl] at H; exact H
    clear H
    have H := H1
    clear H1
    by_cases c10 : (t202.length : Int) = 1
    ·rw [if_pos c10] at H
     have c10b0 : ((t202.length : Int) == 1) = true := beq_iff_eq.mpr c10
     have c10b1 : ((t202.length : Int) != 1) = false := bne_eq_false_iff_eq.mpr c10
     clear c10
     by_cases c11 : 0 < (t202.length : Int)
     ·rw [if_pos c11] at H
      have c11b0 : decide (0 < (t202.length : Int)) = true := decide_eq_true c11
      have c11b1 : decide (0 < t202.length) = true := decide_eq_true (by omega)
      clear c11
      by_cases c12 : (!((rd_T75 t202 0).f0) && (((rd_T75 t202 0).f1) == 0 && (((rd_T75 t202 0).f2) == 6 && ((((rd_T75 t202 0).f3).toList) == ([] : List UInt8))))) = true
      ·rw [if_pos c12] at H
       have c12b0 : (!((rd_T75 t202 0).f0) && (((rd_T75 t202 0).f1) == 0 && (((rd_T75 t202 0).f2) == 6 && ((((rd_T75 t202 0).f3).toList) == ([] : List UInt8))))) = true := c12
       obtain ⟨ev0, ev1, ev2, ev3⟩ := set_is c12
       have EV0 := Aside0.mk ev0
       have EV1 := Aside0.mk ev1
       have EV2 := Aside0.mk ev2
       have EV3 := Aside0.mk ev3
       clear ev0 ev1 ev2 ev3
       clear c12
       by_cases c13 : t216 = 0
       ·rw [if_pos c13] at H
        have c13b0 : (t216 == 0) = true := beq_iff_eq.mpr c13
        have c13b1 : (t216 != 0) = false := bne_eq_false_iff_eq.mpr c13
        clear c13
        replace H := Option.bind_eq_some_iff.mp H
        obtain ⟨t236, A140, H⟩ := H
        replace H : (if t236 = true then (if t231 = 21 then ((field_Copy.f 4 y188 y191 ([] : List Int)).bind fun bt237 => ((dioramaref08_Same.f k bt237.1 bt237.2.1 bt237.2.2.1 bt237.2.2.2 4 y188 y191 ([] : List Int)).bind fun t247 => (some t247))) else (none)) else (none)) = some r := H
        have A14 := Aside0.mk A140
        clear A140
        by_cases c15 : t236 = true
        ·subst c15
         have H1 : (if t231 = 21 then ((field_Copy.f 4 y188 y191 ([] : List Int)).bind fun bt237 => ((dioramaref08_Same.f k bt237.1 bt237.2.1 bt237.2.2.1 bt237.2.2.2 4 y188 y191 ([] : List Int)).bind fun t247 => (some t247))) else (none)) = some r := by rw [if_pos rfl] at H; exact H
         clear H
         have H := H1
         clear H1
         by_cases c16 : t231 = 21
         ·rw [if_pos c16] at H
          have c16b0 : (t231 == 21) = true := beq_iff_eq.mpr c16
          have c16b1 : (t231 != 21) = false := bne_eq_false_iff_eq.mpr c16
          clear c16
          replace H := Option.bind_eq_some_iff.mp H
          obtain ⟨⟨t237, t238, t241, t244⟩, A170, H⟩ := H
          replace H : ((dioramaref08_Same.f k t237 t238 t241 t244 4 y188 y191 ([] : List Int)).bind fun t247 => (some t247)) = some r := H
          have A17 := Aside0.mk A170
          clear A170
          replace H := Option.bind_eq_some_iff.mp H
          obtain ⟨t247, A180, H⟩ := H
          replace H : (some t247) = some r := H
          have A18 := Aside0.mk A180
          clear A180
          obtain rfl := Option.some.inj H
          go_enter Tryd.func13, Tryd.ntmps13
          try go_wp2_with (first | ((with_reducible refine gate_callee (f := 43) rfl ?_); refine goesL_ (some 12) rfl rfl Tryd.func43 (by kernel_rfl) rfl #[.int .i64 4] rfl (by (try simp only [List.map_toArray, List.map_cons, List.map_nil]); first | done | rfl | (simp only [List.length_drop, List.length_take]; rfl)) ?_; (with_reducible refine (schema_New.calls 4 t180 t183 t184 t185 t186 _ A1.out).mono ?_); rintro e w19 ⟨v181, rfl, ho0, hb⟩; refine ⟨_, rfl, ?_⟩; have n0_ := Aside0.mk (Kd.R_lower ho0 (below_size (BB HB))); have n1_ := Aside0.mk (below_step (BB HB) hb); clear HB; have HO182 := n0_; have HB := n1_; clear n0_ n1_; (try clear hb); (try clear hb2); (try clear hk); (try clear hi); (try clear ho0)) | ((with_reducible refine gate_dst (N := 1) rfl ?_); refine box_event ?hg (N := 1) ?hd (cs := #[.slice none 0 0, .int .i64 0, .int .i64 0, .int .i64 0]) (t := 28) ?hr ?_; (case hd => rfl); (case hg => rfl); (case hr => first | (go_simp; done) | (go_simp; rfl)); intro gb187 hg w20 hbox hb; have n0_ := Aside0.mk (Kd.R_below (RL HO182) hb); have n1_ := Aside0.mk (below_step (BB HB) hb); have n2_ := Aside0.mk (hbox); have n3_ := Aside0.mk ((by rw [hg]; exact (below_size (BB HB)) : w.heap.size ≤ gb187)); have n4_ := Aside0.mk ((by rw [hg]; exact (below_size (BB HB)) : w.heap.size ≤ gb187)); clear HO182; clear HB; have HO182 := n0_; have HB := n1_; have BK187 := n2_; have GW187 := n3_; have GE187 := n4_; clear n0_ n1_ n2_ n3_ n4_; clear hb hbox hg; obtain ⟨Ao21, co21, eo21⟩ := Kd.R_slice HO182.out; subst eo21; have hcz22_0 : w20.cell? ⟨gb187, 0, none⟩ = some (.slice none 0 0) := (blk_cell BK187.out 0).trans rfl; have hcz22_1 : w20.cell? ⟨gb187, 1, none⟩ = some (.int .i64 0) := (blk_cell BK187.out 1).trans rfl; have hcz22_2 : w20.cell? ⟨gb187, 2, none⟩ = some (.int .i64 0) := (blk_cell BK187.out 2).trans rfl; have hcz22_3 : w20.cell? ⟨gb187, 3, none⟩ = some (.int .i64 0) := (blk_cell BK187.out 3).trans rfl; have hfz22_0 := blk_frozen BK187.out 0; have hfz22_1 := blk_frozen BK187.out 1; have hfz22_2 := blk_frozen BK187.out 2; have hfz22_3 := blk_frozen BK187.out 3) | ((with_reducible refine gate_dst (N := 15) rfl ?_); refine Kd.R_lit (Kd.int .i64) _ 2 ?hg (N := 15) ?hd (xs := ([5] : List Int)) (inner := [.int .i64 5]) (ok := fun _ => True) (okp := fun _ => True) ?hr ?hp (fun _ hk => hk) trivial (Below.refl _ _) (Nat.le_refl _) (by simp) ?_; (case hd => rfl); (case hg => rfl); (case hr => first | (go_simp; done) | (go_simp; rfl)); (case hp => exact (Reps.one (show Kd.M (Kd.int .i64) _ _ _ 5 [.int .i64 5] from rfl) (Reps.none _ _))); intro v189 w23 ho24 hb hg_ hnew_; clear hg_ hnew_; (first | rw [← Ny188.out] at ho24 | (simp only [Int.reduceToNat] at ho24; rw [← Ny188.out] at ho24)); have n0_ := Aside0.mk (Kd.R_below (by exact (Kd.R_mono (Kd.R_far (p := ⟨gb187, 3, none⟩) (Kd.R_far (p := ⟨gb187, 2, none⟩) (Kd.R_far (p := ⟨gb187, 1, none⟩) (Kd.R_far (p := ⟨gb187, 0, none⟩) (Kd.R_types HO182.out BK187.out (by decide)) (fun _ hk => hk.2) (.slice Ao21 t180.length co21)) (fun _ hk => hk.2) (.int .i64 t183)) (fun _ hk => hk.2) (.int .i64 t184)) (fun _ hk => hk.2) (.int .i64 t185)) (fun _ h_ => h_.1))) hb); have n1_ := Aside0.mk (Kd.R_lower ho24 (below_size (BB HB))); have n2_ := Aside0.mk (blk_below (g := gb187) (o := .cells #[.slice Ao21 t180.length co21, .int .i64 t183, .int .i64 t184, .int .i64 t185] 28 (0, 0)) (by refine blk_put (cs := #[.slice Ao21 t180.length co21, .int .i64 t183, .int .i64 t184, .int .i64 0]) ?_ 3 _ rfl; refine blk_put (cs := #[.slice Ao21 t180.length co21, .int .i64 t183, .int .i64 0, .int .i64 0]) ?_ 2 _ rfl; refine blk_put (cs := #[.slice Ao21 t180.length co21, .int .i64 0, .int .i64 0, .int .i64 0]) ?_ 1 _ rfl; refine blk_put (cs := #[.slice none 0 0, .int .i64 0, .int .i64 0, .int .i64 0]) ?_ 0 _ rfl; (with_reducible repeat (first | refine blk_drewN ?_ _ | refine blk_drew ?_ | refine blk_alloc ?_ _)); exact BK187.out) hb); have n3_ := Aside0.mk (below_step (BB HB) hb); clear HO182; clear BK187; clear HB; have HO182 := n0_; have HO190 := n1_; have BK187 := n2_; have HB := n3_; clear n0_ n1_ n2_ n3_; clear hb ho24) | ((with_reducible refine gate_dst (N := 16) rfl ?_); refine Kd.R_lit Kd.string _ 9 ?hg (N := 16) ?hd (xs := ([(⟨#[119, 111, 111, 100]⟩ : ByteArray)] : List ByteArray)) (inner := [.string (⟨#[119, 111, 111, 100]⟩ : ByteArray)]) (ok := fun _ => True) (okp := fun _ => True) ?hr ?hp (fun _ hk => hk) trivial (Below.refl _ _) (Nat.le_refl _) (by simp) ?_; (case hd => rfl); (case hg => rfl); (case hr => first | (go_simp; done) | (go_simp; rfl)); (case hp => exact (Reps.one (show Kd.M Kd.string _ _ _ (⟨#[119, 111, 111, 100]⟩ : ByteArray) [.string (⟨#[119, 111, 111, 100]⟩ : ByteArray)] from rfl) (Reps.none _ _))); intro v192 w25 ho26 hb hg_ hnew_; clear hg_ hnew_; (first | rw [← Ny191.out] at ho26 | (simp only [Int.reduceToNat] at ho26; rw [← Ny191.out] at ho26)); have n0_ := Aside0.mk (Kd.R_below (RL HO182) hb); have n1_ := Aside0.mk (Kd.R_below (RL HO190) hb); have n2_ := Aside0.mk (Kd.R_lower ho26 (below_size (BB HB))); have n3_ := BE BK187 hb; have n4_ := Aside0.mk (below_step (BB HB) hb); clear HO182; clear HO190; clear BK187; clear HB; have HO182 := n0_; have HO190 := n1_; have HO193 := n2_; have BK187 := n3_; have HB := n4_; clear n0_ n1_ n2_ n3_ n4_; clear hb ho26; obtain ⟨Ao27, co27, eo27⟩ := Kd.R_slice HO193.out; subst eo27; obtain ⟨Ao28, co28, eo28⟩ := Kd.R_slice HO190.out; subst eo28) | ((with_reducible refine gate_dst (N := 3) rfl ?_); refine box_event ?hg (N := 3) ?hd (cs := #[.int .i64 0, .slice none 0 0, .slice none 0 0, .slice none 0 0]) (t := 26) ?hr ?_; (case hd => rfl); (case hg => rfl); (case hr => first | (go_simp; done) | (go_simp; rfl)); intro gb194 hg w29 hbox hb; have n0_ := Aside0.mk (Kd.R_below (RL HO182) hb); have n1_ := Aside0.mk (Kd.R_below (RL HO190) hb); have n2_ := Aside0.mk (Kd.R_below (RL HO193) hb); have n3_ := BE BK187 hb; have n4_ := Aside0.mk (below_step (BB HB) hb); have n5_ := Aside0.mk (hbox); have n6_ := Aside0.mk ((by rw [hg]; exact (below_size (BB HB)) : w.heap.size ≤ gb194)); have n7_ := Aside0.mk ((by rw [hg]; exact (below_size (BB HB)) : w.heap.size ≤ gb194)); have n8_ := Aside0.mk ((by rw [hg]; exact Nat.ne_of_lt (blk_lt (g := gb187) (o := .cells #[.slice Ao21 t180.length co21, .int .i64 t183, .int .i64 t184, .int .i64 t185] 28 (0, 0)) (BL BK187)) : gb187 ≠ gb194)); have n9_ := Aside0.mk ((by rw [hg]; exact Nat.ne_of_gt (blk_lt (g := gb187) (o := .cells #[.slice Ao21 t180.length co21, .int .i64 t183, .int .i64 t184, .int .i64 t185] 28 (0, 0)) (BL BK187)) : gb194 ≠ gb187)); clear HO182; clear HO190; clear HO193; clear BK187; clear HB; have HO182 := n0_; have HO190 := n1_; have HO193 := n2_; have BK187 := n3_; have HB := n4_; have BK194 := n5_; have GW194 := n6_; have GE194 := n7_; have NB187_194 := n8_; have NB194_187 := n9_; clear n0_ n1_ n2_ n3_ n4_ n5_ n6_ n7_ n8_ n9_; clear hb hbox hg; have hnb30 := NB194_187.out; have hnc30 := NB187_194.out; have hcz31_0 : w29.cell? ⟨gb194, 0, none⟩ = some (.int .i64 0) := (blk_cell BK194.out 0).trans rfl; have hcz31_1 : w29.cell? ⟨gb194, 1, none⟩ = some (.slice none 0 0) := (blk_cell BK194.out 1).trans rfl; have hcz31_2 : w29.cell? ⟨gb194, 2, none⟩ = some (.slice none 0 0) := (blk_cell BK194.out 2).trans rfl; have hcz31_3 : w29.cell? ⟨gb194, 3, none⟩ = some (.slice none 0 0) := (blk_cell BK194.out 3).trans rfl; have hfz31_0 := blk_frozen BK194.out 0; have hfz31_1 := blk_frozen BK194.out 1; have hfz31_2 := blk_frozen BK194.out 2; have hfz31_3 := blk_frozen BK194.out 3) | ((with_reducible refine gate_dst (N := 18) rfl ?_); refine Kd.R_lit (Kd.int .i64) _ 2 ?hg (N := 18) ?hd (xs := ([6] : List Int)) (inner := [.int .i64 6]) (ok := fun _ => True) (okp := fun _ => True) ?hr ?hp (fun _ hk => hk) trivial (Below.refl _ _) (Nat.le_refl _) (by simp) ?_; (case hd => rfl); (case hg => rfl); (case hr => first | (go_simp; done) | (go_simp; rfl)); (case hp => exact (Reps.one (show Kd.M (Kd.int .i64) _ _ _ 6 [.int .i64 6] from rfl) (Reps.none _ _))); intro v196 w32 ho33 hb hg_ hnew_; clear hg_ hnew_; (first | rw [← Ny195.out] at ho33 | (simp only [Int.reduceToNat] at ho33; rw [← Ny195.out] at ho33)); have n0_ := Aside0.mk (Kd.R_below (by exact (Kd.R_mono (Kd.R_far (p := ⟨gb194, 3, none⟩) (Kd.R_far (p := ⟨gb194, 2, none⟩) (Kd.R_far (p := ⟨gb194, 1, none⟩) (Kd.R_far (p := ⟨gb194, 0, none⟩) (Kd.R_types HO182.out BK194.out (by decide)) (fun _ hk => hk.2) (.int .i64 4)) (fun _ hk => hk.2) (.slice Ao28 y188.length co28)) (fun _ hk => hk.2) (.slice Ao27 y191.length co27)) (fun _ hk => hk.2) (.slice none 0 0)) (fun _ h_ => h_.1))) hb); have n1_ := Aside0.mk (Kd.R_elder' (by exact (Kd.R_mono (Kd.R_far (p := ⟨gb194, 3, none⟩) (Kd.R_far (p := ⟨gb194, 2, none⟩) (Kd.R_far (p := ⟨gb194, 1, none⟩) (Kd.R_far (p := ⟨gb194, 0, none⟩) (Kd.R_types HO190.out BK194.out (by decide)) (fun _ hk => hk.2) (.int .i64 4)) (fun _ hk => hk.2) (.slice Ao28 y188.length co28)) (fun _ hk => hk.2) (.slice Ao27 y191.length co27)) (fun _ hk => hk.2) (.slice none 0 0)) (fun _ h_ => h_.1))) (Kd.R_base ho33) hb); have n2_ := Aside0.mk (Kd.R_below (by exact (Kd.R_mono (Kd.R_far (p := ⟨gb194, 3, none⟩) (Kd.R_far (p := ⟨gb194, 2, none⟩) (Kd.R_far (p := ⟨gb194, 1, none⟩) (Kd.R_far (p := ⟨gb194, 0, none⟩) (Kd.R_types HO193.out BK194.out (by decide)) (fun _ hk => hk.2) (.int .i64 4)) (fun _ hk => hk.2) (.slice Ao28 y188.length co28)) (fun _ hk => hk.2) (.slice Ao27 y191.length co27)) (fun _ hk => hk.2) (.slice none 0 0)) (fun _ h_ => h_.1))) hb); have n3_ := Aside0.mk (Kd.R_lower (Kd.R_new' ho33 (Kd.R_lt (by exact (Kd.R_mono (Kd.R_far (p := ⟨gb194, 3, none⟩) (Kd.R_far (p := ⟨gb194, 2, none⟩) (Kd.R_far (p := ⟨gb194, 1, none⟩) (Kd.R_far (p := ⟨gb194, 0, none⟩) (Kd.R_types HO190.out BK194.out (by decide)) (fun _ hk => hk.2) (.int .i64 4)) (fun _ hk => hk.2) (.slice Ao28 y188.length co28)) (fun _ hk => hk.2) (.slice Ao27 y191.length co27)) (fun _ hk => hk.2) (.slice none 0 0)) (fun _ h_ => h_.1))))) (below_size (BB HB))); have n4_ := Aside0.mk (blk_below (g := gb187) (o := .cells #[.slice Ao21 t180.length co21, .int .i64 t183, .int .i64 t184, .int .i64 t185] 28 (0, 0)) (by refine blk_far ?_ NB187_194.out _; refine blk_far ?_ NB187_194.out _; refine blk_far ?_ NB187_194.out _; refine blk_far ?_ NB187_194.out _; (with_reducible repeat (first | refine blk_drewN ?_ _ | refine blk_drew ?_ | refine blk_alloc ?_ _)); exact BK187.out) hb); have n5_ := Aside0.mk (blk_below (g := gb194) (o := .cells #[.int .i64 4, .slice Ao28 y188.length co28, .slice Ao27 y191.length co27, .slice none 0 0] 26 (0, 0)) (by refine blk_put (cs := #[.int .i64 4, .slice Ao28 y188.length co28, .slice Ao27 y191.length co27, .slice none 0 0]) ?_ 3 _ rfl; refine blk_put (cs := #[.int .i64 4, .slice Ao28 y188.length co28, .slice none 0 0, .slice none 0 0]) ?_ 2 _ rfl; refine blk_put (cs := #[.int .i64 4, .slice none 0 0, .slice none 0 0, .slice none 0 0]) ?_ 1 _ rfl; refine blk_put (cs := #[.int .i64 0, .slice none 0 0, .slice none 0 0, .slice none 0 0]) ?_ 0 _ rfl; (with_reducible repeat (first | refine blk_drewN ?_ _ | refine blk_drew ?_ | refine blk_alloc ?_ _)); exact BK194.out) hb); have n6_ := Aside0.mk (below_step (BB HB) hb); clear HO182; clear HO190; clear HO193; clear BK187; clear BK194; clear HB; have HO182 := n0_; have HO190 := n1_; have HO193 := n2_; have HO197 := n3_; have BK187 := n4_; have BK194 := n5_; have HB := n6_; clear n0_ n1_ n2_ n3_ n4_ n5_ n6_; clear hb ho33) | ((with_reducible refine gate_dst (N := 19) rfl ?_); refine Kd.R_lit Kd.string _ 9 ?hg (N := 19) ?hd (xs := ([(⟨#[119, 111, 111, 100]⟩ : ByteArray)] : List ByteArray)) (inner := [.string (⟨#[119, 111, 111, 100]⟩ : ByteArray)]) (ok := fun _ => True) (okp := fun _ => True) ?hr ?hp (fun _ hk => hk) trivial (Below.refl _ _) (Nat.le_refl _) (by simp) ?_; (case hd => rfl); (case hg => rfl); (case hr => first | (go_simp; done) | (go_simp; rfl)); (case hp => exact (Reps.one (show Kd.M Kd.string _ _ _ (⟨#[119, 111, 111, 100]⟩ : ByteArray) [.string (⟨#[119, 111, 111, 100]⟩ : ByteArray)] from rfl) (Reps.none _ _))); intro v199 w34 ho35 hb hg_ hnew_; clear hg_ hnew_; (first | rw [← Ny198.out] at ho35 | (simp only [Int.reduceToNat] at ho35; rw [← Ny198.out] at ho35)); have n0_ := Aside0.mk (Kd.R_below (RL HO182) hb); have n1_ := Aside0.mk (Kd.R_below (RL HO190) hb); have n2_ := Aside0.mk (Kd.R_elder' (RL HO193) (Kd.R_base ho35) hb); have n3_ := Aside0.mk (Kd.R_below (RL HO197) hb); have n4_ := Aside0.mk (Kd.R_lower (Kd.R_new' ho35 (Kd.R_lt (RL HO193))) (below_size (BB HB))); have n5_ := BE BK187 hb; have n6_ := BE BK194 hb; have n7_ := Aside0.mk (below_step (BB HB) hb); clear HO182; clear HO190; clear HO193; clear HO197; clear BK187; clear BK194; clear HB; have HO182 := n0_; have HO190 := n1_; have HO193 := n2_; have HO197 := n3_; have HO200 := n4_; have BK187 := n5_; have BK194 := n6_; have HB := n7_; clear n0_ n1_ n2_ n3_ n4_ n5_ n6_ n7_; clear hb ho35; obtain ⟨Ao36, co36, eo36⟩ := Kd.R_slice HO200.out; subst eo36; obtain ⟨Ao37, co37, eo37⟩ := Kd.R_slice HO197.out; subst eo37) | ((with_reducible refine gate_dst (N := 4) rfl ?_); refine box_event ?hg (N := 4) ?hd (cs := #[.int .i64 0, .slice none 0 0, .slice none 0 0, .slice none 0 0]) (t := 26) ?hr ?_; (case hd => rfl); (case hg => rfl); (case hr => first | (go_simp; done) | (go_simp; rfl)); intro gb201 hg w38 hbox hb; have n0_ := Aside0.mk (Kd.R_below (RL HO182) hb); have n1_ := Aside0.mk (Kd.R_below (RL HO190) hb); have n2_ := Aside0.mk (Kd.R_below (RL HO193) hb); have n3_ := Aside0.mk (Kd.R_below (RL HO197) hb); have n4_ := Aside0.mk (Kd.R_below (RL HO200) hb); have n5_ := BE BK187 hb; have n6_ := BE BK194 hb; have n7_ := Aside0.mk (below_step (BB HB) hb); have n8_ := Aside0.mk (hbox); have n9_ := Aside0.mk ((by rw [hg]; exact (below_size (BB HB)) : w.heap.size ≤ gb201)); have n10_ := Aside0.mk ((by rw [hg]; exact (below_size (BB HB)) : w.heap.size ≤ gb201)); have n11_ := Aside0.mk ((by rw [hg]; exact Nat.ne_of_lt (blk_lt (g := gb187) (o := .cells #[.slice Ao21 t180.length co21, .int .i64 t183, .int .i64 t184, .int .i64 t185] 28 (0, 0)) (BL BK187)) : gb187 ≠ gb201)); have n12_ := Aside0.mk ((by rw [hg]; exact Nat.ne_of_gt (blk_lt (g := gb187) (o := .cells #[.slice Ao21 t180.length co21, .int .i64 t183, .int .i64 t184, .int .i64 t185] 28 (0, 0)) (BL BK187)) : gb201 ≠ gb187)); have n13_ := Aside0.mk ((by rw [hg]; exact Nat.ne_of_lt (blk_lt (g := gb194) (o := .cells #[.int .i64 4, .slice Ao28 y188.length co28, .slice Ao27 y191.length co27, .slice none 0 0] 26 (0, 0)) (BL BK194)) : gb194 ≠ gb201)); have n14_ := Aside0.mk ((by rw [hg]; exact Nat.ne_of_gt (blk_lt (g := gb194) (o := .cells #[.int .i64 4, .slice Ao28 y188.length co28, .slice Ao27 y191.length co27, .slice none 0 0] 26 (0, 0)) (BL BK194)) : gb201 ≠ gb194)); clear HO182; clear HO190; clear HO193; clear HO197; clear HO200; clear BK187; clear BK194; clear HB; have HO182 := n0_; have HO190 := n1_; have HO193 := n2_; have HO197 := n3_; have HO200 := n4_; have BK187 := n5_; have BK194 := n6_; have HB := n7_; have BK201 := n8_; have GW201 := n9_; have GE201 := n10_; have NB187_201 := n11_; have NB201_187 := n12_; have NB194_201 := n13_; have NB201_194 := n14_; clear n0_ n1_ n2_ n3_ n4_ n5_ n6_ n7_ n8_ n9_ n10_ n11_ n12_ n13_ n14_; clear hb hbox hg; have hnb39 := NB201_187.out; have hnc39 := NB187_201.out; have hnb40 := NB201_194.out; have hnc40 := NB194_201.out; have hcz41_0 : w38.cell? ⟨gb201, 0, none⟩ = some (.int .i64 0) := (blk_cell BK201.out 0).trans rfl; have hcz41_1 : w38.cell? ⟨gb201, 1, none⟩ = some (.slice none 0 0) := (blk_cell BK201.out 1).trans rfl; have hcz41_2 : w38.cell? ⟨gb201, 2, none⟩ = some (.slice none 0 0) := (blk_cell BK201.out 2).trans rfl; have hcz41_3 : w38.cell? ⟨gb201, 3, none⟩ = some (.slice none 0 0) := (blk_cell BK201.out 3).trans rfl; have hfz41_0 := blk_frozen BK201.out 0; have hfz41_1 := blk_frozen BK201.out 1; have hfz41_2 := blk_frozen BK201.out 2; have hfz41_3 := blk_frozen BK201.out 3; have hcz42_0 : w38.cell? ⟨gb194, 0, none⟩ = some (.int .i64 4) := (blk_cell BK194.out 0).trans rfl; have hcz42_1 : w38.cell? ⟨gb194, 1, none⟩ = some (.slice Ao28 y188.length co28) := (blk_cell BK194.out 1).trans rfl; have hcz42_2 : w38.cell? ⟨gb194, 2, none⟩ = some (.slice Ao27 y191.length co27) := (blk_cell BK194.out 2).trans rfl; have hcz42_3 : w38.cell? ⟨gb194, 3, none⟩ = some (.slice none 0 0) := (blk_cell BK194.out 3).trans rfl; have hfz42_0 := blk_frozen BK194.out 0; have hfz42_1 := blk_frozen BK194.out 1; have hfz42_2 := blk_frozen BK194.out 2; have hfz42_3 := blk_frozen BK194.out 3) | ((with_reducible refine gate_callee (f := 21) rfl ?_); refine goesL_ (some 24) rfl rfl Tryd.func21 (by kernel_rfl) rfl #[.agg #[.int .i64 4, .slice Ao28 y188.length co28, .slice Ao27 y191.length co27, .slice none 0 0], .agg #[.int .i64 4, .slice Ao37 y195.length co37, .slice Ao36 y198.length co36, .slice none 0 0]] rfl (by (try simp only [List.map_toArray, List.map_cons, List.map_nil]); first | done | rfl | (simp only [List.length_drop, List.length_take]; rfl)) ?_; (refine (field_Diff.calls k 4 _ _ y188 _ _ y191 _ _ ([] : List Int) 4 _ _ y195 _ _ y198 _ _ ([] : List Int) t202 true _ ?side1 ?side2 ?side3 ?side4 ?side5 ?side6 ?side7 ?side8 ?side9 ?side10 ?side11 ?side12 A2.out).mono ?_); (case side1 => refine (Kd.R_reads' (e := 2) (base := w.heap.size) (ok := fun k_ => (True ∧ some k_ ≠ (.slice Ao37 y195.length co37 : Value).ownBlock)) (n := y188.length) (c := co28) ?_).2.2; exact (by exact (Kd.R_mono (Kd.R_far (p := ⟨gb201, 3, none⟩) (Kd.R_far (p := ⟨gb201, 2, none⟩) (Kd.R_far (p := ⟨gb201, 1, none⟩) (Kd.R_far (p := ⟨gb201, 0, none⟩) (Kd.R_types HO190.out BK201.out (by decide)) (fun _ hk => hk.2) (.int .i64 4)) (fun _ hk => hk.2) (.slice Ao37 y195.length co37)) (fun _ hk => hk.2) (.slice Ao36 y198.length co36)) (fun _ hk => hk.2) (.slice none 0 0)) (fun _ h_ => h_.1)))); (case side2 => exact (Kd.R_reads' HO190.out).2.1); (case side3 => refine (Kd.R_reads' (e := 9) (base := w.heap.size) (ok := fun k_ => (True ∧ some k_ ≠ (.slice Ao36 y198.length co36 : Value).ownBlock)) (n := y191.length) (c := co27) ?_).2.2; exact (by exact (Kd.R_mono (Kd.R_far (p := ⟨gb201, 3, none⟩) (Kd.R_far (p := ⟨gb201, 2, none⟩) (Kd.R_far (p := ⟨gb201, 1, none⟩) (Kd.R_far (p := ⟨gb201, 0, none⟩) (Kd.R_types HO193.out BK201.out (by decide)) (fun _ hk => hk.2) (.int .i64 4)) (fun _ hk => hk.2) (.slice Ao37 y195.length co37)) (fun _ hk => hk.2) (.slice Ao36 y198.length co36)) (fun _ hk => hk.2) (.slice none 0 0)) (fun _ h_ => h_.1)))); (case side4 => exact (Kd.R_reads' HO193.out).2.1); (case side5 => exact Kd.C_nil _ _); (case side6 => exact Nat.le_refl _); (case side7 => refine (Kd.R_reads' (e := 2) (base := w.heap.size) (ok := fun k_ => (True ∧ some k_ ≠ (.slice Ao28 y188.length co28 : Value).ownBlock)) (n := y195.length) (c := co37) ?_).2.2; exact (by exact (Kd.R_mono (Kd.R_far (p := ⟨gb201, 3, none⟩) (Kd.R_far (p := ⟨gb201, 2, none⟩) (Kd.R_far (p := ⟨gb201, 1, none⟩) (Kd.R_far (p := ⟨gb201, 0, none⟩) (Kd.R_types HO197.out BK201.out (by decide)) (fun _ hk => hk.2) (.int .i64 4)) (fun _ hk => hk.2) (.slice Ao37 y195.length co37)) (fun _ hk => hk.2) (.slice Ao36 y198.length co36)) (fun _ hk => hk.2) (.slice none 0 0)) (fun _ h_ => h_.1)))); (case side8 => exact (Kd.R_reads' HO197.out).2.1); (case side9 => refine (Kd.R_reads' (e := 9) (base := w.heap.size) (ok := fun k_ => (True ∧ some k_ ≠ (.slice Ao27 y191.length co27 : Value).ownBlock)) (n := y198.length) (c := co36) ?_).2.2; exact (by exact (Kd.R_mono (Kd.R_far (p := ⟨gb201, 3, none⟩) (Kd.R_far (p := ⟨gb201, 2, none⟩) (Kd.R_far (p := ⟨gb201, 1, none⟩) (Kd.R_far (p := ⟨gb201, 0, none⟩) (Kd.R_types HO200.out BK201.out (by decide)) (fun _ hk => hk.2) (.int .i64 4)) (fun _ hk => hk.2) (.slice Ao37 y195.length co37)) (fun _ hk => hk.2) (.slice Ao36 y198.length co36)) (fun _ hk => hk.2) (.slice none 0 0)) (fun _ h_ => h_.1)))); (case side10 => exact (Kd.R_reads' HO200.out).2.1); (case side11 => exact Kd.C_nil _ _); (case side12 => exact Nat.le_refl _); rintro e w43 ⟨v203, rfl, ho0, hb⟩; refine ⟨_, rfl, ?_⟩; have n0_ := Aside0.mk (Kd.R_below (by exact (Kd.R_mono (Kd.R_far (p := ⟨gb201, 3, none⟩) (Kd.R_far (p := ⟨gb201, 2, none⟩) (Kd.R_far (p := ⟨gb201, 1, none⟩) (Kd.R_far (p := ⟨gb201, 0, none⟩) (Kd.R_types HO182.out BK201.out (by decide)) (fun _ hk => hk.2) (.int .i64 4)) (fun _ hk => hk.2) (.slice Ao37 y195.length co37)) (fun _ hk => hk.2) (.slice Ao36 y198.length co36)) (fun _ hk => hk.2) (.slice none 0 0)) (fun _ h_ => h_.1))) hb); have n1_ := Aside0.mk (Kd.R_below (by exact (Kd.R_mono (Kd.R_far (p := ⟨gb201, 3, none⟩) (Kd.R_far (p := ⟨gb201, 2, none⟩) (Kd.R_far (p := ⟨gb201, 1, none⟩) (Kd.R_far (p := ⟨gb201, 0, none⟩) (Kd.R_types HO190.out BK201.out (by decide)) (fun _ hk => hk.2) (.int .i64 4)) (fun _ hk => hk.2) (.slice Ao37 y195.length co37)) (fun _ hk => hk.2) (.slice Ao36 y198.length co36)) (fun _ hk => hk.2) (.slice none 0 0)) (fun _ h_ => h_.1))) hb); have n2_ := Aside0.mk (Kd.R_below (by exact (Kd.R_mono (Kd.R_far (p := ⟨gb201, 3, none⟩) (Kd.R_far (p := ⟨gb201, 2, none⟩) (Kd.R_far (p := ⟨gb201, 1, none⟩) (Kd.R_far (p := ⟨gb201, 0, none⟩) (Kd.R_types HO193.out BK201.out (by decide)) (fun _ hk => hk.2) (.int .i64 4)) (fun _ hk => hk.2) (.slice Ao37 y195.length co37)) (fun _ hk => hk.2) (.slice Ao36 y198.length co36)) (fun _ hk => hk.2) (.slice none 0 0)) (fun _ h_ => h_.1))) hb); have n3_ := Aside0.mk (Kd.R_below (by exact (Kd.R_mono (Kd.R_far (p := ⟨gb201, 3, none⟩) (Kd.R_far (p := ⟨gb201, 2, none⟩) (Kd.R_far (p := ⟨gb201, 1, none⟩) (Kd.R_far (p := ⟨gb201, 0, none⟩) (Kd.R_types HO197.out BK201.out (by decide)) (fun _ hk => hk.2) (.int .i64 4)) (fun _ hk => hk.2) (.slice Ao37 y195.length co37)) (fun _ hk => hk.2) (.slice Ao36 y198.length co36)) (fun _ hk => hk.2) (.slice none 0 0)) (fun _ h_ => h_.1))) hb); have n4_ := Aside0.mk (Kd.R_below (by exact (Kd.R_mono (Kd.R_far (p := ⟨gb201, 3, none⟩) (Kd.R_far (p := ⟨gb201, 2, none⟩) (Kd.R_far (p := ⟨gb201, 1, none⟩) (Kd.R_far (p := ⟨gb201, 0, none⟩) (Kd.R_types HO200.out BK201.out (by decide)) (fun _ hk => hk.2) (.int .i64 4)) (fun _ hk => hk.2) (.slice Ao37 y195.length co37)) (fun _ hk => hk.2) (.slice Ao36 y198.length co36)) (fun _ hk => hk.2) (.slice none 0 0)) (fun _ h_ => h_.1))) hb); have n5_ := Aside0.mk (Kd.R_lower ho0 (below_size (BB HB))); have n6_ := Aside0.mk (blk_below (g := gb187) (o := .cells #[.slice Ao21 t180.length co21, .int .i64 t183, .int .i64 t184, .int .i64 t185] 28 (0, 0)) (by refine blk_far ?_ NB187_201.out _; refine blk_far ?_ NB187_201.out _; refine blk_far ?_ NB187_201.out _; refine blk_far ?_ NB187_201.out _; (with_reducible repeat (first | refine blk_drewN ?_ _ | refine blk_drew ?_ | refine blk_alloc ?_ _)); exact BK187.out) hb); have n7_ := Aside0.mk (blk_below (g := gb194) (o := .cells #[.int .i64 4, .slice Ao28 y188.length co28, .slice Ao27 y191.length co27, .slice none 0 0] 26 (0, 0)) (by refine blk_far ?_ NB194_201.out _; refine blk_far ?_ NB194_201.out _; refine blk_far ?_ NB194_201.out _; refine blk_far ?_ NB194_201.out _; (with_reducible repeat (first | refine blk_drewN ?_ _ | refine blk_drew ?_ | refine blk_alloc ?_ _)); exact BK194.out) hb); have n8_ := Aside0.mk (blk_below (g := gb201) (o := .cells #[.int .i64 4, .slice Ao37 y195.length co37, .slice Ao36 y198.length co36, .slice none 0 0] 26 (0, 0)) (by refine blk_put (cs := #[.int .i64 4, .slice Ao37 y195.length co37, .slice Ao36 y198.length co36, .slice none 0 0]) ?_ 3 _ rfl; refine blk_put (cs := #[.int .i64 4, .slice Ao37 y195.length co37, .slice none 0 0, .slice none 0 0]) ?_ 2 _ rfl; refine blk_put (cs := #[.int .i64 4, .slice none 0 0, .slice none 0 0, .slice none 0 0]) ?_ 1 _ rfl; refine blk_put (cs := #[.int .i64 0, .slice none 0 0, .slice none 0 0, .slice none 0 0]) ?_ 0 _ rfl; (with_reducible repeat (first | refine blk_drewN ?_ _ | refine blk_drew ?_ | refine blk_alloc ?_ _)); exact BK201.out) hb); have n9_ := Aside0.mk (below_step (BB HB) hb); clear HO182; clear HO190; clear HO193; clear HO197; clear HO200; clear BK187; clear BK194; clear BK201; clear HB; have HO182 := n0_; have HO190 := n1_; have HO193 := n2_; have HO197 := n3_; have HO200 := n4_; have HO204 := n5_; have BK187 := n6_; have BK194 := n7_; have BK201 := n8_; have HB := n9_; clear n0_ n1_ n2_ n3_ n4_ n5_ n6_ n7_ n8_ n9_; (try clear hb); (try clear hb2); (try clear hk); (try clear hi); (try clear ho0); have hcz44_0 : w43.cell? ⟨gb194, 0, none⟩ = some (.int .i64 4) := (blk_cell BK194.out 0).trans rfl; have hcz44_1 : w43.cell? ⟨gb194, 1, none⟩ = some (.slice Ao28 y188.length co28) := (blk_cell BK194.out 1).trans rfl; have hcz44_2 : w43.cell? ⟨gb194, 2, none⟩ = some (.slice Ao27 y191.length co27) := (blk_cell BK194.out 2).trans rfl; have hcz44_3 : w43.cell? ⟨gb194, 3, none⟩ = some (.slice none 0 0) := (blk_cell BK194.out 3).trans rfl; have hfz44_0 := blk_frozen BK194.out 0; have hfz44_1 := blk_frozen BK194.out 1; have hfz44_2 := blk_frozen BK194.out 2; have hfz44_3 := blk_frozen BK194.out 3; obtain ⟨Ao45, co45, eo45⟩ := Kd.R_slice HO204.out; subst eo45) | ((with_reducible refine gate_callee (f := 18) rfl ?_); refine goesL_ (some 30) rfl rfl Tryd.func18 (by kernel_rfl) rfl #[.agg #[.int .i64 4, .slice Ao28 y188.length co28, .slice Ao27 y191.length co27, .slice none 0 0], .slice Ao45 t202.length co45] rfl (by (try simp only [List.map_toArray, List.map_cons, List.map_nil]); first | done | rfl | (simp only [List.length_drop, List.length_take]; rfl)) ?_; (refine (field_Set.calls k 4 _ _ y188 _ _ y191 _ _ ([] : List Int) _ _ t202 t206 t207 t210 t213 t216 _ ?side1 ?side2 ?side3 ?side4 ?side5 ?side6 ?side7 ?side8 A3.out).mono ?_); (case side1 => exact CR HO190); (case side2 => exact (Kd.R_reads' HO190.out).2.1); (case side3 => exact CR HO193); (case side4 => exact (Kd.R_reads' HO193.out).2.1); (case side5 => exact Kd.C_nil _ _); (case side6 => exact Nat.le_refl _); (case side7 => exact CR HO204); (case side8 => exact (Kd.R_reads' HO204.out).2.1); rintro e w46 ⟨v208, v211, v214, rfl, ho0, ho1, ho2, hb⟩; refine ⟨_, rfl, ?_⟩; have n0_ := Aside0.mk (Kd.R_elder' (RL HO182) (Kd.R_base ho2) hb); have n1_ := Aside0.mk (Kd.R_elder' (RL HO190) (Kd.R_base ho0) hb); have n2_ := Aside0.mk (Kd.R_elder' (RL HO193) (Kd.R_base ho1) hb); have n3_ := Aside0.mk (Kd.R_elder' (RL HO197) (Kd.R_base ho0) hb); have n4_ := Aside0.mk (Kd.R_elder' (RL HO200) (Kd.R_base ho1) hb); have n5_ := Aside0.mk (Kd.R_below (RL HO204) hb); have n6_ := Aside0.mk (Kd.R_lower (Kd.R_new' (Kd.R_new' ho0 (Kd.R_lt (RL HO190))) (Kd.R_lt (RL HO197))) (below_size (BB HB))); have n7_ := Aside0.mk (Kd.R_lower (Kd.R_new' (Kd.R_new' ho1 (Kd.R_lt (RL HO193))) (Kd.R_lt (RL HO200))) (below_size (BB HB))); have n8_ := Aside0.mk (Kd.R_lower (Kd.R_new' ho2 (Kd.R_lt (RL HO182))) (below_size (BB HB))); have n9_ := BE BK187 hb; have n10_ := BE BK194 hb; have n11_ := BE BK201 hb; have n12_ := Aside0.mk (below_step (BB HB) hb); clear HO182; clear HO190; clear HO193; clear HO197; clear HO200; clear HO204; clear BK187; clear BK194; clear BK201; clear HB; have HO182 := n0_; have HO190 := n1_; have HO193 := n2_; have HO197 := n3_; have HO200 := n4_; have HO204 := n5_; have HO209 := n6_; have HO212 := n7_; have HO215 := n8_; have BK187 := n9_; have BK194 := n10_; have BK201 := n11_; have HB := n12_; clear n0_ n1_ n2_ n3_ n4_ n5_ n6_ n7_ n8_ n9_ n10_ n11_ n12_; (try clear hb); (try clear hb2); (try clear hk); (try clear hi); (try clear ho0); (try clear ho1); (try clear ho2)) | ((with_reducible refine gate_dst (N := 7) rfl ?_); refine box_event ?hg (N := 7) ?hd (cs := #[.int .i64 0, .slice none 0 0, .slice none 0 0, .slice none 0 0]) (t := 26) ?hr ?_; (case hd => rfl); (case hg => rfl); (case hr => first | (go_simp; done) | (go_simp; rfl)); intro gb217 hg w47 hbox hb; have n0_ := Aside0.mk (Kd.R_below (RL HO182) hb); have n1_ := Aside0.mk (Kd.R_below (RL HO190) hb); have n2_ := Aside0.mk (Kd.R_below (RL HO193) hb); have n3_ := Aside0.mk (Kd.R_below (RL HO197) hb); have n4_ := Aside0.mk (Kd.R_below (RL HO200) hb); have n5_ := Aside0.mk (Kd.R_below (RL HO204) hb); have n6_ := Aside0.mk (Kd.R_below (RL HO209) hb); have n7_ := Aside0.mk (Kd.R_below (RL HO212) hb); have n8_ := Aside0.mk (Kd.R_below (RL HO215) hb); have n9_ := BE BK187 hb; have n10_ := BE BK194 hb; have n11_ := BE BK201 hb; have n12_ := Aside0.mk (below_step (BB HB) hb); have n13_ := Aside0.mk (hbox); have n14_ := Aside0.mk ((by rw [hg]; exact (below_size (BB HB)) : w.heap.size ≤ gb217)); have n15_ := Aside0.mk ((by rw [hg]; exact (below_size (BB HB)) : w.heap.size ≤ gb217)); have n16_ := Aside0.mk ((by rw [hg]; exact Nat.ne_of_lt (blk_lt (g := gb187) (o := .cells #[.slice Ao21 t180.length co21, .int .i64 t183, .int .i64 t184, .int .i64 t185] 28 (0, 0)) (BL BK187)) : gb187 ≠ gb217)); have n17_ := Aside0.mk ((by rw [hg]; exact Nat.ne_of_gt (blk_lt (g := gb187) (o := .cells #[.slice Ao21 t180.length co21, .int .i64 t183, .int .i64 t184, .int .i64 t185] 28 (0, 0)) (BL BK187)) : gb217 ≠ gb187)); have n18_ := Aside0.mk ((by rw [hg]; exact Nat.ne_of_lt (blk_lt (g := gb194) (o := .cells #[.int .i64 4, .slice Ao28 y188.length co28, .slice Ao27 y191.length co27, .slice none 0 0] 26 (0, 0)) (BL BK194)) : gb194 ≠ gb217)); have n19_ := Aside0.mk ((by rw [hg]; exact Nat.ne_of_gt (blk_lt (g := gb194) (o := .cells #[.int .i64 4, .slice Ao28 y188.length co28, .slice Ao27 y191.length co27, .slice none 0 0] 26 (0, 0)) (BL BK194)) : gb217 ≠ gb194)); have n20_ := Aside0.mk ((by rw [hg]; exact Nat.ne_of_lt (blk_lt (g := gb201) (o := .cells #[.int .i64 4, .slice Ao37 y195.length co37, .slice Ao36 y198.length co36, .slice none 0 0] 26 (0, 0)) (BL BK201)) : gb201 ≠ gb217)); have n21_ := Aside0.mk ((by rw [hg]; exact Nat.ne_of_gt (blk_lt (g := gb201) (o := .cells #[.int .i64 4, .slice Ao37 y195.length co37, .slice Ao36 y198.length co36, .slice none 0 0] 26 (0, 0)) (BL BK201)) : gb217 ≠ gb201)); clear HO182; clear HO190; clear HO193; clear HO197; clear HO200; clear HO204; clear HO209; clear HO212; clear HO215; clear BK187; clear BK194; clear BK201; clear HB; have HO182 := n0_; have HO190 := n1_; have HO193 := n2_; have HO197 := n3_; have HO200 := n4_; have HO204 := n5_; have HO209 := n6_; have HO212 := n7_; have HO215 := n8_; have BK187 := n9_; have BK194 := n10_; have BK201 := n11_; have HB := n12_; have BK217 := n13_; have GW217 := n14_; have GE217 := n15_; have NB187_217 := n16_; have NB217_187 := n17_; have NB194_217 := n18_; have NB217_194 := n19_; have NB201_217 := n20_; have NB217_201 := n21_; clear n0_ n1_ n2_ n3_ n4_ n5_ n6_ n7_ n8_ n9_ n10_ n11_ n12_ n13_ n14_ n15_ n16_ n17_ n18_ n19_ n20_ n21_; clear hb hbox hg; have hnb48 := NB217_187.out; have hnc48 := NB187_217.out; have hnb49 := NB217_194.out; have hnc49 := NB194_217.out; have hnb50 := NB217_201.out; have hnc50 := NB201_217.out; have hcz51_0 : w47.cell? ⟨gb217, 0, none⟩ = some (.int .i64 0) := (blk_cell BK217.out 0).trans rfl; have hcz51_1 : w47.cell? ⟨gb217, 1, none⟩ = some (.slice none 0 0) := (blk_cell BK217.out 1).trans rfl; have hcz51_2 : w47.cell? ⟨gb217, 2, none⟩ = some (.slice none 0 0) := (blk_cell BK217.out 2).trans rfl; have hcz51_3 : w47.cell? ⟨gb217, 3, none⟩ = some (.slice none 0 0) := (blk_cell BK217.out 3).trans rfl; have hfz51_0 := blk_frozen BK217.out 0; have hfz51_1 := blk_frozen BK217.out 1; have hfz51_2 := blk_frozen BK217.out 2; have hfz51_3 := blk_frozen BK217.out 3; obtain ⟨Ao52, co52, eo52⟩ := Kd.R_slice HO209.out; subst eo52; obtain ⟨Ao53, co53, eo53⟩ := Kd.R_slice HO212.out; subst eo53; obtain ⟨Ao54, co54, eo54⟩ := Kd.R_slice HO215.out; subst eo54; have hcz55_0 : w47.cell? ⟨gb194, 0, none⟩ = some (.int .i64 4) := (blk_cell BK194.out 0).trans rfl; have hcz55_1 : w47.cell? ⟨gb194, 1, none⟩ = some (.slice Ao28 y188.length co28) := (blk_cell BK194.out 1).trans rfl; have hcz55_2 : w47.cell? ⟨gb194, 2, none⟩ = some (.slice Ao27 y191.length co27) := (blk_cell BK194.out 2).trans rfl; have hcz55_3 : w47.cell? ⟨gb194, 3, none⟩ = some (.slice none 0 0) := (blk_cell BK194.out 3).trans rfl; have hfz55_0 := blk_frozen BK194.out 0; have hfz55_1 := blk_frozen BK194.out 1; have hfz55_2 := blk_frozen BK194.out 2; have hfz55_3 := blk_frozen BK194.out 3) | ((with_reducible refine gate_dst (N := 36) rfl ?_); refine Kd.R_lit k75 _ 75 ?hg (N := 36) ?hd (xs := ([(⟨false, 1, 0, (⟨#[]⟩ : ByteArray)⟩ : S75)] : List (S75))) (inner := [.bool false, .int .i64 1, .int .i64 0, .string (⟨#[]⟩ : ByteArray)]) (ok := fun _ => True) (okp := fun _ => True) ?hr ?hp (fun _ hk => hk) trivial (Below.refl _ _) (Nat.le_refl _) (by simp) ?_; (case hd => rfl); (case hg => rfl); (case hr => first | (go_simp; done) | (go_simp; rfl)); (case hp => exact (Reps.c4 (show Kd.M k75 _ _ _ (⟨false, 1, 0, (⟨#[]⟩ : ByteArray)⟩ : S75) [.bool false, .int .i64 1, .int .i64 0, .string (⟨#[]⟩ : ByteArray)] from (k75_mkM _ _ _ (⟨false, 1, 0, (⟨#[]⟩ : ByteArray)⟩ : S75) )) (Reps.none _ _))); intro v219 w56 ho57 hb hg_ hnew_; clear hg_ hnew_; (first | rw [← Ny218.out] at ho57 | (simp only [Int.reduceToNat] at ho57; rw [← Ny218.out] at ho57)); have n0_ := Aside0.mk (Kd.R_below (by exact (Kd.R_mono (Kd.R_far (p := ⟨gb217, 3, none⟩) (Kd.R_far (p := ⟨gb217, 2, none⟩) (Kd.R_far (p := ⟨gb217, 1, none⟩) (Kd.R_far (p := ⟨gb217, 0, none⟩) (Kd.R_types HO182.out BK217.out (by decide)) (fun _ hk => hk.2) (.int .i64 t206)) (fun _ hk => hk.2) (.slice Ao52 t207.length co52)) (fun _ hk => hk.2) (.slice Ao53 t210.length co53)) (fun _ hk => hk.2) (.slice Ao54 t213.length co54)) (fun _ h_ => h_.1))) hb); have n1_ := Aside0.mk (Kd.R_below (by exact (Kd.R_mono (Kd.R_far (p := ⟨gb217, 3, none⟩) (Kd.R_far (p := ⟨gb217, 2, none⟩) (Kd.R_far (p := ⟨gb217, 1, none⟩) (Kd.R_far (p := ⟨gb217, 0, none⟩) (Kd.R_types HO190.out BK217.out (by decide)) (fun _ hk => hk.2) (.int .i64 t206)) (fun _ hk => hk.2) (.slice Ao52 t207.length co52)) (fun _ hk => hk.2) (.slice Ao53 t210.length co53)) (fun _ hk => hk.2) (.slice Ao54 t213.length co54)) (fun _ h_ => h_.1))) hb); have n2_ := Aside0.mk (Kd.R_below (by exact (Kd.R_mono (Kd.R_far (p := ⟨gb217, 3, none⟩) (Kd.R_far (p := ⟨gb217, 2, none⟩) (Kd.R_far (p := ⟨gb217, 1, none⟩) (Kd.R_far (p := ⟨gb217, 0, none⟩) (Kd.R_types HO193.out BK217.out (by decide)) (fun _ hk => hk.2) (.int .i64 t206)) (fun _ hk => hk.2) (.slice Ao52 t207.length co52)) (fun _ hk => hk.2) (.slice Ao53 t210.length co53)) (fun _ hk => hk.2) (.slice Ao54 t213.length co54)) (fun _ h_ => h_.1))) hb); have n3_ := Aside0.mk (Kd.R_below (by exact (Kd.R_mono (Kd.R_far (p := ⟨gb217, 3, none⟩) (Kd.R_far (p := ⟨gb217, 2, none⟩) (Kd.R_far (p := ⟨gb217, 1, none⟩) (Kd.R_far (p := ⟨gb217, 0, none⟩) (Kd.R_types HO197.out BK217.out (by decide)) (fun _ hk => hk.2) (.int .i64 t206)) (fun _ hk => hk.2) (.slice Ao52 t207.length co52)) (fun _ hk => hk.2) (.slice Ao53 t210.length co53)) (fun _ hk => hk.2) (.slice Ao54 t213.length co54)) (fun _ h_ => h_.1))) hb); have n4_ := Aside0.mk (Kd.R_below (by exact (Kd.R_mono (Kd.R_far (p := ⟨gb217, 3, none⟩) (Kd.R_far (p := ⟨gb217, 2, none⟩) (Kd.R_far (p := ⟨gb217, 1, none⟩) (Kd.R_far (p := ⟨gb217, 0, none⟩) (Kd.R_types HO200.out BK217.out (by decide)) (fun _ hk => hk.2) (.int .i64 t206)) (fun _ hk => hk.2) (.slice Ao52 t207.length co52)) (fun _ hk => hk.2) (.slice Ao53 t210.length co53)) (fun _ hk => hk.2) (.slice Ao54 t213.length co54)) (fun _ h_ => h_.1))) hb); have n5_ := Aside0.mk (Kd.R_elder' (by exact (Kd.R_mono (Kd.R_far (p := ⟨gb217, 3, none⟩) (Kd.R_far (p := ⟨gb217, 2, none⟩) (Kd.R_far (p := ⟨gb217, 1, none⟩) (Kd.R_far (p := ⟨gb217, 0, none⟩) (Kd.R_types HO204.out BK217.out (by decide)) (fun _ hk => hk.2) (.int .i64 t206)) (fun _ hk => hk.2) (.slice Ao52 t207.length co52)) (fun _ hk => hk.2) (.slice Ao53 t210.length co53)) (fun _ hk => hk.2) (.slice Ao54 t213.length co54)) (fun _ h_ => h_.1))) (Kd.R_base ho57) hb); have n6_ := Aside0.mk (Kd.R_below (by exact (Kd.R_mono (Kd.R_far (p := ⟨gb217, 3, none⟩) (Kd.R_far (p := ⟨gb217, 2, none⟩) (Kd.R_far (p := ⟨gb217, 1, none⟩) (Kd.R_far (p := ⟨gb217, 0, none⟩) (Kd.R_types HO209.out BK217.out (by decide)) (fun _ hk => hk.2) (.int .i64 t206)) (fun _ hk => hk.2) (.slice Ao52 t207.length co52)) (fun _ hk => hk.2) (.slice Ao53 t210.length co53)) (fun _ hk => hk.2) (.slice Ao54 t213.length co54)) (fun _ h_ => h_.1))) hb); have n7_ := Aside0.mk (Kd.R_below (by exact (Kd.R_mono (Kd.R_far (p := ⟨gb217, 3, none⟩) (Kd.R_far (p := ⟨gb217, 2, none⟩) (Kd.R_far (p := ⟨gb217, 1, none⟩) (Kd.R_far (p := ⟨gb217, 0, none⟩) (Kd.R_types HO212.out BK217.out (by decide)) (fun _ hk => hk.2) (.int .i64 t206)) (fun _ hk => hk.2) (.slice Ao52 t207.length co52)) (fun _ hk => hk.2) (.slice Ao53 t210.length co53)) (fun _ hk => hk.2) (.slice Ao54 t213.length co54)) (fun _ h_ => h_.1))) hb); have n8_ := Aside0.mk (Kd.R_below (by exact (Kd.R_mono (Kd.R_far (p := ⟨gb217, 3, none⟩) (Kd.R_far (p := ⟨gb217, 2, none⟩) (Kd.R_far (p := ⟨gb217, 1, none⟩) (Kd.R_far (p := ⟨gb217, 0, none⟩) (Kd.R_types HO215.out BK217.out (by decide)) (fun _ hk => hk.2) (.int .i64 t206)) (fun _ hk => hk.2) (.slice Ao52 t207.length co52)) (fun _ hk => hk.2) (.slice Ao53 t210.length co53)) (fun _ hk => hk.2) (.slice Ao54 t213.length co54)) (fun _ h_ => h_.1))) hb); have n9_ := Aside0.mk (Kd.R_lower (Kd.R_new' ho57 (Kd.R_lt (by exact (Kd.R_mono (Kd.R_far (p := ⟨gb217, 3, none⟩) (Kd.R_far (p := ⟨gb217, 2, none⟩) (Kd.R_far (p := ⟨gb217, 1, none⟩) (Kd.R_far (p := ⟨gb217, 0, none⟩) (Kd.R_types HO204.out BK217.out (by decide)) (fun _ hk => hk.2) (.int .i64 t206)) (fun _ hk => hk.2) (.slice Ao52 t207.length co52)) (fun _ hk => hk.2) (.slice Ao53 t210.length co53)) (fun _ hk => hk.2) (.slice Ao54 t213.length co54)) (fun _ h_ => h_.1))))) (below_size (BB HB))); have n10_ := Aside0.mk (blk_below (g := gb187) (o := .cells #[.slice Ao21 t180.length co21, .int .i64 t183, .int .i64 t184, .int .i64 t185] 28 (0, 0)) (by refine blk_far ?_ NB187_217.out _; refine blk_far ?_ NB187_217.out _; refine blk_far ?_ NB187_217.out _; refine blk_far ?_ NB187_217.out _; (with_reducible repeat (first | refine blk_drewN ?_ _ | refine blk_drew ?_ | refine blk_alloc ?_ _)); exact BK187.out) hb); have n11_ := Aside0.mk (blk_below (g := gb194) (o := .cells #[.int .i64 4, .slice Ao28 y188.length co28, .slice Ao27 y191.length co27, .slice none 0 0] 26 (0, 0)) (by refine blk_far ?_ NB194_217.out _; refine blk_far ?_ NB194_217.out _; refine blk_far ?_ NB194_217.out _; refine blk_far ?_ NB194_217.out _; (with_reducible repeat (first | refine blk_drewN ?_ _ | refine blk_drew ?_ | refine blk_alloc ?_ _)); exact BK194.out) hb); have n12_ := Aside0.mk (blk_below (g := gb201) (o := .cells #[.int .i64 4, .slice Ao37 y195.length co37, .slice Ao36 y198.length co36, .slice none 0 0] 26 (0, 0)) (by refine blk_far ?_ NB201_217.out _; refine blk_far ?_ NB201_217.out _; refine blk_far ?_ NB201_217.out _; refine blk_far ?_ NB201_217.out _; (with_reducible repeat (first | refine blk_drewN ?_ _ | refine blk_drew ?_ | refine blk_alloc ?_ _)); exact BK201.out) hb); have n13_ := Aside0.mk (blk_below (g := gb217) (o := .cells #[.int .i64 t206, .slice Ao52 t207.length co52, .slice Ao53 t210.length co53, .slice Ao54 t213.length co54] 26 (0, 0)) (by refine blk_put (cs := #[.int .i64 t206, .slice Ao52 t207.length co52, .slice Ao53 t210.length co53, .slice none 0 0]) ?_ 3 _ rfl; refine blk_put (cs := #[.int .i64 t206, .slice Ao52 t207.length co52, .slice none 0 0, .slice none 0 0]) ?_ 2 _ rfl; refine blk_put (cs := #[.int .i64 t206, .slice none 0 0, .slice none 0 0, .slice none 0 0]) ?_ 1 _ rfl; refine blk_put (cs := #[.int .i64 0, .slice none 0 0, .slice none 0 0, .slice none 0 0]) ?_ 0 _ rfl; (with_reducible repeat (first | refine blk_drewN ?_ _ | refine blk_drew ?_ | refine blk_alloc ?_ _)); exact BK217.out) hb); have n14_ := Aside0.mk (below_step (BB HB) hb); clear HO182; clear HO190; clear HO193; clear HO197; clear HO200; clear HO204; clear HO209; clear HO212; clear HO215; clear BK187; clear BK194; clear BK201; clear BK217; clear HB; have HO182 := n0_; have HO190 := n1_; have HO193 := n2_; have HO197 := n3_; have HO200 := n4_; have HO204 := n5_; have HO209 := n6_; have HO212 := n7_; have HO215 := n8_; have HO220 := n9_; have BK187 := n10_; have BK194 := n11_; have BK201 := n12_; have BK217 := n13_; have HB := n14_; clear n0_ n1_ n2_ n3_ n4_ n5_ n6_ n7_ n8_ n9_ n10_ n11_ n12_ n13_ n14_; clear hb ho57; obtain ⟨Ao58, co58, eo58⟩ := Kd.R_slice HO220.out; subst eo58) | ((with_reducible refine gate_callee (f := 18) rfl ?_); refine goesL_ (some 37) rfl rfl Tryd.func18 (by kernel_rfl) rfl #[.agg #[.int .i64 4, .slice Ao28 y188.length co28, .slice Ao27 y191.length co27, .slice none 0 0], .slice Ao58 y218.length co58] rfl (by (try simp only [List.map_toArray, List.map_cons, List.map_nil]); first | done | rfl | (simp only [List.length_drop, List.length_take]; rfl)) ?_; (refine (field_Set.calls k 4 _ _ y188 _ _ y191 _ _ ([] : List Int) _ _ y218 t221 t222 t225 t228 t231 _ ?side1 ?side2 ?side3 ?side4 ?side5 ?side6 ?side7 ?side8 A4.out).mono ?_); (case side1 => exact CR HO190); (case side2 => exact (Kd.R_reads' HO190.out).2.1); (case side3 => exact CR HO193); (case side4 => exact (Kd.R_reads' HO193.out).2.1); (case side5 => exact Kd.C_nil _ _); (case side6 => exact Nat.le_refl _); (case side7 => exact CR HO220); (case side8 => exact (Kd.R_reads' HO220.out).2.1); rintro e w59 ⟨v223, v226, v229, rfl, ho0, ho1, ho2, hb⟩; refine ⟨_, rfl, ?_⟩; have n0_ := Aside0.mk (Kd.R_elder' (RL HO182) (Kd.R_base ho2) hb); have n1_ := Aside0.mk (Kd.R_elder' (RL HO190) (Kd.R_base ho0) hb); have n2_ := Aside0.mk (Kd.R_elder' (RL HO193) (Kd.R_base ho1) hb); have n3_ := Aside0.mk (Kd.R_elder' (RL HO197) (Kd.R_base ho0) hb); have n4_ := Aside0.mk (Kd.R_elder' (RL HO200) (Kd.R_base ho1) hb); have n5_ := Aside0.mk (Kd.R_below (RL HO204) hb); have n6_ := Aside0.mk (Kd.R_elder' (RL HO209) (Kd.R_base ho0) hb); have n7_ := Aside0.mk (Kd.R_elder' (RL HO212) (Kd.R_base ho1) hb); have n8_ := Aside0.mk (Kd.R_elder' (RL HO215) (Kd.R_base ho2) hb); have n9_ := Aside0.mk (Kd.R_below (RL HO220) hb); have n10_ := Aside0.mk (Kd.R_lower (Kd.R_new' (Kd.R_new' (Kd.R_new' ho0 (Kd.R_lt (RL HO190))) (Kd.R_lt (RL HO197))) (Kd.R_lt (RL HO209))) (below_size (BB HB))); have n11_ := Aside0.mk (Kd.R_lower (Kd.R_new' (Kd.R_new' (Kd.R_new' ho1 (Kd.R_lt (RL HO193))) (Kd.R_lt (RL HO200))) (Kd.R_lt (RL HO212))) (below_size (BB HB))); have n12_ := Aside0.mk (Kd.R_lower (Kd.R_new' (Kd.R_new' ho2 (Kd.R_lt (RL HO182))) (Kd.R_lt (RL HO215))) (below_size (BB HB))); have n13_ := BE BK187 hb; have n14_ := BE BK194 hb; have n15_ := BE BK201 hb; have n16_ := BE BK217 hb; have n17_ := Aside0.mk (below_step (BB HB) hb); clear HO182; clear HO190; clear HO193; clear HO197; clear HO200; clear HO204; clear HO209; clear HO212; clear HO215; clear HO220; clear BK187; clear BK194; clear BK201; clear BK217; clear HB; have HO182 := n0_; have HO190 := n1_; have HO193 := n2_; have HO197 := n3_; have HO200 := n4_; have HO204 := n5_; have HO209 := n6_; have HO212 := n7_; have HO215 := n8_; have HO220 := n9_; have HO224 := n10_; have HO227 := n11_; have HO230 := n12_; have BK187 := n13_; have BK194 := n14_; have BK201 := n15_; have BK217 := n16_; have HB := n17_; clear n0_ n1_ n2_ n3_ n4_ n5_ n6_ n7_ n8_ n9_ n10_ n11_ n12_ n13_ n14_ n15_ n16_ n17_; (try clear hb); (try clear hb2); (try clear hk); (try clear hi); (try clear ho0); (try clear ho1); (try clear ho2)) | ((with_reducible refine gate_dst (N := 9) rfl ?_); refine box_event ?hg (N := 9) ?hd (cs := #[.int .i64 0, .slice none 0 0, .slice none 0 0, .slice none 0 0]) (t := 26) ?hr ?_; (case hd => rfl); (case hg => rfl); (case hr => first | (go_simp; done) | (go_simp; rfl)); intro gb232 hg w60 hbox hb; have n0_ := Aside0.mk (Kd.R_below (RL HO182) hb); have n1_ := Aside0.mk (Kd.R_below (RL HO190) hb); have n2_ := Aside0.mk (Kd.R_below (RL HO193) hb); have n3_ := Aside0.mk (Kd.R_below (RL HO197) hb); have n4_ := Aside0.mk (Kd.R_below (RL HO200) hb); have n5_ := Aside0.mk (Kd.R_below (RL HO204) hb); have n6_ := Aside0.mk (Kd.R_below (RL HO209) hb); have n7_ := Aside0.mk (Kd.R_below (RL HO212) hb); have n8_ := Aside0.mk (Kd.R_below (RL HO215) hb); have n9_ := Aside0.mk (Kd.R_below (RL HO220) hb); have n10_ := Aside0.mk (Kd.R_below (RL HO224) hb); have n11_ := Aside0.mk (Kd.R_below (RL HO227) hb); have n12_ := Aside0.mk (Kd.R_below (RL HO230) hb); have n13_ := BE BK187 hb; have n14_ := BE BK194 hb; have n15_ := BE BK201 hb; have n16_ := BE BK217 hb; have n17_ := Aside0.mk (below_step (BB HB) hb); have n18_ := Aside0.mk (hbox); have n19_ := Aside0.mk ((by rw [hg]; exact (below_size (BB HB)) : w.heap.size ≤ gb232)); have n20_ := Aside0.mk ((by rw [hg]; exact (below_size (BB HB)) : w.heap.size ≤ gb232)); have n21_ := Aside0.mk ((by rw [hg]; exact Nat.ne_of_lt (blk_lt (g := gb187) (o := .cells #[.slice Ao21 t180.length co21, .int .i64 t183, .int .i64 t184, .int .i64 t185] 28 (0, 0)) (BL BK187)) : gb187 ≠ gb232)); have n22_ := Aside0.mk ((by rw [hg]; exact Nat.ne_of_gt (blk_lt (g := gb187) (o := .cells #[.slice Ao21 t180.length co21, .int .i64 t183, .int .i64 t184, .int .i64 t185] 28 (0, 0)) (BL BK187)) : gb232 ≠ gb187)); have n23_ := Aside0.mk ((by rw [hg]; exact Nat.ne_of_lt (blk_lt (g := gb194) (o := .cells #[.int .i64 4, .slice Ao28 y188.length co28, .slice Ao27 y191.length co27, .slice none 0 0] 26 (0, 0)) (BL BK194)) : gb194 ≠ gb232)); have n24_ := Aside0.mk ((by rw [hg]; exact Nat.ne_of_gt (blk_lt (g := gb194) (o := .cells #[.int .i64 4, .slice Ao28 y188.length co28, .slice Ao27 y191.length co27, .slice none 0 0] 26 (0, 0)) (BL BK194)) : gb232 ≠ gb194)); have n25_ := Aside0.mk ((by rw [hg]; exact Nat.ne_of_lt (blk_lt (g := gb201) (o := .cells #[.int .i64 4, .slice Ao37 y195.length co37, .slice Ao36 y198.length co36, .slice none 0 0] 26 (0, 0)) (BL BK201)) : gb201 ≠ gb232)); have n26_ := Aside0.mk ((by rw [hg]; exact Nat.ne_of_gt (blk_lt (g := gb201) (o := .cells #[.int .i64 4, .slice Ao37 y195.length co37, .slice Ao36 y198.length co36, .slice none 0 0] 26 (0, 0)) (BL BK201)) : gb232 ≠ gb201)); have n27_ := Aside0.mk ((by rw [hg]; exact Nat.ne_of_lt (blk_lt (g := gb217) (o := .cells #[.int .i64 t206, .slice Ao52 t207.length co52, .slice Ao53 t210.length co53, .slice Ao54 t213.length co54] 26 (0, 0)) (BL BK217)) : gb217 ≠ gb232)); have n28_ := Aside0.mk ((by rw [hg]; exact Nat.ne_of_gt (blk_lt (g := gb217) (o := .cells #[.int .i64 t206, .slice Ao52 t207.length co52, .slice Ao53 t210.length co53, .slice Ao54 t213.length co54] 26 (0, 0)) (BL BK217)) : gb232 ≠ gb217)); clear HO182; clear HO190; clear HO193; clear HO197; clear HO200; clear HO204; clear HO209; clear HO212; clear HO215; clear HO220; clear HO224; clear HO227; clear HO230; clear BK187; clear BK194; clear BK201; clear BK217; clear HB; have HO182 := n0_; have HO190 := n1_; have HO193 := n2_; have HO197 := n3_; have HO200 := n4_; have HO204 := n5_; have HO209 := n6_; have HO212 := n7_; have HO215 := n8_; have HO220 := n9_; have HO224 := n10_; have HO227 := n11_; have HO230 := n12_; have BK187 := n13_; have BK194 := n14_; have BK201 := n15_; have BK217 := n16_; have HB := n17_; have BK232 := n18_; have GW232 := n19_; have GE232 := n20_; have NB187_232 := n21_; have NB232_187 := n22_; have NB194_232 := n23_; have NB232_194 := n24_; have NB201_232 := n25_; have NB232_201 := n26_; have NB217_232 := n27_; have NB232_217 := n28_; clear n0_ n1_ n2_ n3_ n4_ n5_ n6_ n7_ n8_ n9_ n10_ n11_ n12_ n13_ n14_ n15_ n16_ n17_ n18_ n19_ n20_ n21_ n22_ n23_ n24_ n25_ n26_ n27_ n28_; clear hb hbox hg; have hnb61 := NB232_187.out; have hnc61 := NB187_232.out; have hnb62 := NB232_194.out; have hnc62 := NB194_232.out; have hnb63 := NB232_201.out; have hnc63 := NB201_232.out; have hnb64 := NB232_217.out; have hnc64 := NB217_232.out; have hcz65_0 : w60.cell? ⟨gb232, 0, none⟩ = some (.int .i64 0) := (blk_cell BK232.out 0).trans rfl; have hcz65_1 : w60.cell? ⟨gb232, 1, none⟩ = some (.slice none 0 0) := (blk_cell BK232.out 1).trans rfl; have hcz65_2 : w60.cell? ⟨gb232, 2, none⟩ = some (.slice none 0 0) := (blk_cell BK232.out 2).trans rfl; have hcz65_3 : w60.cell? ⟨gb232, 3, none⟩ = some (.slice none 0 0) := (blk_cell BK232.out 3).trans rfl; have hfz65_0 := blk_frozen BK232.out 0; have hfz65_1 := blk_frozen BK232.out 1; have hfz65_2 := blk_frozen BK232.out 2; have hfz65_3 := blk_frozen BK232.out 3; obtain ⟨Ao66, co66, eo66⟩ := Kd.R_slice HO224.out; subst eo66; obtain ⟨Ao67, co67, eo67⟩ := Kd.R_slice HO227.out; subst eo67; obtain ⟨Ao68, co68, eo68⟩ := Kd.R_slice HO230.out; subst eo68))
          have n0_ : Aside0 (Kd.R (Kd.int .i64) 3 ((((w60.setCell ⟨gb232, 0, none⟩ (.int .i64 t221)).setCell ⟨gb232, 1, none⟩ (.slice Ao66 t222.length co66)).setCell ⟨gb232, 2, none⟩ (.slice Ao67 t225.length co67)).setCell ⟨gb232, 3, none⟩ (.slice Ao68 t228.length co68)) w.heap.size (fun k_ => some k_ ≠ (.slice Ao54 t213.length co54 : Value).ownBlock ∧ some k_ ≠ (.slice Ao68 t228.length co68 : Value).ownBlock) (.slice Ao21 t180.length co21) t180) := ⟨by exact Kd.R_mono (Kd.R_far (p := ⟨gb232, 3, none⟩) (Kd.R_far (p := ⟨gb232, 2, none⟩) (Kd.R_far (p := ⟨gb232, 1, none⟩) (Kd.R_far (p := ⟨gb232, 0, none⟩) (Kd.R_types HO182.out BK232.out (by decide)) (fun _ hk => hk.2) (.int .i64 t221)) (fun _ hk => hk.2) (.slice Ao66 t222.length co66)) (fun _ hk => hk.2) (.slice Ao67 t225.length co67)) (fun _ hk => hk.2) (.slice Ao68 t228.length co68)) (fun _ hk => ⟨hk.1.1.2, hk.1.2⟩)⟩
          have n1_ : Aside0 (Kd.R (Kd.int .i64) 2 ((((w60.setCell ⟨gb232, 0, none⟩ (.int .i64 t221)).setCell ⟨gb232, 1, none⟩ (.slice Ao66 t222.length co66)).setCell ⟨gb232, 2, none⟩ (.slice Ao67 t225.length co67)).setCell ⟨gb232, 3, none⟩ (.slice Ao68 t228.length co68)) w.heap.size (fun k_ => some k_ ≠ (.slice Ao37 y195.length co37 : Value).ownBlock ∧ some k_ ≠ (.slice Ao52 t207.length co52 : Value).ownBlock ∧ some k_ ≠ (.slice Ao66 t222.length co66 : Value).ownBlock) (.slice Ao28 y188.length co28) y188) := ⟨by exact Kd.R_mono (Kd.R_far (p := ⟨gb232, 3, none⟩) (Kd.R_far (p := ⟨gb232, 2, none⟩) (Kd.R_far (p := ⟨gb232, 1, none⟩) (Kd.R_far (p := ⟨gb232, 0, none⟩) (Kd.R_types HO190.out BK232.out (by decide)) (fun _ hk => hk.2) (.int .i64 t221)) (fun _ hk => hk.2) (.slice Ao66 t222.length co66)) (fun _ hk => hk.2) (.slice Ao67 t225.length co67)) (fun _ hk => hk.2) (.slice Ao68 t228.length co68)) (fun _ hk => ⟨hk.1.1.1.2, ⟨hk.1.1.2, hk.1.2⟩⟩)⟩
          have n2_ : Aside0 (Kd.R Kd.string 9 ((((w60.setCell ⟨gb232, 0, none⟩ (.int .i64 t221)).setCell ⟨gb232, 1, none⟩ (.slice Ao66 t222.length co66)).setCell ⟨gb232, 2, none⟩ (.slice Ao67 t225.length co67)).setCell ⟨gb232, 3, none⟩ (.slice Ao68 t228.length co68)) w.heap.size (fun k_ => some k_ ≠ (.slice Ao36 y198.length co36 : Value).ownBlock ∧ some k_ ≠ (.slice Ao53 t210.length co53 : Value).ownBlock ∧ some k_ ≠ (.slice Ao67 t225.length co67 : Value).ownBlock) (.slice Ao27 y191.length co27) y191) := ⟨by exact Kd.R_mono (Kd.R_far (p := ⟨gb232, 3, none⟩) (Kd.R_far (p := ⟨gb232, 2, none⟩) (Kd.R_far (p := ⟨gb232, 1, none⟩) (Kd.R_far (p := ⟨gb232, 0, none⟩) (Kd.R_types HO193.out BK232.out (by decide)) (fun _ hk => hk.2) (.int .i64 t221)) (fun _ hk => hk.2) (.slice Ao66 t222.length co66)) (fun _ hk => hk.2) (.slice Ao67 t225.length co67)) (fun _ hk => hk.2) (.slice Ao68 t228.length co68)) (fun _ hk => ⟨hk.1.1.1.2, ⟨hk.1.1.2, hk.1.2⟩⟩)⟩
          have n3_ : Aside0 (Kd.R (Kd.int .i64) 2 ((((w60.setCell ⟨gb232, 0, none⟩ (.int .i64 t221)).setCell ⟨gb232, 1, none⟩ (.slice Ao66 t222.length co66)).setCell ⟨gb232, 2, none⟩ (.slice Ao67 t225.length co67)).setCell ⟨gb232, 3, none⟩ (.slice Ao68 t228.length co68)) w.heap.size (fun k_ => some k_ ≠ (.slice Ao28 y188.length co28 : Value).ownBlock ∧ some k_ ≠ (.slice Ao52 t207.length co52 : Value).ownBlock ∧ some k_ ≠ (.slice Ao66 t222.length co66 : Value).ownBlock) (.slice Ao37 y195.length co37) y195) := ⟨by exact Kd.R_mono (Kd.R_far (p := ⟨gb232, 3, none⟩) (Kd.R_far (p := ⟨gb232, 2, none⟩) (Kd.R_far (p := ⟨gb232, 1, none⟩) (Kd.R_far (p := ⟨gb232, 0, none⟩) (Kd.R_types HO197.out BK232.out (by decide)) (fun _ hk => hk.2) (.int .i64 t221)) (fun _ hk => hk.2) (.slice Ao66 t222.length co66)) (fun _ hk => hk.2) (.slice Ao67 t225.length co67)) (fun _ hk => hk.2) (.slice Ao68 t228.length co68)) (fun _ hk => ⟨hk.1.1.1.2, ⟨hk.1.1.2, hk.1.2⟩⟩)⟩
          have n4_ : Aside0 (Kd.R Kd.string 9 ((((w60.setCell ⟨gb232, 0, none⟩ (.int .i64 t221)).setCell ⟨gb232, 1, none⟩ (.slice Ao66 t222.length co66)).setCell ⟨gb232, 2, none⟩ (.slice Ao67 t225.length co67)).setCell ⟨gb232, 3, none⟩ (.slice Ao68 t228.length co68)) w.heap.size (fun k_ => some k_ ≠ (.slice Ao27 y191.length co27 : Value).ownBlock ∧ some k_ ≠ (.slice Ao53 t210.length co53 : Value).ownBlock ∧ some k_ ≠ (.slice Ao67 t225.length co67 : Value).ownBlock) (.slice Ao36 y198.length co36) y198) := ⟨by exact Kd.R_mono (Kd.R_far (p := ⟨gb232, 3, none⟩) (Kd.R_far (p := ⟨gb232, 2, none⟩) (Kd.R_far (p := ⟨gb232, 1, none⟩) (Kd.R_far (p := ⟨gb232, 0, none⟩) (Kd.R_types HO200.out BK232.out (by decide)) (fun _ hk => hk.2) (.int .i64 t221)) (fun _ hk => hk.2) (.slice Ao66 t222.length co66)) (fun _ hk => hk.2) (.slice Ao67 t225.length co67)) (fun _ hk => hk.2) (.slice Ao68 t228.length co68)) (fun _ hk => ⟨hk.1.1.1.2, ⟨hk.1.1.2, hk.1.2⟩⟩)⟩
          have n5_ : Aside0 (Kd.R k75 75 ((((w60.setCell ⟨gb232, 0, none⟩ (.int .i64 t221)).setCell ⟨gb232, 1, none⟩ (.slice Ao66 t222.length co66)).setCell ⟨gb232, 2, none⟩ (.slice Ao67 t225.length co67)).setCell ⟨gb232, 3, none⟩ (.slice Ao68 t228.length co68)) w.heap.size (fun k_ => some k_ ≠ (.slice Ao58 y218.length co58 : Value).ownBlock) (.slice Ao45 t202.length co45) t202) := ⟨by exact Kd.R_mono (Kd.R_far (p := ⟨gb232, 3, none⟩) (Kd.R_far (p := ⟨gb232, 2, none⟩) (Kd.R_far (p := ⟨gb232, 1, none⟩) (Kd.R_far (p := ⟨gb232, 0, none⟩) (Kd.R_types HO204.out BK232.out (by decide)) (fun _ hk => hk.2) (.int .i64 t221)) (fun _ hk => hk.2) (.slice Ao66 t222.length co66)) (fun _ hk => hk.2) (.slice Ao67 t225.length co67)) (fun _ hk => hk.2) (.slice Ao68 t228.length co68)) (fun _ hk => hk.1.2)⟩
          have n6_ : Aside0 (Kd.R (Kd.int .i64) 2 ((((w60.setCell ⟨gb232, 0, none⟩ (.int .i64 t221)).setCell ⟨gb232, 1, none⟩ (.slice Ao66 t222.length co66)).setCell ⟨gb232, 2, none⟩ (.slice Ao67 t225.length co67)).setCell ⟨gb232, 3, none⟩ (.slice Ao68 t228.length co68)) w.heap.size (fun k_ => some k_ ≠ (.slice Ao28 y188.length co28 : Value).ownBlock ∧ some k_ ≠ (.slice Ao37 y195.length co37 : Value).ownBlock ∧ some k_ ≠ (.slice Ao66 t222.length co66 : Value).ownBlock) (.slice Ao52 t207.length co52) t207) := ⟨by exact Kd.R_mono (Kd.R_far (p := ⟨gb232, 3, none⟩) (Kd.R_far (p := ⟨gb232, 2, none⟩) (Kd.R_far (p := ⟨gb232, 1, none⟩) (Kd.R_far (p := ⟨gb232, 0, none⟩) (Kd.R_types HO209.out BK232.out (by decide)) (fun _ hk => hk.2) (.int .i64 t221)) (fun _ hk => hk.2) (.slice Ao66 t222.length co66)) (fun _ hk => hk.2) (.slice Ao67 t225.length co67)) (fun _ hk => hk.2) (.slice Ao68 t228.length co68)) (fun _ hk => ⟨hk.1.1.1.2, ⟨hk.1.1.2, hk.1.2⟩⟩)⟩
          have n7_ : Aside0 (Kd.R Kd.string 9 ((((w60.setCell ⟨gb232, 0, none⟩ (.int .i64 t221)).setCell ⟨gb232, 1, none⟩ (.slice Ao66 t222.length co66)).setCell ⟨gb232, 2, none⟩ (.slice Ao67 t225.length co67)).setCell ⟨gb232, 3, none⟩ (.slice Ao68 t228.length co68)) w.heap.size (fun k_ => some k_ ≠ (.slice Ao27 y191.length co27 : Value).ownBlock ∧ some k_ ≠ (.slice Ao36 y198.length co36 : Value).ownBlock ∧ some k_ ≠ (.slice Ao67 t225.length co67 : Value).ownBlock) (.slice Ao53 t210.length co53) t210) := ⟨by exact Kd.R_mono (Kd.R_far (p := ⟨gb232, 3, none⟩) (Kd.R_far (p := ⟨gb232, 2, none⟩) (Kd.R_far (p := ⟨gb232, 1, none⟩) (Kd.R_far (p := ⟨gb232, 0, none⟩) (Kd.R_types HO212.out BK232.out (by decide)) (fun _ hk => hk.2) (.int .i64 t221)) (fun _ hk => hk.2) (.slice Ao66 t222.length co66)) (fun _ hk => hk.2) (.slice Ao67 t225.length co67)) (fun _ hk => hk.2) (.slice Ao68 t228.length co68)) (fun _ hk => ⟨hk.1.1.1.2, ⟨hk.1.1.2, hk.1.2⟩⟩)⟩
          have n8_ : Aside0 (Kd.R (Kd.int .i64) 3 ((((w60.setCell ⟨gb232, 0, none⟩ (.int .i64 t221)).setCell ⟨gb232, 1, none⟩ (.slice Ao66 t222.length co66)).setCell ⟨gb232, 2, none⟩ (.slice Ao67 t225.length co67)).setCell ⟨gb232, 3, none⟩ (.slice Ao68 t228.length co68)) w.heap.size (fun k_ => some k_ ≠ (.slice Ao21 t180.length co21 : Value).ownBlock ∧ some k_ ≠ (.slice Ao68 t228.length co68 : Value).ownBlock) (.slice Ao54 t213.length co54) t213) := ⟨by exact Kd.R_mono (Kd.R_far (p := ⟨gb232, 3, none⟩) (Kd.R_far (p := ⟨gb232, 2, none⟩) (Kd.R_far (p := ⟨gb232, 1, none⟩) (Kd.R_far (p := ⟨gb232, 0, none⟩) (Kd.R_types HO215.out BK232.out (by decide)) (fun _ hk => hk.2) (.int .i64 t221)) (fun _ hk => hk.2) (.slice Ao66 t222.length co66)) (fun _ hk => hk.2) (.slice Ao67 t225.length co67)) (fun _ hk => hk.2) (.slice Ao68 t228.length co68)) (fun _ hk => ⟨hk.1.1.2, hk.1.2⟩)⟩
          have n9_ : Aside0 (Kd.R k75 75 ((((w60.setCell ⟨gb232, 0, none⟩ (.int .i64 t221)).setCell ⟨gb232, 1, none⟩ (.slice Ao66 t222.length co66)).setCell ⟨gb232, 2, none⟩ (.slice Ao67 t225.length co67)).setCell ⟨gb232, 3, none⟩ (.slice Ao68 t228.length co68)) w.heap.size (fun k_ => some k_ ≠ (.slice Ao45 t202.length co45 : Value).ownBlock) (.slice Ao58 y218.length co58) y218) := ⟨by exact Kd.R_mono (Kd.R_far (p := ⟨gb232, 3, none⟩) (Kd.R_far (p := ⟨gb232, 2, none⟩) (Kd.R_far (p := ⟨gb232, 1, none⟩) (Kd.R_far (p := ⟨gb232, 0, none⟩) (Kd.R_types HO220.out BK232.out (by decide)) (fun _ hk => hk.2) (.int .i64 t221)) (fun _ hk => hk.2) (.slice Ao66 t222.length co66)) (fun _ hk => hk.2) (.slice Ao67 t225.length co67)) (fun _ hk => hk.2) (.slice Ao68 t228.length co68)) (fun _ hk => hk.1.2)⟩
          have n10_ : Aside0 (Kd.R (Kd.int .i64) 2 ((((w60.setCell ⟨gb232, 0, none⟩ (.int .i64 t221)).setCell ⟨gb232, 1, none⟩ (.slice Ao66 t222.length co66)).setCell ⟨gb232, 2, none⟩ (.slice Ao67 t225.length co67)).setCell ⟨gb232, 3, none⟩ (.slice Ao68 t228.length co68)) w.heap.size (fun k_ => some k_ ≠ (.slice Ao28 y188.length co28 : Value).ownBlock ∧ some k_ ≠ (.slice Ao37 y195.length co37 : Value).ownBlock ∧ some k_ ≠ (.slice Ao52 t207.length co52 : Value).ownBlock) (.slice Ao66 t222.length co66) t222) := ⟨by exact Kd.R_mono (Kd.R_far (p := ⟨gb232, 3, none⟩) (Kd.R_far (p := ⟨gb232, 2, none⟩) (Kd.R_far (p := ⟨gb232, 1, none⟩) (Kd.R_far (p := ⟨gb232, 0, none⟩) (Kd.R_types HO224.out BK232.out (by decide)) (fun _ hk => hk.2) (.int .i64 t221)) (fun _ hk => hk.2) (.slice Ao66 t222.length co66)) (fun _ hk => hk.2) (.slice Ao67 t225.length co67)) (fun _ hk => hk.2) (.slice Ao68 t228.length co68)) (fun _ hk => ⟨hk.1.1.1.2, ⟨hk.1.1.2, hk.1.2⟩⟩)⟩
          have n11_ : Aside0 (Kd.R Kd.string 9 ((((w60.setCell ⟨gb232, 0, none⟩ (.int .i64 t221)).setCell ⟨gb232, 1, none⟩ (.slice Ao66 t222.length co66)).setCell ⟨gb232, 2, none⟩ (.slice Ao67 t225.length co67)).setCell ⟨gb232, 3, none⟩ (.slice Ao68 t228.length co68)) w.heap.size (fun k_ => some k_ ≠ (.slice Ao27 y191.length co27 : Value).ownBlock ∧ some k_ ≠ (.slice Ao36 y198.length co36 : Value).ownBlock ∧ some k_ ≠ (.slice Ao53 t210.length co53 : Value).ownBlock) (.slice Ao67 t225.length co67) t225) := ⟨by exact Kd.R_mono (Kd.R_far (p := ⟨gb232, 3, none⟩) (Kd.R_far (p := ⟨gb232, 2, none⟩) (Kd.R_far (p := ⟨gb232, 1, none⟩) (Kd.R_far (p := ⟨gb232, 0, none⟩) (Kd.R_types HO227.out BK232.out (by decide)) (fun _ hk => hk.2) (.int .i64 t221)) (fun _ hk => hk.2) (.slice Ao66 t222.length co66)) (fun _ hk => hk.2) (.slice Ao67 t225.length co67)) (fun _ hk => hk.2) (.slice Ao68 t228.length co68)) (fun _ hk => ⟨hk.1.1.1.2, ⟨hk.1.1.2, hk.1.2⟩⟩)⟩
          have n12_ : Aside0 (Kd.R (Kd.int .i64) 3 ((((w60.setCell ⟨gb232, 0, none⟩ (.int .i64 t221)).setCell ⟨gb232, 1, none⟩ (.slice Ao66 t222.length co66)).setCell ⟨gb232, 2, none⟩ (.slice Ao67 t225.length co67)).setCell ⟨gb232, 3, none⟩ (.slice Ao68 t228.length co68)) w.heap.size (fun k_ => some k_ ≠ (.slice Ao21 t180.length co21 : Value).ownBlock ∧ some k_ ≠ (.slice Ao54 t213.length co54 : Value).ownBlock) (.slice Ao68 t228.length co68) t228) := ⟨by exact Kd.R_mono (Kd.R_far (p := ⟨gb232, 3, none⟩) (Kd.R_far (p := ⟨gb232, 2, none⟩) (Kd.R_far (p := ⟨gb232, 1, none⟩) (Kd.R_far (p := ⟨gb232, 0, none⟩) (Kd.R_types HO230.out BK232.out (by decide)) (fun _ hk => hk.2) (.int .i64 t221)) (fun _ hk => hk.2) (.slice Ao66 t222.length co66)) (fun _ hk => hk.2) (.slice Ao67 t225.length co67)) (fun _ hk => hk.2) (.slice Ao68 t228.length co68)) (fun _ hk => ⟨hk.1.1.2, hk.1.2⟩)⟩
          have n13_ : Aside0 (((((w60.setCell ⟨gb232, 0, none⟩ (.int .i64 t221)).setCell ⟨gb232, 1, none⟩ (.slice Ao66 t222.length co66)).setCell ⟨gb232, 2, none⟩ (.slice Ao67 t225.length co67)).setCell ⟨gb232, 3, none⟩ (.slice Ao68 t228.length co68)).heap[gb187]? = some (.cells #[.slice Ao21 t180.length co21, .int .i64 t183, .int .i64 t184, .int .i64 t185] 28 (0, 0))) := ⟨by refine blk_far ?_ NB187_232.out _; refine blk_far ?_ NB187_232.out _; refine blk_far ?_ NB187_232.out _; refine blk_far ?_ NB187_232.out _; (with_reducible repeat (first | refine blk_drewN ?_ _ | refine blk_drew ?_ | refine blk_alloc ?_ _)); exact BK187.out⟩
          have n14_ : Aside0 (((((w60.setCell ⟨gb232, 0, none⟩ (.int .i64 t221)).setCell ⟨gb232, 1, none⟩ (.slice Ao66 t222.length co66)).setCell ⟨gb232, 2, none⟩ (.slice Ao67 t225.length co67)).setCell ⟨gb232, 3, none⟩ (.slice Ao68 t228.length co68)).heap[gb194]? = some (.cells #[.int .i64 4, .slice Ao28 y188.length co28, .slice Ao27 y191.length co27, .slice none 0 0] 26 (0, 0))) := ⟨by refine blk_far ?_ NB194_232.out _; refine blk_far ?_ NB194_232.out _; refine blk_far ?_ NB194_232.out _; refine blk_far ?_ NB194_232.out _; (with_reducible repeat (first | refine blk_drewN ?_ _ | refine blk_drew ?_ | refine blk_alloc ?_ _)); exact BK194.out⟩
          have n15_ : Aside0 (((((w60.setCell ⟨gb232, 0, none⟩ (.int .i64 t221)).setCell ⟨gb232, 1, none⟩ (.slice Ao66 t222.length co66)).setCell ⟨gb232, 2, none⟩ (.slice Ao67 t225.length co67)).setCell ⟨gb232, 3, none⟩ (.slice Ao68 t228.length co68)).heap[gb201]? = some (.cells #[.int .i64 4, .slice Ao37 y195.length co37, .slice Ao36 y198.length co36, .slice none 0 0] 26 (0, 0))) := ⟨by refine blk_far ?_ NB201_232.out _; refine blk_far ?_ NB201_232.out _; refine blk_far ?_ NB201_232.out _; refine blk_far ?_ NB201_232.out _; (with_reducible repeat (first | refine blk_drewN ?_ _ | refine blk_drew ?_ | refine blk_alloc ?_ _)); exact BK201.out⟩
          have n16_ : Aside0 (((((w60.setCell ⟨gb232, 0, none⟩ (.int .i64 t221)).setCell ⟨gb232, 1, none⟩ (.slice Ao66 t222.length co66)).setCell ⟨gb232, 2, none⟩ (.slice Ao67 t225.length co67)).setCell ⟨gb232, 3, none⟩ (.slice Ao68 t228.length co68)).heap[gb217]? = some (.cells #[.int .i64 t206, .slice Ao52 t207.length co52, .slice Ao53 t210.length co53, .slice Ao54 t213.length co54] 26 (0, 0))) := ⟨by refine blk_far ?_ NB217_232.out _; refine blk_far ?_ NB217_232.out _; refine blk_far ?_ NB217_232.out _; refine blk_far ?_ NB217_232.out _; (with_reducible repeat (first | refine blk_drewN ?_ _ | refine blk_drew ?_ | refine blk_alloc ?_ _)); exact BK217.out⟩
          have n17_ : Aside0 (((((w60.setCell ⟨gb232, 0, none⟩ (.int .i64 t221)).setCell ⟨gb232, 1, none⟩ (.slice Ao66 t222.length co66)).setCell ⟨gb232, 2, none⟩ (.slice Ao67 t225.length co67)).setCell ⟨gb232, 3, none⟩ (.slice Ao68 t228.length co68)).heap[gb232]? = some (.cells #[.int .i64 t221, .slice Ao66 t222.length co66, .slice Ao67 t225.length co67, .slice Ao68 t228.length co68] 26 (0, 0))) := ⟨by refine blk_put (cs := #[.int .i64 t221, .slice Ao66 t222.length co66, .slice Ao67 t225.length co67, .slice none 0 0]) ?_ 3 _ rfl; refine blk_put (cs := #[.int .i64 t221, .slice Ao66 t222.length co66, .slice none 0 0, .slice none 0 0]) ?_ 2 _ rfl; refine blk_put (cs := #[.int .i64 t221, .slice none 0 0, .slice none 0 0, .slice none 0 0]) ?_ 1 _ rfl; refine blk_put (cs := #[.int .i64 0, .slice none 0 0, .slice none 0 0, .slice none 0 0]) ?_ 0 _ rfl; (with_reducible repeat (first | refine blk_drewN ?_ _ | refine blk_drew ?_ | refine blk_alloc ?_ _)); exact BK232.out⟩
          have n18_ : Aside0 (Below w.heap.size w ((((w60.setCell ⟨gb232, 0, none⟩ (.int .i64 t221)).setCell ⟨gb232, 1, none⟩ (.slice Ao66 t222.length co66)).setCell ⟨gb232, 2, none⟩ (.slice Ao67 t225.length co67)).setCell ⟨gb232, 3, none⟩ (.slice Ao68 t228.length co68))) := ⟨BB HB⟩
          (try clear HO182)
          (try clear HO190)
          (try clear HO193)
          (try clear HO197)
          (try clear HO200)
          (try clear HO204)
          (try clear HO209)
          (try clear HO212)
          (try clear HO215)
          (try clear HO220)
          (try clear HO224)
          (try clear HO227)
          (try clear HO230)
          (try clear BK187)
          (try clear BK194)
          (try clear BK201)
          (try clear BK217)
          (try clear BK232)
          (try clear HB)
          generalize ((((w60.setCell ⟨gb232, 0, none⟩ (.int .i64 t221)).setCell ⟨gb232, 1, none⟩ (.slice Ao66 t222.length co66)).setCell ⟨gb232, 2, none⟩ (.slice Ao67 t225.length co67)).setCell ⟨gb232, 3, none⟩ (.slice Ao68 t228.length co68)) = w69 at n0_ n1_ n2_ n3_ n4_ n5_ n6_ n7_ n8_ n9_ n10_ n11_ n12_ n13_ n14_ n15_ n16_ n17_ n18_ ⊢
          have HO182 := n0_
          have HO190 := n1_
          have HO193 := n2_
          have HO197 := n3_
          have HO200 := n4_
          have HO204 := n5_
          have HO209 := n6_
          have HO212 := n7_
          have HO215 := n8_
          have HO220 := n9_
          have HO224 := n10_
          have HO227 := n11_
          have HO230 := n12_
          have BK187 := n13_
          have BK194 := n14_
          have BK201 := n15_
          have BK217 := n16_
          have BK232 := n17_
          have HB := n18_
          clear n0_ n1_ n2_ n3_ n4_ n5_ n6_ n7_ n8_ n9_ n10_ n11_ n12_ n13_ n14_ n15_ n16_ n17_ n18_
          have n0_ := Aside0.mk (Kd.R_drew HO182.out)
          have n1_ := Aside0.mk (Kd.R_drew HO190.out)
          have n2_ := Aside0.mk (Kd.R_drew HO193.out)
          have n3_ := Aside0.mk (Kd.R_drew HO197.out)
          have n4_ := Aside0.mk (Kd.R_drew HO200.out)
          have n5_ := Aside0.mk (Kd.R_drew HO204.out)
          have n6_ := Aside0.mk (Kd.R_drew HO209.out)
          have n7_ := Aside0.mk (Kd.R_drew HO212.out)
          have n8_ := Aside0.mk (Kd.R_drew HO215.out)
          have n9_ := Aside0.mk (Kd.R_drew HO220.out)
          have n10_ := Aside0.mk (Kd.R_drew HO224.out)
          have n11_ := Aside0.mk (Kd.R_drew HO227.out)
          have n12_ := Aside0.mk (Kd.R_drew HO230.out)
          have n13_ := Aside0.mk (blk_drew BK187.out)
          have n14_ := Aside0.mk (blk_drew BK194.out)
          have n15_ := Aside0.mk (blk_drew BK201.out)
          have n16_ := Aside0.mk (blk_drew BK217.out)
          have n17_ := Aside0.mk (blk_drew BK232.out)
          have n18_ := Aside0.mk (below_drew1 HB.out)
          clear HO182
          clear HO190
          clear HO193
          clear HO197
          clear HO200
          clear HO204
          clear HO209
          clear HO212
          clear HO215
          clear HO220
          clear HO224
          clear HO227
          clear HO230
          clear BK187
          clear BK194
          clear BK201
          clear BK217
          clear BK232
          clear HB
          have HO182 := n0_
          have HO190 := n1_
          have HO193 := n2_
          have HO197 := n3_
          have HO200 := n4_
          have HO204 := n5_
          have HO209 := n6_
          have HO212 := n7_
          have HO215 := n8_
          have HO220 := n9_
          have HO224 := n10_
          have HO227 := n11_
          have HO230 := n12_
          have BK187 := n13_
          have BK194 := n14_
          have BK201 := n15_
          have BK217 := n16_
          have BK232 := n17_
          have HB := n18_
          clear n0_ n1_ n2_ n3_ n4_ n5_ n6_ n7_ n8_ n9_ n10_ n11_ n12_ n13_ n14_ n15_ n16_ n17_ n18_
          have p235 : 0 ≤ (0 : Int) := (by omega)
          have q235 : 0 < (t202.length : Int) := of_decide_eq_true (by first | (with_reducible assumption) | assumption)
          obtain ⟨ad235, e235, hx235_0, hx235_1, hx235_2, hx235_3⟩ := at_T75 (Kd.R_reads' HO204.out).2.2 0 p235 q235
          rw [EV0.out] at hx235_0
          rw [EV1.out] at hx235_1
          rw [EV2.out] at hx235_2
          rw [EV3.out] at hx235_3
          cases e235
          have qi235 : (0 < t202.length) = True := eq_true (by omega)
          (try rw [show ((0 : Int)).toNat = 0 from rfl] at hx235_0)
          (try rw [show 0 * 4 = 0 from rfl] at hx235_0)
          (try rw [Addr.add_zero'] at hx235_0)
          (try rw [show ((0 : Int)).toNat = 0 from rfl] at hx235_1)
          (try rw [show 0 * 4 = 0 from rfl] at hx235_1)
          (try rw [Addr.add_zero'] at hx235_1)
          (try rw [show ((0 : Int)).toNat = 0 from rfl] at hx235_2)
          (try rw [show 0 * 4 = 0 from rfl] at hx235_2)
          (try rw [Addr.add_zero'] at hx235_2)
          (try rw [show ((0 : Int)).toNat = 0 from rfl] at hx235_3)
          (try rw [show 0 * 4 = 0 from rfl] at hx235_3)
          (try rw [Addr.add_zero'] at hx235_3)
          replace p235 := eq_true p235
          replace q235 := eq_true q235
          refine start_ (n := 45) (S := fun w' => w'.cell? ⟨gb194, 0, none⟩ = some (.int .i64 4) ∧ w'.cell? ⟨gb194, 1, none⟩ = some (.slice Ao28 y188.length co28) ∧ w'.cell? ⟨gb194, 2, none⟩ = some (.slice Ao27 y191.length co27) ∧ w'.cell? ⟨gb194, 3, none⟩ = some (.slice none 0 0) ∧ w'.cell? ⟨gb187, 0, none⟩ = some (.slice Ao21 t180.length co21) ∧ w'.cell? ⟨gb187, 1, none⟩ = some (.int .i64 t183) ∧ w'.cell? ⟨gb187, 2, none⟩ = some (.int .i64 t184) ∧ w'.cell? ⟨gb187, 3, none⟩ = some (.int .i64 t185) ∧ w'.cell? ⟨gb217, 0, none⟩ = some (.int .i64 t206) ∧ w'.cell? ⟨gb217, 1, none⟩ = some (.slice Ao52 t207.length co52) ∧ w'.cell? ⟨gb217, 2, none⟩ = some (.slice Ao53 t210.length co53) ∧ w'.cell? ⟨gb217, 3, none⟩ = some (.slice Ao54 t213.length co54) ∧ w'.cell? ⟨gb201, 0, none⟩ = some (.int .i64 4) ∧ w'.cell? ⟨gb201, 1, none⟩ = some (.slice Ao37 y195.length co37) ∧ w'.cell? ⟨gb201, 2, none⟩ = some (.slice Ao36 y198.length co36) ∧ w'.cell? ⟨gb201, 3, none⟩ = some (.slice none 0 0) ∧ w'.cell? ad235 = some (.bool false) ∧ w'.cell? ⟨ad235.block, ad235.off + 1, none⟩ = some (.int .i64 0) ∧ w'.cell? ⟨ad235.block, ad235.off + 2, none⟩ = some (.int .i64 6) ∧ w'.cell? ⟨ad235.block, ad235.off + 3, none⟩ = some (.string (⟨#[]⟩ : ByteArray))) (ds := []) #[false, false, false, false, false, false, false, false, false, false, false, false, false, false, false, false, false, false, false, false, false, false, false, false, false, false, false, false, false, false, false, false, false, false, false, false, false, false, false, false, false, false, false, false, false] (by kernel_rfl) rfl rfl ⟨(blk_cell BK194.out 0).trans rfl, (blk_cell BK194.out 1).trans rfl, (blk_cell BK194.out 2).trans rfl, (blk_cell BK194.out 3).trans rfl, (blk_cell BK187.out 0).trans rfl, (blk_cell BK187.out 1).trans rfl, (blk_cell BK187.out 2).trans rfl, (blk_cell BK187.out 3).trans rfl, (blk_cell BK217.out 0).trans rfl, (blk_cell BK217.out 1).trans rfl, (blk_cell BK217.out 2).trans rfl, (blk_cell BK217.out 3).trans rfl, (blk_cell BK201.out 0).trans rfl, (blk_cell BK201.out 1).trans rfl, (blk_cell BK201.out 2).trans rfl, (blk_cell BK201.out 3).trans rfl, hx235_0, hx235_1, hx235_2, hx235_3⟩ (fun hHeld => ?_); refine with_tabW dioramalaw08_awake.tab7 dioramalaw08_awake.bits7 (fun HT_ HW_ => ?_)
          generalize w69.drew = w70 at HO182 HO190 HO193 HO197 HO200 HO204 HO209 HO212 HO215 HO220 HO224 HO227 HO230 BK187 BK194 BK201 BK217 BK232 HB hx235_0 hx235_1 hx235_2 hx235_3 hHeld ⊢
          refine take_ (i := 0) (N := some 40) (v := ?_) (a' := ?_) #[true, false, false, false, false, false, false, false, false, false, false, false, false, false, false, false, false, false, false, false, false, false, false, false, false, false, false, false, false, false, false, false, false, false, false, false, false, false, false, false, false, false, false, false, false] rfl rfl (take_ofW HT_.out HW_.out (by kernel_rfl)) (fun _ _ _ h => h) (Or.inl ⟨by rfl, ?_⟩) hHeld ?_ ?_
          rotate_left
          ·rintro w' ⟨s0, s1, s2, s3, s4, s5, s6, s7, s8, s9, s10, s11, s12, s13, s14, s15, s16, s17, s18, s19⟩
           go_simp
           with_reducible rfl
          rotate_left
          ·simp only [Act.put, List.setIfInBounds_toArray, List.set_cons_zero, List.set_cons_succ, i64_w, i32_w]
           rfl
          refine take_ (i := 1) (N := some 41) (v := ?_) (a' := ?_) #[true, true, false, false, false, false, false, false, false, false, false, false, false, false, false, false, false, false, false, false, false, false, false, false, false, false, false, false, false, false, false, false, false, false, false, false, false, false, false, false, false, false, false, false, false] rfl rfl (take_ofW HT_.out HW_.out (by kernel_rfl)) (fun _ _ _ h => h) (Or.inl ⟨by rfl, ?_⟩) hHeld ?_ ?_
          rotate_left
          ·rintro w' ⟨s0, s1, s2, s3, s4, s5, s6, s7, s8, s9, s10, s11, s12, s13, s14, s15, s16, s17, s18, s19⟩
           go_simp
           with_reducible rfl
          rotate_left
          ·simp only [Act.put, List.setIfInBounds_toArray, List.set_cons_zero, List.set_cons_succ, i64_w, i32_w]
           rfl
          refine one_ (i := 2) (N := some 42) #[true, true, true, false, false, false, false, false, false, false, false, false, false, false, false, false, false, false, false, false, false, false, false, false, false, false, false, false, false, false, false, false, false, false, false, false, false, false, false, false, false, false, false, false, false] rfl rfl (one_of HT_.out (by kernel_rfl)) (by decide) (fun K hK => ?_)
          refine goes_ Tryd.func15 (by kernel_rfl) rfl #[.agg #[.int .i64 4, .slice Ao28 y188.length co28, .slice Ao27 y191.length co27, .slice none 0 0], .agg #[.slice Ao21 t180.length co21, .int .i64 t183, .int .i64 t184, .int .i64 t185]] (by rfl) rfl rfl (by (try simp only [List.map_toArray, List.map_cons, List.map_nil]); first | done | rfl | (simp only [List.length_drop, List.length_take]; rfl)) ?_
          refine (field_Check.calls k 4 _ _ y188 _ _ y191 _ _ ([] : List Int) _ _ t180 t183 t184 t185 t233 _ ?sideT ?side1 ?side2 ?side3 ?side4 ?side5 ?side6 ?side7 ?side8 A5.out).mono ?_
          (case sideT => exact fun w_ hb_ => HTB_.out w_ (below_step (BB HB) hb_))
          (case side1 => exact CR HO190)
          (case side2 => exact (Kd.R_reads' HO190.out).2.1)
          (case side3 => exact CR HO193)
          (case side4 => exact (Kd.R_reads' HO193.out).2.1)
          (case side5 => exact Kd.C_nil _ _)
          (case side6 => exact Nat.le_refl _)
          (case side7 => exact CR HO182)
          (case side8 => exact (Kd.R_reads' HO182.out).2.1)
          rintro e w71 ⟨rfl, hb⟩
          have HS16_ := (hb.cell (World.block_lt_of_cell? _ _ (hHeld.2.2.2.2.2.2.2.2.2.2.2.2.2.2.2.2.1))).trans (hHeld.2.2.2.2.2.2.2.2.2.2.2.2.2.2.2.2.1)
          have HS17_ := (hb.cell (World.block_lt_of_cell? _ _ (hHeld.2.2.2.2.2.2.2.2.2.2.2.2.2.2.2.2.2.1))).trans (hHeld.2.2.2.2.2.2.2.2.2.2.2.2.2.2.2.2.2.1)
          have HS18_ := (hb.cell (World.block_lt_of_cell? _ _ (hHeld.2.2.2.2.2.2.2.2.2.2.2.2.2.2.2.2.2.2.1))).trans (hHeld.2.2.2.2.2.2.2.2.2.2.2.2.2.2.2.2.2.2.1)
          have HS19_ := (hb.cell (World.block_lt_of_cell? _ _ (hHeld.2.2.2.2.2.2.2.2.2.2.2.2.2.2.2.2.2.2.2))).trans (hHeld.2.2.2.2.2.2.2.2.2.2.2.2.2.2.2.2.2.2.2)
          refine ⟨_, rfl, ?_⟩
          have n0_ := Aside0.mk (Kd.R_below (RL HO182) hb)
          have n1_ := Aside0.mk (Kd.R_below (RL HO190) hb)
          have n2_ := Aside0.mk (Kd.R_below (RL HO193) hb)
          have n3_ := Aside0.mk (Kd.R_below (RL HO197) hb)
          have n4_ := Aside0.mk (Kd.R_below (RL HO200) hb)
          have n5_ := Aside0.mk (Kd.R_below (RL HO204) hb)
          have n6_ := Aside0.mk (Kd.R_below (RL HO209) hb)
          have n7_ := Aside0.mk (Kd.R_below (RL HO212) hb)
          have n8_ := Aside0.mk (Kd.R_below (RL HO215) hb)
          have n9_ := Aside0.mk (Kd.R_below (RL HO220) hb)
          have n10_ := Aside0.mk (Kd.R_below (RL HO224) hb)
          have n11_ := Aside0.mk (Kd.R_below (RL HO227) hb)
          have n12_ := Aside0.mk (Kd.R_below (RL HO230) hb)
          have n13_ := BE BK187 hb
          have n14_ := BE BK194 hb
          have n15_ := BE BK201 hb
          have n16_ := BE BK217 hb
          have n17_ := BE BK232 hb
          have n18_ := Aside0.mk (below_step (BB HB) hb)
          clear HO182
          clear HO190
          clear HO193
          clear HO197
          clear HO200
          clear HO204
          clear HO209
          clear HO212
          clear HO215
          clear HO220
          clear HO224
          clear HO227
          clear HO230
          clear BK187
          clear BK194
          clear BK201
          clear BK217
          clear BK232
          clear HB
          have HO182 := n0_
          have HO190 := n1_
          have HO193 := n2_
          have HO197 := n3_
          have HO200 := n4_
          have HO204 := n5_
          have HO209 := n6_
          have HO212 := n7_
          have HO215 := n8_
          have HO220 := n9_
          have HO224 := n10_
          have HO227 := n11_
          have HO230 := n12_
          have BK187 := n13_
          have BK194 := n14_
          have BK201 := n15_
          have BK217 := n16_
          have BK232 := n17_
          have HB := n18_
          clear n0_ n1_ n2_ n3_ n4_ n5_ n6_ n7_ n8_ n9_ n10_ n11_ n12_ n13_ n14_ n15_ n16_ n17_ n18_
          (try clear hb)
          (try clear hb2)
          (try clear hk)
          (try clear hi)
          refine hK.out _ _ ⟨(blk_cell BK194.out 0).trans rfl, (blk_cell BK194.out 1).trans rfl, (blk_cell BK194.out 2).trans rfl, (blk_cell BK194.out 3).trans rfl, (blk_cell BK187.out 0).trans rfl, (blk_cell BK187.out 1).trans rfl, (blk_cell BK187.out 2).trans rfl, (blk_cell BK187.out 3).trans rfl, (blk_cell BK217.out 0).trans rfl, (blk_cell BK217.out 1).trans rfl, (blk_cell BK217.out 2).trans rfl, (blk_cell BK217.out 3).trans rfl, (blk_cell BK201.out 0).trans rfl, (blk_cell BK201.out 1).trans rfl, (blk_cell BK201.out 2).trans rfl, (blk_cell BK201.out 3).trans rfl, HS16_, HS17_, HS18_, HS19_⟩ (fun hHeld => ?_)
          clear hK K
          refine norm_ (a' := ?_) ?_ ?_
          rotate_left
          ·show Act.put _ (some 42) _ = _
           simp only [Act.put, List.setIfInBounds_toArray, List.set_cons_zero, List.set_cons_succ, i64_w, i32_w]
           rfl
          refine pure_ (i := 3) (N := some 43) (v := ?_) (a' := ?_) #[true, true, true, true, false, false, false, false, false, false, false, false, false, false, false, false, false, false, false, false, false, false, false, false, false, false, false, false, false, false, false, false, false, false, false, false, false, false, false, false, false, false, false, false, false] rfl rfl (any_of HT_.out (by kernel_rfl)) (fun _ _ _ h => h) (Or.inl ⟨by rfl, ?_⟩) ?_ ?_
          rotate_left
          ·intro w'
           go_simp
           with_reducible rfl
          rotate_left
          ·simp only [Act.put, List.setIfInBounds_toArray, List.set_cons_zero, List.set_cons_succ, i64_w, i32_w]
           rfl
          refine pure_ (i := 4) (N := some 44) (v := ?_) (a' := ?_) #[true, true, true, true, true, false, false, false, false, false, false, false, false, false, false, false, false, false, false, false, false, false, false, false, false, false, false, false, false, false, false, false, false, false, false, false, false, false, false, false, false, false, false, false, false] rfl rfl (any_of HT_.out (by kernel_rfl)) (fun _ _ _ h => h) (Or.inl ⟨by rfl, ?_⟩) ?_ ?_
          rotate_left
          ·intro w'
           go_simp
           with_reducible rfl
          rotate_left
          ·simp only [Act.put, List.setIfInBounds_toArray, List.set_cons_zero, List.set_cons_succ, i64_w, i32_w]
           rfl
          refine pure_ (i := 5) (N := some 45) (v := ?_) (a' := ?_) #[true, true, true, true, true, true, false, false, false, false, false, false, false, false, false, false, false, false, false, false, false, false, false, false, false, false, false, false, false, false, false, false, false, false, false, false, false, false, false, false, false, false, false, false, false] rfl rfl (any_of HT_.out (by kernel_rfl)) (fun _ _ _ h => h) (Or.inl ⟨by rfl, ?_⟩) ?_ ?_
          rotate_left
          ·intro w'
           go_simp
           with_reducible rfl
          rotate_left
          ·simp only [Act.put, List.setIfInBounds_toArray, List.set_cons_zero, List.set_cons_succ, i64_w, i32_w]
           rfl
          refine take_ (i := 6) (N := some 46) (v := ?_) (a' := ?_) #[true, true, true, true, true, true, true, false, false, false, false, false, false, false, false, false, false, false, false, false, false, false, false, false, false, false, false, false, false, false, false, false, false, false, false, false, false, false, false, false, false, false, false, false, false] rfl rfl (take_ofW HT_.out HW_.out (by kernel_rfl)) (fun _ _ _ h => h) (Or.inl ⟨by rfl, ?_⟩) hHeld ?_ ?_
          rotate_left
          ·rintro w' ⟨s0, s1, s2, s3, s4, s5, s6, s7, s8, s9, s10, s11, s12, s13, s14, s15, s16, s17, s18, s19⟩
           go_simp
           with_reducible rfl
          rotate_left
          ·simp only [Act.put, List.setIfInBounds_toArray, List.set_cons_zero, List.set_cons_succ, i64_w, i32_w]
           rfl
          refine one_ (i := 7) (N := some 47) #[true, true, true, true, true, true, true, true, false, false, false, false, false, false, false, false, false, false, false, false, false, false, false, false, false, false, false, false, false, false, false, false, false, false, false, false, false, false, false, false, false, false, false, false, false] rfl rfl (one_of HT_.out (by kernel_rfl)) (by decide) (fun K hK => ?_)
          refine goes_ Tryd.func15 (by kernel_rfl) rfl #[.agg #[.int .i64 0, .slice none 0 0, .slice none 0 0, .slice none 0 0], .agg #[.slice Ao21 t180.length co21, .int .i64 t183, .int .i64 t184, .int .i64 t185]] (by rfl) rfl rfl (by (try simp only [List.map_toArray, List.map_cons, List.map_nil]); first | done | rfl | (simp only [List.length_drop, List.length_take]; rfl)) ?_
          refine (field_Check.calls k 0 _ _ ([] : List Int) _ _ ([] : List ByteArray) _ _ ([] : List Int) _ _ t180 t183 t184 t185 t234 _ ?sideT ?side1 ?side2 ?side3 ?side4 ?side5 ?side6 ?side7 ?side8 A7.out).mono ?_
          (case sideT => exact fun w_ hb_ => HTB_.out w_ (below_step (BB HB) hb_))
          (case side1 => exact Kd.C_nil _ _)
          (case side2 => exact Nat.le_refl _)
          (case side3 => exact Kd.C_nil _ _)
          (case side4 => exact Nat.le_refl _)
          (case side5 => exact Kd.C_nil _ _)
          (case side6 => exact Nat.le_refl _)
          (case side7 => exact CR HO182)
          (case side8 => exact (Kd.R_reads' HO182.out).2.1)
          rintro e w72 ⟨rfl, hb⟩
          have HS16_ := (hb.cell (World.block_lt_of_cell? _ _ (hHeld.2.2.2.2.2.2.2.2.2.2.2.2.2.2.2.2.1))).trans (hHeld.2.2.2.2.2.2.2.2.2.2.2.2.2.2.2.2.1)
          have HS17_ := (hb.cell (World.block_lt_of_cell? _ _ (hHeld.2.2.2.2.2.2.2.2.2.2.2.2.2.2.2.2.2.1))).trans (hHeld.2.2.2.2.2.2.2.2.2.2.2.2.2.2.2.2.2.1)
          have HS18_ := (hb.cell (World.block_lt_of_cell? _ _ (hHeld.2.2.2.2.2.2.2.2.2.2.2.2.2.2.2.2.2.2.1))).trans (hHeld.2.2.2.2.2.2.2.2.2.2.2.2.2.2.2.2.2.2.1)
          have HS19_ := (hb.cell (World.block_lt_of_cell? _ _ (hHeld.2.2.2.2.2.2.2.2.2.2.2.2.2.2.2.2.2.2.2))).trans (hHeld.2.2.2.2.2.2.2.2.2.2.2.2.2.2.2.2.2.2.2)
          refine ⟨_, rfl, ?_⟩
          have n0_ := Aside0.mk (Kd.R_below (RL HO182) hb)
          have n1_ := Aside0.mk (Kd.R_below (RL HO190) hb)
          have n2_ := Aside0.mk (Kd.R_below (RL HO193) hb)
          have n3_ := Aside0.mk (Kd.R_below (RL HO197) hb)
          have n4_ := Aside0.mk (Kd.R_below (RL HO200) hb)
          have n5_ := Aside0.mk (Kd.R_below (RL HO204) hb)
          have n6_ := Aside0.mk (Kd.R_below (RL HO209) hb)
          have n7_ := Aside0.mk (Kd.R_below (RL HO212) hb)
          have n8_ := Aside0.mk (Kd.R_below (RL HO215) hb)
          have n9_ := Aside0.mk (Kd.R_below (RL HO220) hb)
          have n10_ := Aside0.mk (Kd.R_below (RL HO224) hb)
          have n11_ := Aside0.mk (Kd.R_below (RL HO227) hb)
          have n12_ := Aside0.mk (Kd.R_below (RL HO230) hb)
          have n13_ := BE BK187 hb
          have n14_ := BE BK194 hb
          have n15_ := BE BK201 hb
          have n16_ := BE BK217 hb
          have n17_ := BE BK232 hb
          have n18_ := Aside0.mk (below_step (BB HB) hb)
          clear HO182
          clear HO190
          clear HO193
          clear HO197
          clear HO200
          clear HO204
          clear HO209
          clear HO212
          clear HO215
          clear HO220
          clear HO224
          clear HO227
          clear HO230
          clear BK187
          clear BK194
          clear BK201
          clear BK217
          clear BK232
          clear HB
          have HO182 := n0_
          have HO190 := n1_
          have HO193 := n2_
          have HO197 := n3_
          have HO200 := n4_
          have HO204 := n5_
          have HO209 := n6_
          have HO212 := n7_
          have HO215 := n8_
          have HO220 := n9_
          have HO224 := n10_
          have HO227 := n11_
          have HO230 := n12_
          have BK187 := n13_
          have BK194 := n14_
          have BK201 := n15_
          have BK217 := n16_
          have BK232 := n17_
          have HB := n18_
          clear n0_ n1_ n2_ n3_ n4_ n5_ n6_ n7_ n8_ n9_ n10_ n11_ n12_ n13_ n14_ n15_ n16_ n17_ n18_
          (try clear hb)
          (try clear hb2)
          (try clear hk)
          (try clear hi)
          refine hK.out _ _ ⟨(blk_cell BK194.out 0).trans rfl, (blk_cell BK194.out 1).trans rfl, (blk_cell BK194.out 2).trans rfl, (blk_cell BK194.out 3).trans rfl, (blk_cell BK187.out 0).trans rfl, (blk_cell BK187.out 1).trans rfl, (blk_cell BK187.out 2).trans rfl, (blk_cell BK187.out 3).trans rfl, (blk_cell BK217.out 0).trans rfl, (blk_cell BK217.out 1).trans rfl, (blk_cell BK217.out 2).trans rfl, (blk_cell BK217.out 3).trans rfl, (blk_cell BK201.out 0).trans rfl, (blk_cell BK201.out 1).trans rfl, (blk_cell BK201.out 2).trans rfl, (blk_cell BK201.out 3).trans rfl, HS16_, HS17_, HS18_, HS19_⟩ (fun hHeld => ?_)
          clear hK K
          refine norm_ (a' := ?_) ?_ ?_
          rotate_left
          ·show Act.put _ (some 47) _ = _
           simp only [Act.put, List.setIfInBounds_toArray, List.set_cons_zero, List.set_cons_succ, i64_w, i32_w]
           rfl
          refine pure_ (i := 8) (N := some 48) (v := ?_) (a' := ?_) #[true, true, true, true, true, true, true, true, true, false, false, false, false, false, false, false, false, false, false, false, false, false, false, false, false, false, false, false, false, false, false, false, false, false, false, false, false, false, false, false, false, false, false, false, false] rfl rfl (any_of HT_.out (by kernel_rfl)) (fun _ _ _ h => h) (Or.inl ⟨by rfl, ?_⟩) ?_ ?_
          rotate_left
          ·intro w'
           go_simp
           with_reducible rfl
          rotate_left
          ·simp only [Act.put, List.setIfInBounds_toArray, List.set_cons_zero, List.set_cons_succ, i64_w, i32_w]
           rfl
          refine pure_ (i := 9) (N := some 49) (v := ?_) (a' := ?_) #[true, true, true, true, true, true, true, true, true, true, false, false, false, false, false, false, false, false, false, false, false, false, false, false, false, false, false, false, false, false, false, false, false, false, false, false, false, false, false, false, false, false, false, false, false] rfl rfl (any_of HT_.out (by kernel_rfl)) (fun _ _ _ h => h) (Or.inl ⟨by rfl, ?_⟩) ?_ ?_
          rotate_left
          ·intro w'
           go_simp
           with_reducible rfl
          rotate_left
          ·simp only [Act.put, List.setIfInBounds_toArray, List.set_cons_zero, List.set_cons_succ, i64_w, i32_w]
           rfl
          refine pure_ (i := 10) (N := some 50) (v := ?_) (a' := ?_) #[true, true, true, true, true, true, true, true, true, true, true, false, false, false, false, false, false, false, false, false, false, false, false, false, false, false, false, false, false, false, false, false, false, false, false, false, false, false, false, false, false, false, false, false, false] rfl rfl (any_of HT_.out (by kernel_rfl)) (fun _ _ _ h => h) (Or.inl ⟨by rfl, ?_⟩) ?_ ?_
          rotate_left
          ·intro w'
           go_simp
           with_reducible rfl
          rotate_left
          ·simp only [Act.put, List.setIfInBounds_toArray, List.set_cons_zero, List.set_cons_succ, i64_w, i32_w]
           rfl
          refine pure_ (i := 11) (N := some 51) (v := ?_) (a' := ?_) #[true, true, true, true, true, true, true, true, true, true, true, true, false, false, false, false, false, false, false, false, false, false, false, false, false, false, false, false, false, false, false, false, false, false, false, false, false, false, false, false, false, false, false, false, false] rfl rfl (any_of HT_.out (by kernel_rfl)) (fun _ _ _ h => h) (Or.inl ⟨by rfl, ?_⟩) ?_ ?_
          rotate_left
          ·intro w'
           go_simp
           with_reducible rfl
          rotate_left
          ·simp only [Act.put, List.setIfInBounds_toArray, List.set_cons_zero, List.set_cons_succ, i64_w, i32_w]
           rfl
          refine pure_ (i := 12) (N := some 52) (v := ?_) (a' := ?_) #[true, true, true, true, true, true, true, true, true, true, true, true, true, false, false, false, false, false, false, false, false, false, false, false, false, false, false, false, false, false, false, false, false, false, false, false, false, false, false, false, false, false, false, false, false] rfl rfl (any_of HT_.out (by kernel_rfl)) (fun _ _ _ h => h) (Or.inl ⟨by rfl, ?_⟩) ?_ ?_
          rotate_left
          ·intro w'
           go_simp
           with_reducible rfl
          rotate_left
          ·simp only [Act.put, List.setIfInBounds_toArray, List.set_cons_zero, List.set_cons_succ, i64_w, i32_w]
           rfl
          refine pure_ (i := 13) (N := some 53) (v := ?_) (a' := ?_) #[true, true, true, true, true, true, true, true, true, true, true, true, true, true, false, false, false, false, false, false, false, false, false, false, false, false, false, false, false, false, false, false, false, false, false, false, false, false, false, false, false, false, false, false, false] rfl rfl (any_of HT_.out (by kernel_rfl)) (fun _ _ _ h => h) (Or.inl ⟨by rfl, ?_⟩) ?_ ?_
          rotate_left
          ·intro w'
           go_simp
           with_reducible rfl
          rotate_left
          ·simp only [Act.put, List.setIfInBounds_toArray, List.set_cons_zero, List.set_cons_succ, i64_w, i32_w]
           rfl
          refine pure_ (i := 14) (N := some 54) (v := ?_) (a' := ?_) #[true, true, true, true, true, true, true, true, true, true, true, true, true, true, true, false, false, false, false, false, false, false, false, false, false, false, false, false, false, false, false, false, false, false, false, false, false, false, false, false, false, false, false, false, false] rfl rfl (any_of HT_.out (by kernel_rfl)) (fun _ _ _ h => h) (Or.inl ⟨by rfl, ?_⟩) ?_ ?_
          rotate_left
          ·intro w'
           go_simp
           with_reducible rfl
          rotate_left
          ·simp only [Act.put, List.setIfInBounds_toArray, List.set_cons_zero, List.set_cons_succ, i64_w, i32_w]
           rfl
          refine pure_ (i := 15) (N := some 55) (v := ?_) (a' := ?_) #[true, true, true, true, true, true, true, true, true, true, true, true, true, true, true, true, false, false, false, false, false, false, false, false, false, false, false, false, false, false, false, false, false, false, false, false, false, false, false, false, false, false, false, false, false] rfl rfl (any_of HT_.out (by kernel_rfl)) (fun _ _ _ h => h) (Or.inl ⟨by rfl, ?_⟩) ?_ ?_
          rotate_left
          ·intro w'
           go_simp
           with_reducible rfl
          rotate_left
          ·simp only [Act.put, List.setIfInBounds_toArray, List.set_cons_zero, List.set_cons_succ, i64_w, i32_w]
           rfl
          refine pure_ (i := 16) (N := some 56) (v := ?_) (a' := ?_) #[true, true, true, true, true, true, true, true, true, true, true, true, true, true, true, true, true, false, false, false, false, false, false, false, false, false, false, false, false, false, false, false, false, false, false, false, false, false, false, false, false, false, false, false, false] rfl rfl (any_of HT_.out (by kernel_rfl)) (fun _ _ _ h => h) (Or.inl ⟨by rfl, ?_⟩) ?_ ?_
          rotate_left
          ·intro w'
           go_simp
           with_reducible rfl
          rotate_left
          ·simp only [Act.put, List.setIfInBounds_toArray, List.set_cons_zero, List.set_cons_succ, i64_w, i32_w]
           rfl
          refine pure_ (i := 17) (N := some 57) (v := ?_) (a' := ?_) #[true, true, true, true, true, true, true, true, true, true, true, true, true, true, true, true, true, true, false, false, false, false, false, false, false, false, false, false, false, false, false, false, false, false, false, false, false, false, false, false, false, false, false, false, false] rfl rfl (any_of HT_.out (by kernel_rfl)) (fun _ _ _ h => h) (Or.inl ⟨by rfl, ?_⟩) ?_ ?_
          rotate_left
          ·intro w'
           go_simp
           with_reducible rfl
          rotate_left
          ·simp only [Act.put, List.setIfInBounds_toArray, List.set_cons_zero, List.set_cons_succ, i64_w, i32_w]
           rfl
          refine pure_ (i := 18) (N := some 58) (v := ?_) (a' := ?_) #[true, true, true, true, true, true, true, true, true, true, true, true, true, true, true, true, true, true, true, false, false, false, false, false, false, false, false, false, false, false, false, false, false, false, false, false, false, false, false, false, false, false, false, false, false] rfl rfl (any_of HT_.out (by kernel_rfl)) (fun _ _ _ h => h) (Or.inl ⟨by rfl, ?_⟩) ?_ ?_
          rotate_left
          ·intro w'
           go_simp
           with_reducible rfl
          rotate_left
          ·simp only [Act.put, List.setIfInBounds_toArray, List.set_cons_zero, List.set_cons_succ, i64_w, i32_w]
           rfl
          refine pure_ (i := 19) (N := some 59) (v := ?_) (a' := ?_) #[true, true, true, true, true, true, true, true, true, true, true, true, true, true, true, true, true, true, true, true, false, false, false, false, false, false, false, false, false, false, false, false, false, false, false, false, false, false, false, false, false, false, false, false, false] rfl rfl (any_of HT_.out (by kernel_rfl)) (fun _ _ _ h => h) (Or.inl ⟨by rfl, ?_⟩) ?_ ?_
          rotate_left
          ·intro w'
           go_simp
           with_reducible rfl
          rotate_left
          ·simp only [Act.put, List.setIfInBounds_toArray, List.set_cons_zero, List.set_cons_succ, i64_w, i32_w]
           rfl
          refine pure_ (i := 20) (N := some 60) (v := ?_) (a' := ?_) #[true, true, true, true, true, true, true, true, true, true, true, true, true, true, true, true, true, true, true, true, true, false, false, false, false, false, false, false, false, false, false, false, false, false, false, false, false, false, false, false, false, false, false, false, false] rfl rfl (any_of HT_.out (by kernel_rfl)) (fun _ _ _ h => h) (Or.inl ⟨by rfl, ?_⟩) ?_ ?_
          rotate_left
          ·intro w'
           go_simp
           with_reducible rfl
          rotate_left
          ·simp only [Act.put, List.setIfInBounds_toArray, List.set_cons_zero, List.set_cons_succ, i64_w, i32_w]
           rfl
          refine pure_ (i := 22) (N := some 62) (v := ?_) (a' := ?_) #[true, true, true, true, true, true, true, true, true, true, true, true, true, true, true, true, true, true, true, true, true, false, true, false, false, false, false, false, false, false, false, false, false, false, false, false, false, false, false, false, false, false, false, false, false] rfl rfl (any_of HT_.out (by kernel_rfl)) (fun _ _ _ h => h) (Or.inl ⟨by rfl, ?_⟩) ?_ ?_
          rotate_left
          ·intro w'
           go_simp
           with_reducible rfl
          rotate_left
          ·simp only [Act.put, List.setIfInBounds_toArray, List.set_cons_zero, List.set_cons_succ, i64_w, i32_w]
           rfl
          refine take_ (i := 21) (N := some 61) (v := ?_) (a' := ?_) #[true, true, true, true, true, true, true, true, true, true, true, true, true, true, true, true, true, true, true, true, true, true, true, false, false, false, false, false, false, false, false, false, false, false, false, false, false, false, false, false, false, false, false, false, false] rfl rfl (take_ofW HT_.out HW_.out (by kernel_rfl)) (fun _ _ _ h => h) (Or.inl ⟨by rfl, ?_⟩) hHeld ?_ ?_
          rotate_left
          ·rintro w' ⟨s0, s1, s2, s3, s4, s5, s6, s7, s8, s9, s10, s11, s12, s13, s14, s15, s16, s17, s18, s19⟩
           go_simp
           with_reducible rfl
          rotate_left
          ·simp only [Act.put, List.setIfInBounds_toArray, List.set_cons_zero, List.set_cons_succ, i64_w, i32_w]
           rfl
          refine pure_ (i := 23) (N := some 63) (v := ?_) (a' := ?_) #[true, true, true, true, true, true, true, true, true, true, true, true, true, true, true, true, true, true, true, true, true, true, true, true, false, false, false, false, false, false, false, false, false, false, false, false, false, false, false, false, false, false, false, false, false] rfl rfl (any_of HT_.out (by kernel_rfl)) (fun _ _ _ h => h) (Or.inl ⟨by rfl, ?_⟩) ?_ ?_
          rotate_left
          ·intro w'
           go_simp
           with_reducible rfl
          rotate_left
          ·simp only [Act.put, List.setIfInBounds_toArray, List.set_cons_zero, List.set_cons_succ, i64_w, i32_w]
           rfl
          refine pure_ (i := 24) (N := some 64) (v := ?_) (a' := ?_) #[true, true, true, true, true, true, true, true, true, true, true, true, true, true, true, true, true, true, true, true, true, true, true, true, true, false, false, false, false, false, false, false, false, false, false, false, false, false, false, false, false, false, false, false, false] rfl rfl (any_of HT_.out (by kernel_rfl)) (fun _ _ _ h => h) (Or.inl ⟨by rfl, ?_⟩) ?_ ?_
          rotate_left
          ·intro w'
           go_simp
           with_reducible rfl
          rotate_left
          ·simp only [Act.put, List.setIfInBounds_toArray, List.set_cons_zero, List.set_cons_succ, i64_w, i32_w]
           rfl
          refine pure_ (i := 25) (N := some 65) (v := ?_) (a' := ?_) #[true, true, true, true, true, true, true, true, true, true, true, true, true, true, true, true, true, true, true, true, true, true, true, true, true, true, false, false, false, false, false, false, false, false, false, false, false, false, false, false, false, false, false, false, false] rfl rfl (any_of HT_.out (by kernel_rfl)) (fun _ _ _ h => h) (Or.inl ⟨by rfl, ?_⟩) ?_ ?_
          rotate_left
          ·intro w'
           go_simp
           with_reducible rfl
          rotate_left
          ·simp only [Act.put, List.setIfInBounds_toArray, List.set_cons_zero, List.set_cons_succ, i64_w, i32_w]
           rfl
          refine pure_ (i := 26) (N := some 66) (v := ?_) (a' := ?_) #[true, true, true, true, true, true, true, true, true, true, true, true, true, true, true, true, true, true, true, true, true, true, true, true, true, true, true, false, false, false, false, false, false, false, false, false, false, false, false, false, false, false, false, false, false] rfl rfl (any_of HT_.out (by kernel_rfl)) (fun _ _ _ h => h) (Or.inl ⟨by rfl, ?_⟩) ?_ ?_
          rotate_left
          ·intro w'
           go_simp
           with_reducible rfl
          rotate_left
          ·simp only [Act.put, List.setIfInBounds_toArray, List.set_cons_zero, List.set_cons_succ, i64_w, i32_w]
           rfl
          refine pure_ (i := 27) (N := some 67) (v := ?_) (a' := ?_) #[true, true, true, true, true, true, true, true, true, true, true, true, true, true, true, true, true, true, true, true, true, true, true, true, true, true, true, true, false, false, false, false, false, false, false, false, false, false, false, false, false, false, false, false, false] rfl rfl (any_of HT_.out (by kernel_rfl)) (fun _ _ _ h => h) (Or.inl ⟨by rfl, ?_⟩) ?_ ?_
          rotate_left
          ·intro w'
           go_simp
           with_reducible rfl
          rotate_left
          ·simp only [Act.put, List.setIfInBounds_toArray, List.set_cons_zero, List.set_cons_succ, i64_w, i32_w]
           rfl
          refine pure_ (i := 28) (N := some 68) (v := ?_) (a' := ?_) #[true, true, true, true, true, true, true, true, true, true, true, true, true, true, true, true, true, true, true, true, true, true, true, true, true, true, true, true, true, false, false, false, false, false, false, false, false, false, false, false, false, false, false, false, false] rfl rfl (any_of HT_.out (by kernel_rfl)) (fun _ _ _ h => h) (Or.inl ⟨by rfl, ?_⟩) ?_ ?_
          rotate_left
          ·intro w'
           go_simp
           with_reducible rfl
          rotate_left
          ·simp only [Act.put, List.setIfInBounds_toArray, List.set_cons_zero, List.set_cons_succ, i64_w, i32_w]
           rfl
          refine pure_ (i := 29) (N := some 69) (v := ?_) (a' := ?_) #[true, true, true, true, true, true, true, true, true, true, true, true, true, true, true, true, true, true, true, true, true, true, true, true, true, true, true, true, true, true, false, false, false, false, false, false, false, false, false, false, false, false, false, false, false] rfl rfl (any_of HT_.out (by kernel_rfl)) (fun _ _ _ h => h) (Or.inl ⟨by rfl, ?_⟩) ?_ ?_
          rotate_left
          ·intro w'
           go_simp
           with_reducible rfl
          rotate_left
          ·simp only [Act.put, List.setIfInBounds_toArray, List.set_cons_zero, List.set_cons_succ, i64_w, i32_w]
           rfl
          refine take_ (i := 30) (N := some 70) (v := ?_) (a' := ?_) #[true, true, true, true, true, true, true, true, true, true, true, true, true, true, true, true, true, true, true, true, true, true, true, true, true, true, true, true, true, true, true, false, false, false, false, false, false, false, false, false, false, false, false, false, false] rfl rfl (take_ofW HT_.out HW_.out (by kernel_rfl)) (fun _ _ _ h => h) (Or.inl ⟨by rfl, ?_⟩) hHeld ?_ ?_
          rotate_left
          ·rintro w' ⟨s0, s1, s2, s3, s4, s5, s6, s7, s8, s9, s10, s11, s12, s13, s14, s15, s16, s17, s18, s19⟩
           go_simp
           with_reducible rfl
          rotate_left
          ·simp only [Act.put, List.setIfInBounds_toArray, List.set_cons_zero, List.set_cons_succ, i64_w, i32_w]
           rfl
          refine take_ (i := 31) (N := some 71) (v := ?_) (a' := ?_) #[true, true, true, true, true, true, true, true, true, true, true, true, true, true, true, true, true, true, true, true, true, true, true, true, true, true, true, true, true, true, true, true, false, false, false, false, false, false, false, false, false, false, false, false, false] rfl rfl (take_ofW HT_.out HW_.out (by kernel_rfl)) (fun _ _ _ h => h) (Or.inl ⟨by rfl, ?_⟩) hHeld ?_ ?_
          rotate_left
          ·rintro w' ⟨s0, s1, s2, s3, s4, s5, s6, s7, s8, s9, s10, s11, s12, s13, s14, s15, s16, s17, s18, s19⟩
           go_simp
           with_reducible rfl
          rotate_left
          ·simp only [Act.put, List.setIfInBounds_toArray, List.set_cons_zero, List.set_cons_succ, i64_w, i32_w]
           rfl
          refine one_ (i := 32) (N := some 72) #[true, true, true, true, true, true, true, true, true, true, true, true, true, true, true, true, true, true, true, true, true, true, true, true, true, true, true, true, true, true, true, true, true, false, false, false, false, false, false, false, false, false, false, false, false] rfl rfl (one_of HT_.out (by kernel_rfl)) (by decide) (fun K hK => ?_)
          refine goes_ Tryd.func20 (by kernel_rfl) rfl #[.agg #[.int .i64 t206, .slice Ao52 t207.length co52, .slice Ao53 t210.length co53, .slice Ao54 t213.length co54], .agg #[.int .i64 4, .slice Ao37 y195.length co37, .slice Ao36 y198.length co36, .slice none 0 0]] (by rfl) rfl rfl (by (try simp only [List.map_toArray, List.map_cons, List.map_nil]); first | done | rfl | (simp only [List.length_drop, List.length_take]; rfl)) ?_
          refine (dioramaref08_Same.calls k t206 _ _ t207 _ _ t210 _ _ t213 4 _ _ y195 _ _ y198 _ _ ([] : List Int) true _ ?side1 ?side2 ?side3 ?side4 ?side5 ?side6 ?side7 ?side8 ?side9 ?side10 ?side11 ?side12 A14.out).mono ?_
          (case side1 => exact CR HO209)
          (case side2 => exact (Kd.R_reads' HO209.out).2.1)
          (case side3 => exact CR HO212)
          (case side4 => exact (Kd.R_reads' HO212.out).2.1)
          (case side5 => exact CR HO215)
          (case side6 => exact (Kd.R_reads' HO215.out).2.1)
          (case side7 => exact CR HO197)
          (case side8 => exact (Kd.R_reads' HO197.out).2.1)
          (case side9 => exact CR HO200)
          (case side10 => exact (Kd.R_reads' HO200.out).2.1)
          (case side11 => exact Kd.C_nil _ _)
          (case side12 => exact Nat.le_refl _)
          rintro e w73 ⟨rfl, hb⟩
          have HS16_ := (hb.cell (World.block_lt_of_cell? _ _ (hHeld.2.2.2.2.2.2.2.2.2.2.2.2.2.2.2.2.1))).trans (hHeld.2.2.2.2.2.2.2.2.2.2.2.2.2.2.2.2.1)
          have HS17_ := (hb.cell (World.block_lt_of_cell? _ _ (hHeld.2.2.2.2.2.2.2.2.2.2.2.2.2.2.2.2.2.1))).trans (hHeld.2.2.2.2.2.2.2.2.2.2.2.2.2.2.2.2.2.1)
          have HS18_ := (hb.cell (World.block_lt_of_cell? _ _ (hHeld.2.2.2.2.2.2.2.2.2.2.2.2.2.2.2.2.2.2.1))).trans (hHeld.2.2.2.2.2.2.2.2.2.2.2.2.2.2.2.2.2.2.1)
          have HS19_ := (hb.cell (World.block_lt_of_cell? _ _ (hHeld.2.2.2.2.2.2.2.2.2.2.2.2.2.2.2.2.2.2.2))).trans (hHeld.2.2.2.2.2.2.2.2.2.2.2.2.2.2.2.2.2.2.2)
          refine ⟨_, rfl, ?_⟩
          have n0_ := Aside0.mk (Kd.R_below (RL HO182) hb)
          have n1_ := Aside0.mk (Kd.R_below (RL HO190) hb)
          have n2_ := Aside0.mk (Kd.R_below (RL HO193) hb)
          have n3_ := Aside0.mk (Kd.R_below (RL HO197) hb)
          have n4_ := Aside0.mk (Kd.R_below (RL HO200) hb)
          have n5_ := Aside0.mk (Kd.R_below (RL HO204) hb)
          have n6_ := Aside0.mk (Kd.R_below (RL HO209) hb)
          have n7_ := Aside0.mk (Kd.R_below (RL HO212) hb)
          have n8_ := Aside0.mk (Kd.R_below (RL HO215) hb)
          have n9_ := Aside0.mk (Kd.R_below (RL HO220) hb)
          have n10_ := Aside0.mk (Kd.R_below (RL HO224) hb)
          have n11_ := Aside0.mk (Kd.R_below (RL HO227) hb)
          have n12_ := Aside0.mk (Kd.R_below (RL HO230) hb)
          have n13_ := BE BK187 hb
          have n14_ := BE BK194 hb
          have n15_ := BE BK201 hb
          have n16_ := BE BK217 hb
          have n17_ := BE BK232 hb
          have n18_ := Aside0.mk (below_step (BB HB) hb)
          clear HO182
          clear HO190
          clear HO193
          clear HO197
          clear HO200
          clear HO204
          clear HO209
          clear HO212
          clear HO215
          clear HO220
          clear HO224
          clear HO227
          clear HO230
          clear BK187
          clear BK194
          clear BK201
          clear BK217
          clear BK232
          clear HB
          have HO182 := n0_
          have HO190 := n1_
          have HO193 := n2_
          have HO197 := n3_
          have HO200 := n4_
          have HO204 := n5_
          have HO209 := n6_
          have HO212 := n7_
          have HO215 := n8_
          have HO220 := n9_
          have HO224 := n10_
          have HO227 := n11_
          have HO230 := n12_
          have BK187 := n13_
          have BK194 := n14_
          have BK201 := n15_
          have BK217 := n16_
          have BK232 := n17_
          have HB := n18_
          clear n0_ n1_ n2_ n3_ n4_ n5_ n6_ n7_ n8_ n9_ n10_ n11_ n12_ n13_ n14_ n15_ n16_ n17_ n18_
          (try clear hb)
          (try clear hb2)
          (try clear hk)
          (try clear hi)
          refine hK.out _ _ ⟨(blk_cell BK194.out 0).trans rfl, (blk_cell BK194.out 1).trans rfl, (blk_cell BK194.out 2).trans rfl, (blk_cell BK194.out 3).trans rfl, (blk_cell BK187.out 0).trans rfl, (blk_cell BK187.out 1).trans rfl, (blk_cell BK187.out 2).trans rfl, (blk_cell BK187.out 3).trans rfl, (blk_cell BK217.out 0).trans rfl, (blk_cell BK217.out 1).trans rfl, (blk_cell BK217.out 2).trans rfl, (blk_cell BK217.out 3).trans rfl, (blk_cell BK201.out 0).trans rfl, (blk_cell BK201.out 1).trans rfl, (blk_cell BK201.out 2).trans rfl, (blk_cell BK201.out 3).trans rfl, HS16_, HS17_, HS18_, HS19_⟩ (fun hHeld => ?_)
          clear hK K
          refine norm_ (a' := ?_) ?_ ?_
          rotate_left
          ·show Act.put _ (some 72) _ = _
           simp only [Act.put, List.setIfInBounds_toArray, List.set_cons_zero, List.set_cons_succ, i64_w, i32_w]
           rfl
          refine pure_ (i := 33) (N := some 73) (v := ?_) (a' := ?_) #[true, true, true, true, true, true, true, true, true, true, true, true, true, true, true, true, true, true, true, true, true, true, true, true, true, true, true, true, true, true, true, true, true, true, false, false, false, false, false, false, false, false, false, false, false] rfl rfl (any_of HT_.out (by kernel_rfl)) (fun _ _ _ h => h) (Or.inl ⟨by rfl, ?_⟩) ?_ ?_
          rotate_left
          ·intro w'
           go_simp
           with_reducible rfl
          rotate_left
          ·simp only [Act.put, List.setIfInBounds_toArray, List.set_cons_zero, List.set_cons_succ, i64_w, i32_w]
           rfl
          refine pure_ (i := 34) (N := some 74) (v := ?_) (a' := ?_) #[true, true, true, true, true, true, true, true, true, true, true, true, true, true, true, true, true, true, true, true, true, true, true, true, true, true, true, true, true, true, true, true, true, true, true, false, false, false, false, false, false, false, false, false, false] rfl rfl (any_of HT_.out (by kernel_rfl)) (fun _ _ _ h => h) (Or.inl ⟨by rfl, ?_⟩) ?_ ?_
          rotate_left
          ·intro w'
           go_simp
           with_reducible rfl
          rotate_left
          ·simp only [Act.put, List.setIfInBounds_toArray, List.set_cons_zero, List.set_cons_succ, i64_w, i32_w]
           rfl
          refine pure_ (i := 35) (N := some 75) (v := ?_) (a' := ?_) #[true, true, true, true, true, true, true, true, true, true, true, true, true, true, true, true, true, true, true, true, true, true, true, true, true, true, true, true, true, true, true, true, true, true, true, true, false, false, false, false, false, false, false, false, false] rfl rfl (any_of HT_.out (by kernel_rfl)) (fun _ _ _ h => h) (Or.inl ⟨by rfl, ?_⟩) ?_ ?_
          rotate_left
          ·intro w'
           go_simp
           with_reducible rfl
          rotate_left
          ·simp only [Act.put, List.setIfInBounds_toArray, List.set_cons_zero, List.set_cons_succ, i64_w, i32_w]
           rfl
          refine pure_ (i := 36) (N := some 76) (v := ?_) (a' := ?_) #[true, true, true, true, true, true, true, true, true, true, true, true, true, true, true, true, true, true, true, true, true, true, true, true, true, true, true, true, true, true, true, true, true, true, true, true, true, false, false, false, false, false, false, false, false] rfl rfl (any_of HT_.out (by kernel_rfl)) (fun _ _ _ h => h) (Or.inl ⟨by rfl, ?_⟩) ?_ ?_
          rotate_left
          ·intro w'
           go_simp
           with_reducible rfl
          rotate_left
          ·simp only [Act.put, List.setIfInBounds_toArray, List.set_cons_zero, List.set_cons_succ, i64_w, i32_w]
           rfl
          refine pure_ (i := 37) (N := some 77) (v := ?_) (a' := ?_) #[true, true, true, true, true, true, true, true, true, true, true, true, true, true, true, true, true, true, true, true, true, true, true, true, true, true, true, true, true, true, true, true, true, true, true, true, true, true, false, false, false, false, false, false, false] rfl rfl (any_of HT_.out (by kernel_rfl)) (fun _ _ _ h => h) (Or.inl ⟨by rfl, ?_⟩) ?_ ?_
          rotate_left
          ·intro w'
           go_simp
           with_reducible rfl
          rotate_left
          ·simp only [Act.put, List.setIfInBounds_toArray, List.set_cons_zero, List.set_cons_succ, i64_w, i32_w]
           rfl
          refine pure_ (i := 38) (N := some 78) (v := ?_) (a' := ?_) #[true, true, true, true, true, true, true, true, true, true, true, true, true, true, true, true, true, true, true, true, true, true, true, true, true, true, true, true, true, true, true, true, true, true, true, true, true, true, true, false, false, false, false, false, false] rfl rfl (any_of HT_.out (by kernel_rfl)) (fun _ _ _ h => h) (Or.inl ⟨by rfl, ?_⟩) ?_ ?_
          rotate_left
          ·intro w'
           go_simp
           with_reducible rfl
          rotate_left
          ·simp only [Act.put, List.setIfInBounds_toArray, List.set_cons_zero, List.set_cons_succ, i64_w, i32_w]
           rfl
          refine take_ (i := 39) (N := some 79) (v := ?_) (a' := ?_) #[true, true, true, true, true, true, true, true, true, true, true, true, true, true, true, true, true, true, true, true, true, true, true, true, true, true, true, true, true, true, true, true, true, true, true, true, true, true, true, true, false, false, false, false, false] rfl rfl (take_ofW HT_.out HW_.out (by kernel_rfl)) (fun _ _ _ h => h) (Or.inl ⟨by rfl, ?_⟩) hHeld ?_ ?_
          rotate_left
          ·rintro w' ⟨s0, s1, s2, s3, s4, s5, s6, s7, s8, s9, s10, s11, s12, s13, s14, s15, s16, s17, s18, s19⟩
           go_simp
           with_reducible rfl
          rotate_left
          ·simp only [Act.put, List.setIfInBounds_toArray, List.set_cons_zero, List.set_cons_succ, i64_w, i32_w]
           rfl
          refine take_ (i := 41) (N := some 81) (v := ?_) (a' := ?_) #[true, true, true, true, true, true, true, true, true, true, true, true, true, true, true, true, true, true, true, true, true, true, true, true, true, true, true, true, true, true, true, true, true, true, true, true, true, true, true, true, false, true, false, false, false] rfl rfl (take_ofW HT_.out HW_.out (by kernel_rfl)) (fun _ _ _ h => h) (Or.inl ⟨by rfl, ?_⟩) hHeld ?_ ?_
          rotate_left
          ·rintro w' ⟨s0, s1, s2, s3, s4, s5, s6, s7, s8, s9, s10, s11, s12, s13, s14, s15, s16, s17, s18, s19⟩
           go_simp
           with_reducible rfl
          rotate_left
          ·simp only [Act.put, List.setIfInBounds_toArray, List.set_cons_zero, List.set_cons_succ, i64_w, i32_w]
           rfl
          refine one_ (i := 40) (N := some 80) #[true, true, true, true, true, true, true, true, true, true, true, true, true, true, true, true, true, true, true, true, true, true, true, true, true, true, true, true, true, true, true, true, true, true, true, true, true, true, true, true, true, true, false, false, false] rfl rfl (one_of HT_.out (by kernel_rfl)) (by decide) (fun K hK => ?_)
          refine goes_ Tryd.func25 (by kernel_rfl) rfl #[.agg #[.int .i64 4, .slice Ao28 y188.length co28, .slice Ao27 y191.length co27, .slice none 0 0]] (by rfl) rfl rfl (by (try simp only [List.map_toArray, List.map_cons, List.map_nil]); first | done | rfl | (simp only [List.length_drop, List.length_take]; rfl)) ?_
          refine (field_Copy.calls 4 _ _ y188 _ _ y191 _ _ ([] : List Int) t237 t238 t241 t244 _ ?side1 ?side2 ?side3 ?side4 ?side5 ?side6 A17.out).mono ?_
          (case side1 => exact CR HO190)
          (case side2 => exact (Kd.R_reads' HO190.out).2.1)
          (case side3 => exact CR HO193)
          (case side4 => exact (Kd.R_reads' HO193.out).2.1)
          (case side5 => exact Kd.C_nil _ _)
          (case side6 => exact Nat.le_refl _)
          rintro e w74 ⟨v239, v242, v245, rfl, ho0, ho1, ho2, hb⟩
          have HS16_ := (hb.cell (World.block_lt_of_cell? _ _ (hHeld.2.2.2.2.2.2.2.2.2.2.2.2.2.2.2.2.1))).trans (hHeld.2.2.2.2.2.2.2.2.2.2.2.2.2.2.2.2.1)
          have HS17_ := (hb.cell (World.block_lt_of_cell? _ _ (hHeld.2.2.2.2.2.2.2.2.2.2.2.2.2.2.2.2.2.1))).trans (hHeld.2.2.2.2.2.2.2.2.2.2.2.2.2.2.2.2.2.1)
          have HS18_ := (hb.cell (World.block_lt_of_cell? _ _ (hHeld.2.2.2.2.2.2.2.2.2.2.2.2.2.2.2.2.2.2.1))).trans (hHeld.2.2.2.2.2.2.2.2.2.2.2.2.2.2.2.2.2.2.1)
          have HS19_ := (hb.cell (World.block_lt_of_cell? _ _ (hHeld.2.2.2.2.2.2.2.2.2.2.2.2.2.2.2.2.2.2.2))).trans (hHeld.2.2.2.2.2.2.2.2.2.2.2.2.2.2.2.2.2.2.2)
          refine ⟨_, rfl, ?_⟩
          have n0_ := Aside0.mk (Kd.R_elder' (RL HO182) (Kd.R_base ho2) hb)
          have n1_ := Aside0.mk (Kd.R_elder' (RL HO190) (Kd.R_base ho0) hb)
          have n2_ := Aside0.mk (Kd.R_elder' (RL HO193) (Kd.R_base ho1) hb)
          have n3_ := Aside0.mk (Kd.R_elder' (RL HO197) (Kd.R_base ho0) hb)
          have n4_ := Aside0.mk (Kd.R_elder' (RL HO200) (Kd.R_base ho1) hb)
          have n5_ := Aside0.mk (Kd.R_below (RL HO204) hb)
          have n6_ := Aside0.mk (Kd.R_elder' (RL HO209) (Kd.R_base ho0) hb)
          have n7_ := Aside0.mk (Kd.R_elder' (RL HO212) (Kd.R_base ho1) hb)
          have n8_ := Aside0.mk (Kd.R_elder' (RL HO215) (Kd.R_base ho2) hb)
          have n9_ := Aside0.mk (Kd.R_below (RL HO220) hb)
          have n10_ := Aside0.mk (Kd.R_elder' (RL HO224) (Kd.R_base ho0) hb)
          have n11_ := Aside0.mk (Kd.R_elder' (RL HO227) (Kd.R_base ho1) hb)
          have n12_ := Aside0.mk (Kd.R_elder' (RL HO230) (Kd.R_base ho2) hb)
          have n13_ := Aside0.mk (Kd.R_lower (Kd.R_new' (Kd.R_new' (Kd.R_new' (Kd.R_new' ho0 (Kd.R_lt (RL HO190))) (Kd.R_lt (RL HO197))) (Kd.R_lt (RL HO209))) (Kd.R_lt (RL HO224))) (below_size (BB HB)))
          have n14_ := Aside0.mk (Kd.R_lower (Kd.R_new' (Kd.R_new' (Kd.R_new' (Kd.R_new' ho1 (Kd.R_lt (RL HO193))) (Kd.R_lt (RL HO200))) (Kd.R_lt (RL HO212))) (Kd.R_lt (RL HO227))) (below_size (BB HB)))
          have n15_ := Aside0.mk (Kd.R_lower (Kd.R_new' (Kd.R_new' (Kd.R_new' ho2 (Kd.R_lt (RL HO182))) (Kd.R_lt (RL HO215))) (Kd.R_lt (RL HO230))) (below_size (BB HB)))
          have n16_ := BE BK187 hb
          have n17_ := BE BK194 hb
          have n18_ := BE BK201 hb
          have n19_ := BE BK217 hb
          have n20_ := BE BK232 hb
          have n21_ := Aside0.mk (below_step (BB HB) hb)
          clear HO182
          clear HO190
          clear HO193
          clear HO197
          clear HO200
          clear HO204
          clear HO209
          clear HO212
          clear HO215
          clear HO220
          clear HO224
          clear HO227
          clear HO230
          clear BK187
          clear BK194
          clear BK201
          clear BK217
          clear BK232
          clear HB
          have HO182 := n0_
          have HO190 := n1_
          have HO193 := n2_
          have HO197 := n3_
          have HO200 := n4_
          have HO204 := n5_
          have HO209 := n6_
          have HO212 := n7_
          have HO215 := n8_
          have HO220 := n9_
          have HO224 := n10_
          have HO227 := n11_
          have HO230 := n12_
          have HO240 := n13_
          have HO243 := n14_
          have HO246 := n15_
          have BK187 := n16_
          have BK194 := n17_
          have BK201 := n18_
          have BK217 := n19_
          have BK232 := n20_
          have HB := n21_
          clear n0_ n1_ n2_ n3_ n4_ n5_ n6_ n7_ n8_ n9_ n10_ n11_ n12_ n13_ n14_ n15_ n16_ n17_ n18_ n19_ n20_ n21_
          (try clear hb)
          (try clear hb2)
          (try clear hk)
          (try clear hi)
          (try clear ho0)
          (try clear ho1)
          (try clear ho2)
          obtain ⟨Ao75, co75, eo75⟩ := Kd.R_slice HO240.out
          (first | subst eo75 | (injection eo75 with f1_ f2_ f3_; have f4_ := f1_.symm; have f5_ := f3_.symm; clear f1_ f2_ f3_; subst f4_; subst f5_))
          obtain ⟨Ao76, co76, eo76⟩ := Kd.R_slice HO243.out
          (first | subst eo76 | (injection eo76 with f1_ f2_ f3_; have f4_ := f1_.symm; have f5_ := f3_.symm; clear f1_ f2_ f3_; subst f4_; subst f5_))
          obtain ⟨Ao77, co77, eo77⟩ := Kd.R_slice HO246.out
          (first | subst eo77 | (injection eo77 with f1_ f2_ f3_; have f4_ := f1_.symm; have f5_ := f3_.symm; clear f1_ f2_ f3_; subst f4_; subst f5_))
          refine hK.out _ _ ⟨(blk_cell BK194.out 0).trans rfl, (blk_cell BK194.out 1).trans rfl, (blk_cell BK194.out 2).trans rfl, (blk_cell BK194.out 3).trans rfl, (blk_cell BK187.out 0).trans rfl, (blk_cell BK187.out 1).trans rfl, (blk_cell BK187.out 2).trans rfl, (blk_cell BK187.out 3).trans rfl, (blk_cell BK217.out 0).trans rfl, (blk_cell BK217.out 1).trans rfl, (blk_cell BK217.out 2).trans rfl, (blk_cell BK217.out 3).trans rfl, (blk_cell BK201.out 0).trans rfl, (blk_cell BK201.out 1).trans rfl, (blk_cell BK201.out 2).trans rfl, (blk_cell BK201.out 3).trans rfl, HS16_, HS17_, HS18_, HS19_⟩ (fun hHeld => ?_)
          clear hK K
          refine norm_ (a' := ?_) ?_ ?_
          rotate_left
          ·show Act.put _ (some 80) _ = _
           simp only [Act.put, List.setIfInBounds_toArray, List.set_cons_zero, List.set_cons_succ, i64_w, i32_w]
           rfl
          refine one_ (i := 42) (N := some 82) #[true, true, true, true, true, true, true, true, true, true, true, true, true, true, true, true, true, true, true, true, true, true, true, true, true, true, true, true, true, true, true, true, true, true, true, true, true, true, true, true, true, true, true, false, false] rfl rfl (one_of HT_.out (by kernel_rfl)) (by decide) (fun K hK => ?_)
          refine goes_ Tryd.func20 (by kernel_rfl) rfl #[.agg #[.int .i64 t237, .slice Ao75 t238.length co75, .slice Ao76 t241.length co76, .slice Ao77 t244.length co77], .agg #[.int .i64 4, .slice Ao28 y188.length co28, .slice Ao27 y191.length co27, .slice none 0 0]] (by rfl) rfl rfl (by (try simp only [List.map_toArray, List.map_cons, List.map_nil]); first | done | rfl | (simp only [List.length_drop, List.length_take]; rfl)) ?_
          refine (dioramaref08_Same.calls k t237 _ _ t238 _ _ t241 _ _ t244 4 _ _ y188 _ _ y191 _ _ ([] : List Int) t247 _ ?side1 ?side2 ?side3 ?side4 ?side5 ?side6 ?side7 ?side8 ?side9 ?side10 ?side11 ?side12 A18.out).mono ?_
          (case side1 => exact CR HO240)
          (case side2 => exact (Kd.R_reads' HO240.out).2.1)
          (case side3 => exact CR HO243)
          (case side4 => exact (Kd.R_reads' HO243.out).2.1)
          (case side5 => exact CR HO246)
          (case side6 => exact (Kd.R_reads' HO246.out).2.1)
          (case side7 => exact CR HO190)
          (case side8 => exact (Kd.R_reads' HO190.out).2.1)
          (case side9 => exact CR HO193)
          (case side10 => exact (Kd.R_reads' HO193.out).2.1)
          (case side11 => exact Kd.C_nil _ _)
          (case side12 => exact Nat.le_refl _)
          rintro e w78 ⟨rfl, hb⟩
          have HS16_ := (hb.cell (World.block_lt_of_cell? _ _ (hHeld.2.2.2.2.2.2.2.2.2.2.2.2.2.2.2.2.1))).trans (hHeld.2.2.2.2.2.2.2.2.2.2.2.2.2.2.2.2.1)
          have HS17_ := (hb.cell (World.block_lt_of_cell? _ _ (hHeld.2.2.2.2.2.2.2.2.2.2.2.2.2.2.2.2.2.1))).trans (hHeld.2.2.2.2.2.2.2.2.2.2.2.2.2.2.2.2.2.1)
          have HS18_ := (hb.cell (World.block_lt_of_cell? _ _ (hHeld.2.2.2.2.2.2.2.2.2.2.2.2.2.2.2.2.2.2.1))).trans (hHeld.2.2.2.2.2.2.2.2.2.2.2.2.2.2.2.2.2.2.1)
          have HS19_ := (hb.cell (World.block_lt_of_cell? _ _ (hHeld.2.2.2.2.2.2.2.2.2.2.2.2.2.2.2.2.2.2.2))).trans (hHeld.2.2.2.2.2.2.2.2.2.2.2.2.2.2.2.2.2.2.2)
          refine ⟨_, rfl, ?_⟩
          have n0_ := Aside0.mk (Kd.R_below (RL HO182) hb)
          have n1_ := Aside0.mk (Kd.R_below (RL HO190) hb)
          have n2_ := Aside0.mk (Kd.R_below (RL HO193) hb)
          have n3_ := Aside0.mk (Kd.R_below (RL HO197) hb)
          have n4_ := Aside0.mk (Kd.R_below (RL HO200) hb)
          have n5_ := Aside0.mk (Kd.R_below (RL HO204) hb)
          have n6_ := Aside0.mk (Kd.R_below (RL HO209) hb)
          have n7_ := Aside0.mk (Kd.R_below (RL HO212) hb)
          have n8_ := Aside0.mk (Kd.R_below (RL HO215) hb)
          have n9_ := Aside0.mk (Kd.R_below (RL HO220) hb)
          have n10_ := Aside0.mk (Kd.R_below (RL HO224) hb)
          have n11_ := Aside0.mk (Kd.R_below (RL HO227) hb)
          have n12_ := Aside0.mk (Kd.R_below (RL HO230) hb)
          have n13_ := Aside0.mk (Kd.R_below (RL HO240) hb)
          have n14_ := Aside0.mk (Kd.R_below (RL HO243) hb)
          have n15_ := Aside0.mk (Kd.R_below (RL HO246) hb)
          have n16_ := BE BK187 hb
          have n17_ := BE BK194 hb
          have n18_ := BE BK201 hb
          have n19_ := BE BK217 hb
          have n20_ := BE BK232 hb
          have n21_ := Aside0.mk (below_step (BB HB) hb)
          clear HO182
          clear HO190
          clear HO193
          clear HO197
          clear HO200
          clear HO204
          clear HO209
          clear HO212
          clear HO215
          clear HO220
          clear HO224
          clear HO227
          clear HO230
          clear HO240
          clear HO243
          clear HO246
          clear BK187
          clear BK194
          clear BK201
          clear BK217
          clear BK232
          clear HB
          have HO182 := n0_
          have HO190 := n1_
          have HO193 := n2_
          have HO197 := n3_
          have HO200 := n4_
          have HO204 := n5_
          have HO209 := n6_
          have HO212 := n7_
          have HO215 := n8_
          have HO220 := n9_
          have HO224 := n10_
          have HO227 := n11_
          have HO230 := n12_
          have HO240 := n13_
          have HO243 := n14_
          have HO246 := n15_
          have BK187 := n16_
          have BK194 := n17_
          have BK201 := n18_
          have BK217 := n19_
          have BK232 := n20_
          have HB := n21_
          clear n0_ n1_ n2_ n3_ n4_ n5_ n6_ n7_ n8_ n9_ n10_ n11_ n12_ n13_ n14_ n15_ n16_ n17_ n18_ n19_ n20_ n21_
          (try clear hb)
          (try clear hb2)
          (try clear hk)
          (try clear hi)
          refine hK.out _ _ ⟨(blk_cell BK194.out 0).trans rfl, (blk_cell BK194.out 1).trans rfl, (blk_cell BK194.out 2).trans rfl, (blk_cell BK194.out 3).trans rfl, (blk_cell BK187.out 0).trans rfl, (blk_cell BK187.out 1).trans rfl, (blk_cell BK187.out 2).trans rfl, (blk_cell BK187.out 3).trans rfl, (blk_cell BK217.out 0).trans rfl, (blk_cell BK217.out 1).trans rfl, (blk_cell BK217.out 2).trans rfl, (blk_cell BK217.out 3).trans rfl, (blk_cell BK201.out 0).trans rfl, (blk_cell BK201.out 1).trans rfl, (blk_cell BK201.out 2).trans rfl, (blk_cell BK201.out 3).trans rfl, HS16_, HS17_, HS18_, HS19_⟩ (fun hHeld => ?_)
          clear hK K
          refine norm_ (a' := ?_) ?_ ?_
          rotate_left
          ·show Act.put _ (some 82) _ = _
           simp only [Act.put, List.setIfInBounds_toArray, List.set_cons_zero, List.set_cons_succ, i64_w, i32_w]
           rfl
          refine pure_ (i := 43) (N := some 83) (v := ?_) (a' := ?_) #[true, true, true, true, true, true, true, true, true, true, true, true, true, true, true, true, true, true, true, true, true, true, true, true, true, true, true, true, true, true, true, true, true, true, true, true, true, true, true, true, true, true, true, true, false] rfl rfl (any_of HT_.out (by kernel_rfl)) (fun _ _ _ h => h) (Or.inl ⟨by rfl, ?_⟩) ?_ ?_
          rotate_left
          ·intro w'
           go_simp
           with_reducible rfl
          rotate_left
          ·simp only [Act.put, List.setIfInBounds_toArray, List.set_cons_zero, List.set_cons_succ, i64_w, i32_w]
           rfl
          refine pure_ (i := 44) (N := some 0) (v := ?_) (a' := ?_) #[true, true, true, true, true, true, true, true, true, true, true, true, true, true, true, true, true, true, true, true, true, true, true, true, true, true, true, true, true, true, true, true, true, true, true, true, true, true, true, true, true, true, true, true, true] rfl rfl (any_of HT_.out (by kernel_rfl)) (fun _ _ _ h => h) (Or.inl ⟨by rfl, ?_⟩) ?_ ?_
          rotate_left
          ·intro w'
           go_simp
           with_reducible rfl
          rotate_left
          ·simp only [Act.put, List.setIfInBounds_toArray, List.set_cons_zero, List.set_cons_succ, i64_w, i32_w]
           rfl
          refine done_ (done_of HT_.out (by kernel_rfl)) ?_
          try go_wp2
          go_ret
          exact ⟨by first | rfl | (simp [errW_none, errW_some] <;> rfl) | (simp [*, errW_none, errW_some] <;> rfl), BB HB⟩
         ·rw [if_neg c16] at H
          exact absurd H (by simp)
        ·replace c15 := Bool.eq_false_iff.mpr c15
         subst c15
         have H1 : (none) = some r := by rw [if_neg (show ¬ (false = true) by decide)] at H; exact H
         clear H
         have H := H1
         clear H1
         exact absurd H (by simp)
       ·rw [if_neg c13] at H
        exact absurd H (by simp)
      ·rw [if_neg c12] at H
       exact absurd H (by simp)
     ·rw [if_neg c11] at H
      exact absurd H (by simp)
    ·rw [if_neg c10] at H
     exact absurd H (by simp)
   ·replace c9 := Bool.eq_false_iff.mpr c9
    subst c9
    have H1 : (none) = some r := by rw [if_neg (show ¬ (false = true) by decide)] at H; exact H
    clear H
    have H := H1
    clear H1
    exact absurd H (by simp)
  ·rw [if_neg c8] at H
   exact absurd H (by simp)
 ·rw [if_neg c6] at H
  exact absurd H (by simp)

end Go.Proofs.YtmglknchklgokaaDoor.GY
