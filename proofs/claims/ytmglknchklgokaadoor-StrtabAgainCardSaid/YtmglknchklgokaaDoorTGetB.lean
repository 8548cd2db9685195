/- strtab.Get over utf.First. -/
import Derived.Test.YtmglknchklgokaaDoorTGet
namespace Go.Proofs.YtmglknchklgokaaDoor.Tab
open Go.RowKit Go.Lib Go.Proofs.YtmglknchklgokaaDoorW.PrintWords Go.Proofs.YtmglknchklgokaaDoorW.PrintLast Go.Proofs.YtmglknchklgokaaDoorW.PrintMore Go.Proofs.YtmglknchklgokaaDoor.B Go.Proofs.YtmglknchklgokaaDoor.Bd Go.Proofs.YtmglknchklgokaaDoor.GS
/-- Is a text no UTF-8? -/
def badS (s : ByteArray) : Bool := decide (U.first s (s.size + 1) 0 ≥ 0)
theorem bad_calls (s : ByteArray) (w : World) (hs : s.size ≤ 1000000) (ht : ∀ w', Below w.heap.size w w' → Lib.Utf8Tabs 0 1 w') :
    Calls Tryd.prog 47 #[.string s] w fun e w' => ∃ r : Int, e = .returned (.int .i64 r) ∧ decide (r ≥ 0) = badS s ∧ Below w.heap.size w w' := by
  refine (utf_First.calls s (U.first s (s.size + 1) 0) w ht (by unfold utf_First.f; rw [if_pos (by omega)])).mono ?_
  rintro e w' ⟨rfl, hb⟩
  exact ⟨_, rfl, rfl, hb⟩
end Go.Proofs.YtmglknchklgokaaDoor.Tab
