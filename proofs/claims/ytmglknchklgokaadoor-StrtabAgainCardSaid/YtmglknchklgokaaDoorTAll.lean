/- dioramalaw06.all, called: a table's texts. -/
import Derived.Test.YtmglknchklgokaaDoorTPut
import Derived.Test.YtmglknchklgokaaDoorKw
namespace Go.Proofs.YtmglknchklgokaaDoor.Tab
open Go.RowKit Go.Lib Go.Proofs.YtmglknchklgokaaDoorW.PrintWords Go.Proofs.YtmglknchklgokaaDoorW.PrintLast Go.Proofs.YtmglknchklgokaaDoorW.PrintMore Go.Proofs.YtmglknchklgokaaDoor.B Go.Proofs.YtmglknchklgokaaDoor.Bd
set_option linter.unusedVariables false
set_option linter.unusedSimpArgs false
set_option maxHeartbeats 4000000 in
set_option maxRecDepth 100000 in
theorem all_calls (F : Nat → Prop) (p : Nat) (l : List ByteArray) (w : World) (h : IsTab w F p l) (hl : l.length ≤ 5000) :
    Calls Tryd.prog 36 #[.pointer (some ⟨p, 0, none⟩)] w fun e w' => ∃ v, e = .returned v ∧ w'.ownsRow w.heap.size 9 1 v l.length (l.map Value.string) ∧ Below w.heap.size w w' := by
  have HT := Lib.hid h
  clear h
  obtain ⟨i0, hi0, hz0, hz1, hz2⟩ := info_parts (show (Tryd.prog.info? 9).map (fun i => (i.zero, i.size, i.bytes)) = some (some (.string ⟨#[]⟩), 1, 16) from by kernel_rfl)
  go_enter Tryd.func36, Tryd.ntmps36
  go_wp2_with (fail)
  refine (len_calls F p l _ HT.out).mono ?_
  rintro e w1 ⟨rfl, rfl⟩
  have hmm1 : max (l.length : Int) 0 = l.length := by omega
  have hmm2 : min (l.length : Int) 5000 = l.length := by omega
  go_wp2_with (fail)
  try simp only [hmm1, hmm2]
  go_loopg [3, 4, 5, 6, 11] l.length (fun kq v3 v4 v5 v6 v11 wr => ∃ (i : Nat) (x y z : Value), v4 = x ∧ v5 = y ∧ v6 = z ∧ v11 = .int .i64 (i : Int) ∧ i + kq = l.length ∧ Aside0 (wr.ownsRow w.heap.size 9 1 v3 i ((l.take i).map Value.string)) ∧ Aside0 (Below w.heap.size w wr))
  case atStart => exact ⟨0, _, _, _, rfl, rfl, rfl, rfl, by omega, ⟨World.ownsRow_nil _ _ _ _⟩, ⟨Below.refl _ _⟩⟩
  case round =>
    obtain ⟨i, x, y, z, rfl, rfl, rfl, rfl, hik, hO, hW⟩ := hrel
    obtain ⟨wo, hwo⟩ : ∃ z, z = wr := ⟨_, rfl⟩
    subst hwo
    by_cases hlt : (i : Int) < (l.length : Int)
    · have t4 : decide ((i : Int) < (l.length : Int)) = true := decide_eq_true hlt
      obtain ⟨ko, rfl⟩ : ∃ g, gk = g + 1 := ⟨gk - 1, by omega⟩
      have HT2 := Lib.hid (HT.out.below hW.out)
      have hat : atT l (i : Int) = (l.getD i ⟨#[]⟩, true) := by unfold atT; rw [if_pos (by omega), Int.toNat_natCast]
      obtain ⟨a, c, hv⟩ := row_slice hO.out
      subst hv
      go_wp2_with (fail)
      refine (at_calls F p l (i : Int) _ HT2.out).mono ?_
      rw [hat]
      rintro e w2 ⟨rfl, rfl⟩
      have hsn := Lib.hid (show (l.take (i + 1)).map Value.string = (l.take i).map Value.string ++ [.string (l.getD i ⟨#[]⟩)] by
        rw [List.take_succ_eq_append_getElem (by omega), List.map_append, List.getD_eq_getElem?_getD, List.getElem?_eq_getElem (by omega)]; rfl)
      clear hat
      generalize l.getD i ⟨#[]⟩ = s at *
      go_wp2_with (first
        | (at_builtin; refine wpList_append_own_at _ rfl _ _ 23 rfl w.heap.size 9 i0 (.string ⟨#[]⟩) 1 16 Tryd.underlying23 hi0 hz0 hz1 hz2 rfl (by decide) (.slice a i c) i ((l.take i).map Value.string) rfl (hO.out.alloc _) ⟨wo.heap.size, 0, none⟩ 1 1 [.string s] rfl rfl (cell_one_new wo _ _) (fun u hu => by rw [List.mem_singleton] at hu; subst hu; rfl) (by unfold maxLen; omega) (by omega) (by have := hW.out.size; simp; omega) ?_; intro v2 w3 ho2 hg2 _ hl2; obtain ⟨a2, c2, rfl⟩ := row_slice ho2; have HO2 := Lib.hid ho2; have HG2 := Lib.hid hg2; clear ho2 hg2 hl2))
      go_roundg ko
      case measure => omega
      case rel => exact ⟨i + 1, _, _, _, rfl, rfl, rfl, rfl, by omega, ⟨by rw [hsn.out]; exact HO2.out⟩, ⟨Kw.grown_below (below_alloc hW.out _) HG2.out (fun g hg => (hO.out.lt g hg).1)⟩⟩
    · have t4 : decide ((i : Int) < (l.length : Int)) = false := decide_eq_false hlt
      obtain rfl : i = l.length := by omega
      go_wp2_with (fail)
      go_ret
      exact ⟨_, rfl, by have := hO.out; rwa [List.take_length] at this, hW.out⟩
end Go.Proofs.YtmglknchklgokaaDoor.Tab
