import Derived.Test.YtcphcaiiofeflaaDoorOmKw
import Derived.Test.YtcphcaiiofeflaaDoorProg
import Derived.Deep.LoopGhost
namespace Go.Proofs.YtcphcaiiofeflaaDoor.LimW
open Go.RowKit Go.Lib Go.Proofs.YtcphcaiiofeflaaDoorW.PrintWords Go.Proofs.YtcphcaiiofeflaaDoorW.PrintLast Go.Proofs.YtcphcaiiofeflaaDoorW.PrintMore
set_option linter.unusedVariables false
set_option linter.unusedSimpArgs false
def lv (a b c d e:Int):Value:=.agg #[.int .i64 a,.int .i64 b,.int .i64 c,.int .i64 d,.int .i64 e]
set_option maxHeartbeats 4000000 in
set_option maxRecDepth 100000 in
theorem each_calls (a0 a1 a2 a3 a4 b0 b1 b2 b3 b4:Int) (w:World) :
    Calls Tryd.prog 52 #[lv a0 a1 a2 a3 a4,lv b0 b1 b2 b3 b4] w fun e w' => e = .returned (.agg #[.int .i64 a0,.int .i64 b0,.int .i64 a1,.int .i64 b1,.int .i64 a2,.int .i64 b2,.int .i64 a3,.int .i64 b3,.int .i64 a4,.int .i64 b4])∧Below w.heap.size w w':=by
  unfold lv
  go_enter Tryd.func52,Tryd.ntmps52
  go_wp2
  refine bodyPost_ret (v:=.agg #[.int .i64 a0,.int .i64 b0,.int .i64 a1,.int .i64 b1,.int .i64 a2,.int .i64 b2,.int .i64 a3,.int .i64 b3,.int .i64 a4,.int .i64 b4]) ?_ rfl ⟨rfl,?_⟩
  · simp [results,Tryd.results52,go_sem]
  · exact (((Below.refl _ _).alloc (Nat.le_refl _) _).alloc (by simp) _).alloc (by simp;omega) _
def wB (a0 a1 a2 a3 a4 b0 b1 b2 b3 b4:Int):Bool:=decide (a0≤b0∧a1≤b1∧a2≤b2∧a3≤b3∧a4≤b4)
set_option maxHeartbeats 4000000 in
set_option maxRecDepth 100000 in
theorem within_calls (a0 a1 a2 a3 a4 b0 b1 b2 b3 b4:Int) (w:World) :
    Calls Tryd.prog 24 #[lv a0 a1 a2 a3 a4,lv b0 b1 b2 b3 b4] w fun e w' => e = .returned (.bool (wB a0 a1 a2 a3 a4 b0 b1 b2 b3 b4))∧Below w.heap.size w w':=by
  have he:=each_calls a0 a1 a2 a3 a4 b0 b1 b2 b3 b4
  unfold lv at he ⊢
  go_enter Tryd.func24,Tryd.ntmps24
  go_wp2_with (fail)
  refine (he _).mono ?_
  rintro e w1 ⟨rfl,hb1⟩
  have HB:=Lib.hid (below_step (((Below.refl w.heap.size w).alloc (Nat.le_refl _) _).alloc (by simp) _) hb1)
  clear hb1 he
  have i0:∀ W,(Instr.index 68 (.agg #[.int .i64 a0,.int .i64 b0,.int .i64 a1,.int .i64 b1,.int .i64 a2,.int .i64 b2,.int .i64 a3,.int .i64 b3,.int .i64 a4,.int .i64 b4]) (.int .i64 0)).run Tryd.prog W = .ok (.agg #[.int .i64 a0,.int .i64 b0]) W:=fun W => by kernel_rfl
  have i1:∀ W,(Instr.index 68 (.agg #[.int .i64 a0,.int .i64 b0,.int .i64 a1,.int .i64 b1,.int .i64 a2,.int .i64 b2,.int .i64 a3,.int .i64 b3,.int .i64 a4,.int .i64 b4]) (.int .i64 1)).run Tryd.prog W = .ok (.agg #[.int .i64 a1,.int .i64 b1]) W:=fun W => by kernel_rfl
  have i2:∀ W,(Instr.index 68 (.agg #[.int .i64 a0,.int .i64 b0,.int .i64 a1,.int .i64 b1,.int .i64 a2,.int .i64 b2,.int .i64 a3,.int .i64 b3,.int .i64 a4,.int .i64 b4]) (.int .i64 2)).run Tryd.prog W = .ok (.agg #[.int .i64 a2,.int .i64 b2]) W:=fun W => by kernel_rfl
  have i3:∀ W,(Instr.index 68 (.agg #[.int .i64 a0,.int .i64 b0,.int .i64 a1,.int .i64 b1,.int .i64 a2,.int .i64 b2,.int .i64 a3,.int .i64 b3,.int .i64 a4,.int .i64 b4]) (.int .i64 3)).run Tryd.prog W = .ok (.agg #[.int .i64 a3,.int .i64 b3]) W:=fun W => by kernel_rfl
  have i4:∀ W,(Instr.index 68 (.agg #[.int .i64 a0,.int .i64 b0,.int .i64 a1,.int .i64 b1,.int .i64 a2,.int .i64 b2,.int .i64 a3,.int .i64 b3,.int .i64 a4,.int .i64 b4]) (.int .i64 4)).run Tryd.prog W = .ok (.agg #[.int .i64 a4,.int .i64 b4]) W:=fun W => by kernel_rfl
  go_wp2_with (fail)
  go_loopg [10] 5 (fun kq v wr => ∃ i:Int,v = .int .i64 i∧0≤i∧i+kq = 5∧(0 < i→a0≤b0)∧(1 < i→a1≤b1)∧(2 < i→a2≤b2)∧(3 < i→a3≤b3)∧(4 < i→a4≤b4)∧Aside0 (Below w.heap.size w wr))
  case atStart => exact ⟨0,rfl,by omega,by omega,fun h => by omega,fun h => by omega,fun h => by omega,fun h => by omega,fun h => by omega,⟨HB.out⟩⟩
  case round =>
    obtain ⟨i,rfl,hi0,hik,h0,h1,h2,h3,h4,hb⟩:=hrel
    have hi:i = 0 ∨ i = 1 ∨ i = 2 ∨ i = 3 ∨ i = 4 ∨ i = 5:=by omega
    rcases hi with rfl | rfl | rfl | rfl | rfl | rfl
    · obtain ⟨kq,rfl⟩:∃ g,gk = g+1:=⟨gk - 1,by omega⟩
      by_cases hc:a0≤b0
      · have t1:decide (b0 < a0) = false:=decide_eq_false (by omega)
        go_wp2_with (fail)
        go_roundg kq
        case measure => omega
        case rel => exact ⟨1,rfl,by omega,by omega,fun h => by omega,fun h => by omega,fun h => by omega,fun h => by omega,fun h => by omega,⟨hb.out.alloc hb.out.size _⟩⟩
      · have t1:decide (b0 < a0) = true:=decide_eq_true (by omega)
        have HW:=Lib.hid (show wB a0 a1 a2 a3 a4 b0 b1 b2 b3 b4 = false from decide_eq_false (fun h => by omega))
        go_wp2_with (fail)
        go_ret
        exact ⟨by rw [HW.out];rfl,hb.out.alloc hb.out.size _⟩
    · obtain ⟨kq,rfl⟩:∃ g,gk = g+1:=⟨gk - 1,by omega⟩
      by_cases hc:a1≤b1
      · have t1:decide (b1 < a1) = false:=decide_eq_false (by omega)
        go_wp2_with (fail)
        go_roundg kq
        case measure => omega
        case rel => exact ⟨2,rfl,by omega,by omega,fun h => by omega,fun h => by omega,fun h => by omega,fun h => by omega,fun h => by omega,⟨hb.out.alloc hb.out.size _⟩⟩
      · have t1:decide (b1 < a1) = true:=decide_eq_true (by omega)
        have HW:=Lib.hid (show wB a0 a1 a2 a3 a4 b0 b1 b2 b3 b4 = false from decide_eq_false (fun h => by omega))
        go_wp2_with (fail)
        go_ret
        exact ⟨by rw [HW.out];rfl,hb.out.alloc hb.out.size _⟩
    · obtain ⟨kq,rfl⟩:∃ g,gk = g+1:=⟨gk - 1,by omega⟩
      by_cases hc:a2≤b2
      · have t1:decide (b2 < a2) = false:=decide_eq_false (by omega)
        go_wp2_with (fail)
        go_roundg kq
        case measure => omega
        case rel => exact ⟨3,rfl,by omega,by omega,fun h => by omega,fun h => by omega,fun h => by omega,fun h => by omega,fun h => by omega,⟨hb.out.alloc hb.out.size _⟩⟩
      · have t1:decide (b2 < a2) = true:=decide_eq_true (by omega)
        have HW:=Lib.hid (show wB a0 a1 a2 a3 a4 b0 b1 b2 b3 b4 = false from decide_eq_false (fun h => by omega))
        go_wp2_with (fail)
        go_ret
        exact ⟨by rw [HW.out];rfl,hb.out.alloc hb.out.size _⟩
    · obtain ⟨kq,rfl⟩:∃ g,gk = g+1:=⟨gk - 1,by omega⟩
      by_cases hc:a3≤b3
      · have t1:decide (b3 < a3) = false:=decide_eq_false (by omega)
        go_wp2_with (fail)
        go_roundg kq
        case measure => omega
        case rel => exact ⟨4,rfl,by omega,by omega,fun h => by omega,fun h => by omega,fun h => by omega,fun h => by omega,fun h => by omega,⟨hb.out.alloc hb.out.size _⟩⟩
      · have t1:decide (b3 < a3) = true:=decide_eq_true (by omega)
        have HW:=Lib.hid (show wB a0 a1 a2 a3 a4 b0 b1 b2 b3 b4 = false from decide_eq_false (fun h => by omega))
        go_wp2_with (fail)
        go_ret
        exact ⟨by rw [HW.out];rfl,hb.out.alloc hb.out.size _⟩
    · obtain ⟨kq,rfl⟩:∃ g,gk = g+1:=⟨gk - 1,by omega⟩
      by_cases hc:a4≤b4
      · have t1:decide (b4 < a4) = false:=decide_eq_false (by omega)
        go_wp2_with (fail)
        go_roundg kq
        case measure => omega
        case rel => exact ⟨5,rfl,by omega,by omega,fun h => by omega,fun h => by omega,fun h => by omega,fun h => by omega,fun h => by omega,⟨hb.out.alloc hb.out.size _⟩⟩
      · have t1:decide (b4 < a4) = true:=decide_eq_true (by omega)
        have HW:=Lib.hid (show wB a0 a1 a2 a3 a4 b0 b1 b2 b3 b4 = false from decide_eq_false (fun h => by omega))
        go_wp2_with (fail)
        go_ret
        exact ⟨by rw [HW.out];rfl,hb.out.alloc hb.out.size _⟩
    · have HW:=Lib.hid (show wB a0 a1 a2 a3 a4 b0 b1 b2 b3 b4 = true from decide_eq_true ⟨h0 (by omega),h1 (by omega),h2 (by omega),h3 (by omega),h4 (by omega)⟩)
      go_wp2_with (fail)
      go_ret
      exact ⟨by rw [HW.out];rfl,hb.out⟩
end Go.Proofs.YtcphcaiiofeflaaDoor.LimW
