import Derived.Test.YtcphcaiiofeflaaDoorLzGLx8
import Derived.Test.YtcphcaiiofeflaaDoorLzLimP
namespace Go.Proofs.YtcphcaiiofeflaaDoor.GL
open Go.RowKit Go.Proofs.YtcphcaiiofeflaaDoorW.PrintWords Go.Proofs.YtcphcaiiofeflaaDoorW.PrintLast Go.Proofs.YtcphcaiiofeflaaDoorW.PrintMore
theorem awake12:∃ K,∀ k,K≤k→w12_awake.f k = some true:=by
  have h:w12_awake.f 60 = some true:=by decide +kernel
  have h2:∀ j,w12_awake.f (60+j) = some true:=by
    intro j
    induction j with
    | zero => exact h
    | succ j ih => exact w12_awake.mono _ _ ih
  exact ⟨60,fun k hk => by have:=h2 (k - 60);rwa [show 60+(k - 60) = k by omega] at this⟩
theorem great12 (l0:List (S53)) (a1:Int):∃ K b,(∀ k,K≤k→r09_Great.f k l0 a1 = some b)∧(b = false→Small l0∧Fits l0):=by
  obtain ⟨K,b,h1,h2⟩:=great9t l0 a1
  exact ⟨K,b,fun k hk => by have:=h1 (k - K);rwa [Nat.sub_add_cancel hk] at this,h2⟩
end Go.Proofs.YtcphcaiiofeflaaDoor.GL
