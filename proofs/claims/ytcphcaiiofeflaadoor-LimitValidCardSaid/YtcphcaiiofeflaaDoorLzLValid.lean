import Derived.Test.YtcphcaiiofeflaaDoorLzLAwake
import Derived.Test.YtcphcaiiofeflaaDoorLzGLx28
namespace Go.Proofs.YtcphcaiiofeflaaDoor.GL
open Go.RowKit Go.Proofs.YtcphcaiiofeflaaDoorW.PrintWords Go.Proofs.YtcphcaiiofeflaaDoorW.PrintLast Go.Proofs.YtcphcaiiofeflaaDoorW.PrintMore
set_option linter.unusedVariables false
set_option linter.unusedSimpArgs false
theorem valid_true (l0:List (S53)) (a1 b0 b1 b2 b3 b4:Int):∃ k,w12_LimitValid.f k l0 a1 b0 b1 b2 b3 b4 = some true:=by
  obtain ⟨Kw,hw⟩:=awake12
  obtain ⟨K,b,h1,h2⟩:=great12 l0 a1
  cases b with
  | true =>
    refine ⟨Kw+K+1,?_⟩
    rw [w12_LimitValid.f,hw _ (by omega),Option.bind_some,if_pos rfl,h1 _ (by omega),Option.bind_some,w12_LimitValid.j0,if_pos rfl,hw _ (by omega)]
    rfl
  | false =>
    obtain ⟨hS,hF⟩:=h2 rfl
    obtain ⟨K1,h3⟩:=valid_ev hS hF a1
    obtain ⟨K2,h4⟩:=rvalid_ev hS hF a1
    obtain ⟨K3,h5⟩:=typed_ev hF hS.len a1
    obtain ⟨K4,h6⟩:=rtyped_ev hF hS.len a1
    simp only at h5 h6
    have e:=copy9 hS a1 (Kw+K+K1+K2+K3+K4+10)
    refine ⟨(Kw+K+K1+K2+K3+K4+10+l0.length+1)+1,?_⟩
    rw [w12_LimitValid.f,hw _ (by omega),Option.bind_some,if_pos rfl,h1 _ (by omega),Option.bind_some,w12_LimitValid.j0,if_neg (by simp),e,Option.bind_some]
    simp only
    rw [h3 _ (by omega),Option.bind_some,h4 _ (by omega),Option.bind_some,Option.bind_some,h5 _ (by omega),Option.bind_some,h6 _ (by omega),Option.bind_some,if_pos rfl,if_pos rfl,if_pos rfl]
    simp
end Go.Proofs.YtcphcaiiofeflaaDoor.GL
