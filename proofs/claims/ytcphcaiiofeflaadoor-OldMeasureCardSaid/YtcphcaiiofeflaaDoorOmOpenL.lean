import Derived.Test.YtcphcaiiofeflaaDoorOmOpen
import Derived.Test.YtcphcaiiofeflaaDoorOmGOx0
namespace Go.Proofs.YtcphcaiiofeflaaDoor.GO
open Go.RowKit Go.ChangeShapes Go.WideShapes Go.Proofs.YtcphcaiiofeflaaDoorW.PrintWords Go.Proofs.YtcphcaiiofeflaaDoorW.PrintLast Go.Proofs.YtcphcaiiofeflaaDoorW.PrintMore
theorem opens_limits:O.Opens Tryd.prog 26 (Kd.pair (Kd.int .i64) (Kd.pair (Kd.int .i64) (Kd.pair (Kd.int .i64) (Kd.pair (Kd.int .i64) (Kd.int .i64))))) (fun _ => True) :=
  O.opens_imp (O.opens_struct5 Tryd.underlying26 (by kernel_rfl) rfl rfl rfl rfl rfl (by kernel_rfl) (by kernel_rfl) (by kernel_rfl) (by kernel_rfl) (by kernel_rfl)
    (O.opens_int Tryd.underlying3) (O.opens_int Tryd.underlying3) (O.opens_int Tryd.underlying3) (O.opens_int Tryd.underlying3) (O.opens_int Tryd.underlying3)) (fun _ _ => trivial)
theorem limits_of {w:World} {v:Value} {x:Int × Int × Int × Int × Int} {n:Nat} (h:(Kd.pair (Kd.int .i64) (Kd.pair (Kd.int .i64) (Kd.pair (Kd.int .i64) (Kd.pair (Kd.int .i64) (Kd.int .i64))))).K w x v.cells.toList) (hv:∃ cs,v = .agg cs∧cs.size = n) :
    v = .agg #[.int .i64 x.1,.int .i64 x.2.1,.int .i64 x.2.2.1,.int .i64 x.2.2.2.1,.int .i64 x.2.2.2.2]:=by
  obtain ⟨cs,rfl,_⟩:=hv
  obtain ⟨c1,c2,he,h1,d1,d2,rfl,h2,e1,e2,rfl,h3,f1,f2,rfl,h4,h5⟩:=h
  obtain rfl:=h1
  obtain rfl:=h2
  obtain rfl:=h3
  obtain rfl:=h4
  obtain rfl:=h5
  have he2:cs.toList = [.int .i64 x.1,.int .i64 x.2.1,.int .i64 x.2.2.1,.int .i64 x.2.2.2.1,.int .i64 x.2.2.2.2]:=he
  rw [← Array.toArray_toList (xs:=cs),he2]
end Go.Proofs.YtcphcaiiofeflaaDoor.GO
