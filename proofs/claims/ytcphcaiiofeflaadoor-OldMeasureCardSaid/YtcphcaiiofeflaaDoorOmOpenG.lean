import Derived.Test.YtcphcaiiofeflaaDoorOmOpenR
import Derived.Test.YtcphcaiiofeflaaDoorOmGOx0
namespace Go.Proofs.YtcphcaiiofeflaaDoor.GO
open Go.RowKit Go.ChangeShapes Go.WideShapes Go.Proofs.YtcphcaiiofeflaaDoorW.PrintWords Go.Proofs.YtcphcaiiofeflaaDoorW.PrintLast Go.Proofs.YtcphcaiiofeflaaDoorW.PrintMore
theorem opens_node:O.Opens Tryd.prog 53 k53 (fun _ => True) :=
  O.opens_imp (O.opens_iso (fun x:S53 => (x.f0,x.f1,x.f2,x.f3)) (fun p => ⟨p.1,p.2.1,p.2.2.1,p.2.2.2⟩) (fun _ => rfl)
    (O.opens_struct4 Tryd.underlying53 (by kernel_rfl) rfl rfl rfl rfl (by kernel_rfl) (by kernel_rfl) (by kernel_rfl) (by kernel_rfl)
      (O.opens_int Tryd.underlying3) (O.opens_slice Tryd.underlying49 (by kernel_rfl) (O.opens_int Tryd.underlying2)) (O.opens_slice Tryd.underlying50 (by kernel_rfl) (O.opens_string Tryd.underlying9)) (O.opens_slice Tryd.underlying51 (by kernel_rfl) (O.opens_int Tryd.underlying3)))) (fun _ _ => trivial)
theorem opens_scene:O.Opens Tryd.prog 24 (Kd.pair (Kd.slice 53 k53) (Kd.int .i64)) (fun _ => True) :=
  O.opens_imp (O.opens_struct2 Tryd.underlying24 (by kernel_rfl) rfl rfl (by kernel_rfl) (by kernel_rfl) (O.opens_slice Tryd.underlying22 (by kernel_rfl) opens_node) (O.opens_int Tryd.underlying3)) (fun _ _ => trivial)
theorem scene_of {w:World} {v:Value} {x:List S53 × Int} {n:Nat} (h:(Kd.pair (Kd.slice 53 k53) (Kd.int .i64)).K w x v.cells.toList) (hv:∃ cs,v = .agg cs∧cs.size = n) :
    ∃ A cap,v = .agg #[.slice A x.1.length cap,.int .i64 x.2]∧x.1.length≤cap∧Kd.C k53 w A x.1.length x.1:=by
  obtain ⟨cs,rfl,_⟩:=hv
  obtain ⟨c1,c2,he,⟨A,cap,rfl,hl,hc⟩,h2⟩:=h
  obtain rfl:=h2
  refine ⟨A,cap,?_,hl,hc⟩
  have he2:cs.toList = [.slice A x.1.length cap,.int .i64 x.2]:=he
  rw [← Array.toArray_toList (xs:=cs),he2]
end Go.Proofs.YtcphcaiiofeflaaDoor.GO
