/- Texts of the claim, one behind the other. -/
import Derived.Test.YtoigkneoaemcfaaDoorNoM1
import Derived.Test.YtoigkneoaemcfaaDoorProg
import Derived.Deep.LoopGhost
import Derived.Below
import Derived.Deep.Draws
import Derived.Deep.AppendLies
import Derived.Maps.AppendAt
import Derived.OwnWalk
import Derived.Laws.BytesArg
import Derived.Laws.MakeOwn
import Derived.Laws.OwnMore
import Derived.Deep.OwnRows
import Derived.Tactics
import Derived.Lib.ConvBytes
import Derived.Laws.Slices
import Derived.WalkKit
import Derived.KernelRfl
import Derived.RowKit3
import Derived.Deep.QuietTactic
import Derived.BigQuiet
import Derived.WideLaws
import Derived.Deep.DeepCutAuto
import Derived.Deep.CutBlock
import Derived.Deep.RegionHeld3
import Derived.Laws.Rows
import Derived.Lib.AppendStr
import Derived.ArgAppend
import Derived.Laws.IdiomCopy
import Derived.OrdersHeld
import Derived.Laws.BitsLemmas
import Derived.RowKit
import Derived.Lib.Hide
import Derived.Laws.CopyOwn
import Derived.Deep.RegionLaw
import Derived.Test.YtoigkneoaemcfaaDoorNoM0
import Derived.Test.YtoigkneoaemcfaaDoorNoGT
import Derived.Test.YtoigkneoaemcfaaDoorNoMapS
import Derived.Test.YtoigkneoaemcfaaDoorNoWAll
namespace Go.Proofs.YtoigkneoaemcfaaDoor.LimW
open Go.RowKit Go.Lib Go.Proofs.YtoigkneoaemcfaaDoorW.PrintWords Go.Proofs.YtoigkneoaemcfaaDoorW.PrintLast Go.Proofs.YtoigkneoaemcfaaDoorW.PrintMore
set_option linter.unusedVariables false
set_option linter.unusedSimpArgs false
def lv (a b c d e:Int):Value:=.agg #[.int .i64 a,.int .i64 b,.int .i64 c,.int .i64 d,.int .i64 e]
set_option maxHeartbeats 4000000 in
set_option maxRecDepth 100000 in
theorem each_calls (a0 a1 a2 a3 a4 b0 b1 b2 b3 b4:Int) (w:World) :
    Calls Tryd.prog 75 #[lv a0 a1 a2 a3 a4,lv b0 b1 b2 b3 b4] w fun e w' => e = .returned (.agg #[.int .i64 a0,.int .i64 b0,.int .i64 a1,.int .i64 b1,.int .i64 a2,.int .i64 b2,.int .i64 a3,.int .i64 b3,.int .i64 a4,.int .i64 b4])∧Below w.heap.size w w':=by
  unfold lv
  go_enter Tryd.func75,Tryd.ntmps75
  go_wp2
  refine bodyPost_ret (v:=.agg #[.int .i64 a0,.int .i64 b0,.int .i64 a1,.int .i64 b1,.int .i64 a2,.int .i64 b2,.int .i64 a3,.int .i64 b3,.int .i64 a4,.int .i64 b4]) ?_ rfl ⟨rfl,?_⟩
  · simp [results,Tryd.results75,go_sem]
  · exact (((Below.refl _ _).alloc (Nat.le_refl _) _).alloc (by simp) _).alloc (by simp;omega) _
def wB (a0 a1 a2 a3 a4 b0 b1 b2 b3 b4:Int):Bool:=decide (a0≤b0∧a1≤b1∧a2≤b2∧a3≤b3∧a4≤b4)
set_option maxHeartbeats 4000000 in
set_option maxRecDepth 100000 in
theorem within_calls (a0 a1 a2 a3 a4 b0 b1 b2 b3 b4:Int) (w:World) :
    Calls Tryd.prog 43 #[lv a0 a1 a2 a3 a4,lv b0 b1 b2 b3 b4] w fun e w' => e = .returned (.bool (wB a0 a1 a2 a3 a4 b0 b1 b2 b3 b4))∧Below w.heap.size w w':=by
  have he:=each_calls a0 a1 a2 a3 a4 b0 b1 b2 b3 b4
  unfold lv at he ⊢
  go_enter Tryd.func43,Tryd.ntmps43
  go_wp2_with (fail)
  refine (he _).mono ?_
  rintro e w1 ⟨rfl,hb1⟩
  have HB:=Lib.hid (below_step (((Below.refl w.heap.size w).alloc (Nat.le_refl _) _).alloc (by simp) _) hb1)
  clear hb1 he
  have i0:∀ W,(Instr.index 131 (.agg #[.int .i64 a0,.int .i64 b0,.int .i64 a1,.int .i64 b1,.int .i64 a2,.int .i64 b2,.int .i64 a3,.int .i64 b3,.int .i64 a4,.int .i64 b4]) (.int .i64 0)).run Tryd.prog W = .ok (.agg #[.int .i64 a0,.int .i64 b0]) W:=fun W => by kernel_rfl
  have i1:∀ W,(Instr.index 131 (.agg #[.int .i64 a0,.int .i64 b0,.int .i64 a1,.int .i64 b1,.int .i64 a2,.int .i64 b2,.int .i64 a3,.int .i64 b3,.int .i64 a4,.int .i64 b4]) (.int .i64 1)).run Tryd.prog W = .ok (.agg #[.int .i64 a1,.int .i64 b1]) W:=fun W => by kernel_rfl
  have i2:∀ W,(Instr.index 131 (.agg #[.int .i64 a0,.int .i64 b0,.int .i64 a1,.int .i64 b1,.int .i64 a2,.int .i64 b2,.int .i64 a3,.int .i64 b3,.int .i64 a4,.int .i64 b4]) (.int .i64 2)).run Tryd.prog W = .ok (.agg #[.int .i64 a2,.int .i64 b2]) W:=fun W => by kernel_rfl
  have i3:∀ W,(Instr.index 131 (.agg #[.int .i64 a0,.int .i64 b0,.int .i64 a1,.int .i64 b1,.int .i64 a2,.int .i64 b2,.int .i64 a3,.int .i64 b3,.int .i64 a4,.int .i64 b4]) (.int .i64 3)).run Tryd.prog W = .ok (.agg #[.int .i64 a3,.int .i64 b3]) W:=fun W => by kernel_rfl
  have i4:∀ W,(Instr.index 131 (.agg #[.int .i64 a0,.int .i64 b0,.int .i64 a1,.int .i64 b1,.int .i64 a2,.int .i64 b2,.int .i64 a3,.int .i64 b3,.int .i64 a4,.int .i64 b4]) (.int .i64 4)).run Tryd.prog W = .ok (.agg #[.int .i64 a4,.int .i64 b4]) W:=fun W => by kernel_rfl
  go_wp2_with (fail)
  go_loopg [10] 5 (fun kq v wr => ∃ i:Int,v = .int .i64 i∧0≤i∧i+kq = 5∧(0 < i→a0≤b0)∧(1 < i→a1≤b1)∧(2 < i→a2≤b2)∧(3 < i→a3≤b3)∧(4 < i→a4≤b4)∧Aside0 (Below w.heap.size w wr))
  case atStart => exact ⟨0,rfl,by omega,by omega,fun h => by omega,fun h => by omega,fun h => by omega,fun h => by omega,fun h => by omega,⟨HB.out⟩⟩
  case round =>
    obtain ⟨i,rfl,hi0,hik,h0,h1,h2,h3,h4,hb⟩:=hrel
    have hi:i = 0 ∨ i = 1 ∨ i = 2 ∨ i = 3 ∨ i = 4 ∨ i = 5:=by omega
    rcases hi with rfl | rfl | rfl | rfl | rfl | rfl
    · obtain ⟨kq,rfl⟩:∃ g,gk = g+1:=⟨gk - 1,by omega⟩
      by_cases hc:a0≤b0
      · have t1:decide (b0 < a0) = false:=decide_eq_false (by omega)
        go_wp2_with (fail)
        go_roundg kq
        case measure => omega
        case rel => exact ⟨1,rfl,by omega,by omega,fun h => by omega,fun h => by omega,fun h => by omega,fun h => by omega,fun h => by omega,⟨hb.out.alloc hb.out.size _⟩⟩
      · have t1:decide (b0 < a0) = true:=decide_eq_true (by omega)
        have HW:=Lib.hid (show wB a0 a1 a2 a3 a4 b0 b1 b2 b3 b4 = false from decide_eq_false (fun h => by omega))
        go_wp2_with (fail)
        go_ret
        exact ⟨by rw [HW.out];rfl,hb.out.alloc hb.out.size _⟩
    · obtain ⟨kq,rfl⟩:∃ g,gk = g+1:=⟨gk - 1,by omega⟩
      by_cases hc:a1≤b1
      · have t1:decide (b1 < a1) = false:=decide_eq_false (by omega)
        go_wp2_with (fail)
        go_roundg kq
        case measure => omega
        case rel => exact ⟨2,rfl,by omega,by omega,fun h => by omega,fun h => by omega,fun h => by omega,fun h => by omega,fun h => by omega,⟨hb.out.alloc hb.out.size _⟩⟩
      · have t1:decide (b1 < a1) = true:=decide_eq_true (by omega)
        have HW:=Lib.hid (show wB a0 a1 a2 a3 a4 b0 b1 b2 b3 b4 = false from decide_eq_false (fun h => by omega))
        go_wp2_with (fail)
        go_ret
        exact ⟨by rw [HW.out];rfl,hb.out.alloc hb.out.size _⟩
    · obtain ⟨kq,rfl⟩:∃ g,gk = g+1:=⟨gk - 1,by omega⟩
      by_cases hc:a2≤b2
      · have t1:decide (b2 < a2) = false:=decide_eq_false (by omega)
        go_wp2_with (fail)
        go_roundg kq
        case measure => omega
        case rel => exact ⟨3,rfl,by omega,by omega,fun h => by omega,fun h => by omega,fun h => by omega,fun h => by omega,fun h => by omega,⟨hb.out.alloc hb.out.size _⟩⟩
      · have t1:decide (b2 < a2) = true:=decide_eq_true (by omega)
        have HW:=Lib.hid (show wB a0 a1 a2 a3 a4 b0 b1 b2 b3 b4 = false from decide_eq_false (fun h => by omega))
        go_wp2_with (fail)
        go_ret
        exact ⟨by rw [HW.out];rfl,hb.out.alloc hb.out.size _⟩
    · obtain ⟨kq,rfl⟩:∃ g,gk = g+1:=⟨gk - 1,by omega⟩
      by_cases hc:a3≤b3
      · have t1:decide (b3 < a3) = false:=decide_eq_false (by omega)
        go_wp2_with (fail)
        go_roundg kq
        case measure => omega
        case rel => exact ⟨4,rfl,by omega,by omega,fun h => by omega,fun h => by omega,fun h => by omega,fun h => by omega,fun h => by omega,⟨hb.out.alloc hb.out.size _⟩⟩
      · have t1:decide (b3 < a3) = true:=decide_eq_true (by omega)
        have HW:=Lib.hid (show wB a0 a1 a2 a3 a4 b0 b1 b2 b3 b4 = false from decide_eq_false (fun h => by omega))
        go_wp2_with (fail)
        go_ret
        exact ⟨by rw [HW.out];rfl,hb.out.alloc hb.out.size _⟩
    · obtain ⟨kq,rfl⟩:∃ g,gk = g+1:=⟨gk - 1,by omega⟩
      by_cases hc:a4≤b4
      · have t1:decide (b4 < a4) = false:=decide_eq_false (by omega)
        go_wp2_with (fail)
        go_roundg kq
        case measure => omega
        case rel => exact ⟨5,rfl,by omega,by omega,fun h => by omega,fun h => by omega,fun h => by omega,fun h => by omega,fun h => by omega,⟨hb.out.alloc hb.out.size _⟩⟩
      · have t1:decide (b4 < a4) = true:=decide_eq_true (by omega)
        have HW:=Lib.hid (show wB a0 a1 a2 a3 a4 b0 b1 b2 b3 b4 = false from decide_eq_false (fun h => by omega))
        go_wp2_with (fail)
        go_ret
        exact ⟨by rw [HW.out];rfl,hb.out.alloc hb.out.size _⟩
    · have HW:=Lib.hid (show wB a0 a1 a2 a3 a4 b0 b1 b2 b3 b4 = true from decide_eq_true ⟨h0 (by omega),h1 (by omega),h2 (by omega),h3 (by omega),h4 (by omega)⟩)
      go_wp2_with (fail)
      go_ret
      exact ⟨by rw [HW.out];rfl,hb.out⟩
end Go.Proofs.YtoigkneoaemcfaaDoor.LimW

namespace Go.Proofs.YtoigkneoaemcfaaDoor.GN
open Go.RowKit Go.Proofs.YtoigkneoaemcfaaDoorW.PrintWords Go.Proofs.YtoigkneoaemcfaaDoorW.PrintLast Go.Proofs.YtoigkneoaemcfaaDoorW.PrintMore
attribute [local go_sem] max2_int min2_int max_two min_two max_three min_three max_four min_four
set_option linter.unusedVariables false
set_option linter.unusedSimpArgs false
def errW:Option Int→Value
 | none => .nilIface
 | some c => .iface 0 (.int .i64 c)
theorem errW_none:errW none = .nilIface:=rfl
theorem errW_some (c:Int):errW (some c) = .iface 0 (.int .i64 c):=rfl
theorem info3:(Tryd.prog.info? 3).map (fun i => (i.zero,i.size,i.bytes)) = some (some (.int .i64 0),1,8):=by kernel_rfl
theorem info5:(Tryd.prog.info? 5).map (fun i => (i.zero,i.size,i.bytes)) = some (some (.int .u8 0),1,1):=by kernel_rfl
theorem info9:(Tryd.prog.info? 9).map (fun i => (i.zero,i.size,i.bytes)) = some (some (.string ⟨#[]⟩),1,16):=by kernel_rfl
theorem info38:(Tryd.prog.info? 38).map (fun i => (i.zero,i.size,i.bytes)) = some (some (.slice none 0 0),1,24):=by kernel_rfl
structure S23 where
 f0:Int
 f1:Int
 f2:Int
 f3:Int
 f4:Int
def rd_L2 (xs:List (List Int)) (i:Int):(List Int):=xs.getD i.toNat ([]:List Int)
theorem at_L2 {w:World} {A:Option Addr} {n:Nat} {xs:List (List Int)} (h:Kd.C (Kd.slice 3 (Kd.int .i64)) w A n xs) (i:Int) (h0:0≤i) (h1:i < n):∃ ad A0 c0,A = some ad∧w.cell? (ad.add i.toNat) = some (.slice A0 (rd_L2 xs i).length c0)∧(rd_L2 xs i).length≤c0∧(Kd.int .i64).C w A0 (rd_L2 xs i).length (rd_L2 xs i):=by
 obtain ⟨ad,c,e,_,hK,hc0⟩:=Kd.C_get h ([]:List Int) i h0 h1;have hc:∀ j u,c[j]? = some u→w.cell? (ad.add (i.toNat * 1+j)) = some u:=hc0;obtain ⟨A0,c0,rfl,l0,g0⟩:=hK;exact ⟨ad,A0,c0,e,by have hq:=hc 0 _ rfl;rwa [Nat.mul_one,Nat.add_zero] at hq,l0,g0⟩
structure S97 where
 f0:(List Int)
 f1:Int
 f2:Int
 f3:Int
structure S40 where
 f0:Int
 f1:(List Int)
 f2:(List ByteArray)
 f3:(List Int)
def z40:S40:=⟨(0:Int),([]:List Int),([]:List ByteArray),([]:List Int)⟩
def k40:Kd S40:=Kd.iso (Kd.pair (Kd.int .i64) (Kd.pair (Kd.slice 2 (Kd.int .i64)) (Kd.pair (Kd.slice 9 Kd.string) (Kd.slice 3 (Kd.int .i64))))) (fun x:S40 => (x.f0,x.f1,x.f2,x.f3))
theorem k40_open {w:World} {x:S40} {cs:List Value} (h:k40.K w x cs):∃ A1 c1 A2 c2 A3 c3,cs = [.int .i64 x.f0,.slice A1 x.f1.length c1,.slice A2 x.f2.length c2,.slice A3 x.f3.length c3]∧x.f1.length≤c1∧(Kd.int .i64).C w A1 x.f1.length x.f1∧x.f2.length≤c2∧Kd.string.C w A2 x.f2.length x.f2∧x.f3.length≤c3∧(Kd.int .i64).C w A3 x.f3.length x.f3:=by
 obtain ⟨_,_,rfl,rfl,⟨_,_,rfl,⟨A1,c1,rfl,l1,g1⟩,⟨_,_,rfl,⟨A2,c2,rfl,l2,g2⟩,⟨A3,c3,rfl,l3,g3⟩⟩⟩⟩:=h;exact ⟨A1,c1,A2,c2,A3,c3,rfl,l1,g1,l2,g2,l3,g3⟩
theorem k40_mkM (w:World) (base:Nat) (ok:Nat→Prop) (x:S40) {v1:Value} (g1:(Kd.int .i64).R 2 w base ok v1 x.f1) {v2:Value} (g2:Kd.string.R 9 w base ok v2 x.f2) {v3:Value} (g3:(Kd.int .i64).R 3 w base ok v3 x.f3):k40.M w base ok x [.int .i64 x.f0,v1,v2,v3]:=⟨[.int .i64 x.f0],[v1,v2,v3],rfl,rfl,⟨[v1],[v2,v3],rfl,⟨v1,rfl,g1⟩,⟨[v2],[v3],rfl,⟨v2,rfl,g2⟩,⟨v3,rfl,g3⟩⟩⟩⟩
def rd_T40 (xs:List S40) (i:Int):S40:=xs.getD i.toNat z40
theorem at_T40 {w:World} {A:Option Addr} {n:Nat} {xs:List S40} (h:Kd.C k40 w A n xs) (i:Int) (h0:0≤i) (h1:i < n):∃ ad A1 c1 A2 c2 A3 c3,A = some ad∧w.cell? (ad.add (i.toNat * 4)) = some (.int .i64 (rd_T40 xs i).f0)∧w.cell? ⟨(ad.add (i.toNat * 4)).block,(ad.add (i.toNat * 4)).off+1,none⟩ = some (.slice A1 (rd_T40 xs i).f1.length c1)∧w.cell? ⟨(ad.add (i.toNat * 4)).block,(ad.add (i.toNat * 4)).off+2,none⟩ = some (.slice A2 (rd_T40 xs i).f2.length c2)∧w.cell? ⟨(ad.add (i.toNat * 4)).block,(ad.add (i.toNat * 4)).off+3,none⟩ = some (.slice A3 (rd_T40 xs i).f3.length c3)∧(rd_T40 xs i).f1.length≤c1∧(Kd.int .i64).C w A1 (rd_T40 xs i).f1.length (rd_T40 xs i).f1∧(rd_T40 xs i).f2.length≤c2∧Kd.string.C w A2 (rd_T40 xs i).f2.length (rd_T40 xs i).f2∧(rd_T40 xs i).f3.length≤c3∧(Kd.int .i64).C w A3 (rd_T40 xs i).f3.length (rd_T40 xs i).f3:=by
 obtain ⟨ad,c,e,_,hK,hc0⟩:=Kd.C_get h z40 i h0 h1;have hc:∀ j u,c[j]? = some u→w.cell? (ad.add (i.toNat * 4+j)) = some u:=hc0;obtain ⟨A1,c1,A2,c2,A3,c3,rfl,l1,g1,l2,g2,l3,g3⟩:=k40_open hK;exact ⟨ad,A1,c1,A2,c2,A3,c3,e,hc 0 _ rfl,by rw [← add_field _ _ 1 (by omega)];exact hc 1 _ rfl,by rw [← add_field _ _ 2 (by omega)];exact hc 2 _ rfl,by rw [← add_field _ _ 3 (by omega)];exact hc 3 _ rfl,l1,g1,l2,g2,l3,g3⟩
structure S27 where
 f0:(List S40)
 f1:Int
structure S164 where
 f0:Bool
 f1:Int
 f2:Int
 f3:ByteArray
end Go.Proofs.YtoigkneoaemcfaaDoor.GN
namespace Go.Proofs.YtoigkneoaemcfaaDoor.GN
open Go.RowKit Go.ChangeShapes Go.WideShapes Go.Proofs.YtoigkneoaemcfaaDoorW.PrintWords Go.Proofs.YtoigkneoaemcfaaDoorW.PrintLast Go.Proofs.YtoigkneoaemcfaaDoorW.PrintMore
theorem opens_limits:O.Opens Tryd.prog 23 (Kd.pair (Kd.int .i64) (Kd.pair (Kd.int .i64) (Kd.pair (Kd.int .i64) (Kd.pair (Kd.int .i64) (Kd.int .i64))))) (fun _ => True) :=
  O.opens_imp (O.opens_struct5 Tryd.underlying23 (by kernel_rfl) rfl rfl rfl rfl rfl (by kernel_rfl) (by kernel_rfl) (by kernel_rfl) (by kernel_rfl) (by kernel_rfl)
    (O.opens_int Tryd.underlying3) (O.opens_int Tryd.underlying3) (O.opens_int Tryd.underlying3) (O.opens_int Tryd.underlying3) (O.opens_int Tryd.underlying3)) (fun _ _ => trivial)
theorem limits_of {w:World} {v:Value} {x:Int × Int × Int × Int × Int} {n:Nat} (h:(Kd.pair (Kd.int .i64) (Kd.pair (Kd.int .i64) (Kd.pair (Kd.int .i64) (Kd.pair (Kd.int .i64) (Kd.int .i64))))).K w x v.cells.toList) (hv:∃ cs,v = .agg cs∧cs.size = n) :
    v = .agg #[.int .i64 x.1,.int .i64 x.2.1,.int .i64 x.2.2.1,.int .i64 x.2.2.2.1,.int .i64 x.2.2.2.2]:=by
  obtain ⟨cs,rfl,_⟩:=hv
  obtain ⟨c1,c2,he,h1,d1,d2,rfl,h2,e1,e2,rfl,h3,f1,f2,rfl,h4,h5⟩:=h
  obtain rfl:=h1
  obtain rfl:=h2
  obtain rfl:=h3
  obtain rfl:=h4
  obtain rfl:=h5
  have he2:cs.toList = [.int .i64 x.1,.int .i64 x.2.1,.int .i64 x.2.2.1,.int .i64 x.2.2.2.1,.int .i64 x.2.2.2.2]:=he
  rw [← Array.toArray_toList (xs:=cs),he2]
end Go.Proofs.YtoigkneoaemcfaaDoor.GN
