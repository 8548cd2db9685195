/- Texts of the claim, one behind the other. -/
import Derived.Test.YtoigkneoaemcfaaDoorNoM2

namespace Go.Proofs.YtoigkneoaemcfaaDoor.GN
open Go.RowKit Go.Proofs.YtoigkneoaemcfaaDoorW.PrintWords Go.Proofs.YtoigkneoaemcfaaDoorW.PrintLast Go.Proofs.YtoigkneoaemcfaaDoorW.PrintMore
attribute [local go_sem] max2_int min2_int max_two min_two max_three min_three max_four min_four
set_option linter.unusedVariables false
set_option linter.unusedSimpArgs false
mutual
def r08_Diff.j0:Nat→Bool→Int→List Int→List ByteArray→List Int→Int→List Int→List ByteArray→List Int→Option ((List (S164)) × Bool)
 | 0,_,_,_,_,_,_,_,_,_ => none
 | k+1,x31,x202000,x202001,x202002,x202003,x203000,x203001,x203002,x203003 => if x31 = true then (some (([]:List (S164)),false)) else (r08_Diff.l0 k (([]:List (S164))) 0 x202000 x202001 x202002 x202003 x203000 x203001 x203002 x203003)
def r08_Diff.l0:Nat→List (S164)→Int→Int→List Int→List ByteArray→List Int→Int→List Int→List ByteArray→List Int→Option ((List (S164)) × Bool)
 | 0,_,_,_,_,_,_,_,_,_,_ => none
 | k+1,x6,x7,x202000,x202001,x202002,x202003,x203000,x203001,x203002,x203003 => if x7 < (x202001.length:Int) then (if 0≤x7 then (if x7 < (x203001.length:Int) then (if (rd x202001 x7) = (rd x203001 x7) then (r08_Diff.l0 k x6 (wrap64 (x7+1)) x202000 x202001 x202002 x202003 x203000 x203001 x203002 x203003) else (if x6.length < 3518437208883 then (r08_Diff.l0 k (x6 ++ [(⟨false,x7,rd x203001 x7,(⟨#[]⟩:ByteArray)⟩:S164)]) (wrap64 (x7+1)) x202000 x202001 x202002 x202003 x203000 x203001 x203002 x203003) else (none))) else (none)) else (none)) else (r08_Diff.l1 k x6 0 x202000 x202001 x202002 x202003 x203000 x203001 x203002 x203003)
def r08_Diff.l1:Nat→List (S164)→Int→Int→List Int→List ByteArray→List Int→Int→List Int→List ByteArray→List Int→Option ((List (S164)) × Bool)
 | 0,_,_,_,_,_,_,_,_,_,_ => none
 | k+1,x6,x8,x202000,x202001,x202002,x202003,x203000,x203001,x203002,x203003 => if x8 < (x202002.length:Int) then (if 0≤x8 then (if x8 < (x203002.length:Int) then (if (rdOf ByteArray.empty x202002 x8).toList = (rdOf ByteArray.empty x203002 x8).toList then (r08_Diff.l1 k x6 (wrap64 (x8+1)) x202000 x202001 x202002 x202003 x203000 x203001 x203002 x203003) else (if x6.length < 3518437208883 then (r08_Diff.l1 k (x6 ++ [(⟨true,x8,0,rdOf ByteArray.empty x203002 x8⟩:S164)]) (wrap64 (x8+1)) x202000 x202001 x202002 x202003 x203000 x203001 x203002 x203003) else (none))) else (none)) else (none)) else (some (x6,true))
end
def r08_Diff.f (k:Nat) (a0_0:Int) (l0_1:List Int) (l0_2:List ByteArray) (l0_3:List Int) (a1_0:Int) (l1_1:List Int) (l1_2:List ByteArray) (l1_3:List Int):Option ((List (S164)) × Bool):=if a0_0 = a1_0 then (if (l0_1.length:Int) = (l1_1.length:Int) then (r08_Diff.j0 k ((l0_2.length:Int) != (l1_2.length:Int)) a0_0 l0_1 l0_2 l0_3 a1_0 l1_1 l1_2 l1_3) else (r08_Diff.j0 k true a0_0 l0_1 l0_2 l0_3 a1_0 l1_1 l1_2 l1_3)) else (r08_Diff.j0 k true a0_0 l0_1 l0_2 l0_3 a1_0 l1_1 l1_2 l1_3)
def r08_Own.f (k:Nat) (a0_0:Int) (l0_1:List Int) (l0_2:List ByteArray) (l0_3:List Int) (a1_0:Int) (l1_1:List Int) (l1_2:List ByteArray) (l1_3:List Int):Option (Bool):=(r08_Diff.f k a0_0 l0_1 l0_2 l0_3 a1_0 l1_1 l1_2 l1_3).bind fun bt220 => (if bt220.2 = true then (some ((bt220.1.length:Int) == 0)) else (some false))
end Go.Proofs.YtoigkneoaemcfaaDoor.GN

namespace Go.Proofs.YtoigkneoaemcfaaDoor.GN
open Go.RowKit Go.Proofs.YtoigkneoaemcfaaDoorW.PrintWords Go.Proofs.YtoigkneoaemcfaaDoorW.PrintLast Go.Proofs.YtoigkneoaemcfaaDoorW.PrintMore
attribute [local go_sem] max2_int min2_int max_two min_two max_three min_three max_four min_four
set_option linter.unusedVariables false
set_option linter.unusedSimpArgs false
mutual
def r08_Same.j0:Nat→Bool→Int→List Int→List ByteArray→List Int→Int→List Int→List ByteArray→List Int→Option (Bool)
 | 0,_,_,_,_,_,_,_,_,_ => none
 | k+1,x18,x225000,x225001,x225002,x225003,x226000,x226001,x226002,x226003 => if x18 = true then (some false) else (r08_Same.l0 k 0 x225000 x225001 x225002 x225003 x226000 x226001 x226002 x226003)
def r08_Same.l0:Nat→Int→Int→List Int→List ByteArray→List Int→Int→List Int→List ByteArray→List Int→Option (Bool)
 | 0,_,_,_,_,_,_,_,_,_ => none
 | k+1,x5,x225000,x225001,x225002,x225003,x226000,x226001,x226002,x226003 => if x5 < (x225003.length:Int) then (if 0≤x5 then (if x5 < (x226003.length:Int) then (if (rd x225003 x5) = (rd x226003 x5) then (r08_Same.l0 k (wrap64 (x5+1)) x225000 x225001 x225002 x225003 x226000 x226001 x226002 x226003) else (some false)) else (none)) else (none)) else (some true)
end
def r08_Same.f (k:Nat) (a0_0:Int) (l0_1:List Int) (l0_2:List ByteArray) (l0_3:List Int) (a1_0:Int) (l1_1:List Int) (l1_2:List ByteArray) (l1_3:List Int):Option (Bool):=(r08_Own.f k a0_0 l0_1 l0_2 l0_3 a1_0 l1_1 l1_2 l1_3).bind fun t226 => (if t226 = true then (r08_Same.j0 k ((l0_3.length:Int) != (l1_3.length:Int)) a0_0 l0_1 l0_2 l0_3 a1_0 l1_1 l1_2 l1_3) else (r08_Same.j0 k true a0_0 l0_1 l0_2 l0_3 a1_0 l1_1 l1_2 l1_3))
end Go.Proofs.YtoigkneoaemcfaaDoor.GN

namespace Go.Proofs.YtoigkneoaemcfaaDoor.GN
open Go.RowKit Go.Proofs.YtoigkneoaemcfaaDoorW.PrintWords Go.Proofs.YtoigkneoaemcfaaDoorW.PrintLast Go.Proofs.YtoigkneoaemcfaaDoorW.PrintMore
attribute [local go_sem] max2_int min2_int max_two min_two max_three min_three max_four min_four
set_option linter.unusedVariables false
set_option linter.unusedSimpArgs false
mutual
def r09_Same.j0:Nat→Bool→List (S40)→Int→List (S40)→Int→Option (Bool)
 | 0,_,_,_,_,_ => none
 | k+1,x19,x230000,x230001,x231000,x231001 => if x19 = true then (some false) else (r09_Same.l0 k 0 x230000 x230001 x231000 x231001)
def r09_Same.l0:Nat→Int→List (S40)→Int→List (S40)→Int→Option (Bool)
 | 0,_,_,_,_,_ => none
 | k+1,x5,x230000,x230001,x231000,x231001 => if x5 < (x230000.length:Int) then (if 0≤x5 then (if x5 < (x231000.length:Int) then ((r08_Same.f k ((rd_T40 x230000 x5).f0) ((rd_T40 x230000 x5).f1) ((rd_T40 x230000 x5).f2) ((rd_T40 x230000 x5).f3) ((rd_T40 x231000 x5).f0) ((rd_T40 x231000 x5).f1) ((rd_T40 x231000 x5).f2) ((rd_T40 x231000 x5).f3)).bind fun t233 => (if t233 = true then (r09_Same.l0 k (wrap64 (x5+1)) x230000 x230001 x231000 x231001) else (some false))) else (none)) else (none)) else (some true)
end
def r09_Same.f (k:Nat) (l0_0:List (S40)) (a0_1:Int) (l1_0:List (S40)) (a1_1:Int):Option (Bool):=if a0_1 = a1_1 then (r09_Same.j0 k ((l0_0.length:Int) != (l1_0.length:Int)) l0_0 a0_1 l1_0 a1_1) else (r09_Same.j0 k true l0_0 a0_1 l1_0 a1_1)
def graph_Edges.l0:Nat→Int→List (S40)→Int→Int→Option (Int)
 | 0,_,_,_,_ => none
 | k+1,x3,x7,x8,x9 => if x9 < x8 then (if 0≤x9 then (if x9 < (x7.length:Int) then (graph_Edges.l0 k (wrap64 (x3+(((rd_T40 x7 x9).f3).length:Int))) x7 x8 (wrap64 (x9+1))) else (none)) else (none)) else (some x3)
def graph_Edges.f (k:Nat) (l0_0:List (S40)) (a0_1:Int):Option (Int):=graph_Edges.l0 k 0 l0_0 (l0_0.length:Int) 0
set_option maxHeartbeats 8000000 in
set_option maxRecDepth 100000 in
theorem graph_Edges.calls (k:Nat) (A0_0:Option Addr) (c0_0:Nat) (l0_0:List (S40)) (a0_1:Int) (r:Int) (w:World) (hr0_0:Kd.C k40 w A0_0 l0_0.length l0_0) (hc0_0:l0_0.length≤c0_0) (h:graph_Edges.f k l0_0 a0_1 = some r) :
  Calls Tryd.prog 76 #[.agg #[.slice A0_0 l0_0.length c0_0,.int .i64 a0_1]] w fun e w' => e = .returned (.int .i64 r)∧Below w.heap.size w w':=by
 have hu27:=Tryd.underlying27;have hu40:=Tryd.underlying40;have HR0_0:=AM hr0_0;have HC0_0:=AM hc0_0;clear hr0_0 hc0_0;have HB:=AM (Below.refl w.heap.size w);have H:(graph_Edges.l0 k 0 l0_0 (l0_0.length:Int) 0) = some r:=h;clear h;have H':=AM H;clear H;go_enter Tryd.func76,Tryd.ntmps76;go_wp2_with (first | ((with_reducible refine gate_dst (N:=1) rfl ?_);refine boxE 1 #[.slice A0_0 l0_0.length c0_0,.int .i64 a0_1] 27 ?_;intro gb244 hg w2 hbox hb;have BK244:=AM (hbox);have GW244:=GW HB hg;have GE244:=GW HB hg;replace HB:=BS HB hb;clear hb hbox hg;have hcz3_0:=BC BK244 0 (.slice A0_0 l0_0.length c0_0) rfl;have hcz3_1:=BC BK244 1 (.int .i64 a0_1) rfl;have hfz3_0:=BF BK244 0;have hfz3_1:=BF BK244 1))
 go_loopg [3,9] k (fun kq v3 v9 w' => ∃ (x3_1:Int) (x9_1:Int),v3 = .int .i64 x3_1∧v9 = .int .i64 x9_1∧Aside0 (graph_Edges.l0 kq x3_1 l0_0 (l0_0.length:Int) x9_1 = some r)∧Aside0 (kq≤k)∧Aside0 (w'.heap[gb244]? = some (.cells #[(.slice A0_0 l0_0.length c0_0),.int .i64 a0_1] 27 (0,0)))∧Aside0 (Below w.heap.size w w'))
 case atStart => exact ⟨(0),(0),QD,QD,H',⟨Nat.le_refl _⟩,⟨BL BK244⟩,⟨BB HB⟩⟩
 case round =>
  clear H';try clear p2
  try clear hcz3_0
  try clear hcz3_1
  try clear hfz3_0
  try clear hfz3_1
  obtain ⟨x3_1,x9_1,rfl,rfl,HA,HK1,BK244,HB⟩:=hrel;cases gk with
  | zero => exact absurd HA.out (by simp [graph_Edges.l0])
  | succ k1 =>
   have H:=HA.out;clear HA;simp only [graph_Edges.l0] at H;by_cases c4:x9_1 < (l0_0.length:Int)
   ·rw [if_pos c4] at H;have c4b0:decide (x9_1 < (l0_0.length:Int)) = true:=decide_eq_true c4;clear c4;by_cases c5:0≤x9_1
    ·rw [if_pos c5] at H;have c5b0:decide (0≤x9_1) = true:=decide_eq_true c5;clear c5;by_cases c6:x9_1 < (l0_0.length:Int)
     ·rw [if_pos c6] at H;have c6b0:decide (x9_1 < (l0_0.length:Int)) = true:=decide_eq_true c6;clear c6;have H':=AM H;clear H;have p245:0≤(x9_1:Int):=OD;have q245:x9_1 < (l0_0.length:Int):=OD;obtain ⟨ad245,A245_1,c245_1,A245_2,c245_2,A245_3,c245_3,e245,hx245_0,hx245_1,hx245_2,hx245_3,hl245_1,hi245_1,hl245_2,hi245_2,hl245_3,hi245_3⟩:=at_T40 HR0_0.out x9_1 p245 q245;cases e245
      replace hx245_0:=CL HB hx245_0;replace hx245_1:=CL HB hx245_1;replace hx245_2:=CL HB hx245_2;replace hx245_3:=CL HB hx245_3;have HR245_1:=AM hi245_1;have HC245_1:=AM hl245_1;clear hi245_1 hl245_1;have HR245_2:=AM hi245_2;have HC245_2:=AM hl245_2;clear hi245_2 hl245_2;have HR245_3:=AM hi245_3;have HC245_3:=AM hl245_3;clear hi245_3 hl245_3;replace p245:=eq_true p245;replace q245:=eq_true q245;go_wp2_with (first | ((with_reducible refine gate_dst (N:=5) rfl ?_);refine boxE 5 #[.int .i64 0,.slice none 0 0,.slice none 0 0,.slice none 0 0] 40 ?_;intro gb246 hg w7 hbox hb;have BK246:=AM (hbox);have GW246:=GW HB hg;have GE246:=GW HB hg;replace HB:=BS HB hb;have NB244_246:=NL BK244 hg;have NB246_244:=NG BK244 hg;replace BK244:=BE BK244 hb;clear hb hbox hg;have hnb8:=NB246_244.out;have hnc8:=NB244_246.out;have hcz9_0:=BC BK246 0 (.int .i64 0) rfl;have hcz9_1:=BC BK246 1 (.slice none 0 0) rfl;have hcz9_2:=BC BK246 2 (.slice none 0 0) rfl;have hcz9_3:=BC BK246 3 (.slice none 0 0) rfl;have hfz9_0:=BF BK246 0;have hfz9_1:=BF BK246 1;have hfz9_2:=BF BK246 2;have hfz9_3:=BF BK246 3))
      go_roundg k1
      case measure => have:=HK1.out;omega
      case rel => exact ⟨(wrap64 (x3_1+(((rd_T40 l0_0 x9_1).f3).length:Int))),(wrap64 (x9_1+1)),QD,QD,H',⟨by have:=HK1.out;omega⟩,⟨by (repeat refine blk_far ?_ NB244_246.out _);exact BL BK244⟩,⟨BB HB⟩⟩
     ·rw [if_neg c6] at H;exact absurd H (by simp)
    ·rw [if_neg c5] at H;exact absurd H (by simp)
   ·rw [if_neg c4] at H;have c4b0:decide (x9_1 < (l0_0.length:Int)) = false:=decide_eq_false c4;clear c4;obtain rfl:=Option.some.inj H;go_wp2
    go_ret;exact RT (BB HB)
end Go.Proofs.YtoigkneoaemcfaaDoor.GN
