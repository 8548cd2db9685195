
import Derived.Test.YtcphcaiiofeflaaDoorOmGOx0
namespace Go.Proofs.YtcphcaiiofeflaaDoor.GO
open Go.RowKit Go.Proofs.YtcphcaiiofeflaaDoorW.PrintWords Go.Proofs.YtcphcaiiofeflaaDoorW.PrintLast Go.Proofs.YtcphcaiiofeflaaDoorW.PrintMore
attribute [local go_sem] max2_int min2_int max_two min_two max_three min_three max_four min_four
set_option maxHeartbeats 8000000
set_option maxRecDepth 100000
set_option linter.unusedVariables false
set_option linter.unusedSimpArgs false
def r09_Edges.l0:Nat→Int→Int→List (S53)→Int→Option (Int)
 | 0,_,_,_,_ => none
 | k+1,x3,x4,x102000,x102001 => if x4 < (x102000.length:Int) then (if 0≤x4 then (r09_Edges.l0 k (wrap64 (x3+(((rd_T53 x102000 x4).f3).length:Int))) (wrap64 (x4+1)) x102000 x102001) else (none)) else (some x3)
def r09_Edges.f (k:Nat) (l0_0:List (S53)) (a0_1:Int):Option (Int):=r09_Edges.l0 k 0 0 l0_0 a0_1
theorem r09_Edges.calls (k:Nat) (A0_0:Option Addr) (c0_0:Nat) (l0_0:List (S53)) (a0_1:Int) (r:Int) (w:World) (hr0_0:Kd.C k53 w A0_0 l0_0.length l0_0) (hc0_0:l0_0.length≤c0_0) (h:r09_Edges.f k l0_0 a0_1 = some r) :
  Calls Tryd.prog 41 #[.agg #[.slice A0_0 l0_0.length c0_0,.int .i64 a0_1]] w fun e w' => e = .returned (.int .i64 r)∧Below w.heap.size w w':=by
 have hu24:=Tryd.underlying24;have HR0_0:=AM hr0_0;have HC0_0:=AM hc0_0;clear hr0_0 hc0_0;have HB:=AM (Below.refl w.heap.size w);have H:(r09_Edges.l0 k 0 0 l0_0 a0_1) = some r:=h;clear h;have H':=AM H;clear H;go_enter Tryd.func41,Tryd.ntmps41;go_wp2_with (first | ((with_reducible refine gate_dst (N:=1) rfl ?_);refine boxE 1 #[.slice A0_0 l0_0.length c0_0,.int .i64 a0_1] 24 ?_;intro gb101 hg w2 hbox hb;have BK101:=AM (hbox);have GW101:=GW HB hg;have GE101:=GW HB hg;replace HB:=BS HB hb;clear hb hbox hg))
 go_loopg [3,4] k (fun kq v3 v4 w' => ∃ (x3_1:Int) (x4_1:Int),v3 = .int .i64 x3_1∧v4 = .int .i64 x4_1∧Aside0 (r09_Edges.l0 kq x3_1 x4_1 l0_0 a0_1 = some r)∧Aside0 (kq≤k)∧Aside0 (w'.heap[gb101]? = some (.cells #[(.slice A0_0 l0_0.length c0_0),.int .i64 a0_1] 24 (0,0)))∧Aside0 (Below w.heap.size w w'))
 case atStart => exact ⟨(0),(0),QD,QD,H',⟨Nat.le_refl _⟩,⟨BL BK101⟩,⟨BB HB⟩⟩
 case round =>
  clear H';try clear p2
  obtain ⟨x3_1,x4_1,rfl,rfl,HA,HK1,BK101,HB⟩:=hrel;cases gk with
  | zero => exact absurd HA.out (by simp [r09_Edges.l0])
  | succ k1 =>
   have H:=HA.out;clear HA;simp only [r09_Edges.l0] at H;by_cases c3:x4_1 < (l0_0.length:Int)
   ·rw [if_pos c3] at H;have c3b0:decide (x4_1 < (l0_0.length:Int)) = true:=decide_eq_true c3;clear c3;by_cases c4:0≤x4_1
    ·rw [if_pos c4] at H;have c4b0:decide (0≤x4_1) = true:=decide_eq_true c4;clear c4;have H':=AM H;clear H;have hcz5_0:=BC BK101 0 (.slice A0_0 l0_0.length c0_0) rfl;have hcz5_1:=BC BK101 1 (.int .i64 a0_1) rfl;have hfz5_0:=BF BK101 0;have hfz5_1:=BF BK101 1;have p102:0≤(x4_1:Int):=OD;have q102:x4_1 < (l0_0.length:Int):=OD;obtain ⟨ad102,A102_1,c102_1,A102_2,c102_2,A102_3,c102_3,e102,hx102_0,hx102_1,hx102_2,hx102_3,hl102_1,hi102_1,hl102_2,hi102_2,hl102_3,hi102_3⟩:=at_T53 HR0_0.out x4_1 p102 q102;cases e102
     replace hx102_0:=CL HB hx102_0;replace hx102_1:=CL HB hx102_1;replace hx102_2:=CL HB hx102_2;replace hx102_3:=CL HB hx102_3;have HR102_1:=AM hi102_1;have HC102_1:=AM hl102_1;clear hi102_1 hl102_1;have HR102_2:=AM hi102_2;have HC102_2:=AM hl102_2;clear hi102_2 hl102_2;have HR102_3:=AM hi102_3;have HC102_3:=AM hl102_3;clear hi102_3 hl102_3;replace p102:=eq_true p102;replace q102:=eq_true q102;go_wp2
     go_roundg k1
     case measure => have:=HK1.out;omega
     case rel => exact ⟨(wrap64 (x3_1+(((rd_T53 l0_0 x4_1).f3).length:Int))),(wrap64 (x4_1+1)),QD,QD,H',⟨by have:=HK1.out;omega⟩,⟨BL BK101⟩,⟨BB HB⟩⟩
    ·rw [if_neg c4] at H;exact absurd H (by simp)
   ·rw [if_neg c3] at H;have c3b0:decide (x4_1 < (l0_0.length:Int)) = false:=decide_eq_false c3;clear c3;obtain rfl:=Option.some.inj H;have hcz6_0:=BC BK101 0 (.slice A0_0 l0_0.length c0_0) rfl;have hcz6_1:=BC BK101 1 (.int .i64 a0_1) rfl;have hfz6_0:=BF BK101 0;have hfz6_1:=BF BK101 1;go_wp2
    go_ret;exact RT (BB HB)
mutual
def r08_Great.j0:Nat→Bool→Int→List Int→List ByteArray→List Int→Option (Bool)
 | 0,_,_,_,_,_ => none
 | k+1,x19,x104000,x104001,x104002,x104003 => if x19 = true then (some true) else (r08_Great.l0 k 0 x104000 x104001 x104002 x104003)
def r08_Great.l0:Nat→Int→Int→List Int→List ByteArray→List Int→Option (Bool)
 | 0,_,_,_,_,_ => none
 | k+1,x3,x104000,x104001,x104002,x104003 => if x3 < (x104002.length:Int) then (if 0≤x3 then (if ((rdOf ByteArray.empty x104002 x3).size:Int) > 500 then (some true) else (r08_Great.l0 k (wrap64 (x3+1)) x104000 x104001 x104002 x104003)) else (none)) else (some false)
end
def r08_Great.f (k:Nat) (a0_0:Int) (l0_1:List Int) (l0_2:List ByteArray) (l0_3:List Int):Option (Bool):=if (l0_1.length:Int) > 100 then (r08_Great.j0 k true a0_0 l0_1 l0_2 l0_3) else (if (l0_2.length:Int) > 100 then (r08_Great.j0 k true a0_0 l0_1 l0_2 l0_3) else (r08_Great.j0 k (decide ((l0_3.length:Int) > 300)) a0_0 l0_1 l0_2 l0_3))
theorem r08_Great.calls (k:Nat) (a0_0:Int) (A0_1:Option Addr) (c0_1:Nat) (l0_1:List Int) (A0_2:Option Addr) (c0_2:Nat) (l0_2:List ByteArray) (A0_3:Option Addr) (c0_3:Nat) (l0_3:List Int) (r:Bool) (w:World) (hr0_1:Kd.C (Kd.int .i64) w A0_1 l0_1.length l0_1) (hc0_1:l0_1.length≤c0_1) (hr0_2:Kd.C Kd.string w A0_2 l0_2.length l0_2) (hc0_2:l0_2.length≤c0_2) (hr0_3:Kd.C (Kd.int .i64) w A0_3 l0_3.length l0_3) (hc0_3:l0_3.length≤c0_3) (h:r08_Great.f k a0_0 l0_1 l0_2 l0_3 = some r) :
  Calls Tryd.prog 42 #[.agg #[.int .i64 a0_0,.slice A0_1 l0_1.length c0_1,.slice A0_2 l0_2.length c0_2,.slice A0_3 l0_3.length c0_3]] w fun e w' => e = .returned (.bool r)∧Below w.heap.size w w':=by
 have hu53:=Tryd.underlying53;have HR0_1:=AM hr0_1;have HC0_1:=AM hc0_1;clear hr0_1 hc0_1;have HR0_2:=AM hr0_2;have HC0_2:=AM hc0_2;clear hr0_2 hc0_2;have HR0_3:=AM hr0_3;have HC0_3:=AM hc0_3;clear hr0_3 hc0_3;have HB:=AM (Below.refl w.heap.size w);have H:(if (l0_1.length:Int) > 100 then (r08_Great.j0 k true a0_0 l0_1 l0_2 l0_3) else (if (l0_2.length:Int) > 100 then (r08_Great.j0 k true a0_0 l0_1 l0_2 l0_3) else (r08_Great.j0 k (decide ((l0_3.length:Int) > 300)) a0_0 l0_1 l0_2 l0_3))) = some r:=h;clear h;have HC2:=AM H;clear H;go_enter Tryd.func42,Tryd.ntmps42;go_upto_region 1 with (first | ((with_reducible refine gate_dst (N:=1) rfl ?_);refine boxE 1 #[.int .i64 a0_0,.slice A0_1 l0_1.length c0_1,.slice A0_2 l0_2.length c0_2,.slice A0_3 l0_3.length c0_3] 53 ?_;intro gb103 hg w3 hbox hb;have BK103:=AM (hbox);have GW103:=GW HB hg;have GE103:=GW HB hg;replace HB:=BS HB hb;clear hb hbox hg))
 (try simp only [Act.put,List.setIfInBounds_toArray,List.set_cons_zero,List.set_cons_succ])
 go_cut [19] (fun v19 wc => ∃ (kq:Nat) (x19_1:Bool),v19 = .bool x19_1∧Aside0 (r08_Great.j0 kq x19_1 a0_0 l0_1 l0_2 l0_3 = some r)∧Aside0 (kq≤k)∧Aside0 (wc.heap[gb103]? = some (.cells #[.int .i64 a0_0,(.slice A0_1 l0_1.length c0_1),(.slice A0_2 l0_2.length c0_2),(.slice A0_3 l0_3.length c0_3)] 53 (0,0)))∧Aside0 (Below w.heap.size w wc))
 case first =>
  have H:=HC2.out;clear HC2;by_cases c4:(l0_1.length:Int) > 100
  ·rw [if_pos c4] at H;have c4b0:decide (100 < (l0_1.length:Int)) = true:=decide_eq_true c4;have c4b1:decide (100 < l0_1.length) = true:=decide_eq_true (by omega);clear c4;(first | rw [c4b0] | (simp only [i64_w,i32_w];rw [c4b0]) | skip)
   have H':=AM H;clear H;have hcz5_0:=BC BK103 0 (.int .i64 a0_0) rfl;have hcz5_1:=BC BK103 1 (.slice A0_1 l0_1.length c0_1) rfl;have hcz5_2:=BC BK103 2 (.slice A0_2 l0_2.length c0_2) rfl;have hcz5_3:=BC BK103 3 (.slice A0_3 l0_3.length c0_3) rfl;have hfz5_0:=BF BK103 0;have hfz5_1:=BF BK103 1;have hfz5_2:=BF BK103 2;have hfz5_3:=BF BK103 3;go_wp2
   go_meet
   case rel => exact ⟨_,(true),QD,H',⟨by first | omega | exact Nat.le_refl _⟩,⟨BL BK103⟩,⟨BB HB⟩⟩
  ·rw [if_neg c4] at H;have c4b0:decide (100 < (l0_1.length:Int)) = false:=decide_eq_false c4;have c4b1:decide (100 < l0_1.length) = false:=decide_eq_false (by omega);clear c4;(first | rw [c4b0] | (simp only [i64_w,i32_w];rw [c4b0]) | skip)
   by_cases c6:(l0_2.length:Int) > 100
   ·rw [if_pos c6] at H;have c6b0:decide (100 < (l0_2.length:Int)) = true:=decide_eq_true c6;have c6b1:decide (100 < l0_2.length) = true:=decide_eq_true (by omega);clear c6;have H':=AM H;clear H;have hcz7_0:=BC BK103 0 (.int .i64 a0_0) rfl;have hcz7_1:=BC BK103 1 (.slice A0_1 l0_1.length c0_1) rfl;have hcz7_2:=BC BK103 2 (.slice A0_2 l0_2.length c0_2) rfl;have hcz7_3:=BC BK103 3 (.slice A0_3 l0_3.length c0_3) rfl;have hfz7_0:=BF BK103 0;have hfz7_1:=BF BK103 1;have hfz7_2:=BF BK103 2;have hfz7_3:=BF BK103 3;go_wp2
    go_meet
    case rel => exact ⟨_,(true),QD,H',⟨by first | omega | exact Nat.le_refl _⟩,⟨BL BK103⟩,⟨BB HB⟩⟩
   ·rw [if_neg c6] at H;have c6b0:decide (100 < (l0_2.length:Int)) = false:=decide_eq_false c6;have c6b1:decide (100 < l0_2.length) = false:=decide_eq_false (by omega);clear c6;have H':=AM H;clear H;have hcz8_0:=BC BK103 0 (.int .i64 a0_0) rfl;have hcz8_1:=BC BK103 1 (.slice A0_1 l0_1.length c0_1) rfl;have hcz8_2:=BC BK103 2 (.slice A0_2 l0_2.length c0_2) rfl;have hcz8_3:=BC BK103 3 (.slice A0_3 l0_3.length c0_3) rfl;have hfz8_0:=BF BK103 0;have hfz8_1:=BF BK103 1;have hfz8_2:=BF BK103 2;have hfz8_3:=BF BK103 3;go_wp2
    go_meet
    case rel => exact ⟨_,(decide ((l0_3.length:Int) > 300)),QD,H',⟨by first | omega | exact Nat.le_refl _⟩,⟨BL BK103⟩,⟨BB HB⟩⟩
 case rest =>
  clear HC2;try clear p2
  try clear c4
  try clear c4b0
  try clear c4b1
  try clear c6
  try clear c6b0
  try clear c6b1
  try clear hcz5_0
  try clear hcz5_1
  try clear hcz5_2
  try clear hcz5_3
  try clear hcz7_0
  try clear hcz7_1
  try clear hcz7_2
  try clear hcz7_3
  try clear hcz8_0
  try clear hcz8_1
  try clear hcz8_2
  try clear hcz8_3
  try clear hfz5_0
  try clear hfz5_1
  try clear hfz5_2
  try clear hfz5_3
  try clear hfz7_0
  try clear hfz7_1
  try clear hfz7_2
  try clear hfz7_3
  try clear hfz8_0
  try clear hfz8_1
  try clear hfz8_2
  try clear hfz8_3
  obtain ⟨kq,x19_1,rfl,HA,HJ1,BK103,HB⟩:=hcut;cases kq with
  | zero => exact absurd HA.out (by simp [r08_Great.j0])
  | succ kj1 =>
   have H:=HA.out;clear HA;simp only [r08_Great.j0] at H;by_cases c9:x19_1 = true
   ·subst c9;have H1:(some true) = some r:=by rw [if_pos rfl] at H;exact H
    clear H;have H:=H1;clear H1;obtain rfl:=Option.some.inj H;go_wp2
    go_ret;exact RT (BB HB)
   ·replace c9:=Bool.eq_false_iff.mpr c9;subst c9;have H1:(r08_Great.l0 kj1 0 a0_0 l0_1 l0_2 l0_3) = some r:=by rw [if_neg (show ¬ (false = true) by decide)] at H;exact H
    clear H;have H:=H1;clear H1;have H':=AM H;clear H;go_wp2
    go_loopg [3] kj1 (fun kq v3 w' => ∃ (x3_2:Int),v3 = .int .i64 x3_2∧Aside0 (r08_Great.l0 kq x3_2 a0_0 l0_1 l0_2 l0_3 = some r)∧Aside0 (kq≤kj1)∧Aside0 (w'.heap[gb103]? = some (.cells #[.int .i64 a0_0,(.slice A0_1 l0_1.length c0_1),(.slice A0_2 l0_2.length c0_2),(.slice A0_3 l0_3.length c0_3)] 53 (0,0)))∧Aside0 (Below w.heap.size w w'))
    case atStart => exact ⟨(0),QD,H',⟨Nat.le_refl _⟩,⟨BL BK103⟩,⟨BB HB⟩⟩
    case round =>
     clear H';try clear p2
     try clear c4
     try clear c4b0
     try clear c4b1
     try clear c6
     try clear c6b0
     try clear c6b1
     try clear c9
     try clear hcz5_0
     try clear hcz5_1
     try clear hcz5_2
     try clear hcz5_3
     try clear hcz7_0
     try clear hcz7_1
     try clear hcz7_2
     try clear hcz7_3
     try clear hcz8_0
     try clear hcz8_1
     try clear hcz8_2
     try clear hcz8_3
     try clear hfz5_0
     try clear hfz5_1
     try clear hfz5_2
     try clear hfz5_3
     try clear hfz7_0
     try clear hfz7_1
     try clear hfz7_2
     try clear hfz7_3
     try clear hfz8_0
     try clear hfz8_1
     try clear hfz8_2
     try clear hfz8_3
     try clear p2
     obtain ⟨x3_2,rfl,HA,HK2,BK103,HB⟩:=hrel;cases gk with
     | zero => exact absurd HA.out (by simp [r08_Great.l0])
     | succ k2 =>
      have H:=HA.out;clear HA;simp only [r08_Great.l0] at H;by_cases c10:x3_2 < (l0_2.length:Int)
      ·rw [if_pos c10] at H;have c10b0:decide (x3_2 < (l0_2.length:Int)) = true:=decide_eq_true c10;clear c10;by_cases c11:0≤x3_2
       ·rw [if_pos c11] at H;have c11b0:decide (0≤x3_2) = true:=decide_eq_true c11;clear c11;by_cases c12:((rdOf ByteArray.empty l0_2 x3_2).size:Int) > 500
        ·rw [if_pos c12] at H;have c12b0:decide (500 < ((rdOf ByteArray.empty l0_2 x3_2).size:Int)) = true:=decide_eq_true c12;have c12b1:decide (500 < (rdOf ByteArray.empty l0_2 x3_2).size) = true:=decide_eq_true (by omega);clear c12;obtain rfl:=Option.some.inj H;have hcz13_0:=BC BK103 0 (.int .i64 a0_0) rfl;have hcz13_1:=BC BK103 1 (.slice A0_1 l0_1.length c0_1) rfl;have hcz13_2:=BC BK103 2 (.slice A0_2 l0_2.length c0_2) rfl;have hcz13_3:=BC BK103 3 (.slice A0_3 l0_3.length c0_3) rfl;have hfz13_0:=BF BK103 0;have hfz13_1:=BF BK103 1;have hfz13_2:=BF BK103 2;have hfz13_3:=BF BK103 3;have p104:0≤(x3_2:Int):=OD;have q104:x3_2 < (l0_2.length:Int):=OD;obtain ⟨ad104,e104,hx104_0⟩:=Kd.at_string HR0_2.out x3_2 p104 q104;cases e104
         replace hx104_0:=CL HB hx104_0;replace p104:=eq_true p104;replace q104:=eq_true q104;go_wp2
         go_ret;exact RT (BB HB)
        ·rw [if_neg c12] at H;have c12b0:decide (500 < ((rdOf ByteArray.empty l0_2 x3_2).size:Int)) = false:=decide_eq_false c12;have c12b1:decide (500 < (rdOf ByteArray.empty l0_2 x3_2).size) = false:=decide_eq_false (by omega);clear c12;have H':=AM H;clear H;have hcz14_0:=BC BK103 0 (.int .i64 a0_0) rfl;have hcz14_1:=BC BK103 1 (.slice A0_1 l0_1.length c0_1) rfl;have hcz14_2:=BC BK103 2 (.slice A0_2 l0_2.length c0_2) rfl;have hcz14_3:=BC BK103 3 (.slice A0_3 l0_3.length c0_3) rfl;have hfz14_0:=BF BK103 0;have hfz14_1:=BF BK103 1;have hfz14_2:=BF BK103 2;have hfz14_3:=BF BK103 3;have p104:0≤(x3_2:Int):=OD;have q104:x3_2 < (l0_2.length:Int):=OD;obtain ⟨ad104,e104,hx104_0⟩:=Kd.at_string HR0_2.out x3_2 p104 q104;cases e104
         replace hx104_0:=CL HB hx104_0;replace p104:=eq_true p104;replace q104:=eq_true q104;go_wp2
         go_roundg k2
         case measure => have:=HJ1.out;have:=HK2.out;omega
         case rel => exact ⟨(wrap64 (x3_2+1)),QD,H',⟨by have:=HJ1.out;have:=HK2.out;omega⟩,⟨BL BK103⟩,⟨BB HB⟩⟩
       ·rw [if_neg c11] at H;exact absurd H (by simp)
      ·rw [if_neg c10] at H;have c10b0:decide (x3_2 < (l0_2.length:Int)) = false:=decide_eq_false c10;clear c10;obtain rfl:=Option.some.inj H;have hcz15_0:=BC BK103 0 (.int .i64 a0_0) rfl;have hcz15_1:=BC BK103 1 (.slice A0_1 l0_1.length c0_1) rfl;have hcz15_2:=BC BK103 2 (.slice A0_2 l0_2.length c0_2) rfl;have hcz15_3:=BC BK103 3 (.slice A0_3 l0_3.length c0_3) rfl;have hfz15_0:=BF BK103 0;have hfz15_1:=BF BK103 1;have hfz15_2:=BF BK103 2;have hfz15_3:=BF BK103 3;go_wp2
       go_ret;exact RT (BB HB)
mutual
def r09_Great.j0:Nat→Bool→List (S53)→Int→Option (Bool)
 | 0,_,_,_ => none
 | k+1,x12,x106000,x106001 => if x12 = true then (some true) else (r09_Great.l0 k 0 x106000 x106001)
def r09_Great.l0:Nat→Int→List (S53)→Int→Option (Bool)
 | 0,_,_,_ => none
 | k+1,x3,x106000,x106001 => if x3 < (x106000.length:Int) then (if 0≤x3 then ((r08_Great.f k ((rd_T53 x106000 x3).f0) ((rd_T53 x106000 x3).f1) ((rd_T53 x106000 x3).f2) ((rd_T53 x106000 x3).f3)).bind fun t108 => (if t108 = true then (some true) else (r09_Great.l0 k (wrap64 (x3+1)) x106000 x106001))) else (none)) else (some false)
end
def r09_Great.f (k:Nat) (l0_0:List (S53)) (a0_1:Int):Option (Bool):=if (l0_0.length:Int) > 60 then (r09_Great.j0 k true l0_0 a0_1) else ((r09_Edges.f k l0_0 a0_1).bind fun t106 => (r09_Great.j0 k (decide (t106 > 300)) l0_0 a0_1))
theorem r09_Great.calls (k:Nat) (A0_0:Option Addr) (c0_0:Nat) (l0_0:List (S53)) (a0_1:Int) (r:Bool) (w:World) (hr0_0:Kd.C k53 w A0_0 l0_0.length l0_0) (hc0_0:l0_0.length≤c0_0) (h:r09_Great.f k l0_0 a0_1 = some r) :
  Calls Tryd.prog 14 #[.agg #[.slice A0_0 l0_0.length c0_0,.int .i64 a0_1]] w fun e w' => e = .returned (.bool r)∧Below w.heap.size w w':=by
 have hu24:=Tryd.underlying24;have hu53:=Tryd.underlying53;have HR0_0:=AM hr0_0;have HC0_0:=AM hc0_0;clear hr0_0 hc0_0;have HB:=AM (Below.refl w.heap.size w);have H:(if (l0_0.length:Int) > 60 then (r09_Great.j0 k true l0_0 a0_1) else ((r09_Edges.f k l0_0 a0_1).bind fun t106 => (r09_Great.j0 k (decide (t106 > 300)) l0_0 a0_1))) = some r:=h;clear h;have HC2:=AM H;clear H;go_enter Tryd.func14,Tryd.ntmps14;go_upto_region 1 with (first | ((with_reducible refine gate_dst (N:=1) rfl ?_);refine boxE 1 #[.slice A0_0 l0_0.length c0_0,.int .i64 a0_1] 24 ?_;intro gb105 hg w3 hbox hb;have BK105:=AM (hbox);have GW105:=GW HB hg;have GE105:=GW HB hg;replace HB:=BS HB hb;clear hb hbox hg))
 (try simp only [Act.put,List.setIfInBounds_toArray,List.set_cons_zero,List.set_cons_succ])
 go_cut [12] (fun v12 wc => ∃ (kq:Nat) (x12_1:Bool),v12 = .bool x12_1∧Aside0 (r09_Great.j0 kq x12_1 l0_0 a0_1 = some r)∧Aside0 (kq≤k)∧Aside0 (wc.heap[gb105]? = some (.cells #[(.slice A0_0 l0_0.length c0_0),.int .i64 a0_1] 24 (0,0)))∧Aside0 (Below w.heap.size w wc))
 case first =>
  have H:=HC2.out;clear HC2;by_cases c4:(l0_0.length:Int) > 60
  ·rw [if_pos c4] at H;have c4b0:decide (60 < (l0_0.length:Int)) = true:=decide_eq_true c4;have c4b1:decide (60 < l0_0.length) = true:=decide_eq_true (by omega);clear c4;(first | rw [c4b0] | (simp only [i64_w,i32_w];rw [c4b0]) | skip)
   have H':=AM H;clear H;have hcz5_0:=BC BK105 0 (.slice A0_0 l0_0.length c0_0) rfl;have hcz5_1:=BC BK105 1 (.int .i64 a0_1) rfl;have hfz5_0:=BF BK105 0;have hfz5_1:=BF BK105 1;go_wp2
   go_meet
   case rel => exact ⟨_,(true),QD,H',⟨by first | omega | exact Nat.le_refl _⟩,⟨BL BK105⟩,⟨BB HB⟩⟩
  ·rw [if_neg c4] at H;have c4b0:decide (60 < (l0_0.length:Int)) = false:=decide_eq_false c4;have c4b1:decide (60 < l0_0.length) = false:=decide_eq_false (by omega);clear c4;(first | rw [c4b0] | (simp only [i64_w,i32_w];rw [c4b0]) | skip)
   replace H:=Option.bind_eq_some_iff.mp H;obtain ⟨t106,A60,H⟩:=H;replace H:(r09_Great.j0 k (decide (t106 > 300)) l0_0 a0_1) = some r:=H;have A6:=AM A60;clear A60;have H':=AM H;clear H;have hcz7_0:=BC BK105 0 (.slice A0_0 l0_0.length c0_0) rfl;have hcz7_1:=BC BK105 1 (.int .i64 a0_1) rfl;have hfz7_0:=BF BK105 0;have hfz7_1:=BF BK105 1;go_wp2_with (first | (go_at_call 41;(with_reducible refine (r09_Edges.calls k _ _ l0_0 a0_1 t106 _ ?side1 ?side2 A6.out).mono ?_);(case side1 => exact Kd.C_below HR0_0.out (BB HB));(case side2 => exact HC0_0.out);rintro e w8 ⟨rfl,hb⟩;replace BK105:=BE BK105 hb;replace HB:=BS HB hb;(try clear hb);(try clear hb2);(try clear hk);(try clear hi)))
   go_meet
   case rel => exact ⟨_,(decide (t106 > 300)),QD,H',⟨by first | omega | exact Nat.le_refl _⟩,⟨BL BK105⟩,⟨BB HB⟩⟩
 case rest =>
  clear HC2;try clear c1
  try clear p2
  try clear c4
  try clear c4b0
  try clear c4b1
  try clear hcz5_0
  try clear hcz5_1
  try clear hcz7_0
  try clear hcz7_1
  try clear hfz5_0
  try clear hfz5_1
  try clear hfz7_0
  try clear hfz7_1
  obtain ⟨kq,x12_1,rfl,HA,HJ1,BK105,HB⟩:=hcut;cases kq with
  | zero => exact absurd HA.out (by simp [r09_Great.j0])
  | succ kj1 =>
   have H:=HA.out;clear HA;simp only [r09_Great.j0] at H;by_cases c9:x12_1 = true
   ·subst c9;have H1:(some true) = some r:=by rw [if_pos rfl] at H;exact H
    clear H;have H:=H1;clear H1;obtain rfl:=Option.some.inj H;go_wp2
    go_ret;exact RT (BB HB)
   ·replace c9:=Bool.eq_false_iff.mpr c9;subst c9;have H1:(r09_Great.l0 kj1 0 l0_0 a0_1) = some r:=by rw [if_neg (show ¬ (false = true) by decide)] at H;exact H
    clear H;have H:=H1;clear H1;have H':=AM H;clear H;go_wp2
    go_loopg [3] kj1 (fun kq v3 w' => ∃ (x3_2:Int),v3 = .int .i64 x3_2∧Aside0 (r09_Great.l0 kq x3_2 l0_0 a0_1 = some r)∧Aside0 (kq≤kj1)∧Aside0 (w'.heap[gb105]? = some (.cells #[(.slice A0_0 l0_0.length c0_0),.int .i64 a0_1] 24 (0,0)))∧Aside0 (Below w.heap.size w w'))
    case atStart => exact ⟨(0),QD,H',⟨Nat.le_refl _⟩,⟨BL BK105⟩,⟨BB HB⟩⟩
    case round =>
     clear H';try clear c1
     try clear p2
     try clear c4
     try clear c4b0
     try clear c4b1
     try clear c9
     try clear hcz5_0
     try clear hcz5_1
     try clear hcz7_0
     try clear hcz7_1
     try clear hfz5_0
     try clear hfz5_1
     try clear hfz7_0
     try clear hfz7_1
     try clear p2
     obtain ⟨x3_2,rfl,HA,HK2,BK105,HB⟩:=hrel;cases gk with
     | zero => exact absurd HA.out (by simp [r09_Great.l0])
     | succ k2 =>
      have H:=HA.out;clear HA;simp only [r09_Great.l0] at H;by_cases c10:x3_2 < (l0_0.length:Int)
      ·rw [if_pos c10] at H;have c10b0:decide (x3_2 < (l0_0.length:Int)) = true:=decide_eq_true c10;clear c10;by_cases c11:0≤x3_2
       ·rw [if_pos c11] at H;have c11b0:decide (0≤x3_2) = true:=decide_eq_true c11;clear c11;replace H:=Option.bind_eq_some_iff.mp H;obtain ⟨t108,A120,H⟩:=H;replace H:(if t108 = true then (some true) else (r09_Great.l0 k2 (wrap64 (x3_2+1)) l0_0 a0_1)) = some r:=H;have A12:=AM A120;clear A120;by_cases c13:t108 = true
        ·subst c13;have H1:(some true) = some r:=by rw [if_pos rfl] at H;exact H
         clear H;have H:=H1;clear H1;obtain rfl:=Option.some.inj H;have hcz14_0:=BC BK105 0 (.slice A0_0 l0_0.length c0_0) rfl;have hcz14_1:=BC BK105 1 (.int .i64 a0_1) rfl;have hfz14_0:=BF BK105 0;have hfz14_1:=BF BK105 1;have p107:0≤(x3_2:Int):=OD;have q107:x3_2 < (l0_0.length:Int):=OD;obtain ⟨ad107,A107_1,c107_1,A107_2,c107_2,A107_3,c107_3,e107,hx107_0,hx107_1,hx107_2,hx107_3,hl107_1,hi107_1,hl107_2,hi107_2,hl107_3,hi107_3⟩:=at_T53 HR0_0.out x3_2 p107 q107;cases e107
         replace hx107_0:=CL HB hx107_0;replace hx107_1:=CL HB hx107_1;replace hx107_2:=CL HB hx107_2;replace hx107_3:=CL HB hx107_3;have HR107_1:=AM hi107_1;have HC107_1:=AM hl107_1;clear hi107_1 hl107_1;have HR107_2:=AM hi107_2;have HC107_2:=AM hl107_2;clear hi107_2 hl107_2;have HR107_3:=AM hi107_3;have HC107_3:=AM hl107_3;clear hi107_3 hl107_3;replace p107:=eq_true p107;replace q107:=eq_true q107;go_wp2_with (first | ((with_reducible refine gate_callee (f:=42) rfl ?_);refine goesM_ (some 25) rfl rfl Tryd.func42 #[.agg #[.int .i64 ((rd_T53 l0_0 x3_2).f0),.slice A107_1 ((rd_T53 l0_0 x3_2).f1).length c107_1,.slice A107_2 ((rd_T53 l0_0 x3_2).f2).length c107_2,.slice A107_3 ((rd_T53 l0_0 x3_2).f3).length c107_3]] rfl ?_;(with_reducible refine (r08_Great.calls k2 ((rd_T53 l0_0 x3_2).f0) _ _ ((rd_T53 l0_0 x3_2).f1) _ _ ((rd_T53 l0_0 x3_2).f2) _ _ ((rd_T53 l0_0 x3_2).f3) true _ ?side1 ?side2 ?side3 ?side4 ?side5 ?side6 A12.out).mono ?_);(case side1 => exact Kd.C_below HR107_1.out (BB HB));(case side2 => exact HC107_1.out);(case side3 => exact Kd.C_below HR107_2.out (BB HB));(case side4 => exact HC107_2.out);(case side5 => exact Kd.C_below HR107_3.out (BB HB));(case side6 => exact HC107_3.out);rintro e w15 ⟨rfl,hb⟩;refine ⟨_,rfl,?_⟩;replace BK105:=BE BK105 hb;replace HB:=BS HB hb;(try clear hb);(try clear hb2);(try clear hk);(try clear hi)))
         go_ret;exact RT (BB HB)
        ·replace c13:=Bool.eq_false_iff.mpr c13;subst c13;have H1:(r09_Great.l0 k2 (wrap64 (x3_2+1)) l0_0 a0_1) = some r:=by rw [if_neg (show ¬ (false = true) by decide)] at H;exact H
         clear H;have H:=H1;clear H1;have H':=AM H;clear H;have hcz16_0:=BC BK105 0 (.slice A0_0 l0_0.length c0_0) rfl;have hcz16_1:=BC BK105 1 (.int .i64 a0_1) rfl;have hfz16_0:=BF BK105 0;have hfz16_1:=BF BK105 1;have p107:0≤(x3_2:Int):=OD;have q107:x3_2 < (l0_0.length:Int):=OD;obtain ⟨ad107,A107_1,c107_1,A107_2,c107_2,A107_3,c107_3,e107,hx107_0,hx107_1,hx107_2,hx107_3,hl107_1,hi107_1,hl107_2,hi107_2,hl107_3,hi107_3⟩:=at_T53 HR0_0.out x3_2 p107 q107;cases e107
         replace hx107_0:=CL HB hx107_0;replace hx107_1:=CL HB hx107_1;replace hx107_2:=CL HB hx107_2;replace hx107_3:=CL HB hx107_3;have HR107_1:=AM hi107_1;have HC107_1:=AM hl107_1;clear hi107_1 hl107_1;have HR107_2:=AM hi107_2;have HC107_2:=AM hl107_2;clear hi107_2 hl107_2;have HR107_3:=AM hi107_3;have HC107_3:=AM hl107_3;clear hi107_3 hl107_3;replace p107:=eq_true p107;replace q107:=eq_true q107;go_wp2_with (first | ((with_reducible refine gate_callee (f:=42) rfl ?_);refine goesM_ (some 25) rfl rfl Tryd.func42 #[.agg #[.int .i64 ((rd_T53 l0_0 x3_2).f0),.slice A107_1 ((rd_T53 l0_0 x3_2).f1).length c107_1,.slice A107_2 ((rd_T53 l0_0 x3_2).f2).length c107_2,.slice A107_3 ((rd_T53 l0_0 x3_2).f3).length c107_3]] rfl ?_;(with_reducible refine (r08_Great.calls k2 ((rd_T53 l0_0 x3_2).f0) _ _ ((rd_T53 l0_0 x3_2).f1) _ _ ((rd_T53 l0_0 x3_2).f2) _ _ ((rd_T53 l0_0 x3_2).f3) false _ ?side1 ?side2 ?side3 ?side4 ?side5 ?side6 A12.out).mono ?_);(case side1 => exact Kd.C_below HR107_1.out (BB HB));(case side2 => exact HC107_1.out);(case side3 => exact Kd.C_below HR107_2.out (BB HB));(case side4 => exact HC107_2.out);(case side5 => exact Kd.C_below HR107_3.out (BB HB));(case side6 => exact HC107_3.out);rintro e w17 ⟨rfl,hb⟩;refine ⟨_,rfl,?_⟩;replace BK105:=BE BK105 hb;replace HB:=BS HB hb;(try clear hb);(try clear hb2);(try clear hk);(try clear hi)))
         go_roundg k2
         case measure => have:=HJ1.out;have:=HK2.out;omega
         case rel => exact ⟨(wrap64 (x3_2+1)),QD,H',⟨by have:=HJ1.out;have:=HK2.out;omega⟩,⟨BL BK105⟩,⟨BB HB⟩⟩
       ·rw [if_neg c11] at H;exact absurd H (by simp)
      ·rw [if_neg c10] at H;have c10b0:decide (x3_2 < (l0_0.length:Int)) = false:=decide_eq_false c10;clear c10;obtain rfl:=Option.some.inj H;have hcz18_0:=BC BK105 0 (.slice A0_0 l0_0.length c0_0) rfl;have hcz18_1:=BC BK105 1 (.int .i64 a0_1) rfl;have hfz18_0:=BF BK105 0;have hfz18_1:=BF BK105 1;go_wp2
       go_ret;exact RT (BB HB)
end Go.Proofs.YtcphcaiiofeflaaDoor.GO
