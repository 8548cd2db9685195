
import Derived.Test.YtoigkneoaemcfaaDoorNoM2
namespace Go.Proofs.YtoigkneoaemcfaaDoor.GN
open Go.RowKit Go.Proofs.YtoigkneoaemcfaaDoorW.PrintWords Go.Proofs.YtoigkneoaemcfaaDoorW.PrintLast Go.Proofs.YtoigkneoaemcfaaDoorW.PrintMore
attribute [local go_sem] max2_int min2_int max_two min_two max_three min_three max_four min_four
set_option maxHeartbeats 8000000
set_option maxRecDepth 100000
set_option linter.unusedVariables false
set_option linter.unusedSimpArgs false
def limit_Within.f (a0_0:Int) (a0_1:Int) (a0_2:Int) (a0_3:Int) (a0_4:Int) (a1_0:Int) (a1_1:Int) (a1_2:Int) (a1_3:Int) (a1_4:Int):Option Bool:=some (LimW.wB a0_0 a0_1 a0_2 a0_3 a0_4 a1_0 a1_1 a1_2 a1_3 a1_4)
theorem limit_Within.calls (a0_0:Int) (a0_1:Int) (a0_2:Int) (a0_3:Int) (a0_4:Int) (a1_0:Int) (a1_1:Int) (a1_2:Int) (a1_3:Int) (a1_4:Int) (r:Bool) (w:World) (h:limit_Within.f a0_0 a0_1 a0_2 a0_3 a0_4 a1_0 a1_1 a1_2 a1_3 a1_4 = some r) :
  Calls Tryd.prog 43 #[.agg #[.int .i64 a0_0,.int .i64 a0_1,.int .i64 a0_2,.int .i64 a0_3,.int .i64 a0_4],.agg #[.int .i64 a1_0,.int .i64 a1_1,.int .i64 a1_2,.int .i64 a1_3,.int .i64 a1_4]] w fun e w' => e = .returned (.bool r)∧Below w.heap.size w w':=by
 obtain rfl:=Option.some.inj h;exact LimW.within_calls a0_0 a0_1 a0_2 a0_3 a0_4 a1_0 a1_1 a1_2 a1_3 a1_4 w
def limit_Right.f (a0_0:Int) (a0_1:Int) (a0_2:Int) (a0_3:Int) (a0_4:Int):Option (Bool):=(limit_Within.f a0_0 a0_1 a0_2 a0_3 a0_4 16777216 16777216 16777216 16777216 16777216).bind fun t102 => (if t102 = true then ((limit_Within.f 0 0 0 0 0 a0_0 a0_1 a0_2 a0_3 a0_4).bind fun t103 => (some t103)) else (some false))
theorem limit_Right.calls (a0_0:Int) (a0_1:Int) (a0_2:Int) (a0_3:Int) (a0_4:Int) (r:Bool) (w:World) (h:limit_Right.f a0_0 a0_1 a0_2 a0_3 a0_4 = some r) :
  Calls Tryd.prog 30 #[.agg #[.int .i64 a0_0,.int .i64 a0_1,.int .i64 a0_2,.int .i64 a0_3,.int .i64 a0_4]] w fun e w' => e = .returned (.bool r)∧Below w.heap.size w w':=by
 have hu23:=Tryd.underlying23;have HB:=AM (Below.refl w.heap.size w);have H:((limit_Within.f a0_0 a0_1 a0_2 a0_3 a0_4 16777216 16777216 16777216 16777216 16777216).bind fun t102 => (if t102 = true then ((limit_Within.f 0 0 0 0 0 a0_0 a0_1 a0_2 a0_3 a0_4).bind fun t103 => (some t103)) else (some false))) = some r:=h;clear h;replace H:=Option.bind_eq_some_iff.mp H;obtain ⟨t102,A20,H⟩:=H;replace H:(if t102 = true then ((limit_Within.f 0 0 0 0 0 a0_0 a0_1 a0_2 a0_3 a0_4).bind fun t103 => (some t103)) else (some false)) = some r:=H;have A2:=AM A20;clear A20;by_cases c3:t102 = true
 ·subst c3;have H1:((limit_Within.f 0 0 0 0 0 a0_0 a0_1 a0_2 a0_3 a0_4).bind fun t103 => (some t103)) = some r:=by rw [if_pos rfl] at H;exact H
  clear H;have H:=H1;clear H1;replace H:=Option.bind_eq_some_iff.mp H;obtain ⟨t103,A40,H⟩:=H;replace H:(some t103) = some r:=H;have A4:=AM A40;clear A40;obtain rfl:=Option.some.inj H;go_enter Tryd.func30,Tryd.ntmps30;go_wp2_with (first | ((with_reducible refine gate_dst (N:=1) rfl ?_);refine boxE 1 #[.int .i64 a0_0,.int .i64 a0_1,.int .i64 a0_2,.int .i64 a0_3,.int .i64 a0_4] 23 ?_;intro gb101 hg w5 hbox hb;have BK101:=AM (hbox);have GW101:=GW HB hg;have GE101:=GW HB hg;replace HB:=BS HB hb;clear hb hbox hg;have hcz6_0:=BC BK101 0 (.int .i64 a0_0) rfl;have hcz6_1:=BC BK101 1 (.int .i64 a0_1) rfl;have hcz6_2:=BC BK101 2 (.int .i64 a0_2) rfl;have hcz6_3:=BC BK101 3 (.int .i64 a0_3) rfl;have hcz6_4:=BC BK101 4 (.int .i64 a0_4) rfl;have hfz6_0:=BF BK101 0;have hfz6_1:=BF BK101 1;have hfz6_2:=BF BK101 2;have hfz6_3:=BF BK101 3;have hfz6_4:=BF BK101 4) | ((with_reducible refine gate_callee (f:=43) rfl ?_);refine goesM_ (some 5) rfl rfl Tryd.func43 #[.agg #[.int .i64 a0_0,.int .i64 a0_1,.int .i64 a0_2,.int .i64 a0_3,.int .i64 a0_4],.agg #[.int .i64 16777216,.int .i64 16777216,.int .i64 16777216,.int .i64 16777216,.int .i64 16777216]] rfl ?_;(with_reducible refine (limit_Within.calls a0_0 a0_1 a0_2 a0_3 a0_4 16777216 16777216 16777216 16777216 16777216 true _ A2.out).mono ?_);rintro e w7 ⟨rfl,hb⟩;refine ⟨_,rfl,?_⟩;replace BK101:=BE BK101 hb;replace HB:=BS HB hb;(try clear hb);(try clear hb2);(try clear hk);(try clear hi);have hcz8_0:=BC BK101 0 (.int .i64 a0_0) rfl;have hcz8_1:=BC BK101 1 (.int .i64 a0_1) rfl;have hcz8_2:=BC BK101 2 (.int .i64 a0_2) rfl;have hcz8_3:=BC BK101 3 (.int .i64 a0_3) rfl;have hcz8_4:=BC BK101 4 (.int .i64 a0_4) rfl;have hfz8_0:=BF BK101 0;have hfz8_1:=BF BK101 1;have hfz8_2:=BF BK101 2;have hfz8_3:=BF BK101 3;have hfz8_4:=BF BK101 4) | (go_at_call 43;(with_reducible refine (limit_Within.calls 0 0 0 0 0 a0_0 a0_1 a0_2 a0_3 a0_4 t103 _ A4.out).mono ?_);rintro e w9 ⟨rfl,hb⟩;replace BK101:=BE BK101 hb;replace HB:=BS HB hb;(try clear hb);(try clear hb2);(try clear hk);(try clear hi)))
  go_ret;exact RT (BB HB)
 ·replace c3:=Bool.eq_false_iff.mpr c3;subst c3;have H1:(some false) = some r:=by rw [if_neg (show ¬ (false = true) by decide)] at H;exact H
  clear H;have H:=H1;clear H1;obtain rfl:=Option.some.inj H;go_enter Tryd.func30,Tryd.ntmps30;go_wp2_with (first | ((with_reducible refine gate_dst (N:=1) rfl ?_);refine boxE 1 #[.int .i64 a0_0,.int .i64 a0_1,.int .i64 a0_2,.int .i64 a0_3,.int .i64 a0_4] 23 ?_;intro gb101 hg w10 hbox hb;have BK101:=AM (hbox);have GW101:=GW HB hg;have GE101:=GW HB hg;replace HB:=BS HB hb;clear hb hbox hg;have hcz11_0:=BC BK101 0 (.int .i64 a0_0) rfl;have hcz11_1:=BC BK101 1 (.int .i64 a0_1) rfl;have hcz11_2:=BC BK101 2 (.int .i64 a0_2) rfl;have hcz11_3:=BC BK101 3 (.int .i64 a0_3) rfl;have hcz11_4:=BC BK101 4 (.int .i64 a0_4) rfl;have hfz11_0:=BF BK101 0;have hfz11_1:=BF BK101 1;have hfz11_2:=BF BK101 2;have hfz11_3:=BF BK101 3;have hfz11_4:=BF BK101 4) | ((with_reducible refine gate_callee (f:=43) rfl ?_);refine goesM_ (some 5) rfl rfl Tryd.func43 #[.agg #[.int .i64 a0_0,.int .i64 a0_1,.int .i64 a0_2,.int .i64 a0_3,.int .i64 a0_4],.agg #[.int .i64 16777216,.int .i64 16777216,.int .i64 16777216,.int .i64 16777216,.int .i64 16777216]] rfl ?_;(with_reducible refine (limit_Within.calls a0_0 a0_1 a0_2 a0_3 a0_4 16777216 16777216 16777216 16777216 16777216 false _ A2.out).mono ?_);rintro e w12 ⟨rfl,hb⟩;refine ⟨_,rfl,?_⟩;replace BK101:=BE BK101 hb;replace HB:=BS HB hb;(try clear hb);(try clear hb2);(try clear hk);(try clear hi)))
  go_ret;exact RT (BB HB)
mutual
def varint_Get.j0:Nat→ByteArray→Int→Bool→Option (Int × Int × Int)
 | 0,_,_,_ => none
 | k+1,x0,x1,x17 => if x17 = true then (some (0,0,1)) else (varint_Get.l0 k x0 x1 0 0)
def varint_Get.l0:Nat→ByteArray→Int→Int→Int→Option (Int × Int × Int)
 | 0,_,_,_,_ => none
 | k+1,x0,x1,x7,x8 => if (wrap64 (x1+x8)) ≥ (x0.size:Int) then (some (0,0,2)) else (if 0≤(wrap64 (x1+x8)) then (if (wrap64 (x1+x8)) < (x0.size:Int) then (if x8 = 9 then (if (bt x0 (wrap64 (x1+x8))) > 1 then (varint_Get.j2 k x0 x1 x7 x8 (bt x0 (wrap64 (x1+x8))) true) else (if (bt x0 (wrap64 (x1+x8))) = 0 then (varint_Get.j2 k x0 x1 x7 x8 (bt x0 (wrap64 (x1+x8))) (decide (x8 > 0))) else (varint_Get.j2 k x0 x1 x7 x8 (bt x0 (wrap64 (x1+x8))) false))) else (if (bt x0 (wrap64 (x1+x8))) = 0 then (varint_Get.j2 k x0 x1 x7 x8 (bt x0 (wrap64 (x1+x8))) (decide (x8 > 0))) else (varint_Get.j2 k x0 x1 x7 x8 (bt x0 (wrap64 (x1+x8))) false))) else (none)) else (none))
def varint_Get.j2:Nat→ByteArray→Int→Int→Int→Int→Bool→Option (Int × Int × Int)
 | 0,_,_,_,_,_,_ => none
 | k+1,x0,x1,x7,x8,x9,x44 => if x44 = true then (some (0,0,3)) else (if 0≤(wrap64 (7 * x8)) then (if x9 < 128 then (some (Go.bits .or .u64 x7 (shl .u64 (IntKind.u64.wrap (Go.bits .and .u8 x9 127)) (wrap64 (7 * x8))),wrap64 ((wrap64 (x1+x8))+1),0)) else (varint_Get.l0 k x0 x1 (Go.bits .or .u64 x7 (shl .u64 (IntKind.u64.wrap (Go.bits .and .u8 x9 127)) (wrap64 (7 * x8)))) (wrap64 (x8+1)))) else (none))
end
def varint_Get.f (k:Nat) (a0:ByteArray) (a1:Int):Option (Int × Int × Int):=if a1 < 0 then (varint_Get.j0 k a0 a1 true) else (varint_Get.j0 k a0 a1 (decide (a1 > (a0.size:Int))))
theorem varint_Get.mono_l:∀ k,(∀ y0 y1 y2,LeO (varint_Get.j0 k y0 y1 y2) (varint_Get.j0 (k+1) y0 y1 y2))∧(∀ y0 y1 y2 y3,LeO (varint_Get.l0 k y0 y1 y2 y3) (varint_Get.l0 (k+1) y0 y1 y2 y3))∧(∀ y0 y1 y2 y3 y4 y5,LeO (varint_Get.j2 k y0 y1 y2 y3 y4 y5) (varint_Get.j2 (k+1) y0 y1 y2 y3 y4 y5))
 | 0 => ⟨fun _ _ _ r h => by simp [varint_Get.j0] at h,fun _ _ _ _ r h => by simp [varint_Get.l0] at h,fun _ _ _ _ _ _ r h => by simp [varint_Get.j2] at h⟩
 | k+1 => by
  obtain ⟨ih0,ih1,ih2⟩:=varint_Get.mono_l k;refine ⟨?_,?_,?_⟩
  ·intro y0 y1 y2;unfold varint_Get.j0
   repeat' first
   | (with_reducible exact ih0 _ _ _)
   | (with_reducible exact ih1 _ _ _ _)
   | (with_reducible exact ih2 _ _ _ _ _ _)
   | (with_reducible exact LeO.refl _)
   | (with_reducible exact LeO.none _)
   | (with_reducible refine LeO.ite ?_ ?_)
   | (with_reducible refine LeO.bind ?_ (fun _ => ?_))
   | exact ih0 _ _ _
   | exact ih1 _ _ _ _
   | exact ih2 _ _ _ _ _ _
   | exact LeO.none _
   | refine LeO.ite ?_ ?_
   | refine LeO.bind ?_ (fun _ => ?_)
  ·intro y0 y1 y2 y3;unfold varint_Get.l0
   repeat' first
   | (with_reducible exact ih0 _ _ _)
   | (with_reducible exact ih1 _ _ _ _)
   | (with_reducible exact ih2 _ _ _ _ _ _)
   | (with_reducible exact LeO.refl _)
   | (with_reducible exact LeO.none _)
   | (with_reducible refine LeO.ite ?_ ?_)
   | (with_reducible refine LeO.bind ?_ (fun _ => ?_))
   | exact ih0 _ _ _
   | exact ih1 _ _ _ _
   | exact ih2 _ _ _ _ _ _
   | exact LeO.none _
   | refine LeO.ite ?_ ?_
   | refine LeO.bind ?_ (fun _ => ?_)
  ·intro y0 y1 y2 y3 y4 y5;unfold varint_Get.j2
   repeat' first
   | (with_reducible exact ih0 _ _ _)
   | (with_reducible exact ih1 _ _ _ _)
   | (with_reducible exact ih2 _ _ _ _ _ _)
   | (with_reducible exact LeO.refl _)
   | (with_reducible exact LeO.none _)
   | (with_reducible refine LeO.ite ?_ ?_)
   | (with_reducible refine LeO.bind ?_ (fun _ => ?_))
   | exact ih0 _ _ _
   | exact ih1 _ _ _ _
   | exact ih2 _ _ _ _ _ _
   | exact LeO.none _
   | refine LeO.ite ?_ ?_
   | refine LeO.bind ?_ (fun _ => ?_)
theorem varint_Get.calls (k:Nat) (a0:ByteArray) (a1:Int) (r1:Int) (r2:Int) (r3:Int) (w:World) (h:varint_Get.f k a0 a1 = some (r1,r2,r3)) :
  Calls Tryd.prog 101 #[.string a0,.int .i64 a1] w fun e w' => e = .returned (.tuple #[.int .u64 r1,.int .i64 r2,.int .i64 r3])∧Drawn0 w w':=by
 have H:(if a1 < 0 then (varint_Get.j0 k a0 a1 true) else (varint_Get.j0 k a0 a1 (decide (a1 > (a0.size:Int))))) = some (r1,r2,r3):=h;clear h;have HC3:=AM H;clear H;go_enter Tryd.func101,Tryd.ntmps101;go_upto_region 1 with (fail)
 go_cut [17] (fun v17 wc => ∃ (kq:Nat) (x17_2:Bool),v17 = .bool x17_2∧Aside0 (varint_Get.j0 kq a0 a1 x17_2 = some (r1,r2,r3))∧Aside0 (kq≤k)∧Drawn0 w wc)
 case first =>
  have H:=HC3.out;clear HC3;by_cases c4:a1 < 0
  ·rw [if_pos c4] at H;have c4b0:decide (a1 < 0) = true:=decide_eq_true c4;clear c4;(first | rw [c4b0] | (simp only [i64_w,i32_w];rw [c4b0]) | skip)
   have H':=AM H;clear H;go_wp2
   go_meet
   case rel => exact ⟨_,(true),QD,H',⟨by first | omega | exact Nat.le_refl _⟩,DZ⟩
  ·rw [if_neg c4] at H;have c4b0:decide (a1 < 0) = false:=decide_eq_false c4;clear c4;(first | rw [c4b0] | (simp only [i64_w,i32_w];rw [c4b0]) | skip)
   have H':=AM H;clear H;go_wp2
   go_meet
   case rel => exact ⟨_,(decide (a1 > (a0.size:Int))),QD,H',⟨by first | omega | exact Nat.le_refl _⟩,DZ⟩
 case rest =>
  clear HC3;try clear c1
  try clear p2
  try clear c4
  try clear c4b0
  obtain ⟨kq,x17_2,rfl,HA,HJ2,⟨mc2,rfl⟩⟩:=hcut;cases kq with
  | zero => exact absurd HA.out (by simp [varint_Get.j0])
  | succ kj2 =>
   have H:=HA.out;clear HA;simp only [varint_Get.j0] at H;by_cases c5:x17_2 = true
   ·subst c5;have H1:(some (0,0,1)) = some (r1,r2,r3):=by rw [if_pos rfl] at H;exact H
    clear H;have H:=H1;clear H1;simp only [Option.some.injEq,Prod.mk.injEq] at H;obtain ⟨rfl,rfl,rfl⟩:=H;go_wp2
    go_ret3
    exact ⟨QD,DZ⟩
   ·replace c5:=Bool.eq_false_iff.mpr c5;subst c5;have H1:(varint_Get.l0 kj2 a0 a1 0 0) = some (r1,r2,r3):=by rw [if_neg (show ¬ (false = true) by decide)] at H;exact H
    clear H;have H:=H1;clear H1;have H':=AM H;clear H;go_wp2
    go_loopg [7,8] kj2 (fun kq v7 v8 w' => ∃ (x7_2:Int) (x8_2:Int),v7 = .int .u64 x7_2∧v8 = .int .i64 x8_2∧Aside0 (varint_Get.l0 kq a0 a1 x7_2 x8_2 = some (r1,r2,r3))∧Aside0 (kq≤kj2)∧Drawn0 w w')
    case atStart => exact ⟨(0),(0),QD,QD,H',⟨Nat.le_refl _⟩,DZ⟩
    case round =>
     clear H';try clear c1
     try clear c2
     try clear p2
     try clear c4
     try clear c4b0
     try clear c5
     try clear p2
     obtain ⟨x7_2,x8_2,rfl,rfl,HA,HK2,⟨m2,rfl⟩⟩:=hrel;cases gk with
     | zero => exact absurd HA.out (by simp [varint_Get.l0])
     | succ k2 =>
      have H:=HA.out;clear HA;simp only [varint_Get.l0] at H;by_cases c6:(wrap64 (a1+x8_2)) ≥ (a0.size:Int)
      ·rw [if_pos c6] at H;have c6b0:decide ((a0.size:Int)≤(wrap64 (a1+x8_2))) = true:=decide_eq_true c6;clear c6;simp only [Option.some.injEq,Prod.mk.injEq] at H;obtain ⟨rfl,rfl,rfl⟩:=H;go_wp2
       go_ret3
       exact ⟨QD,DZ⟩
      ·rw [if_neg c6] at H;have c6b0:decide ((a0.size:Int)≤(wrap64 (a1+x8_2))) = false:=decide_eq_false c6;clear c6;obtain ⟨ji7,hji7⟩:∃ j_:Int,(wrap64 (a1+x8_2)) = j_:=⟨_,rfl⟩;replace H:(if 0≤(ji7) then (if (ji7) < (a0.size:Int) then (if x8_2 = 9 then (if (bt a0 (ji7)) > 1 then (varint_Get.j2 k2 a0 a1 x7_2 x8_2 (bt a0 (ji7)) true) else (if (bt a0 (ji7)) = 0 then (varint_Get.j2 k2 a0 a1 x7_2 x8_2 (bt a0 (ji7)) (decide (x8_2 > 0))) else (varint_Get.j2 k2 a0 a1 x7_2 x8_2 (bt a0 (ji7)) false))) else (if (bt a0 (ji7)) = 0 then (varint_Get.j2 k2 a0 a1 x7_2 x8_2 (bt a0 (ji7)) (decide (x8_2 > 0))) else (varint_Get.j2 k2 a0 a1 x7_2 x8_2 (bt a0 (ji7)) false))) else (none)) else (none)) = some (r1,r2,r3):=by first | (rw [hji7] at H;exact H) | (simp only [hji7] at H ⊢;exact H)
       (try rw [hji7] at c6b0)
       have hji7w:(IntKind.i64.wrap (a1+x8_2)) = ji7:=(i64_w _).trans hji7;by_cases c8:0≤(ji7)
       ·rw [if_pos c8] at H;have c8b0:decide (0≤(ji7)) = true:=decide_eq_true c8;clear c8;by_cases c9:(ji7) < (a0.size:Int)
        ·rw [if_pos c9] at H;have c9b0:decide ((ji7) < (a0.size:Int)) = true:=decide_eq_true c9;clear c9;have HC11:=AM H;clear H;have p10:0≤((ji7):Int):=OD;have q10:(ji7) < (a0.size:Int):=OD;have hx10:=bt_at a0 (ji7);replace p10:=eq_true p10;replace q10:=eq_true q10;go_upto_region 9 with (fail)
         go_cut [44] (fun v44 wc => ∃ (kq:Nat) (x44_10:Bool),v44 = .bool x44_10∧Aside0 (varint_Get.j2 kq a0 a1 x7_2 x8_2 (bt a0 (ji7)) x44_10 = some (r1,r2,r3))∧Aside0 (kq≤k2)∧Drawn0 w wc)
         case first =>
          have H:=HC11.out;clear HC11;by_cases c12:x8_2 = 9
          ·rw [if_pos c12] at H;have c12b0:(x8_2 == 9) = true:=beq_iff_eq.mpr c12;have c12b1:(x8_2 != 9) = false:=bne_eq_false_iff_eq.mpr c12;clear c12;(first | rw [c12b0] | (simp only [i64_w,i32_w];rw [c12b0]) | skip)
           by_cases c13:(bt a0 (ji7)) > 1
           ·rw [if_pos c13] at H;have c13b0:decide (1 < (bt a0 (ji7))) = true:=decide_eq_true c13;clear c13;have H':=AM H;clear H;go_wp2
            go_meet
            case rel => exact ⟨_,(true),QD,H',⟨by have:=HJ2.out;have:=HK2.out;first | omega | exact Nat.le_refl _⟩,DZ⟩
           ·rw [if_neg c13] at H;have c13b0:decide (1 < (bt a0 (ji7))) = false:=decide_eq_false c13;clear c13;by_cases c14:(bt a0 (ji7)) = 0
            ·rw [if_pos c14] at H;have c14b0:((bt a0 (ji7)) == 0) = true:=beq_iff_eq.mpr c14;have c14b1:((bt a0 (ji7)) != 0) = false:=bne_eq_false_iff_eq.mpr c14;clear c14;have H':=AM H;clear H;go_wp2
             go_meet
             case rel => exact ⟨_,(decide (x8_2 > 0)),QD,H',⟨by have:=HJ2.out;have:=HK2.out;first | omega | exact Nat.le_refl _⟩,DZ⟩
            ·rw [if_neg c14] at H;have c14b0:((bt a0 (ji7)) == 0) = false:=beq_eq_false_iff_ne.mpr c14;have c14b1:((bt a0 (ji7)) != 0) = true:=bne_iff_ne.mpr c14;have H':=AM H;clear H;go_wp2
             go_meet
             case rel => exact ⟨_,(false),QD,H',⟨by have:=HJ2.out;have:=HK2.out;first | omega | exact Nat.le_refl _⟩,DZ⟩
          ·rw [if_neg c12] at H;have c12b0:(x8_2 == 9) = false:=beq_eq_false_iff_ne.mpr c12;have c12b1:(x8_2 != 9) = true:=bne_iff_ne.mpr c12;(first | rw [c12b0] | (simp only [i64_w,i32_w];rw [c12b0]) | skip)
           by_cases c15:(bt a0 (ji7)) = 0
           ·rw [if_pos c15] at H;have c15b0:((bt a0 (ji7)) == 0) = true:=beq_iff_eq.mpr c15;have c15b1:((bt a0 (ji7)) != 0) = false:=bne_eq_false_iff_eq.mpr c15;clear c15;have H':=AM H;clear H;go_wp2
            go_meet
            case rel => exact ⟨_,(decide (x8_2 > 0)),QD,H',⟨by have:=HJ2.out;have:=HK2.out;first | omega | exact Nat.le_refl _⟩,DZ⟩
           ·rw [if_neg c15] at H;have c15b0:((bt a0 (ji7)) == 0) = false:=beq_eq_false_iff_ne.mpr c15;have c15b1:((bt a0 (ji7)) != 0) = true:=bne_iff_ne.mpr c15;have H':=AM H;clear H;go_wp2
            go_meet
            case rel => exact ⟨_,(false),QD,H',⟨by have:=HJ2.out;have:=HK2.out;first | omega | exact Nat.le_refl _⟩,DZ⟩
         case rest =>
          clear HC11;try clear c1
          try clear p1
          try clear q1
          try clear hx1
          try clear c2
          try clear p2
          try clear c4
          try clear c4b0
          try clear c5
          try clear c6
          try clear c6b0
          try clear p6
          try clear c8
          try clear c8b0
          try clear c9
          try clear c9b0
          try clear c10
          try clear p10
          try clear q10
          try clear hx10
          try clear c12
          try clear c12b0
          try clear c12b1
          try clear c13
          try clear c13b0
          try clear c14
          try clear c14b0
          try clear c14b1
          try clear c15
          try clear c15b0
          try clear c15b1
          try clear p10
          try clear p2
          try clear q10
          obtain ⟨kq,x44_10,rfl,HA,HJ10,⟨mc10,rfl⟩⟩:=hcut;cases kq with
          | zero => exact absurd HA.out (by simp [varint_Get.j2])
          | succ kj10 =>
           have H:=HA.out;clear HA;simp only [varint_Get.j2] at H;by_cases c16:x44_10 = true
           ·subst c16;have H1:(some (0,0,3)) = some (r1,r2,r3):=by rw [if_pos rfl] at H;exact H
            clear H;have H:=H1;clear H1;simp only [Option.some.injEq,Prod.mk.injEq] at H;obtain ⟨rfl,rfl,rfl⟩:=H;go_wp2
            go_ret3
            exact ⟨by first | rfl | (simp;done) | (simp only [← hji7] <;> (first | rfl | simp)) | (simp [*];done),DZ⟩
           ·replace c16:=Bool.eq_false_iff.mpr c16;subst c16;have H1:(if 0≤(wrap64 (7 * x8_2)) then (if (bt a0 (ji7)) < 128 then (some (Go.bits .or .u64 x7_2 (shl .u64 (IntKind.u64.wrap (Go.bits .and .u8 (bt a0 (ji7)) 127)) (wrap64 (7 * x8_2))),wrap64 ((wrap64 (a1+x8_2))+1),0)) else (varint_Get.l0 kj10 a0 a1 (Go.bits .or .u64 x7_2 (shl .u64 (IntKind.u64.wrap (Go.bits .and .u8 (bt a0 (ji7)) 127)) (wrap64 (7 * x8_2)))) (wrap64 (x8_2+1)))) else (none)) = some (r1,r2,r3):=by rw [if_neg (show ¬ (false = true) by decide)] at H;exact H
            clear H;have H:=H1;clear H1;obtain ⟨ji17,hji17⟩:∃ j_:Int,(wrap64 (7 * x8_2)) = j_:=⟨_,rfl⟩;replace H:(if 0≤(ji17) then (if (bt a0 (ji7)) < 128 then (some (Go.bits .or .u64 x7_2 (shl .u64 (IntKind.u64.wrap (Go.bits .and .u8 (bt a0 (ji7)) 127)) (ji17)),wrap64 ((wrap64 (a1+x8_2))+1),0)) else (varint_Get.l0 kj10 a0 a1 (Go.bits .or .u64 x7_2 (shl .u64 (IntKind.u64.wrap (Go.bits .and .u8 (bt a0 (ji7)) 127)) (ji17))) (wrap64 (x8_2+1)))) else (none)) = some (r1,r2,r3):=by first | (rw [hji17] at H;exact H) | (simp only [hji17] at H ⊢;exact H)
            have hji17w:(IntKind.i64.wrap (7 * x8_2)) = ji17:=(i64_w _).trans hji17;by_cases c18:0≤(ji17)
            ·rw [if_pos c18] at H;have c18b0:=eq_true c18;have c18b1:decide (0≤(ji17)) = true:=decide_eq_true c18;clear c18;obtain ⟨ji19,hji19⟩:∃ j_:Int,(shl .u64 (IntKind.u64.wrap (Go.bits .and .u8 (bt a0 (ji7)) 127)) (ji17)) = j_:=⟨_,rfl⟩;replace H:(if (bt a0 (ji7)) < 128 then (some (Go.bits .or .u64 x7_2 (ji19),wrap64 ((wrap64 (a1+x8_2))+1),0)) else (varint_Get.l0 kj10 a0 a1 (Go.bits .or .u64 x7_2 (ji19)) (wrap64 (x8_2+1)))) = some (r1,r2,r3):=by first | (rw [hji19] at H;exact H) | (simp only [hji19] at H ⊢;exact H)
             have hji19_:(IntKind.u64.wrap ((IntKind.u64.wrap (Go.bits .and .u8 (bt a0 (ji7)) 127)) * 2 ^ min (ji17).toNat 64)) = ji19:=hji19;have hji19z:(ji17)≤64→(IntKind.u64.wrap ((IntKind.u64.wrap (Go.bits .and .u8 (bt a0 (ji7)) 127)) * 2 ^ (ji17).toNat)) = ji19:=shl_small hji19;by_cases c20:(bt a0 (ji7)) < 128
             ·rw [if_pos c20] at H;have c20b0:decide ((bt a0 (ji7)) < 128) = true:=decide_eq_true c20;clear c20;simp only [Option.some.injEq,Prod.mk.injEq] at H;obtain ⟨rfl,rfl,rfl⟩:=H;go_wp2
              go_ret3
              exact ⟨by first | rfl | (simp;done) | (simp only [← hji7,← hji17,← hji19] <;> (first | rfl | simp)) | (simp [*];done),DZ⟩
             ·rw [if_neg c20] at H;have c20b0:decide ((bt a0 (ji7)) < 128) = false:=decide_eq_false c20;clear c20;have H':=AM H;clear H;go_wp2
              go_roundg kj10
              case measure => have:=HJ2.out;have:=HK2.out;have:=HJ10.out;omega
              case rel => exact ⟨(Go.bits .or .u64 x7_2 (ji19)),(wrap64 (x8_2+1)),(by first | rfl | (simp;done) | (simp only [← hji19] <;> (first | rfl | simp)) | (simp [*];done)),QD,H',⟨by have:=HJ2.out;have:=HK2.out;have:=HJ10.out;omega⟩,DZ⟩
            ·rw [if_neg c18] at H;exact absurd H (by simp)
        ·rw [if_neg c9] at H;exact absurd H (by simp)
       ·rw [if_neg c8] at H;exact absurd H (by simp)
def utf_First.f (a0:ByteArray):Option (Int):=if a0.size≤70368744177664 then some (Go.Proofs.YtoigkneoaemcfaaDoor.U.first a0 (a0.size+1) 0) else none
theorem utf_First.calls (a0:ByteArray) (r:Int) (w:World) (ht_:∀ w',Below w.heap.size w w'→Go.Lib.Utf8Tabs 0 1 w') (h:utf_First.f a0 = some r) :
  Calls Tryd.prog 66 #[.string a0] w fun e w' => e = .returned (.int .i64 r)∧Below w.heap.size w w':=by
 unfold utf_First.f at h
 by_cases hs:a0.size≤70368744177664
 ·rw [if_pos hs] at h;obtain rfl:=Option.some.inj h;exact Go.Proofs.YtoigkneoaemcfaaDoor.U.First_calls a0 w ht_ (by omega)
 ·rw [if_neg hs] at h;cases h
def bits_Mul32.f (a0:Int) (a1:Int):Option (Int × Int):=some (((IntKind.u64.wrap ((IntKind.u64.wrap (a0)) * (IntKind.u64.wrap (a1)))) / 4294967296) % 4294967296,(IntKind.u64.wrap ((IntKind.u64.wrap (a0)) * (IntKind.u64.wrap (a1)))) % 4294967296)
def bits_Mul64.f (a0:Int) (a1:Int):Option (Int × Int):=some (IntKind.u64.wrap ((IntKind.u64.wrap ((IntKind.u64.wrap ((a0 / 4294967296) * (a1 / 4294967296)))+((IntKind.u64.wrap ((IntKind.u64.wrap ((a0 / 4294967296) * (Go.bits .and .u64 a1 4294967295)))+((IntKind.u64.wrap ((Go.bits .and .u64 a0 4294967295) * (Go.bits .and .u64 a1 4294967295))) / 4294967296))) / 4294967296)))+((IntKind.u64.wrap ((Go.bits .and .u64 (IntKind.u64.wrap ((IntKind.u64.wrap ((a0 / 4294967296) * (Go.bits .and .u64 a1 4294967295)))+((IntKind.u64.wrap ((Go.bits .and .u64 a0 4294967295) * (Go.bits .and .u64 a1 4294967295))) / 4294967296))) 4294967295)+(IntKind.u64.wrap ((Go.bits .and .u64 a0 4294967295) * (a1 / 4294967296))))) / 4294967296)),IntKind.u64.wrap (a0 * a1))
theorem bits_Mul64.calls (a0:Int) (a1:Int) (r1:Int) (r2:Int) (w:World) (h:bits_Mul64.f a0 a1 = some (r1,r2)) :
  Calls Tryd.prog 109 #[.int .u64 a0,.int .u64 a1] w fun e w' => e = .returned (.tuple #[.int .u64 r1,.int .u64 r2])∧Drawn0 w w':=by
 have H:(some (IntKind.u64.wrap ((IntKind.u64.wrap ((IntKind.u64.wrap ((a0 / 4294967296) * (a1 / 4294967296)))+((IntKind.u64.wrap ((IntKind.u64.wrap ((a0 / 4294967296) * (Go.bits .and .u64 a1 4294967295)))+((IntKind.u64.wrap ((Go.bits .and .u64 a0 4294967295) * (Go.bits .and .u64 a1 4294967295))) / 4294967296))) / 4294967296)))+((IntKind.u64.wrap ((Go.bits .and .u64 (IntKind.u64.wrap ((IntKind.u64.wrap ((a0 / 4294967296) * (Go.bits .and .u64 a1 4294967295)))+((IntKind.u64.wrap ((Go.bits .and .u64 a0 4294967295) * (Go.bits .and .u64 a1 4294967295))) / 4294967296))) 4294967295)+(IntKind.u64.wrap ((Go.bits .and .u64 a0 4294967295) * (a1 / 4294967296))))) / 4294967296)),IntKind.u64.wrap (a0 * a1))) = some (r1,r2):=h;clear h;simp only [Option.some.injEq,Prod.mk.injEq] at H;obtain ⟨rfl,rfl⟩:=H;go_enter Tryd.func109,Tryd.ntmps109;go_wp2
 go_ret2
 exact ⟨QD,DZ⟩
def bits_Mul.f (a0:Int) (a1:Int):Option (Int × Int):=(bits_Mul64.f a0 a1).bind fun bt104 => (some (bt104.1,bt104.2))
theorem bits_Mul.calls (a0:Int) (a1:Int) (r1:Int) (r2:Int) (w:World) (h:bits_Mul.f a0 a1 = some (r1,r2)) :
  Calls Tryd.prog 107 #[.int .u64 a0,.int .u64 a1] w fun e w' => e = .returned (.tuple #[.int .u64 r1,.int .u64 r2])∧Drawn0 w w':=by
 have H:((bits_Mul64.f a0 a1).bind fun bt104 => (some (bt104.1,bt104.2))) = some (r1,r2):=h;clear h;replace H:=Option.bind_eq_some_iff.mp H;obtain ⟨⟨t104,t105⟩,A30,H⟩:=H;replace H:(some (t104,t105)) = some (r1,r2):=H;have A3:=AM A30;clear A30;simp only [Option.some.injEq,Prod.mk.injEq] at H;obtain ⟨rfl,rfl⟩:=H;go_enter Tryd.func107,Tryd.ntmps107;go_wp2_with (first | ((with_reducible refine gate_callee (f:=109) rfl ?_);refine goesM_ (some 25) rfl rfl Tryd.func109 #[.int .u64 a0,.int .u64 a1] rfl ?_;(with_reducible refine (bits_Mul64.calls a0 a1 t104 t105 _ A3.out).mono ?_);rintro e w' ⟨rfl,⟨nd,rfl⟩⟩;refine ⟨_,rfl,?_⟩))
 go_ret2
 exact ⟨QD,DZ⟩
def Repeat.cur (c:Int) (N k:Nat):List Value:=List.replicate k (.int .i64 c) ++ List.replicate (N - k) (.int .i64 0)
theorem Repeat.cur_len (c:Int) {N k:Nat} (h:k≤N):(Repeat.cur c N k).length = N:=by simp [Repeat.cur];omega
theorem Repeat.cur_splice (c:Int) (N k d:Nat) (h:k+d≤N):Go.splice (Repeat.cur c N k) k (List.replicate d (.int .i64 c)) = Repeat.cur c N (k+d):=by
 unfold Go.splice Repeat.cur
 rw [List.take_append_of_le_length (by simp),List.take_of_length_le (by simp),List.length_replicate,List.drop_append,List.drop_eq_nil_of_le (by simp),List.nil_append,List.drop_replicate,← List.append_assoc,List.replicate_append_replicate,List.length_replicate];congr 2
 omega
theorem Repeat.mk (P:Program) (hu:P.underlying 38 = some (.slice 3)) (hinfo:(P.info? 3).map (fun i => (i.zero,i.size,i.bytes)) = some (some (.int .i64 0),1,8)) (N:Nat) (h:N≤1000) (W:World) :
  (Instr.makeSlice 38 (.int .i64 (N:Int)) (.int .i64 (N:Int))).run P W = .ok (.slice (some ⟨W.heap.size,0,none⟩) N N) (W.alloc (.cells (Array.replicate N (Value.int .i64 0)) 3)):=by
 obtain ⟨i0,hi,hzz⟩:=Option.map_eq_some_iff.1 hinfo;simp only [Prod.mk.injEq] at hzz;obtain ⟨hz0,hz1,hz2⟩:=hzz;have hr:=run_make (P:=P) W 38 3 i0 _ hu hi hz0 .i64 .i64 (N:Int) (N:Int) (by omega) (by omega) (by rw [hz2];omega) (by omega);simp only [Int.toNat_natCast] at hr;rw [hr,hz1];congr 3
 apply Array.ext
 ·simp [madeCells]
 ·intro i h1 h2;simp [madeCells,Value.cells,Nat.mod_one]
theorem Repeat.reps (R:Int→List Value→Prop) (c:Int) (h:R c [.int .i64 c]):∀ N,Reps R 1 (List.replicate N c) (List.replicate N (.int .i64 c))
 | 0 => Reps.none _ _
 | N+1 => Reps.one h (Repeat.reps R c h N)
theorem Repeat.own (W:World) (base N g:Nat) (c:Int) (hb:base≤g) (h:W.heap[g]? = some (.cells (Repeat.cur c N N).toArray 3 (0,0))) (hm:N≤1000):Kd.R (Kd.int .i64) 3 W base (fun _ => True) (.slice (some ⟨g,0,none⟩) N N) (List.replicate N c):=by
 refine ⟨fun _ _ => trivial,List.replicate N (.int .i64 c),⟨by simp [Kd.int,Kd.scalar],.inr ⟨g,N,_,by simp,hb,h,by simp,by simp [maxLen];omega,?_,?_⟩⟩,?_⟩
 ·simp [Repeat.cur,Kd.int,Kd.scalar]
 ·simp [Repeat.cur,Kd.int,Kd.scalar]
 ·exact Repeat.reps _ c rfl N
def slices_Repeat_int_int.f (l0:List Int) (a1:Int):Option (List Int):=if l0.length = 1 then (if a1 = 1 ∨ a1 = 3 ∨ a1 = 4 then some (List.replicate a1.toNat (rd l0 0)) else none) else none
set_option maxHeartbeats 4000000 in
set_option maxRecDepth 100000 in
theorem slices_Repeat_int_int.at (A:Option Addr) (c0:Nat) (c:Int) (N:Nat) (w:World) (hA:∃ ad,A = some ad∧∀ W':World,Below w.heap.size w W'→W'.cell? ad = some (.int .i64 c)) (hN:1≤N) (hm:N≤1000) (hq:bits_Mul.f 1 N = some (0,(N:Int))) :
  Calls Tryd.prog 99 #[.slice A 1 c0,.int .i64 N] w fun e w' => e = .returned (.slice (some ⟨w.heap.size,0,none⟩) N N)∧w'.heap[w.heap.size]? = some (.cells (Repeat.cur c N N).toArray 3 (0,0))∧Below w.heap.size w w':=by
 obtain ⟨ad,rfl,had⟩:=hA;have mk:=Repeat.mk Tryd.prog Tryd.underlying38 info3 N hm;have HD:=Lib.hid had;have HQ:=Lib.hid hq;clear had hq;have z1:decide ((N:Int) < 0) = false:=decide_eq_false (by omega);have z2:decide ((N:Int) > 9223372036854775807) = false:=decide_eq_false (by omega);have z3:IntKind.u64.wrap (N:Int) = N:=by rw [IntKind.wrap_u64];omega
 have z4:IntKind.i64.wrap (N:Int) = N:=by rw [IntKind.wrap_i64];omega
 go_enter Tryd.func99,Tryd.ntmps99;go_wp2_with (fail)
 refine (bits_Mul.calls 1 N 0 N _ HQ.out).mono ?_;rintro e w1 ⟨rfl,m,rfl⟩;have hsz:(Tryd.prog.info? 3).map (·.size) = some 1:=by
  obtain ⟨i0,hi,hzz⟩:=Option.map_eq_some_iff.1 info3;simp only [Prod.mk.injEq] at hzz;rw [hi];simp [hzz.2.1]
 have hg0:=Lib.hid (show ((w.drewN m).alloc (.cells (Array.replicate N (Value.int .i64 0)) 3)).heap[w.heap.size]? = some (.cells (Repeat.cur c N 0).toArray 3 (0,0)) from by
  have:=heap_alloc_new (w.drewN m) (.cells (Array.replicate N (Value.int .i64 0)) 3);simpa [Repeat.cur] using this)
 have hb0:=Lib.hid (show Below w.heap.size w ((w.drewN m).alloc (.cells (Array.replicate N (Value.int .i64 0)) 3)) from by apply below_alloc;apply pw_below_drewN;exact Below.refl _ _);have hd0:=Lib.hid (show ((w.drewN m).alloc (.cells (Array.replicate N (Value.int .i64 0)) 3)).cell? ad = some (.int .i64 c) from HD.out _ hb0.out);have hn1:([Value.int .i64 c]:List Value).length = Nat.min 1 N:=by show 1 = min 1 N;omega
 have hp1:0 < ([Value.int .i64 c]:List Value).length→(some ⟨w.heap.size,0,none⟩:Option Addr) = some ⟨w.heap.size,0,none⟩∧∃ ad',some ad = some ad'∧∀ j v,([Value.int .i64 c]:List Value)[j]? = some v→((w.drewN m).alloc (.cells (Array.replicate N (Value.int .i64 0)) 3)).cell? (ad'.add j) = some v:=by
  refine fun _ => ⟨rfl,ad,rfl,fun j v hj => ?_⟩
  match j,hj with
  | 0,hj =>
   have hz:ad.add 0 = ad:=by simp [Addr.add]
   rw [hz,hd0.out];simpa using hj
  | j+1,hj => simp at hj
 have hf1:0+([Value.int .i64 c]:List Value).length≤(Repeat.cur c N 0).length:=by rw [Repeat.cur_len c (Nat.zero_le _)];exact hN
 have ho1:∀ v ∈ ([Value.int .i64 c]:List Value),v.oneCell' = true:=by intro v hv;simp at hv;subst hv;rfl
 have HP1:=Lib.hid hp1;clear hp1;go_wp2_with ((with_reducible refine gate_dst (N:=33) rfl ?_);refine wpList_copy_splice rfl (.tmp 31) (.tmp 32) 38 38 rfl 3 Tryd.underlying38 hsz (some ⟨w.heap.size,0,none⟩) (some ad) N N 1 c0 rfl rfl w.heap.size 0 (Repeat.cur c N 0) 3 hg0.out [.int .i64 c] hn1 (fun hh => ⟨rfl,(HP1.out hh).2⟩) hf1 ho1 w.heap.size w hb0.out (Nat.le_refl _) ?_;intro w2 hg2 hb2)
 clear hn1 HP1 hf1 ho1;go_loopw [8,46] (fun v _ wr => ∃ k:Nat,v = .int .i64 k∧1≤k∧k≤N∧Hid (wr.heap[w.heap.size]? = some (.cells (Repeat.cur c N k).toArray 3 (0,0)))∧Below w.heap.size w wr) (fun v _ _ => N - (Go.RowKit.intOf v).toNat)
 case atStart =>
  refine ⟨1,rfl,Nat.le_refl _,hN,?_,hb2⟩;have:=hg2.out;rw [show ([Value.int .i64 c]:List Value) = List.replicate 1 (.int .i64 c) from rfl,Repeat.cur_splice c N 0 1 (by omega)] at this;exact Lib.hid this
 case round =>
  clear hg2 hb2;obtain ⟨k,rfl,h1,h2,hg,hb⟩:=hrel;by_cases hlt:k < N
  ·have t1:decide ((k:Int) < N) = true:=decide_eq_true (by omega);have b1:(0:Int)≤k:=by omega
   have b2:(k:Int)≤N:=by omega
   have src:0 < (List.replicate (min k (N - k)) (Value.int .i64 c)).length→(some ⟨w.heap.size,k,none⟩:Option Addr) = some ⟨w.heap.size,k,none⟩∧∃ ad',(some ⟨w.heap.size,0,none⟩:Option Addr) = some ad'∧∀ j v,(List.replicate (min k (N - k)) (Value.int .i64 c))[j]? = some v→wr.cell? (ad'.add j) = some v:=by
    refine fun _ => ⟨rfl,_,rfl,fun j v hj => ?_⟩
    have hj1:j < min k (N - k):=by
     rcases Nat.lt_or_ge j (min k (N - k)) with h | h
     ·exact h
     ·rw [List.getElem?_eq_none (by simpa using h)] at hj;cases hj
    have e:(Repeat.cur c N k)[j]? = some v:=by
     rw [Repeat.cur,List.getElem?_append_left (by simp;omega)];rw [List.getElem?_replicate,if_pos hj1] at hj;rw [List.getElem?_replicate,if_pos (by omega)];exact hj
    have:=blk_cell hg.out j;have hj3:(⟨w.heap.size,0,none⟩:Addr).add j = ⟨w.heap.size,j,none⟩:=by
     simp only [Addr.add,Nat.zero_add];split <;> simp_all
    rw [hj3,this];simpa using e
   have SRC:=Lib.hid src;have wk:IntKind.i64.wrap ((k:Int)+((min k (N - k):Nat):Int)) = ((k+min k (N - k):Nat):Int):=by rw [IntKind.wrap_i64];omega
   clear src;have e1:(0:Nat)+k = k:=Nat.zero_add _;go_wp2_with (fail)
   go_region_law (refine step_copy_splice rfl (.tmp 41) (.tmp 44) 38 38 rfl 3 Tryd.underlying38 hsz (some ⟨w.heap.size,k,none⟩) (some ⟨w.heap.size,0,none⟩) (N - k) (N - k) k N (by simp [Act.eval,Act.put];omega) (by simp [Act.eval,Act.put]) w.heap.size k (Repeat.cur c N k) 3 hg.out (List.replicate (min k (N - k)) (.int .i64 c)) (by rw [List.length_replicate]) (fun hh => ⟨rfl,(SRC.out hh).2⟩) (by rw [Repeat.cur_len c h2,List.length_replicate];omega) (by intro v hv;rw [List.eq_of_mem_replicate hv];rfl) w.heap.size w (by apply below_drew1;exact hb) (Nat.le_refl _) ?_;intro w4 hg4 hb4)
   have hg5:=hg4.out;rw [Repeat.cur_splice c N k (min k (N - k)) (by omega)] at hg5;have HG5:=Lib.hid hg5;clear hg4 hg5;go_wp2_with (fail)
   go_roundw
   case rel => exact ⟨k+min k (N - k),by omega,by omega,by omega,HG5⟩
   case measure =>
    simp only [Go.RowKit.intOf,Int.toNat_natCast];omega
  ·have t1:decide ((k:Int) < N) = false:=decide_eq_false (by omega);obtain rfl:k = N:=by omega
   go_wp2_with (fail)
   go_ret;exact ⟨rfl,hg.out,hb⟩
theorem slices_Repeat_int_int.calls (A0:Option Addr) (c0:Nat) (l0:List Int) (a1:Int) (r:List Int) (w:World) (hr0:Kd.C (Kd.int .i64) w A0 l0.length l0) (hc0:l0.length≤c0) (h:slices_Repeat_int_int.f l0 a1 = some r) :
  Calls Tryd.prog 99 #[.slice A0 l0.length c0,.int .i64 a1] w fun e w' => ∃ v0_:Value,e = .returned (v0_)∧Kd.R (Kd.int .i64) 3 w' w.heap.size (fun _ => True) v0_ r∧Below w.heap.size w w':=by
 unfold slices_Repeat_int_int.f at h
 by_cases h1:l0.length = 1
 ·rw [if_pos h1] at h;by_cases h2:a1 = 1 ∨ a1 = 3 ∨ a1 = 4
  ·rw [if_pos h2] at h;obtain rfl:=Option.some.inj h;obtain ⟨c,rfl⟩:∃ c,l0 = [c]:=by
    match l0,h1 with
    | [c],_ => exact ⟨c,rfl⟩
   have hc:(rd [c] 0) = c:=rfl;rw [hc];have hA:∃ ad,A0 = some ad∧∀ W':World,Below w.heap.size w W'→W'.cell? ad = some (.int .i64 c):=by
    obtain ⟨ad,cs,e,_,hK,hc0⟩:=Kd.C_get hr0 (0:Int) 0 (by omega) (by simp);refine ⟨ad,e,fun W' hW => ?_⟩;obtain ⟨ad2,cs2,e2,_,hK2,hc2⟩:=Kd.C_get (Kd.C_below hr0 hW) (0:Int) 0 (by omega) (by simp);obtain rfl:=Option.some.inj (e.symm.trans e2);obtain rfl:cs2 = [.int .i64 c]:=hK2;have:=hc2 0 _ rfl;simpa [Addr.add] using this
   have go:∀ N:Nat,a1 = N→1≤N→N≤1000→bits_Mul.f 1 N = some (0,(N:Int))→_:=fun N e h1 h2 hq => ((slices_Repeat_int_int.at A0 c0 c N w hA h1 h2 hq).mono (fun e w' ⟨he,hg,hb⟩ => (⟨_,he,Repeat.own w' w.heap.size N w.heap.size c (Nat.le_refl _) hg h2,hb⟩:∃ v0_:Value,e = Ending.returned v0_∧Kd.R (Kd.int .i64) 3 w' w.heap.size (fun _ => True) v0_ (List.replicate N c)∧Below w.heap.size w w')))
   rcases h2 with rfl | rfl | rfl
   ·exact go 1 rfl (by omega) (by omega) (by decide +kernel)
   ·exact go 3 rfl (by omega) (by omega) (by decide +kernel)
   ·exact go 4 rfl (by omega) (by omega) (by decide +kernel)
  ·rw [if_neg h2] at h;cases h
 ·rw [if_neg h1] at h;cases h
def schema_ints.f (a0:Int) (a1:Int):Option (List Int):=(slices_Repeat_int_int.f (([a1]:List Int)) a0).bind fun t109 => (some t109)
theorem schema_ints.calls (a0:Int) (a1:Int) (r:List Int) (w:World) (h:schema_ints.f a0 a1 = some r) :
  Calls Tryd.prog 79 #[.int .i64 a0,.int .i64 a1] w fun e w' => ∃ v0_:Value,e = .returned (v0_)∧Kd.R (Kd.int .i64) 3 w' w.heap.size (fun _ => True) v0_ r∧Below w.heap.size w w':=by
 have HB:=AM (Below.refl w.heap.size w);have H:((slices_Repeat_int_int.f (([a1]:List Int)) a0).bind fun t109 => (some t109)) = some r:=h;clear h;obtain ⟨y106,hy106⟩:∃ y_:List Int,y_ = (([a1]:List Int)):=⟨_,rfl⟩;replace H:((slices_Repeat_int_int.f y106 a0).bind fun t109 => (some t109)) = some r:=QH hy106 H
 have Ny106:=AM hy106;clear hy106;replace H:=Option.bind_eq_some_iff.mp H;obtain ⟨t109,A30,H⟩:=H;replace H:(some t109) = some r:=H;have A3:=AM A30;clear A30;obtain rfl:=Option.some.inj H;go_enter Tryd.func79,Tryd.ntmps79;go_wp2_with (first | ((with_reducible refine gate_dst (N:=6) rfl ?_);refine Kd.R_lit (Kd.int .i64) _ 3 ?hg (N:=6) ?hd (xs:=([a1]:List Int)) (inner:=[.int .i64 a1]) (ok:=fun _ => True) (okp:=fun _ => True) ?hr ?hp (fun _ hk => hk) trivial (Below.refl _ _) (Nat.le_refl _) (by simp) ?_;(case hd => rfl);(case hg => rfl);(case hr => first | (go_simp;done) | (go_simp;rfl));(case hp => exact (Reps.one (show Kd.M (Kd.int .i64) _ _ _ a1 [.int .i64 a1] from rfl) (Reps.none _ _)));intro v107 w4 ho5 hb hg_ hnew_;clear hg_ hnew_;(first | rw [← Ny106.out] at ho5 | (simp only [Int.reduceToNat] at ho5;rw [← Ny106.out] at ho5));have HO108:=AM (Kd.R_lower ho5 (below_size (BB HB)));replace HB:=BS HB hb;clear hb ho5;obtain ⟨Ao6,co6,eo6⟩:=Kd.R_slice HO108.out;subst eo6) | ((with_reducible refine gate_callee (f:=99) rfl ?_);refine goesM_ (some 8) rfl rfl Tryd.func99 #[.slice Ao6 y106.length co6,.int .i64 a0] rfl ?_;(with_reducible refine (slices_Repeat_int_int.calls _ _ y106 a0 t109 _ ?side1 ?side2 A3.out).mono ?_);(case side1 => exact CR HO108);(case side2 => exact (Kd.R_reads' HO108.out).2.1);rintro e w7 ⟨v110,rfl,ho0,hb⟩;refine ⟨_,rfl,?_⟩;have HO111:=AM (Kd.R_lower (Kd.R_new' ho0 (Kd.R_lt (RL HO108))) (below_size (BB HB)));replace HO108:=AM (Kd.R_elder' (RL HO108) (Kd.R_base ho0) hb);replace HB:=BS HB hb;(try clear hb);(try clear hb2);(try clear hk);(try clear hi);(try clear ho0)))
 go_ret;exact ⟨_,by first | rfl | (simp [errW_none,errW_some] <;> rfl) | (simp [*,errW_none,errW_some] <;> rfl),by (with_reducible repeat (first | apply Kd.R_alloc | apply Kd.R_drewN | apply Kd.R_drew));exact Kd.R_mono HO111.out (fun _ hk => trivial),BB HB⟩
end Go.Proofs.YtoigkneoaemcfaaDoor.GN
