
import Derived.Test.YtcphcaiiofeflaaDoorOlGOx0
import Derived.Test.YtcphcaiiofeflaaDoorOlGOx21
namespace Go.Proofs.YtcphcaiiofeflaaDoor.GO
open Go.RowKit Go.Proofs.YtcphcaiiofeflaaDoorW.PrintWords Go.Proofs.YtcphcaiiofeflaaDoorW.PrintLast Go.Proofs.YtcphcaiiofeflaaDoorW.PrintMore
attribute [local go_sem] max2_int min2_int max_two min_two max_three min_three max_four min_four
set_option linter.unusedVariables false
set_option linter.unusedSimpArgs false
mutual
def r16_Is.j0:Nat→Bool→List (S53)→Int→Option (Bool)
 | 0,_,_,_ => none
 | k+1,x12,x460000,x460001 => if x12 = true then (some false) else (r16_Is.l0 k 0 x460000 x460001)
def r16_Is.l0:Nat→Int→List (S53)→Int→Option (Bool)
 | 0,_,_,_ => none
 | k+1,x3,x460000,x460001 => if x3 < (x460000.length:Int) then (r16_Is.l1 k x3 0 x460000 x460001) else (some true)
def r16_Is.l1:Nat→Int→Int→List (S53)→Int→Option (Bool)
 | 0,_,_,_,_ => none
 | k+1,x3,x4,x460000,x460001 => if 0≤x3 then (if x3 < (x460000.length:Int) then (if x4 < (((rd_T53 x460000 x3).f3).length:Int) then (if 0≤x4 then (if (rd ((rd_T53 x460000 x3).f3) x4)≤x3 then (some false) else (r16_Is.l1 k x3 (wrap64 (x4+1)) x460000 x460001)) else (none)) else (r16_Is.l0 k (wrap64 (x3+1)) x460000 x460001)) else (none)) else (none)
end
def r16_Is.f (k:Nat) (l0_0:List (S53)) (a0_1:Int):Option (Bool):=(r09_Right.f k l0_0 a0_1).bind fun t460 => (if t460 = true then (r16_Is.j0 k (a0_1 != 0) l0_0 a0_1) else (r16_Is.j0 k true l0_0 a0_1))
set_option maxHeartbeats 8000000 in
set_option maxRecDepth 100000 in
theorem r16_Is.calls (k:Nat) (A0_0:Option Addr) (c0_0:Nat) (l0_0:List (S53)) (a0_1:Int) (r:Bool) (w:World) (hr0_0:Kd.C k53 w A0_0 l0_0.length l0_0) (hc0_0:l0_0.length≤c0_0) (h:r16_Is.f k l0_0 a0_1 = some r) :
  Calls Tryd.prog 34 #[.agg #[.slice A0_0 l0_0.length c0_0,.int .i64 a0_1]] w fun e w' => e = .returned (.bool r)∧Below w.heap.size w w':=by
 have hu24:=Tryd.underlying24;have HR0_0:=AM hr0_0;have HC0_0:=AM hc0_0;clear hr0_0 hc0_0;have HB:=AM (Below.refl w.heap.size w);have H:((r09_Right.f k l0_0 a0_1).bind fun t460 => (if t460 = true then (r16_Is.j0 k (a0_1 != 0) l0_0 a0_1) else (r16_Is.j0 k true l0_0 a0_1))) = some r:=h;clear h;have HC2:=AM H;clear H;go_enter Tryd.func34,Tryd.ntmps34;go_upto_region 1 with (first | ((with_reducible refine gate_dst (N:=1) rfl ?_);refine boxE 1 #[.slice A0_0 l0_0.length c0_0,.int .i64 a0_1] 24 ?_;intro gb459 hg w3 hbox hb;have BK459:=AM (hbox);have GW459:=GW HB hg;have GE459:=GW HB hg;replace HB:=BS HB hb;clear hb hbox hg))
 (try simp only [Act.put,List.setIfInBounds_toArray,List.set_cons_zero,List.set_cons_succ])
 go_cut [12] (fun v12 wc => ∃ (kq:Nat) (x12_1:Bool),v12 = .bool x12_1∧Aside0 (r16_Is.j0 kq x12_1 l0_0 a0_1 = some r)∧Aside0 (kq≤k)∧Aside0 (wc.heap[gb459]? = some (.cells #[(.slice A0_0 l0_0.length c0_0),.int .i64 a0_1] 24 (0,0)))∧Aside0 (Below w.heap.size w wc))
 case first =>
  have H:=HC2.out;clear HC2;replace H:=Option.bind_eq_some_iff.mp H;obtain ⟨t460,A40,H⟩:=H;replace H:(if t460 = true then (r16_Is.j0 k (a0_1 != 0) l0_0 a0_1) else (r16_Is.j0 k true l0_0 a0_1)) = some r:=H;have A4:=AM A40;clear A40;by_cases c5:t460 = true
  ·subst c5;have H1:(r16_Is.j0 k (a0_1 != 0) l0_0 a0_1) = some r:=by rw [if_pos rfl] at H;exact H
   clear H;have H:=H1;clear H1;have H':=AM H;clear H;have hcz6_0:=BC BK459 0 (.slice A0_0 l0_0.length c0_0) rfl;have hcz6_1:=BC BK459 1 (.int .i64 a0_1) rfl;have hfz6_0:=BF BK459 0;have hfz6_1:=BF BK459 1;go_wp2_with (first | ((with_reducible refine gate_callee (f:=26) rfl ?_);refine goesM_ (some 6) rfl rfl Tryd.func26 #[.agg #[.slice A0_0 l0_0.length c0_0,.int .i64 a0_1]] rfl ?_;(with_reducible refine (r09_Right.calls k _ _ l0_0 a0_1 true _ ?side1 ?side2 A4.out).mono ?_);(case side1 => exact Kd.C_below HR0_0.out (BB HB));(case side2 => exact HC0_0.out);rintro e w7 ⟨rfl,hb⟩;refine ⟨_,rfl,?_⟩;replace BK459:=BE BK459 hb;replace HB:=BS HB hb;(try clear hb);(try clear hb2);(try clear hk);(try clear hi);have hcz8_0:=BC BK459 0 (.slice A0_0 l0_0.length c0_0) rfl;have hcz8_1:=BC BK459 1 (.int .i64 a0_1) rfl;have hfz8_0:=BF BK459 0;have hfz8_1:=BF BK459 1))
   go_meet
   case rel => exact ⟨_,((a0_1 != 0)),QD,H',⟨by first | omega | exact Nat.le_refl _⟩,⟨BL BK459⟩,⟨BB HB⟩⟩
  ·replace c5:=Bool.eq_false_iff.mpr c5;subst c5;have H1:(r16_Is.j0 k true l0_0 a0_1) = some r:=by rw [if_neg (show ¬ (false = true) by decide)] at H;exact H
   clear H;have H:=H1;clear H1;have H':=AM H;clear H;have hcz9_0:=BC BK459 0 (.slice A0_0 l0_0.length c0_0) rfl;have hcz9_1:=BC BK459 1 (.int .i64 a0_1) rfl;have hfz9_0:=BF BK459 0;have hfz9_1:=BF BK459 1;go_wp2_with (first | ((with_reducible refine gate_callee (f:=26) rfl ?_);refine goesM_ (some 6) rfl rfl Tryd.func26 #[.agg #[.slice A0_0 l0_0.length c0_0,.int .i64 a0_1]] rfl ?_;(with_reducible refine (r09_Right.calls k _ _ l0_0 a0_1 false _ ?side1 ?side2 A4.out).mono ?_);(case side1 => exact Kd.C_below HR0_0.out (BB HB));(case side2 => exact HC0_0.out);rintro e w10 ⟨rfl,hb⟩;refine ⟨_,rfl,?_⟩;replace BK459:=BE BK459 hb;replace HB:=BS HB hb;(try clear hb);(try clear hb2);(try clear hk);(try clear hi)))
   go_meet
   case rel => exact ⟨_,(true),QD,H',⟨by first | omega | exact Nat.le_refl _⟩,⟨BL BK459⟩,⟨BB HB⟩⟩
 case rest =>
  clear HC2;try clear c2
  try clear p2
  try clear c3
  try clear c5
  try clear hcz6_0
  try clear hcz6_1
  try clear hcz8_0
  try clear hcz8_1
  try clear hcz9_0
  try clear hcz9_1
  try clear hfz6_0
  try clear hfz6_1
  try clear hfz8_0
  try clear hfz8_1
  try clear hfz9_0
  try clear hfz9_1
  obtain ⟨kq,x12_1,rfl,HA,HJ1,BK459,HB⟩:=hcut;cases kq with
  | zero => exact absurd HA.out (by simp [r16_Is.j0])
  | succ kj1 =>
   have H:=HA.out;clear HA;simp only [r16_Is.j0] at H;by_cases c11:x12_1 = true
   ·subst c11;have H1:(some false) = some r:=by rw [if_pos rfl] at H;exact H
    clear H;have H:=H1;clear H1;obtain rfl:=Option.some.inj H;go_wp2
    go_ret;exact RT (BB HB)
   ·replace c11:=Bool.eq_false_iff.mpr c11;subst c11;have H1:(r16_Is.l0 kj1 0 l0_0 a0_1) = some r:=by rw [if_neg (show ¬ (false = true) by decide)] at H;exact H
    clear H;have H:=H1;clear H1;have H':=AM H;clear H;go_wp2
    go_loopg [3] kj1 (fun kq v3 w' => ∃ (x3_2:Int),v3 = .int .i64 x3_2∧Aside0 (r16_Is.l0 kq x3_2 l0_0 a0_1 = some r)∧Aside0 (kq≤kj1)∧Aside0 (w'.heap[gb459]? = some (.cells #[(.slice A0_0 l0_0.length c0_0),.int .i64 a0_1] 24 (0,0)))∧Aside0 (Below w.heap.size w w'))
    case atStart => exact ⟨(0),QD,H',⟨Nat.le_refl _⟩,⟨BL BK459⟩,⟨BB HB⟩⟩
    case round =>
     clear H';try clear c1
     try clear c2
     try clear p2
     try clear c3
     try clear c5
     try clear c11
     try clear hcz6_0
     try clear hcz6_1
     try clear hcz8_0
     try clear hcz8_1
     try clear hcz9_0
     try clear hcz9_1
     try clear hfz6_0
     try clear hfz6_1
     try clear hfz8_0
     try clear hfz8_1
     try clear hfz9_0
     try clear hfz9_1
     try clear p2
     obtain ⟨x3_2,rfl,HA,HK2,BK459,HB⟩:=hrel;cases gk with
     | zero => exact absurd HA.out (by simp [r16_Is.l0])
     | succ k2 =>
      have H:=HA.out;clear HA;simp only [r16_Is.l0] at H;by_cases c12:x3_2 < (l0_0.length:Int)
      ·rw [if_pos c12] at H;have c12b0:decide (x3_2 < (l0_0.length:Int)) = true:=decide_eq_true c12;clear c12;have H':=AM H;clear H;have hcz13_0:=BC BK459 0 (.slice A0_0 l0_0.length c0_0) rfl;have hcz13_1:=BC BK459 1 (.int .i64 a0_1) rfl;have hfz13_0:=BF BK459 0;have hfz13_1:=BF BK459 1;go_wp2
       go_loopg [4] k2 (fun kq v4 w' => ∃ (x4_3:Int),v4 = .int .i64 x4_3∧Aside0 (r16_Is.l1 kq x3_2 x4_3 l0_0 a0_1 = some r)∧Aside0 (kq≤k2)∧Aside0 (w'.heap[gb459]? = some (.cells #[(.slice A0_0 l0_0.length c0_0),.int .i64 a0_1] 24 (0,0)))∧Aside0 (Below w.heap.size w w'))
       case atStart => exact ⟨(0),QD,H',⟨Nat.le_refl _⟩,⟨BL BK459⟩,⟨BB HB⟩⟩
       case round =>
        clear H';try clear c1
        try clear c2
        try clear p2
        try clear c3
        try clear c5
        try clear c11
        try clear c12
        try clear c12b0
        try clear hcz13_0
        try clear hcz13_1
        try clear hcz6_0
        try clear hcz6_1
        try clear hcz8_0
        try clear hcz8_1
        try clear hcz9_0
        try clear hcz9_1
        try clear hfz13_0
        try clear hfz13_1
        try clear hfz6_0
        try clear hfz6_1
        try clear hfz8_0
        try clear hfz8_1
        try clear hfz9_0
        try clear hfz9_1
        try clear p2
        obtain ⟨x4_3,rfl,HA,HK3,BK459,HB⟩:=hrel;cases gk with
        | zero => exact absurd HA.out (by simp [r16_Is.l1])
        | succ k3 =>
         have H:=HA.out;clear HA;simp only [r16_Is.l1] at H;by_cases c14:0≤x3_2
         ·rw [if_pos c14] at H;have c14b0:decide (0≤x3_2) = true:=decide_eq_true c14;clear c14;by_cases c15:x3_2 < (l0_0.length:Int)
          ·rw [if_pos c15] at H;have c15b0:decide (x3_2 < (l0_0.length:Int)) = true:=decide_eq_true c15;clear c15;by_cases c16:x4_3 < (((rd_T53 l0_0 x3_2).f3).length:Int)
           ·rw [if_pos c16] at H;have c16b0:decide (x4_3 < (((rd_T53 l0_0 x3_2).f3).length:Int)) = true:=decide_eq_true c16;clear c16;by_cases c17:0≤x4_3
            ·rw [if_pos c17] at H;have c17b0:decide (0≤x4_3) = true:=decide_eq_true c17;clear c17;by_cases c18:(rd ((rd_T53 l0_0 x3_2).f3) x4_3)≤x3_2
             ·rw [if_pos c18] at H;have c18b0:decide ((rd ((rd_T53 l0_0 x3_2).f3) x4_3)≤x3_2) = true:=decide_eq_true c18;clear c18;obtain rfl:=Option.some.inj H;have hcz19_0:=BC BK459 0 (.slice A0_0 l0_0.length c0_0) rfl;have hcz19_1:=BC BK459 1 (.int .i64 a0_1) rfl;have hfz19_0:=BF BK459 0;have hfz19_1:=BF BK459 1;have p461:0≤(x3_2:Int):=OD;have q461:x3_2 < (l0_0.length:Int):=OD;obtain ⟨ad461,A461_1,c461_1,A461_2,c461_2,A461_3,c461_3,e461,hx461_0,hx461_1,hx461_2,hx461_3,hl461_1,hi461_1,hl461_2,hi461_2,hl461_3,hi461_3⟩:=at_T53 HR0_0.out x3_2 p461 q461;cases e461
              replace hx461_0:=CL HB hx461_0;replace hx461_1:=CL HB hx461_1;replace hx461_2:=CL HB hx461_2;replace hx461_3:=CL HB hx461_3;have HR461_1:=AM hi461_1;have HC461_1:=AM hl461_1;clear hi461_1 hl461_1;have HR461_2:=AM hi461_2;have HC461_2:=AM hl461_2;clear hi461_2 hl461_2;have HR461_3:=AM hi461_3;have HC461_3:=AM hl461_3;clear hi461_3 hl461_3;replace p461:=eq_true p461;replace q461:=eq_true q461;have p462:0≤(x3_2:Int):=OD;have q462:x3_2 < (l0_0.length:Int):=OD;obtain ⟨ad462,A462_1,c462_1,A462_2,c462_2,A462_3,c462_3,e462,hx462_0,hx462_1,hx462_2,hx462_3,hl462_1,hi462_1,hl462_2,hi462_2,hl462_3,hi462_3⟩:=at_T53 HR0_0.out x3_2 p462 q462;obtain rfl:ad461 = ad462:=(by injection e462);replace hx462_0:=CL HB hx462_0;replace hx462_1:=CL HB hx462_1;replace hx462_2:=CL HB hx462_2;replace hx462_3:=CL HB hx462_3;have HR462_1:=AM hi462_1;have HC462_1:=AM hl462_1;clear hi462_1 hl462_1;have HR462_2:=AM hi462_2;have HC462_2:=AM hl462_2;clear hi462_2 hl462_2;have HR462_3:=AM hi462_3;have HC462_3:=AM hl462_3;clear hi462_3 hl462_3;replace p462:=eq_true p462;replace q462:=eq_true q462;have ea_:=Option.some.inj (hx461_1.symm.trans hx462_1);injection ea_ with ea_ en_ ec_
              subst ea_;subst ec_;clear en_;have ea_:=Option.some.inj (hx461_2.symm.trans hx462_2);injection ea_ with ea_ en_ ec_
              subst ea_;subst ec_;clear en_;have ea_:=Option.some.inj (hx461_3.symm.trans hx462_3);injection ea_ with ea_ en_ ec_
              subst ea_;subst ec_;clear en_;have p463:0≤(x4_3:Int):=OD;have q463:x4_3 < (((rd_T53 l0_0 x3_2).f3).length:Int):=OD;obtain ⟨ad463,e463,hx463_0⟩:=Kd.at_int HR462_3.out x4_3 p463 q463;cases e463
              replace hx463_0:=CL HB hx463_0;replace p463:=eq_true p463;replace q463:=eq_true q463;go_wp2
              go_ret;exact RT (BB HB)
             ·rw [if_neg c18] at H;have c18b0:decide ((rd ((rd_T53 l0_0 x3_2).f3) x4_3)≤x3_2) = false:=decide_eq_false c18;clear c18;have H':=AM H;clear H;have hcz20_0:=BC BK459 0 (.slice A0_0 l0_0.length c0_0) rfl;have hcz20_1:=BC BK459 1 (.int .i64 a0_1) rfl;have hfz20_0:=BF BK459 0;have hfz20_1:=BF BK459 1;have p461:0≤(x3_2:Int):=OD;have q461:x3_2 < (l0_0.length:Int):=OD;obtain ⟨ad461,A461_1,c461_1,A461_2,c461_2,A461_3,c461_3,e461,hx461_0,hx461_1,hx461_2,hx461_3,hl461_1,hi461_1,hl461_2,hi461_2,hl461_3,hi461_3⟩:=at_T53 HR0_0.out x3_2 p461 q461;cases e461
              replace hx461_0:=CL HB hx461_0;replace hx461_1:=CL HB hx461_1;replace hx461_2:=CL HB hx461_2;replace hx461_3:=CL HB hx461_3;have HR461_1:=AM hi461_1;have HC461_1:=AM hl461_1;clear hi461_1 hl461_1;have HR461_2:=AM hi461_2;have HC461_2:=AM hl461_2;clear hi461_2 hl461_2;have HR461_3:=AM hi461_3;have HC461_3:=AM hl461_3;clear hi461_3 hl461_3;replace p461:=eq_true p461;replace q461:=eq_true q461;have p462:0≤(x3_2:Int):=OD;have q462:x3_2 < (l0_0.length:Int):=OD;obtain ⟨ad462,A462_1,c462_1,A462_2,c462_2,A462_3,c462_3,e462,hx462_0,hx462_1,hx462_2,hx462_3,hl462_1,hi462_1,hl462_2,hi462_2,hl462_3,hi462_3⟩:=at_T53 HR0_0.out x3_2 p462 q462;obtain rfl:ad461 = ad462:=(by injection e462);replace hx462_0:=CL HB hx462_0;replace hx462_1:=CL HB hx462_1;replace hx462_2:=CL HB hx462_2;replace hx462_3:=CL HB hx462_3;have HR462_1:=AM hi462_1;have HC462_1:=AM hl462_1;clear hi462_1 hl462_1;have HR462_2:=AM hi462_2;have HC462_2:=AM hl462_2;clear hi462_2 hl462_2;have HR462_3:=AM hi462_3;have HC462_3:=AM hl462_3;clear hi462_3 hl462_3;replace p462:=eq_true p462;replace q462:=eq_true q462;have ea_:=Option.some.inj (hx461_1.symm.trans hx462_1);injection ea_ with ea_ en_ ec_
              subst ea_;subst ec_;clear en_;have ea_:=Option.some.inj (hx461_2.symm.trans hx462_2);injection ea_ with ea_ en_ ec_
              subst ea_;subst ec_;clear en_;have ea_:=Option.some.inj (hx461_3.symm.trans hx462_3);injection ea_ with ea_ en_ ec_
              subst ea_;subst ec_;clear en_;have p463:0≤(x4_3:Int):=OD;have q463:x4_3 < (((rd_T53 l0_0 x3_2).f3).length:Int):=OD;obtain ⟨ad463,e463,hx463_0⟩:=Kd.at_int HR462_3.out x4_3 p463 q463;cases e463
              replace hx463_0:=CL HB hx463_0;replace p463:=eq_true p463;replace q463:=eq_true q463;go_wp2
              go_roundg k3
              case measure => have:=HJ1.out;have:=HK2.out;have:=HK3.out;omega
              case rel => exact ⟨(wrap64 (x4_3+1)),QD,H',⟨by have:=HJ1.out;have:=HK2.out;have:=HK3.out;omega⟩,⟨BL BK459⟩,⟨BB HB⟩⟩
            ·rw [if_neg c17] at H;exact absurd H (by simp)
           ·rw [if_neg c16] at H;have c16b0:decide (x4_3 < (((rd_T53 l0_0 x3_2).f3).length:Int)) = false:=decide_eq_false c16;clear c16;have H':=AM H;clear H;have hcz21_0:=BC BK459 0 (.slice A0_0 l0_0.length c0_0) rfl;have hcz21_1:=BC BK459 1 (.int .i64 a0_1) rfl;have hfz21_0:=BF BK459 0;have hfz21_1:=BF BK459 1;have p461:0≤(x3_2:Int):=OD;have q461:x3_2 < (l0_0.length:Int):=OD;obtain ⟨ad461,A461_1,c461_1,A461_2,c461_2,A461_3,c461_3,e461,hx461_0,hx461_1,hx461_2,hx461_3,hl461_1,hi461_1,hl461_2,hi461_2,hl461_3,hi461_3⟩:=at_T53 HR0_0.out x3_2 p461 q461;cases e461
            replace hx461_0:=CL HB hx461_0;replace hx461_1:=CL HB hx461_1;replace hx461_2:=CL HB hx461_2;replace hx461_3:=CL HB hx461_3;have HR461_1:=AM hi461_1;have HC461_1:=AM hl461_1;clear hi461_1 hl461_1;have HR461_2:=AM hi461_2;have HC461_2:=AM hl461_2;clear hi461_2 hl461_2;have HR461_3:=AM hi461_3;have HC461_3:=AM hl461_3;clear hi461_3 hl461_3;replace p461:=eq_true p461;replace q461:=eq_true q461;go_wp2
            go_roundg k3
            case measure => have:=HJ1.out;have:=HK2.out;have:=HK3.out;omega
            case rel => exact ⟨(wrap64 (x3_2+1)),QD,H',⟨by have:=HJ1.out;have:=HK2.out;have:=HK3.out;omega⟩,⟨BL BK459⟩,⟨BB HB⟩⟩
          ·rw [if_neg c15] at H;exact absurd H (by simp)
         ·rw [if_neg c14] at H;exact absurd H (by simp)
      ·rw [if_neg c12] at H;have c12b0:decide (x3_2 < (l0_0.length:Int)) = false:=decide_eq_false c12;clear c12;obtain rfl:=Option.some.inj H;have hcz22_0:=BC BK459 0 (.slice A0_0 l0_0.length c0_0) rfl;have hcz22_1:=BC BK459 1 (.int .i64 a0_1) rfl;have hfz22_0:=BF BK459 0;have hfz22_1:=BF BK459 1;go_wp2
       go_ret;exact RT (BB HB)
end Go.Proofs.YtcphcaiiofeflaaDoor.GO
