
import Derived.Test.YtcphcaiiofeflaaDoorOvGOx0
import Derived.Test.YtcphcaiiofeflaaDoorOvGOx18
import Derived.Test.YtcphcaiiofeflaaDoorOvGOx19
import Derived.Test.YtcphcaiiofeflaaDoorOvGOx20
namespace Go.Proofs.YtcphcaiiofeflaaDoor.GO
open Go.RowKit Go.Proofs.YtcphcaiiofeflaaDoorW.PrintWords Go.Proofs.YtcphcaiiofeflaaDoorW.PrintLast Go.Proofs.YtcphcaiiofeflaaDoorW.PrintMore
attribute [local go_sem] max2_int min2_int max_two min_two max_three min_three max_four min_four
set_option maxHeartbeats 8000000
set_option maxRecDepth 100000
set_option linter.unusedVariables false
set_option linter.unusedSimpArgs false
mutual
def r09_Check.l0:Nat→Int→List (S53)→Int→Option (Int × Int)
 | 0,_,_,_ => none
 | k+1,x5,x355000,x355001 => if x5 < (x355000.length:Int) then ((r09_Led.f k x355000 x355001 x5).bind fun t357 => (if 0≤x5 then (if x5 < (t357.length:Int) then (if rdOf false t357 x5 = true then (some (14,x5)) else (r09_Check.l0 k (wrap64 (x5+1)) x355000 x355001)) else (none)) else (none))) else ((r09_Led.f k x355000 x355001 x355001).bind fun t361 => (r09_Check.l1 k t361 0 x355000 x355001))
def r09_Check.l1:Nat→List Bool→Int→List (S53)→Int→Option (Int × Int)
 | 0,_,_,_,_ => none
 | k+1,x6,x7,x355000,x355001 => if x7 < (x355000.length:Int) then (if x7 = x355001 then (r09_Check.l1 k x6 (wrap64 (x7+1)) x355000 x355001) else (if 0≤x7 then (if x7 < (x6.length:Int) then (if rdOf false x6 x7 = true then (r09_Check.l1 k x6 (wrap64 (x7+1)) x355000 x355001) else (some (15,x7))) else (none)) else (none))) else (some (0,0))
end
def r09_Check.f (k:Nat) (l0_0:List (S53)) (a0_1:Int):Option (Int × Int):=(r09_Place.f l0_0 a0_1 a0_1).bind fun t355 => (if t355 = true then ((r09_Refs.f k l0_0 a0_1).bind fun t356 => (if t356 ≥ 0 then (some (13,t356)) else (r09_Check.l0 k 0 l0_0 a0_1))) else (some (13,(-1))))
theorem r09_Check.calls (k:Nat) (A0_0:Option Addr) (c0_0:Nat) (l0_0:List (S53)) (a0_1:Int) (r1:Int) (r2:Int) (w:World) (hr0_0:Kd.C k53 w A0_0 l0_0.length l0_0) (hc0_0:l0_0.length≤c0_0) (h:r09_Check.f k l0_0 a0_1 = some (r1,r2)) :
  Calls Tryd.prog 35 #[.agg #[.slice A0_0 l0_0.length c0_0,.int .i64 a0_1]] w fun e w' => e = .returned (.tuple #[.int .i64 r1,.int .i64 r2])∧Below w.heap.size w w':=by
 have hu24:=Tryd.underlying24;have HR0_0:=AM hr0_0;have HC0_0:=AM hc0_0;clear hr0_0 hc0_0;have HB:=AM (Below.refl w.heap.size w);have H:((r09_Place.f l0_0 a0_1 a0_1).bind fun t355 => (if t355 = true then ((r09_Refs.f k l0_0 a0_1).bind fun t356 => (if t356 ≥ 0 then (some (13,t356)) else (r09_Check.l0 k 0 l0_0 a0_1))) else (some (13,(-1))))) = some (r1,r2):=h;clear h;replace H:=Option.bind_eq_some_iff.mp H;obtain ⟨t355,A20,H⟩:=H;replace H:(if t355 = true then ((r09_Refs.f k l0_0 a0_1).bind fun t356 => (if t356 ≥ 0 then (some (13,t356)) else (r09_Check.l0 k 0 l0_0 a0_1))) else (some (13,(-1)))) = some (r1,r2):=H;have A2:=AM A20;clear A20;by_cases c3:t355 = true
 ·subst c3;have H1:((r09_Refs.f k l0_0 a0_1).bind fun t356 => (if t356 ≥ 0 then (some (13,t356)) else (r09_Check.l0 k 0 l0_0 a0_1))) = some (r1,r2):=by rw [if_pos rfl] at H;exact H
  clear H;have H:=H1;clear H1;replace H:=Option.bind_eq_some_iff.mp H;obtain ⟨t356,A40,H⟩:=H;replace H:(if t356 ≥ 0 then (some (13,t356)) else (r09_Check.l0 k 0 l0_0 a0_1)) = some (r1,r2):=H;have A4:=AM A40;clear A40;by_cases c5:t356 ≥ 0
  ·rw [if_pos c5] at H;have c5b0:decide (0≤t356) = true:=decide_eq_true c5;clear c5;simp only [Option.some.injEq,Prod.mk.injEq] at H;obtain ⟨rfl,rfl⟩:=H;go_enter Tryd.func35,Tryd.ntmps35;go_wp2_with (first | ((with_reducible refine gate_dst (N:=1) rfl ?_);refine boxE 1 #[.slice A0_0 l0_0.length c0_0,.int .i64 a0_1] 24 ?_;intro gb354 hg w6 hbox hb;have BK354:=AM (hbox);have GW354:=GW HB hg;have GE354:=GW HB hg;replace HB:=BS HB hb;clear hb hbox hg;have hcz7_0:=BC BK354 0 (.slice A0_0 l0_0.length c0_0) rfl;have hcz7_1:=BC BK354 1 (.int .i64 a0_1) rfl;have hfz7_0:=BF BK354 0;have hfz7_1:=BF BK354 1) | ((with_reducible refine gate_callee (f:=59) rfl ?_);refine goesM_ (some 11) rfl rfl Tryd.func59 #[.agg #[.slice A0_0 l0_0.length c0_0,.int .i64 a0_1],.int .i64 a0_1] rfl ?_;(with_reducible refine (r09_Place.calls _ _ l0_0 a0_1 a0_1 true _ ?side1 ?side2 A2.out).mono ?_);(case side1 => exact Kd.C_below HR0_0.out (BB HB));(case side2 => exact HC0_0.out);rintro e w8 ⟨rfl,hb⟩;refine ⟨_,rfl,?_⟩;replace BK354:=BE BK354 hb;replace HB:=BS HB hb;(try clear hb);(try clear hb2);(try clear hk);(try clear hi);have hcz9_0:=BC BK354 0 (.slice A0_0 l0_0.length c0_0) rfl;have hcz9_1:=BC BK354 1 (.int .i64 a0_1) rfl;have hfz9_0:=BF BK354 0;have hfz9_1:=BF BK354 1) | ((with_reducible refine gate_callee (f:=60) rfl ?_);refine goesM_ (some 14) rfl rfl Tryd.func60 #[.agg #[.slice A0_0 l0_0.length c0_0,.int .i64 a0_1]] rfl ?_;(with_reducible refine (r09_Refs.calls k _ _ l0_0 a0_1 t356 _ ?side1 ?side2 A4.out).mono ?_);(case side1 => exact Kd.C_below HR0_0.out (BB HB));(case side2 => exact HC0_0.out);rintro e w10 ⟨rfl,hb⟩;refine ⟨_,rfl,?_⟩;replace BK354:=BE BK354 hb;replace HB:=BS HB hb;(try clear hb);(try clear hb2);(try clear hk);(try clear hi)))
   go_ret2
   exact RT (BB HB)
  ·rw [if_neg c5] at H;have c5b0:decide (0≤t356) = false:=decide_eq_false c5;clear c5;have H':=AM H;clear H;go_enter Tryd.func35,Tryd.ntmps35;go_wp2_with (first | ((with_reducible refine gate_dst (N:=1) rfl ?_);refine boxE 1 #[.slice A0_0 l0_0.length c0_0,.int .i64 a0_1] 24 ?_;intro gb354 hg w11 hbox hb;have BK354:=AM (hbox);have GW354:=GW HB hg;have GE354:=GW HB hg;replace HB:=BS HB hb;clear hb hbox hg;have hcz12_0:=BC BK354 0 (.slice A0_0 l0_0.length c0_0) rfl;have hcz12_1:=BC BK354 1 (.int .i64 a0_1) rfl;have hfz12_0:=BF BK354 0;have hfz12_1:=BF BK354 1) | ((with_reducible refine gate_callee (f:=59) rfl ?_);refine goesM_ (some 11) rfl rfl Tryd.func59 #[.agg #[.slice A0_0 l0_0.length c0_0,.int .i64 a0_1],.int .i64 a0_1] rfl ?_;(with_reducible refine (r09_Place.calls _ _ l0_0 a0_1 a0_1 true _ ?side1 ?side2 A2.out).mono ?_);(case side1 => exact Kd.C_below HR0_0.out (BB HB));(case side2 => exact HC0_0.out);rintro e w13 ⟨rfl,hb⟩;refine ⟨_,rfl,?_⟩;replace BK354:=BE BK354 hb;replace HB:=BS HB hb;(try clear hb);(try clear hb2);(try clear hk);(try clear hi);have hcz14_0:=BC BK354 0 (.slice A0_0 l0_0.length c0_0) rfl;have hcz14_1:=BC BK354 1 (.int .i64 a0_1) rfl;have hfz14_0:=BF BK354 0;have hfz14_1:=BF BK354 1) | ((with_reducible refine gate_callee (f:=60) rfl ?_);refine goesM_ (some 14) rfl rfl Tryd.func60 #[.agg #[.slice A0_0 l0_0.length c0_0,.int .i64 a0_1]] rfl ?_;(with_reducible refine (r09_Refs.calls k _ _ l0_0 a0_1 t356 _ ?side1 ?side2 A4.out).mono ?_);(case side1 => exact Kd.C_below HR0_0.out (BB HB));(case side2 => exact HC0_0.out);rintro e w15 ⟨rfl,hb⟩;refine ⟨_,rfl,?_⟩;replace BK354:=BE BK354 hb;replace HB:=BS HB hb;(try clear hb);(try clear hb2);(try clear hk);(try clear hi)))
   go_loopg [5] k (fun kq v5 w' => ∃ (x5_1:Int),v5 = .int .i64 x5_1∧Aside0 (r09_Check.l0 kq x5_1 l0_0 a0_1 = some (r1,r2))∧Aside0 (kq≤k)∧Aside0 (w'.heap[gb354]? = some (.cells #[(.slice A0_0 l0_0.length c0_0),.int .i64 a0_1] 24 (0,0)))∧Aside0 (Below w.heap.size w w'))
   case atStart => exact ⟨(0),QD,H',⟨Nat.le_refl _⟩,⟨BL BK354⟩,⟨BB HB⟩⟩
   case round =>
    clear H';try clear p2
    try clear c3
    try clear c5
    try clear c5b0
    try clear c6
    try clear hcz12_0
    try clear hcz12_1
    try clear hcz14_0
    try clear hcz14_1
    try clear hcz7_0
    try clear hcz7_1
    try clear hcz9_0
    try clear hcz9_1
    try clear hfz12_0
    try clear hfz12_1
    try clear hfz14_0
    try clear hfz14_1
    try clear hfz7_0
    try clear hfz7_1
    try clear hfz9_0
    try clear hfz9_1
    obtain ⟨x5_1,rfl,HA,HK1,BK354,HB⟩:=hrel;cases gk with
    | zero => exact absurd HA.out (by simp [r09_Check.l0])
    | succ k1 =>
     have H:=HA.out;clear HA;simp only [r09_Check.l0] at H;by_cases c16:x5_1 < (l0_0.length:Int)
     ·rw [if_pos c16] at H;have c16b0:decide (x5_1 < (l0_0.length:Int)) = true:=decide_eq_true c16;clear c16;replace H:=Option.bind_eq_some_iff.mp H;obtain ⟨t357,A170,H⟩:=H;replace H:(if 0≤x5_1 then (if x5_1 < (t357.length:Int) then (if rdOf false t357 x5_1 = true then (some (14,x5_1)) else (r09_Check.l0 k1 (wrap64 (x5_1+1)) l0_0 a0_1)) else (none)) else (none)) = some (r1,r2):=H;have A17:=AM A170;clear A170;by_cases c18:0≤x5_1
      ·rw [if_pos c18] at H;have c18b0:decide (0≤x5_1) = true:=decide_eq_true c18;clear c18;by_cases c19:x5_1 < (t357.length:Int)
       ·rw [if_pos c19] at H;have c19b0:decide (x5_1 < (t357.length:Int)) = true:=decide_eq_true c19;clear c19;obtain ⟨bq20,hbq20⟩:∃ b_:Bool,b_ = (rdOf false t357 x5_1):=⟨_,rfl⟩;replace H:(if bq20 = true then (some (14,x5_1)) else (r09_Check.l0 k1 (wrap64 (x5_1+1)) l0_0 a0_1)) = some (r1,r2):=by rw [← hbq20] at H;exact H
        have Nbq20:=AM hbq20;clear hbq20;by_cases c21:bq20 = true
        ·subst c21;have H1:(some (14,x5_1)) = some (r1,r2):=by rw [if_pos rfl] at H;exact H
         clear H;have H:=H1;clear H1;simp only [Option.some.injEq,Prod.mk.injEq] at H;obtain ⟨rfl,rfl⟩:=H;have hcz22_0:=BC BK354 0 (.slice A0_0 l0_0.length c0_0) rfl;have hcz22_1:=BC BK354 1 (.int .i64 a0_1) rfl;have hfz22_0:=BF BK354 0;have hfz22_1:=BF BK354 1;go_wp2_with (first | ((with_reducible refine gate_callee (f:=61) rfl ?_);refine goesM_ (some 27) rfl rfl Tryd.func61 #[.agg #[.slice A0_0 l0_0.length c0_0,.int .i64 a0_1],.int .i64 x5_1] rfl ?_;(with_reducible refine (r09_Led.calls k1 _ _ l0_0 a0_1 x5_1 t357 _ ?side1 ?side2 A17.out).mono ?_);(case side1 => exact Kd.C_below HR0_0.out (BB HB));(case side2 => exact HC0_0.out);rintro e w23 ⟨v358,rfl,ho0,hb⟩;refine ⟨_,rfl,?_⟩;have HO359:=AM (Kd.R_lower ho0 (below_size (BB HB)));replace BK354:=BE BK354 hb;replace HB:=BS HB hb;(try clear hb);(try clear hb2);(try clear hk);(try clear hi);(try clear ho0);obtain ⟨Ao24,co24,eo24⟩:=Kd.R_slice HO359.out;subst eo24;have p360:0≤(x5_1:Int):=OD;have q360:x5_1 < (t357.length:Int):=OD;obtain ⟨ad360,e360,hx360_0⟩:=Kd.at_bool (Kd.R_reads' HO359.out).2.2 x5_1 p360 q360;(try rw [← Nbq20.out] at hx360_0);cases e360;replace p360:=eq_true p360;replace q360:=eq_true q360))
         go_ret2
         exact RT (BB HB)
        ·replace c21:=Bool.eq_false_iff.mpr c21;subst c21;have H1:(r09_Check.l0 k1 (wrap64 (x5_1+1)) l0_0 a0_1) = some (r1,r2):=by rw [if_neg (show ¬ (false = true) by decide)] at H;exact H
         clear H;have H:=H1;clear H1;have H':=AM H;clear H;have hcz25_0:=BC BK354 0 (.slice A0_0 l0_0.length c0_0) rfl;have hcz25_1:=BC BK354 1 (.int .i64 a0_1) rfl;have hfz25_0:=BF BK354 0;have hfz25_1:=BF BK354 1;go_wp2_with (first | ((with_reducible refine gate_callee (f:=61) rfl ?_);refine goesM_ (some 27) rfl rfl Tryd.func61 #[.agg #[.slice A0_0 l0_0.length c0_0,.int .i64 a0_1],.int .i64 x5_1] rfl ?_;(with_reducible refine (r09_Led.calls k1 _ _ l0_0 a0_1 x5_1 t357 _ ?side1 ?side2 A17.out).mono ?_);(case side1 => exact Kd.C_below HR0_0.out (BB HB));(case side2 => exact HC0_0.out);rintro e w26 ⟨v358,rfl,ho0,hb⟩;refine ⟨_,rfl,?_⟩;have HO359:=AM (Kd.R_lower ho0 (below_size (BB HB)));replace BK354:=BE BK354 hb;replace HB:=BS HB hb;(try clear hb);(try clear hb2);(try clear hk);(try clear hi);(try clear ho0);obtain ⟨Ao27,co27,eo27⟩:=Kd.R_slice HO359.out;subst eo27;have p360:0≤(x5_1:Int):=OD;have q360:x5_1 < (t357.length:Int):=OD;obtain ⟨ad360,e360,hx360_0⟩:=Kd.at_bool (Kd.R_reads' HO359.out).2.2 x5_1 p360 q360;(try rw [← Nbq20.out] at hx360_0);cases e360;replace p360:=eq_true p360;replace q360:=eq_true q360))
         go_roundg k1
         case measure => have:=HK1.out;omega
         case rel => exact ⟨(wrap64 (x5_1+1)),QD,H',⟨by have:=HK1.out;omega⟩,⟨BL BK354⟩,⟨BB HB⟩⟩
       ·rw [if_neg c19] at H;exact absurd H (by simp)
      ·rw [if_neg c18] at H;exact absurd H (by simp)
     ·rw [if_neg c16] at H;have c16b0:decide (x5_1 < (l0_0.length:Int)) = false:=decide_eq_false c16;clear c16;replace H:=Option.bind_eq_some_iff.mp H;obtain ⟨t361,A280,H⟩:=H;replace H:(r09_Check.l1 k1 t361 0 l0_0 a0_1) = some (r1,r2):=H;have A28:=AM A280;clear A280;have H':=AM H;clear H;have hcz29_0:=BC BK354 0 (.slice A0_0 l0_0.length c0_0) rfl;have hcz29_1:=BC BK354 1 (.int .i64 a0_1) rfl;have hfz29_0:=BF BK354 0;have hfz29_1:=BF BK354 1;go_wp2_with (first | ((with_reducible refine gate_callee (f:=61) rfl ?_);refine goesM_ (some 35) rfl rfl Tryd.func61 #[.agg #[.slice A0_0 l0_0.length c0_0,.int .i64 a0_1],.int .i64 a0_1] rfl ?_;(with_reducible refine (r09_Led.calls k1 _ _ l0_0 a0_1 a0_1 t361 _ ?side1 ?side2 A28.out).mono ?_);(case side1 => exact Kd.C_below HR0_0.out (BB HB));(case side2 => exact HC0_0.out);rintro e w30 ⟨v362,rfl,ho0,hb⟩;refine ⟨_,rfl,?_⟩;have HO363:=AM (Kd.R_lower ho0 (below_size (BB HB)));replace BK354:=BE BK354 hb;replace HB:=BS HB hb;(try clear hb);(try clear hb2);(try clear hk);(try clear hi);(try clear ho0)))
      go_loopg [7] k1 (fun kq v7 w' => ∃ (x7_2:Int),v7 = .int .i64 x7_2∧Aside0 (r09_Check.l1 kq t361 x7_2 l0_0 a0_1 = some (r1,r2))∧Aside0 (kq≤k1)∧Aside0 (Kd.R Kd.bool 4 w' w.heap.size (fun _ => True) v362 t361)∧Aside0 (w'.heap[gb354]? = some (.cells #[(.slice A0_0 l0_0.length c0_0),.int .i64 a0_1] 24 (0,0)))∧Aside0 (Below w.heap.size w w'))
      case atStart => exact ⟨(0),QD,H',⟨Nat.le_refl _⟩,⟨RA HO363.out⟩,⟨BL BK354⟩,⟨BB HB⟩⟩
      case round =>
       clear H';try clear c1
       try clear c2
       try clear p2
       try clear q2
       try clear c3
       try clear p3
       try clear q3
       try clear hx3
       try clear c5
       try clear c5b0
       try clear c6
       try clear p6
       try clear c16
       try clear c16b0
       try clear c18
       try clear c18b0
       try clear c19
       try clear c19b0
       try clear q20
       try clear c21
       try clear hcz12_0
       try clear hcz12_1
       try clear hcz14_0
       try clear hcz14_1
       try clear hcz22_0
       try clear hcz22_1
       try clear hcz25_0
       try clear hcz25_1
       try clear hcz29_0
       try clear hcz29_1
       try clear hcz7_0
       try clear hcz7_1
       try clear hcz9_0
       try clear hcz9_1
       try clear hfz12_0
       try clear hfz12_1
       try clear hfz14_0
       try clear hfz14_1
       try clear hfz22_0
       try clear hfz22_1
       try clear hfz25_0
       try clear hfz25_1
       try clear hfz29_0
       try clear hfz29_1
       try clear hfz7_0
       try clear hfz7_1
       try clear hfz9_0
       try clear hfz9_1
       try clear hx360_0
       try clear p2
       try clear p360
       try clear q360
       obtain ⟨x7_2,rfl,HA,HK2,HO_6,BK354,HB⟩:=hrel;cases gk with
       | zero => exact absurd HA.out (by simp [r09_Check.l1])
       | succ k2 =>
        have H:=HA.out;clear HA;simp only [r09_Check.l1] at H;by_cases c31:x7_2 < (l0_0.length:Int)
        ·rw [if_pos c31] at H;have c31b0:decide (x7_2 < (l0_0.length:Int)) = true:=decide_eq_true c31;clear c31;by_cases c32:x7_2 = a0_1
         ·rw [if_pos c32] at H;have c32b0:(x7_2 == a0_1) = true:=beq_iff_eq.mpr c32;have c32b1:(x7_2 != a0_1) = false:=bne_eq_false_iff_eq.mpr c32;clear c32;have H':=AM H;clear H;have hcz33_0:=BC BK354 0 (.slice A0_0 l0_0.length c0_0) rfl;have hcz33_1:=BC BK354 1 (.int .i64 a0_1) rfl;have hfz33_0:=BF BK354 0;have hfz33_1:=BF BK354 1;go_wp2
          go_roundg k2
          case measure => have:=HK1.out;have:=HK2.out;omega
          case rel => exact ⟨(wrap64 (x7_2+1)),QD,H',⟨by have:=HK1.out;have:=HK2.out;omega⟩,⟨RA HO_6.out⟩,⟨BL BK354⟩,⟨BB HB⟩⟩
         ·rw [if_neg c32] at H;have c32b0:(x7_2 == a0_1) = false:=beq_eq_false_iff_ne.mpr c32;have c32b1:(x7_2 != a0_1) = true:=bne_iff_ne.mpr c32;by_cases c34:0≤x7_2
          ·rw [if_pos c34] at H;have c34b0:decide (0≤x7_2) = true:=decide_eq_true c34;clear c34;by_cases c35:x7_2 < (t361.length:Int)
           ·rw [if_pos c35] at H;have c35b0:decide (x7_2 < (t361.length:Int)) = true:=decide_eq_true c35;clear c35;obtain ⟨bq36,hbq36⟩:∃ b_:Bool,b_ = (rdOf false t361 x7_2):=⟨_,rfl⟩;replace H:(if bq36 = true then (r09_Check.l1 k2 t361 (wrap64 (x7_2+1)) l0_0 a0_1) else (some (15,x7_2))) = some (r1,r2):=by rw [← hbq36] at H;exact H
            have Nbq36:=AM hbq36;clear hbq36;by_cases c37:bq36 = true
            ·subst c37;have H1:(r09_Check.l1 k2 t361 (wrap64 (x7_2+1)) l0_0 a0_1) = some (r1,r2):=by rw [if_pos rfl] at H;exact H
             clear H;have H:=H1;clear H1;have H':=AM H;clear H;have hcz38_0:=BC BK354 0 (.slice A0_0 l0_0.length c0_0) rfl;have hcz38_1:=BC BK354 1 (.int .i64 a0_1) rfl;have hfz38_0:=BF BK354 0;have hfz38_1:=BF BK354 1;obtain ⟨Ao39,co39,eo39⟩:=Kd.R_slice HO_6.out;subst eo39;have p364:0≤(x7_2:Int):=OD;have q364:x7_2 < (t361.length:Int):=OD;obtain ⟨ad364,e364,hx364_0⟩:=Kd.at_bool (Kd.R_reads' HO_6.out).2.2 x7_2 p364 q364;(try rw [← Nbq36.out] at hx364_0)
             cases e364
             replace p364:=eq_true p364;replace q364:=eq_true q364;go_wp2
             go_roundg k2
             case measure => have:=HK1.out;have:=HK2.out;omega
             case rel => exact ⟨(wrap64 (x7_2+1)),QD,H',⟨by have:=HK1.out;have:=HK2.out;omega⟩,⟨RA HO_6.out⟩,⟨BL BK354⟩,⟨BB HB⟩⟩
            ·replace c37:=Bool.eq_false_iff.mpr c37;subst c37;have H1:(some (15,x7_2)) = some (r1,r2):=by rw [if_neg (show ¬ (false = true) by decide)] at H;exact H
             clear H;have H:=H1;clear H1;simp only [Option.some.injEq,Prod.mk.injEq] at H;obtain ⟨rfl,rfl⟩:=H;have hcz40_0:=BC BK354 0 (.slice A0_0 l0_0.length c0_0) rfl;have hcz40_1:=BC BK354 1 (.int .i64 a0_1) rfl;have hfz40_0:=BF BK354 0;have hfz40_1:=BF BK354 1;obtain ⟨Ao41,co41,eo41⟩:=Kd.R_slice HO_6.out;subst eo41;have p364:0≤(x7_2:Int):=OD;have q364:x7_2 < (t361.length:Int):=OD;obtain ⟨ad364,e364,hx364_0⟩:=Kd.at_bool (Kd.R_reads' HO_6.out).2.2 x7_2 p364 q364;(try rw [← Nbq36.out] at hx364_0)
             cases e364
             replace p364:=eq_true p364;replace q364:=eq_true q364;go_wp2
             go_ret2
             exact RT (BB HB)
           ·rw [if_neg c35] at H;exact absurd H (by simp)
          ·rw [if_neg c34] at H;exact absurd H (by simp)
        ·rw [if_neg c31] at H;have c31b0:decide (x7_2 < (l0_0.length:Int)) = false:=decide_eq_false c31;clear c31;simp only [Option.some.injEq,Prod.mk.injEq] at H;obtain ⟨rfl,rfl⟩:=H;have hcz42_0:=BC BK354 0 (.slice A0_0 l0_0.length c0_0) rfl;have hcz42_1:=BC BK354 1 (.int .i64 a0_1) rfl;have hfz42_0:=BF BK354 0;have hfz42_1:=BF BK354 1;go_wp2
         go_ret2
         exact RT (BB HB)
 ·replace c3:=Bool.eq_false_iff.mpr c3;subst c3;have H1:(some (13,(-1))) = some (r1,r2):=by rw [if_neg (show ¬ (false = true) by decide)] at H;exact H
  clear H;have H:=H1;clear H1;simp only [Option.some.injEq,Prod.mk.injEq] at H;obtain ⟨rfl,rfl⟩:=H;go_enter Tryd.func35,Tryd.ntmps35;go_wp2_with (first | ((with_reducible refine gate_dst (N:=1) rfl ?_);refine boxE 1 #[.slice A0_0 l0_0.length c0_0,.int .i64 a0_1] 24 ?_;intro gb354 hg w43 hbox hb;have BK354:=AM (hbox);have GW354:=GW HB hg;have GE354:=GW HB hg;replace HB:=BS HB hb;clear hb hbox hg;have hcz44_0:=BC BK354 0 (.slice A0_0 l0_0.length c0_0) rfl;have hcz44_1:=BC BK354 1 (.int .i64 a0_1) rfl;have hfz44_0:=BF BK354 0;have hfz44_1:=BF BK354 1) | ((with_reducible refine gate_callee (f:=59) rfl ?_);refine goesM_ (some 11) rfl rfl Tryd.func59 #[.agg #[.slice A0_0 l0_0.length c0_0,.int .i64 a0_1],.int .i64 a0_1] rfl ?_;(with_reducible refine (r09_Place.calls _ _ l0_0 a0_1 a0_1 false _ ?side1 ?side2 A2.out).mono ?_);(case side1 => exact Kd.C_below HR0_0.out (BB HB));(case side2 => exact HC0_0.out);rintro e w45 ⟨rfl,hb⟩;refine ⟨_,rfl,?_⟩;replace BK354:=BE BK354 hb;replace HB:=BS HB hb;(try clear hb);(try clear hb2);(try clear hk);(try clear hi)))
  go_ret2
  exact RT (BB HB)
def r09_Right.f (k:Nat) (l0_0:List (S53)) (a0_1:Int):Option (Bool):=(r09_Check.f k l0_0 a0_1).bind fun bt366 => (some (bt366.1 == 0))
theorem r09_Right.calls (k:Nat) (A0_0:Option Addr) (c0_0:Nat) (l0_0:List (S53)) (a0_1:Int) (r:Bool) (w:World) (hr0_0:Kd.C k53 w A0_0 l0_0.length l0_0) (hc0_0:l0_0.length≤c0_0) (h:r09_Right.f k l0_0 a0_1 = some r) :
  Calls Tryd.prog 26 #[.agg #[.slice A0_0 l0_0.length c0_0,.int .i64 a0_1]] w fun e w' => e = .returned (.bool r)∧Below w.heap.size w w':=by
 have hu24:=Tryd.underlying24;have HR0_0:=AM hr0_0;have HC0_0:=AM hc0_0;clear hr0_0 hc0_0;have HB:=AM (Below.refl w.heap.size w);have H:((r09_Check.f k l0_0 a0_1).bind fun bt366 => (some (bt366.1 == 0))) = some r:=h;clear h;replace H:=Option.bind_eq_some_iff.mp H;obtain ⟨⟨t366,t367⟩,A20,H⟩:=H;replace H:(some (t366 == 0)) = some r:=H;have A2:=AM A20;clear A20;obtain rfl:=Option.some.inj H;go_enter Tryd.func26,Tryd.ntmps26;go_wp2_with (first | ((with_reducible refine gate_dst (N:=1) rfl ?_);refine boxE 1 #[.slice A0_0 l0_0.length c0_0,.int .i64 a0_1] 24 ?_;intro gb365 hg w3 hbox hb;have BK365:=AM (hbox);have GW365:=GW HB hg;have GE365:=GW HB hg;replace HB:=BS HB hb;clear hb hbox hg;have hcz4_0:=BC BK365 0 (.slice A0_0 l0_0.length c0_0) rfl;have hcz4_1:=BC BK365 1 (.int .i64 a0_1) rfl;have hfz4_0:=BF BK365 0;have hfz4_1:=BF BK365 1) | ((with_reducible refine gate_callee (f:=35) rfl ?_);refine goesM_ (some 7) rfl rfl Tryd.func35 #[.agg #[.slice A0_0 l0_0.length c0_0,.int .i64 a0_1]] rfl ?_;(with_reducible refine (r09_Check.calls k _ _ l0_0 a0_1 t366 t367 _ ?side1 ?side2 A2.out).mono ?_);(case side1 => exact Kd.C_below HR0_0.out (BB HB));(case side2 => exact HC0_0.out);rintro e w5 ⟨rfl,hb⟩;refine ⟨_,rfl,?_⟩;replace BK365:=BE BK365 hb;replace HB:=BS HB hb;(try clear hb);(try clear hb2);(try clear hk);(try clear hi)))
 go_ret;exact RT (BB HB)
def r06_Bytes.l0:Nat→List ByteArray→Int→Int→Option (Int)
 | 0,_,_,_ => none
 | k+1,x0,x3,x4 => if x4 < (x0.length:Int) then (if 0≤x4 then (r06_Bytes.l0 k x0 (wrap64 (x3+((rdOf ByteArray.empty x0 x4).size:Int))) (wrap64 (x4+1))) else (none)) else (some x3)
def r06_Bytes.f (k:Nat) (l0:List ByteArray):Option (Int):=r06_Bytes.l0 k l0 0 0
theorem r06_Bytes.calls (k:Nat) (A0:Option Addr) (c0:Nat) (l0:List ByteArray) (r:Int) (w:World) (hr0:Kd.C Kd.string w A0 l0.length l0) (hc0:l0.length≤c0) (h:r06_Bytes.f k l0 = some r) :
  Calls Tryd.prog 49 #[.slice A0 l0.length c0] w fun e w' => e = .returned (.int .i64 r)∧Drawn0 w w':=by
 have HR0:=AM hr0;have HC0:=AM hc0;clear hr0 hc0;have H:(r06_Bytes.l0 k l0 0 0) = some r:=h;clear h;have H':=AM H;clear H;go_enter Tryd.func49,Tryd.ntmps49;go_wp2
 go_loopg [3,4] k (fun kq v3 v4 w' => ∃ (x3_1:Int) (x4_1:Int),v3 = .int .i64 x3_1∧v4 = .int .i64 x4_1∧Aside0 (r06_Bytes.l0 kq l0 x3_1 x4_1 = some r)∧Aside0 (kq≤k)∧Drawn0 w w')
 case atStart => exact ⟨(0),(0),QD,QD,H',⟨Nat.le_refl _⟩,DZ⟩
 case round =>
  clear H';obtain ⟨x3_1,x4_1,rfl,rfl,HA,HK1,⟨m1,rfl⟩⟩:=hrel;cases gk with
  | zero => exact absurd HA.out (by simp [r06_Bytes.l0])
  | succ k1 =>
   have H:=HA.out;clear HA;simp only [r06_Bytes.l0] at H;by_cases c2:x4_1 < (l0.length:Int)
   ·rw [if_pos c2] at H;have c2b0:decide (x4_1 < (l0.length:Int)) = true:=decide_eq_true c2;clear c2;by_cases c3:0≤x4_1
    ·rw [if_pos c3] at H;have c3b0:decide (0≤x4_1) = true:=decide_eq_true c3;clear c3;have H':=AM H;clear H;have p368:0≤(x4_1:Int):=OD;have q368:x4_1 < (l0.length:Int):=OD;obtain ⟨ad368,e368,hx368_0⟩:=Kd.at_string HR0.out x4_1 p368 q368;cases e368
     replace p368:=eq_true p368;replace q368:=eq_true q368;go_wp2
     go_roundg k1
     case measure => have:=HK1.out;omega
     case rel => exact ⟨(wrap64 (x3_1+((rdOf ByteArray.empty l0 x4_1).size:Int))),(wrap64 (x4_1+1)),QD,QD,H',⟨by have:=HK1.out;omega⟩,DZ⟩
    ·rw [if_neg c3] at H;exact absurd H (by simp)
   ·rw [if_neg c2] at H;have c2b0:decide (x4_1 < (l0.length:Int)) = false:=decide_eq_false c2;clear c2;obtain rfl:=Option.some.inj H;go_wp2
    go_ret;exact ⟨QD,DZ⟩
def r06_Find.l0:Nat→List ByteArray→ByteArray→Int→Option (Int)
 | 0,_,_,_ => none
 | k+1,x0,x1,x5 => if x5 < (x0.length:Int) then (if 0≤x5 then (if (rdOf ByteArray.empty x0 x5).toList = x1.toList then (some x5) else (r06_Find.l0 k x0 x1 (wrap64 (x5+1)))) else (none)) else (some (-1))
def r06_Find.f (k:Nat) (l0:List ByteArray) (a1:ByteArray):Option (Int):=r06_Find.l0 k l0 a1 0
theorem r06_Find.calls (k:Nat) (A0:Option Addr) (c0:Nat) (l0:List ByteArray) (a1:ByteArray) (r:Int) (w:World) (hr0:Kd.C Kd.string w A0 l0.length l0) (hc0:l0.length≤c0) (h:r06_Find.f k l0 a1 = some r) :
  Calls Tryd.prog 93 #[.slice A0 l0.length c0,.string a1] w fun e w' => e = .returned (.int .i64 r)∧Drawn0 w w':=by
 have HR0:=AM hr0;have HC0:=AM hc0;clear hr0 hc0;have H:(r06_Find.l0 k l0 a1 0) = some r:=h;clear h;have H':=AM H;clear H;go_enter Tryd.func93,Tryd.ntmps93;go_wp2
 go_loopg [5] k (fun kq v5 w' => ∃ (x5_1:Int),v5 = .int .i64 x5_1∧Aside0 (r06_Find.l0 kq l0 a1 x5_1 = some r)∧Aside0 (kq≤k)∧Drawn0 w w')
 case atStart => exact ⟨(0),QD,H',⟨Nat.le_refl _⟩,DZ⟩
 case round =>
  clear H';try clear p2
  obtain ⟨x5_1,rfl,HA,HK1,⟨m1,rfl⟩⟩:=hrel;cases gk with
  | zero => exact absurd HA.out (by simp [r06_Find.l0])
  | succ k1 =>
   have H:=HA.out;clear HA;simp only [r06_Find.l0] at H;by_cases c3:x5_1 < (l0.length:Int)
   ·rw [if_pos c3] at H;have c3b0:decide (x5_1 < (l0.length:Int)) = true:=decide_eq_true c3;clear c3;by_cases c4:0≤x5_1
    ·rw [if_pos c4] at H;have c4b0:decide (0≤x5_1) = true:=decide_eq_true c4;clear c4;by_cases c5:(rdOf ByteArray.empty l0 x5_1).toList = a1.toList
     ·rw [if_pos c5] at H;have c5b0:((rdOf ByteArray.empty l0 x5_1).toList == a1.toList) = true:=beq_iff_eq.mpr c5;have c5b1:((rdOf ByteArray.empty l0 x5_1).toList != a1.toList) = false:=bne_eq_false_iff_eq.mpr c5;clear c5;obtain rfl:=Option.some.inj H;have p369:0≤(x5_1:Int):=OD;have q369:x5_1 < (l0.length:Int):=OD;obtain ⟨ad369,e369,hx369_0⟩:=Kd.at_string HR0.out x5_1 p369 q369;cases e369
      replace p369:=eq_true p369;replace q369:=eq_true q369;go_wp2
      go_ret;exact ⟨QD,DZ⟩
     ·rw [if_neg c5] at H;have c5b0:((rdOf ByteArray.empty l0 x5_1).toList == a1.toList) = false:=beq_eq_false_iff_ne.mpr c5;have c5b1:((rdOf ByteArray.empty l0 x5_1).toList != a1.toList) = true:=bne_iff_ne.mpr c5;have H':=AM H;clear H;have p369:0≤(x5_1:Int):=OD;have q369:x5_1 < (l0.length:Int):=OD;obtain ⟨ad369,e369,hx369_0⟩:=Kd.at_string HR0.out x5_1 p369 q369;cases e369
      replace p369:=eq_true p369;replace q369:=eq_true q369;go_wp2
      go_roundg k1
      case measure => have:=HK1.out;omega
      case rel => exact ⟨(wrap64 (x5_1+1)),QD,H',⟨by have:=HK1.out;omega⟩,DZ⟩
    ·rw [if_neg c4] at H;exact absurd H (by simp)
   ·rw [if_neg c3] at H;have c3b0:decide (x5_1 < (l0.length:Int)) = false:=decide_eq_false c3;clear c3;obtain rfl:=Option.some.inj H;go_wp2
    go_ret;exact ⟨QD,DZ⟩
def r06_Intern.f (k:Nat) (l0:List ByteArray) (a1:ByteArray):Option (List ByteArray × Int):=(r06_Find.f k l0 a1).bind fun t370 => (if t370 ≥ 0 then (some (l0,t370)) else ((some (([]:List ByteArray):List ByteArray)).bind fun y371 => (if y371.length+l0.length < 8796093022208 then ((some (y371 ++ l0:List ByteArray)).bind fun y374 => (if y374.length < 8796093022208 then (some ((y374 ++ [a1]),(l0.length:Int))) else (none))) else (none))))
theorem r06_Intern.calls (k:Nat) (P0_:Nat→Prop) (u9000_:Value) (l0:List ByteArray) (a1:ByteArray) (r1:List ByteArray) (r2:Int) (w0 w:World) (hB:Below w0.heap.size w0 w) (ho0:Kd.R Kd.string 9 w w0.heap.size P0_ u9000_ l0) (h:r06_Intern.f k l0 a1 = some (r1,r2)) :
  Calls Tryd.prog 78 #[u9000_,.string a1] w fun e w' => ∃ v0_:Value,e = .returned (.tuple #[v0_,.int .i64 r2])∧Kd.R Kd.string 9 w' w0.heap.size (fun k_ => (P0_ k_ ∨ w.heap.size≤k_)) v0_ r1∧Below w0.heap.size w0 w'∧Kept w w' (fun k_ => P0_ k_):=by
 have HO0:=AM (show Kd.R Kd.string 9 w w0.heap.size (fun k_ => (P0_ k_ ∨ w.heap.size≤k_)) u9000_ l0 from Kd.R_mono ho0 (fun k_ hk => (.inl hk)));have HK:=AM (Kept.refl w (fun k_ => P0_ k_));have HW0:=AM hB.size;have HB:=AM hB;clear hB;have H:((r06_Find.f k l0 a1).bind fun t370 => (if t370 ≥ 0 then (some (l0,t370)) else ((some (([]:List ByteArray):List ByteArray)).bind fun y371 => (if y371.length+l0.length < 8796093022208 then ((some (y371 ++ l0:List ByteArray)).bind fun y374 => (if y374.length < 8796093022208 then (some ((y374 ++ [a1]),(l0.length:Int))) else (none))) else (none))))) = some (r1,r2):=h;clear h;replace H:=Option.bind_eq_some_iff.mp H;obtain ⟨t370,A30,H⟩:=H;replace H:(if t370 ≥ 0 then (some (l0,t370)) else ((some (([]:List ByteArray):List ByteArray)).bind fun y371 => (if y371.length+l0.length < 8796093022208 then ((some (y371 ++ l0:List ByteArray)).bind fun y374 => (if y374.length < 8796093022208 then (some ((y374 ++ [a1]),(l0.length:Int))) else (none))) else (none)))) = some (r1,r2):=H;have A3:=AM A30;clear A30;by_cases c4:t370 ≥ 0
 ·rw [if_pos c4] at H;have c4b0:decide (0≤t370) = true:=decide_eq_true c4;clear c4;simp only [Option.some.injEq,Prod.mk.injEq] at H;obtain ⟨rfl,rfl⟩:=H;obtain ⟨Ao5,co5,eo5⟩:=Kd.R_slice HO0.out;subst eo5;go_enter Tryd.func78,Tryd.ntmps78;go_wp2_with (first | ((with_reducible refine gate_callee (f:=93) rfl ?_);refine goesM_ (some 9) rfl rfl Tryd.func93 #[.slice Ao5 l0.length co5,.string a1] rfl ?_;(with_reducible refine (r06_Find.calls k _ _ l0 a1 t370 _ ?side1 ?side2 A3.out).mono ?_);(case side1 => exact CR HO0);(case side2 => exact (Kd.R_reads' HO0.out).2.1);rintro e w' ⟨rfl,⟨nd,rfl⟩⟩;refine ⟨_,rfl,?_⟩))
  go_ret2
  exact ⟨_,by first | rfl | (simp [errW_none,errW_some] <;> rfl) | (simp [*,errW_none,errW_some] <;> rfl),RA HO0.out,BB HB,by repeat (first | (with_reducible first | exact HK.out | apply Kept.alloc | apply Kept.drewN | apply Kept.drew) | exact HK.out)⟩
 ·rw [if_neg c4] at H;have c4b0:decide (0≤t370) = false:=decide_eq_false c4;clear c4;obtain ⟨y371,hy371⟩:∃ y_:List ByteArray,y_ = (([]:List ByteArray)):=⟨_,rfl⟩;replace H:(if y371.length+l0.length < 8796093022208 then ((some (y371 ++ l0:List ByteArray)).bind fun y374 => (if y374.length < 8796093022208 then (some ((y374 ++ [a1]),(l0.length:Int))) else (none))) else (none)) = some (r1,r2):=QH hy371 H
  have Ny371:=AM hy371;clear hy371;by_cases c6:y371.length+l0.length < 8796093022208
  ·rw [if_pos c6] at H;have LMc6:=AM c6;clear c6;obtain ⟨y374,hy374⟩:∃ y_:List ByteArray,y_ = (y371 ++ l0):=⟨_,rfl⟩;replace H:(if y374.length < 8796093022208 then (some ((y374 ++ [a1]),(l0.length:Int))) else (none)) = some (r1,r2):=QH hy374 H
   have Ny374:=AM hy374;clear hy374;by_cases c7:y374.length < 8796093022208
   ·rw [if_pos c7] at H;have LMc7:=AM c7;clear c7;obtain ⟨y377,hy377⟩:∃ y_:List ByteArray,y_ = (y374 ++ [a1]):=⟨_,rfl⟩;replace H:(some (y377,(l0.length:Int))) = some (r1,r2):=QH hy377 H
    have Ny377:=AM hy377;clear hy377;simp only [Option.some.injEq,Prod.mk.injEq] at H;obtain ⟨rfl,rfl⟩:=H;obtain ⟨Ao8,co8,eo8⟩:=Kd.R_slice HO0.out;subst eo8;go_enter Tryd.func78,Tryd.ntmps78;go_wp2_with (first | ((with_reducible refine gate_callee (f:=93) rfl ?_);refine goesM_ (some 9) rfl rfl Tryd.func93 #[.slice Ao8 l0.length co8,.string a1] rfl ?_;(with_reducible refine (r06_Find.calls k _ _ l0 a1 t370 _ ?side1 ?side2 A3.out).mono ?_);(case side1 => exact CR HO0);(case side2 => exact (Kd.R_reads' HO0.out).2.1);rintro e w' ⟨rfl,⟨nd,rfl⟩⟩;refine ⟨_,rfl,?_⟩) | ((with_reducible refine gate_dst (N:=14) rfl ?_);refine Kd.R_lit Kd.string _ 9 ?hg (N:=14) ?hd (xs:=([]:List ByteArray)) (inner:=[]) (ok:=fun _ => True) (okp:=fun _ => True) ?hr ?hp (fun _ hk => hk) trivial (Below.refl _ _) (Nat.le_refl _) (by simp) ?_;(case hd => rfl);(case hg => rfl);(case hr => first | (go_simp;done) | (go_simp;rfl));(case hp => exact (Reps.none _ _));intro v372 w9 ho10 hb hg_ hnew_;clear hg_ hnew_;(first | rw [← Ny371.out] at ho10 | (simp only [Int.reduceToNat] at ho10;rw [← Ny371.out] at ho10));have HO373:=AM (Kd.R_lower (Kd.R_new' (Kd.R_newM (M:=fun k_ => (P0_ k_ ∨ w.heap.size≤k_)) ho10 (by first | exact HK.out.1 | exact (show Kept w _ (fun k_ => P0_ k_) from by repeat (first | (with_reducible first | exact HK.out | apply Kept.alloc | apply Kept.drewN | apply Kept.drew) | exact HK.out)).1) (fun k_ h_ => .inr h_)) (Kd.R_lt (RL HO0))) (below_size (BB HB)));replace HO0:=AM (Kd.R_elder' (RL HO0) (Kd.R_base ho10) hb);replace HK:=AM (Kept.below (S:=(fun k_ => P0_ k_)) (by repeat (first | (with_reducible first | exact HK.out | apply Kept.alloc | apply Kept.drewN | apply Kept.drew) | exact HK.out)) hb);replace HB:=BS HB hb;clear hb ho10) | ((with_reducible refine gate_builtin (b:=.append) (xs:=#[.tmp 14,.tmp 15]) rfl ?_);at_builtin;refine Kd.R_append_rows Kd.string (w0:=w0) w0.heap.size rfl (.tmp 14) (.tmp 15) 50 9 (.string ⟨#[]⟩) 16 rfl Tryd.underlying50 info9 rfl (by decide) (by omega) v372 y371 l0 _ _ _ (fun k_ => (P0_ k_ ∨ w.heap.size≤k_)∧some k_≠(.slice Ao8 l0.length co8:Value).ownBlock) (fun _ => False) rfl rfl ?aO ?aR (fun _ _ h => h) (fun _ h => h.elim) ?aF ?aB ?aS ?aL ?_;(case aR => repeat (first | exact (Kd.R_reads' HO0.out).2.2 | (with_reducible refine Kd.C_alloc ?_ _) | (with_reducible refine Kd.C_drewN ?_ _) | (with_reducible refine Kd.C_drew ?_)));(case aB => exact (BB HB));(case aF => exact (fun k_ hk => ⟨(.inr (Nat.le_trans (by first | exact HK.out.1 | exact (show Kept w _ (fun k_ => P0_ k_) from by repeat (first | (with_reducible first | exact HK.out | apply Kept.alloc | apply Kept.drewN | apply Kept.drew) | exact HK.out)).1) hk)),Kd.fresh' (Kd.R_lt (RL HO0)) k_ hk⟩));(case aO => exact (by (with_reducible repeat (first | apply Kd.R_alloc | apply Kd.R_drewN | apply Kd.R_drew));exact Kd.R_mono HO373.out (fun _ hk => ⟨hk.1.1,hk.2⟩)));(case aS => exact (below_size (BB HB)));(case aL => have:=LMc6.out;omega);intro v375 w11 ho hb hg hat;rw [← Ny374.out] at ho;replace HO0:=AM (Kd.R_after (ok:=(fun k_ => (P0_ k_ ∨ w.heap.size≤k_))) (RL HO0) hg hat);replace HB:=AM (hb);replace HK:=AM (Kept.of_grown (S:=(fun k_ => P0_ k_)) hg (by repeat (first | (with_reducible first | exact HK.out | apply Kept.alloc | apply Kept.drewN | apply Kept.drew) | exact HK.out)) (fun k_ e_ => (HO373.out.1 k_ e_).1.1));have HO376:=AM (ho);clear HO373;clear ho hb hg hat) | ((with_reducible refine gate_builtin (b:=.append) (xs:=#[.tmp 16,.tmp 18]) rfl ?_);at_builtin;refine Kd.R_append Kd.string (w0:=w0) w0.heap.size rfl (.tmp 16) (.tmp 18) 50 9 (.string ⟨#[]⟩) 16 rfl Tryd.underlying50 info9 rfl (by decide) (by omega) v375 y374 a1 [.string a1] (fun k_ => (P0_ k_ ∨ w.heap.size≤k_)∧some k_≠(.slice Ao8 l0.length co8:Value).ownBlock) (fun _ => False) rfl rfl ?aP (fun _ hk => hk.elim) ?aF ?aO ?aB ?aS ?aL ?_;(case aP => exact rfl);(case aB => exact (BB HB));(case aF => exact (fun k_ hk => ⟨(.inr (Nat.le_trans (by first | exact HK.out.1 | exact (show Kept w _ (fun k_ => P0_ k_) from by repeat (first | (with_reducible first | exact HK.out | apply Kept.alloc | apply Kept.drewN | apply Kept.drew) | exact HK.out)).1) hk)),Kd.fresh' (Kd.R_lt (RL HO0)) k_ hk⟩));(case aO => exact (RL HO376));(case aS => exact (below_size (BB HB)));(case aL => have:=LMc7.out;omega);intro v378 w12 ho hb hg hat;rw [← Ny377.out] at ho;replace HO0:=AM (Kd.R_after (ok:=(fun k_ => (P0_ k_ ∨ w.heap.size≤k_))) (RL HO0) hg hat);replace HB:=AM (hb);replace HK:=AM (Kept.of_grown (S:=(fun k_ => P0_ k_)) hg (by repeat (first | (with_reducible first | exact HK.out | apply Kept.alloc | apply Kept.drewN | apply Kept.drew) | exact HK.out)) (fun k_ e_ => (HO376.out.1 k_ e_).1));have HO379:=AM (ho);clear HO376;clear ho hb hg hat))
    go_ret2
    exact ⟨_,by first | rfl | (simp [errW_none,errW_some] <;> rfl) | (simp [*,errW_none,errW_some] <;> rfl),by (with_reducible repeat (first | apply Kd.R_alloc | apply Kd.R_drewN | apply Kd.R_drew));exact Kd.R_mono HO379.out (fun _ hk => hk.1),BB HB,by repeat (first | (with_reducible first | exact HK.out | apply Kept.alloc | apply Kept.drewN | apply Kept.drew) | exact HK.out)⟩
   ·rw [if_neg c7] at H;exact absurd H (by simp)
  ·rw [if_neg c6] at H;exact absurd H (by simp)
end Go.Proofs.YtcphcaiiofeflaaDoor.GO
