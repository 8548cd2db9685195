
import Derived.Test.YtcphcaiiofeflaaDoorOmGOx0
import Derived.Test.YtcphcaiiofeflaaDoorOmGOx18
import Derived.Test.YtcphcaiiofeflaaDoorOmGOx19
import Derived.Test.YtcphcaiiofeflaaDoorOmGOx20
namespace Go.Proofs.YtcphcaiiofeflaaDoor.GO
open Go.RowKit Go.Proofs.YtcphcaiiofeflaaDoorW.PrintWords Go.Proofs.YtcphcaiiofeflaaDoorW.PrintLast Go.Proofs.YtcphcaiiofeflaaDoorW.PrintMore
attribute [local go_sem] max2_int min2_int max_two min_two max_three min_three max_four min_four
set_option maxHeartbeats 8000000
set_option maxRecDepth 100000
set_option linter.unusedVariables false
set_option linter.unusedSimpArgs false
mutual
def r09_Check.l0:Nat→Int→List (S53)→Int→Option (Int × Int)
 | 0,_,_,_ => none
 | k+1,x5,x355000,x355001 => if x5 < (x355000.length:Int) then ((r09_Led.f k x355000 x355001 x5).bind fun t357 => (if 0≤x5 then (if x5 < (t357.length:Int) then (if rdOf false t357 x5 = true then (some (14,x5)) else (r09_Check.l0 k (wrap64 (x5+1)) x355000 x355001)) else (none)) else (none))) else ((r09_Led.f k x355000 x355001 x355001).bind fun t361 => (r09_Check.l1 k t361 0 x355000 x355001))
def r09_Check.l1:Nat→List Bool→Int→List (S53)→Int→Option (Int × Int)
 | 0,_,_,_,_ => none
 | k+1,x6,x7,x355000,x355001 => if x7 < (x355000.length:Int) then (if x7 = x355001 then (r09_Check.l1 k x6 (wrap64 (x7+1)) x355000 x355001) else (if 0≤x7 then (if x7 < (x6.length:Int) then (if rdOf false x6 x7 = true then (r09_Check.l1 k x6 (wrap64 (x7+1)) x355000 x355001) else (some (15,x7))) else (none)) else (none))) else (some (0,0))
end
def r09_Check.f (k:Nat) (l0_0:List (S53)) (a0_1:Int):Option (Int × Int):=(r09_Place.f l0_0 a0_1 a0_1).bind fun t355 => (if t355 = true then ((r09_Refs.f k l0_0 a0_1).bind fun t356 => (if t356 ≥ 0 then (some (13,t356)) else (r09_Check.l0 k 0 l0_0 a0_1))) else (some (13,(-1))))
theorem r09_Check.calls (k:Nat) (A0_0:Option Addr) (c0_0:Nat) (l0_0:List (S53)) (a0_1:Int) (r1:Int) (r2:Int) (w:World) (hr0_0:Kd.C k53 w A0_0 l0_0.length l0_0) (hc0_0:l0_0.length≤c0_0) (h:r09_Check.f k l0_0 a0_1 = some (r1,r2)) :
  Calls Tryd.prog 35 #[.agg #[.slice A0_0 l0_0.length c0_0,.int .i64 a0_1]] w fun e w' => e = .returned (.tuple #[.int .i64 r1,.int .i64 r2])∧Below w.heap.size w w':=by
 have hu24:=Tryd.underlying24;have HR0_0:=AM hr0_0;have HC0_0:=AM hc0_0;clear hr0_0 hc0_0;have HB:=AM (Below.refl w.heap.size w);have H:((r09_Place.f l0_0 a0_1 a0_1).bind fun t355 => (if t355 = true then ((r09_Refs.f k l0_0 a0_1).bind fun t356 => (if t356 ≥ 0 then (some (13,t356)) else (r09_Check.l0 k 0 l0_0 a0_1))) else (some (13,(-1))))) = some (r1,r2):=h;clear h;replace H:=Option.bind_eq_some_iff.mp H;obtain ⟨t355,A20,H⟩:=H;replace H:(if t355 = true then ((r09_Refs.f k l0_0 a0_1).bind fun t356 => (if t356 ≥ 0 then (some (13,t356)) else (r09_Check.l0 k 0 l0_0 a0_1))) else (some (13,(-1)))) = some (r1,r2):=H;have A2:=AM A20;clear A20;by_cases c3:t355 = true
 ·subst c3;have H1:((r09_Refs.f k l0_0 a0_1).bind fun t356 => (if t356 ≥ 0 then (some (13,t356)) else (r09_Check.l0 k 0 l0_0 a0_1))) = some (r1,r2):=by rw [if_pos rfl] at H;exact H
  clear H;have H:=H1;clear H1;replace H:=Option.bind_eq_some_iff.mp H;obtain ⟨t356,A40,H⟩:=H;replace H:(if t356 ≥ 0 then (some (13,t356)) else (r09_Check.l0 k 0 l0_0 a0_1)) = some (r1,r2):=H;have A4:=AM A40;clear A40;by_cases c5:t356 ≥ 0
  ·rw [if_pos c5] at H;have c5b0:decide (0≤t356) = true:=decide_eq_true c5;clear c5;simp only [Option.some.injEq,Prod.mk.injEq] at H;obtain ⟨rfl,rfl⟩:=H;go_enter Tryd.func35,Tryd.ntmps35;go_wp2_with (first | ((with_reducible refine gate_dst (N:=1) rfl ?_);refine boxE 1 #[.slice A0_0 l0_0.length c0_0,.int .i64 a0_1] 24 ?_;intro gb354 hg w6 hbox hb;have BK354:=AM (hbox);have GW354:=GW HB hg;have GE354:=GW HB hg;replace HB:=BS HB hb;clear hb hbox hg;have hcz7_0:=BC BK354 0 (.slice A0_0 l0_0.length c0_0) rfl;have hcz7_1:=BC BK354 1 (.int .i64 a0_1) rfl;have hfz7_0:=BF BK354 0;have hfz7_1:=BF BK354 1) | ((with_reducible refine gate_callee (f:=59) rfl ?_);refine goesM_ (some 11) rfl rfl Tryd.func59 #[.agg #[.slice A0_0 l0_0.length c0_0,.int .i64 a0_1],.int .i64 a0_1] rfl ?_;(with_reducible refine (r09_Place.calls _ _ l0_0 a0_1 a0_1 true _ ?side1 ?side2 A2.out).mono ?_);(case side1 => exact Kd.C_below HR0_0.out (BB HB));(case side2 => exact HC0_0.out);rintro e w8 ⟨rfl,hb⟩;refine ⟨_,rfl,?_⟩;replace BK354:=BE BK354 hb;replace HB:=BS HB hb;(try clear hb);(try clear hb2);(try clear hk);(try clear hi);have hcz9_0:=BC BK354 0 (.slice A0_0 l0_0.length c0_0) rfl;have hcz9_1:=BC BK354 1 (.int .i64 a0_1) rfl;have hfz9_0:=BF BK354 0;have hfz9_1:=BF BK354 1) | ((with_reducible refine gate_callee (f:=60) rfl ?_);refine goesM_ (some 14) rfl rfl Tryd.func60 #[.agg #[.slice A0_0 l0_0.length c0_0,.int .i64 a0_1]] rfl ?_;(with_reducible refine (r09_Refs.calls k _ _ l0_0 a0_1 t356 _ ?side1 ?side2 A4.out).mono ?_);(case side1 => exact Kd.C_below HR0_0.out (BB HB));(case side2 => exact HC0_0.out);rintro e w10 ⟨rfl,hb⟩;refine ⟨_,rfl,?_⟩;replace BK354:=BE BK354 hb;replace HB:=BS HB hb;(try clear hb);(try clear hb2);(try clear hk);(try clear hi)))
   go_ret2
   exact RT (BB HB)
  ·rw [if_neg c5] at H;have c5b0:decide (0≤t356) = false:=decide_eq_false c5;clear c5;have H':=AM H;clear H;go_enter Tryd.func35,Tryd.ntmps35;go_wp2_with (first | ((with_reducible refine gate_dst (N:=1) rfl ?_);refine boxE 1 #[.slice A0_0 l0_0.length c0_0,.int .i64 a0_1] 24 ?_;intro gb354 hg w11 hbox hb;have BK354:=AM (hbox);have GW354:=GW HB hg;have GE354:=GW HB hg;replace HB:=BS HB hb;clear hb hbox hg;have hcz12_0:=BC BK354 0 (.slice A0_0 l0_0.length c0_0) rfl;have hcz12_1:=BC BK354 1 (.int .i64 a0_1) rfl;have hfz12_0:=BF BK354 0;have hfz12_1:=BF BK354 1) | ((with_reducible refine gate_callee (f:=59) rfl ?_);refine goesM_ (some 11) rfl rfl Tryd.func59 #[.agg #[.slice A0_0 l0_0.length c0_0,.int .i64 a0_1],.int .i64 a0_1] rfl ?_;(with_reducible refine (r09_Place.calls _ _ l0_0 a0_1 a0_1 true _ ?side1 ?side2 A2.out).mono ?_);(case side1 => exact Kd.C_below HR0_0.out (BB HB));(case side2 => exact HC0_0.out);rintro e w13 ⟨rfl,hb⟩;refine ⟨_,rfl,?_⟩;replace BK354:=BE BK354 hb;replace HB:=BS HB hb;(try clear hb);(try clear hb2);(try clear hk);(try clear hi);have hcz14_0:=BC BK354 0 (.slice A0_0 l0_0.length c0_0) rfl;have hcz14_1:=BC BK354 1 (.int .i64 a0_1) rfl;have hfz14_0:=BF BK354 0;have hfz14_1:=BF BK354 1) | ((with_reducible refine gate_callee (f:=60) rfl ?_);refine goesM_ (some 14) rfl rfl Tryd.func60 #[.agg #[.slice A0_0 l0_0.length c0_0,.int .i64 a0_1]] rfl ?_;(with_reducible refine (r09_Refs.calls k _ _ l0_0 a0_1 t356 _ ?side1 ?side2 A4.out).mono ?_);(case side1 => exact Kd.C_below HR0_0.out (BB HB));(case side2 => exact HC0_0.out);rintro e w15 ⟨rfl,hb⟩;refine ⟨_,rfl,?_⟩;replace BK354:=BE BK354 hb;replace HB:=BS HB hb;(try clear hb);(try clear hb2);(try clear hk);(try clear hi)))
   go_loopg [5] k (fun kq v5 w' => ∃ (x5_1:Int),v5 = .int .i64 x5_1∧Aside0 (r09_Check.l0 kq x5_1 l0_0 a0_1 = some (r1,r2))∧Aside0 (kq≤k)∧Aside0 (w'.heap[gb354]? = some (.cells #[(.slice A0_0 l0_0.length c0_0),.int .i64 a0_1] 24 (0,0)))∧Aside0 (Below w.heap.size w w'))
   case atStart => exact ⟨(0),QD,H',⟨Nat.le_refl _⟩,⟨BL BK354⟩,⟨BB HB⟩⟩
   case round =>
    clear H';try clear p2
    try clear c3
    try clear c5
    try clear c5b0
    try clear c6
    try clear hcz12_0
    try clear hcz12_1
    try clear hcz14_0
    try clear hcz14_1
    try clear hcz7_0
    try clear hcz7_1
    try clear hcz9_0
    try clear hcz9_1
    try clear hfz12_0
    try clear hfz12_1
    try clear hfz14_0
    try clear hfz14_1
    try clear hfz7_0
    try clear hfz7_1
    try clear hfz9_0
    try clear hfz9_1
    obtain ⟨x5_1,rfl,HA,HK1,BK354,HB⟩:=hrel;cases gk with
    | zero => exact absurd HA.out (by simp [r09_Check.l0])
    | succ k1 =>
     have H:=HA.out;clear HA;simp only [r09_Check.l0] at H;by_cases c16:x5_1 < (l0_0.length:Int)
     ·rw [if_pos c16] at H;have c16b0:decide (x5_1 < (l0_0.length:Int)) = true:=decide_eq_true c16;clear c16;replace H:=Option.bind_eq_some_iff.mp H;obtain ⟨t357,A170,H⟩:=H;replace H:(if 0≤x5_1 then (if x5_1 < (t357.length:Int) then (if rdOf false t357 x5_1 = true then (some (14,x5_1)) else (r09_Check.l0 k1 (wrap64 (x5_1+1)) l0_0 a0_1)) else (none)) else (none)) = some (r1,r2):=H;have A17:=AM A170;clear A170;by_cases c18:0≤x5_1
      ·rw [if_pos c18] at H;have c18b0:decide (0≤x5_1) = true:=decide_eq_true c18;clear c18;by_cases c19:x5_1 < (t357.length:Int)
       ·rw [if_pos c19] at H;have c19b0:decide (x5_1 < (t357.length:Int)) = true:=decide_eq_true c19;clear c19;obtain ⟨bq20,hbq20⟩:∃ b_:Bool,b_ = (rdOf false t357 x5_1):=⟨_,rfl⟩;replace H:(if bq20 = true then (some (14,x5_1)) else (r09_Check.l0 k1 (wrap64 (x5_1+1)) l0_0 a0_1)) = some (r1,r2):=by rw [← hbq20] at H;exact H
        have Nbq20:=AM hbq20;clear hbq20;by_cases c21:bq20 = true
        ·subst c21;have H1:(some (14,x5_1)) = some (r1,r2):=by rw [if_pos rfl] at H;exact H
         clear H;have H:=H1;clear H1;simp only [Option.some.injEq,Prod.mk.injEq] at H;obtain ⟨rfl,rfl⟩:=H;have hcz22_0:=BC BK354 0 (.slice A0_0 l0_0.length c0_0) rfl;have hcz22_1:=BC BK354 1 (.int .i64 a0_1) rfl;have hfz22_0:=BF BK354 0;have hfz22_1:=BF BK354 1;go_wp2_with (first | ((with_reducible refine gate_callee (f:=61) rfl ?_);refine goesM_ (some 27) rfl rfl Tryd.func61 #[.agg #[.slice A0_0 l0_0.length c0_0,.int .i64 a0_1],.int .i64 x5_1] rfl ?_;(with_reducible refine (r09_Led.calls k1 _ _ l0_0 a0_1 x5_1 t357 _ ?side1 ?side2 A17.out).mono ?_);(case side1 => exact Kd.C_below HR0_0.out (BB HB));(case side2 => exact HC0_0.out);rintro e w23 ⟨v358,rfl,ho0,hb⟩;refine ⟨_,rfl,?_⟩;have HO359:=AM (Kd.R_lower ho0 (below_size (BB HB)));replace BK354:=BE BK354 hb;replace HB:=BS HB hb;(try clear hb);(try clear hb2);(try clear hk);(try clear hi);(try clear ho0);obtain ⟨Ao24,co24,eo24⟩:=Kd.R_slice HO359.out;subst eo24;have p360:0≤(x5_1:Int):=OD;have q360:x5_1 < (t357.length:Int):=OD;obtain ⟨ad360,e360,hx360_0⟩:=Kd.at_bool (Kd.R_reads' HO359.out).2.2 x5_1 p360 q360;(try rw [← Nbq20.out] at hx360_0);cases e360;replace p360:=eq_true p360;replace q360:=eq_true q360))
         go_ret2
         exact RT (BB HB)
        ·replace c21:=Bool.eq_false_iff.mpr c21;subst c21;have H1:(r09_Check.l0 k1 (wrap64 (x5_1+1)) l0_0 a0_1) = some (r1,r2):=by rw [if_neg (show ¬ (false = true) by decide)] at H;exact H
         clear H;have H:=H1;clear H1;have H':=AM H;clear H;have hcz25_0:=BC BK354 0 (.slice A0_0 l0_0.length c0_0) rfl;have hcz25_1:=BC BK354 1 (.int .i64 a0_1) rfl;have hfz25_0:=BF BK354 0;have hfz25_1:=BF BK354 1;go_wp2_with (first | ((with_reducible refine gate_callee (f:=61) rfl ?_);refine goesM_ (some 27) rfl rfl Tryd.func61 #[.agg #[.slice A0_0 l0_0.length c0_0,.int .i64 a0_1],.int .i64 x5_1] rfl ?_;(with_reducible refine (r09_Led.calls k1 _ _ l0_0 a0_1 x5_1 t357 _ ?side1 ?side2 A17.out).mono ?_);(case side1 => exact Kd.C_below HR0_0.out (BB HB));(case side2 => exact HC0_0.out);rintro e w26 ⟨v358,rfl,ho0,hb⟩;refine ⟨_,rfl,?_⟩;have HO359:=AM (Kd.R_lower ho0 (below_size (BB HB)));replace BK354:=BE BK354 hb;replace HB:=BS HB hb;(try clear hb);(try clear hb2);(try clear hk);(try clear hi);(try clear ho0);obtain ⟨Ao27,co27,eo27⟩:=Kd.R_slice HO359.out;subst eo27;have p360:0≤(x5_1:Int):=OD;have q360:x5_1 < (t357.length:Int):=OD;obtain ⟨ad360,e360,hx360_0⟩:=Kd.at_bool (Kd.R_reads' HO359.out).2.2 x5_1 p360 q360;(try rw [← Nbq20.out] at hx360_0);cases e360;replace p360:=eq_true p360;replace q360:=eq_true q360))
         go_roundg k1
         case measure => have:=HK1.out;omega
         case rel => exact ⟨(wrap64 (x5_1+1)),QD,H',⟨by have:=HK1.out;omega⟩,⟨BL BK354⟩,⟨BB HB⟩⟩
       ·rw [if_neg c19] at H;exact absurd H (by simp)
      ·rw [if_neg c18] at H;exact absurd H (by simp)
     ·rw [if_neg c16] at H;have c16b0:decide (x5_1 < (l0_0.length:Int)) = false:=decide_eq_false c16;clear c16;replace H:=Option.bind_eq_some_iff.mp H;obtain ⟨t361,A280,H⟩:=H;replace H:(r09_Check.l1 k1 t361 0 l0_0 a0_1) = some (r1,r2):=H;have A28:=AM A280;clear A280;have H':=AM H;clear H;have hcz29_0:=BC BK354 0 (.slice A0_0 l0_0.length c0_0) rfl;have hcz29_1:=BC BK354 1 (.int .i64 a0_1) rfl;have hfz29_0:=BF BK354 0;have hfz29_1:=BF BK354 1;go_wp2_with (first | ((with_reducible refine gate_callee (f:=61) rfl ?_);refine goesM_ (some 35) rfl rfl Tryd.func61 #[.agg #[.slice A0_0 l0_0.length c0_0,.int .i64 a0_1],.int .i64 a0_1] rfl ?_;(with_reducible refine (r09_Led.calls k1 _ _ l0_0 a0_1 a0_1 t361 _ ?side1 ?side2 A28.out).mono ?_);(case side1 => exact Kd.C_below HR0_0.out (BB HB));(case side2 => exact HC0_0.out);rintro e w30 ⟨v362,rfl,ho0,hb⟩;refine ⟨_,rfl,?_⟩;have HO363:=AM (Kd.R_lower ho0 (below_size (BB HB)));replace BK354:=BE BK354 hb;replace HB:=BS HB hb;(try clear hb);(try clear hb2);(try clear hk);(try clear hi);(try clear ho0)))
      go_loopg [7] k1 (fun kq v7 w' => ∃ (x7_2:Int),v7 = .int .i64 x7_2∧Aside0 (r09_Check.l1 kq t361 x7_2 l0_0 a0_1 = some (r1,r2))∧Aside0 (kq≤k1)∧Aside0 (Kd.R Kd.bool 4 w' w.heap.size (fun _ => True) v362 t361)∧Aside0 (w'.heap[gb354]? = some (.cells #[(.slice A0_0 l0_0.length c0_0),.int .i64 a0_1] 24 (0,0)))∧Aside0 (Below w.heap.size w w'))
      case atStart => exact ⟨(0),QD,H',⟨Nat.le_refl _⟩,⟨RA HO363.out⟩,⟨BL BK354⟩,⟨BB HB⟩⟩
      case round =>
       clear H';try clear c1
       try clear c2
       try clear p2
       try clear q2
       try clear c3
       try clear p3
       try clear q3
       try clear hx3
       try clear c5
       try clear c5b0
       try clear c6
       try clear p6
       try clear c16
       try clear c16b0
       try clear c18
       try clear c18b0
       try clear c19
       try clear c19b0
       try clear q20
       try clear c21
       try clear hcz12_0
       try clear hcz12_1
       try clear hcz14_0
       try clear hcz14_1
       try clear hcz22_0
       try clear hcz22_1
       try clear hcz25_0
       try clear hcz25_1
       try clear hcz29_0
       try clear hcz29_1
       try clear hcz7_0
       try clear hcz7_1
       try clear hcz9_0
       try clear hcz9_1
       try clear hfz12_0
       try clear hfz12_1
       try clear hfz14_0
       try clear hfz14_1
       try clear hfz22_0
       try clear hfz22_1
       try clear hfz25_0
       try clear hfz25_1
       try clear hfz29_0
       try clear hfz29_1
       try clear hfz7_0
       try clear hfz7_1
       try clear hfz9_0
       try clear hfz9_1
       try clear hx360_0
       try clear p2
       try clear p360
       try clear q360
       obtain ⟨x7_2,rfl,HA,HK2,HO_6,BK354,HB⟩:=hrel;cases gk with
       | zero => exact absurd HA.out (by simp [r09_Check.l1])
       | succ k2 =>
        have H:=HA.out;clear HA;simp only [r09_Check.l1] at H;by_cases c31:x7_2 < (l0_0.length:Int)
        ·rw [if_pos c31] at H;have c31b0:decide (x7_2 < (l0_0.length:Int)) = true:=decide_eq_true c31;clear c31;by_cases c32:x7_2 = a0_1
         ·rw [if_pos c32] at H;have c32b0:(x7_2 == a0_1) = true:=beq_iff_eq.mpr c32;have c32b1:(x7_2 != a0_1) = false:=bne_eq_false_iff_eq.mpr c32;clear c32;have H':=AM H;clear H;have hcz33_0:=BC BK354 0 (.slice A0_0 l0_0.length c0_0) rfl;have hcz33_1:=BC BK354 1 (.int .i64 a0_1) rfl;have hfz33_0:=BF BK354 0;have hfz33_1:=BF BK354 1;go_wp2
          go_roundg k2
          case measure => have:=HK1.out;have:=HK2.out;omega
          case rel => exact ⟨(wrap64 (x7_2+1)),QD,H',⟨by have:=HK1.out;have:=HK2.out;omega⟩,⟨RA HO_6.out⟩,⟨BL BK354⟩,⟨BB HB⟩⟩
         ·rw [if_neg c32] at H;have c32b0:(x7_2 == a0_1) = false:=beq_eq_false_iff_ne.mpr c32;have c32b1:(x7_2 != a0_1) = true:=bne_iff_ne.mpr c32;by_cases c34:0≤x7_2
          ·rw [if_pos c34] at H;have c34b0:decide (0≤x7_2) = true:=decide_eq_true c34;clear c34;by_cases c35:x7_2 < (t361.length:Int)
           ·rw [if_pos c35] at H;have c35b0:decide (x7_2 < (t361.length:Int)) = true:=decide_eq_true c35;clear c35;obtain ⟨bq36,hbq36⟩:∃ b_:Bool,b_ = (rdOf false t361 x7_2):=⟨_,rfl⟩;replace H:(if bq36 = true then (r09_Check.l1 k2 t361 (wrap64 (x7_2+1)) l0_0 a0_1) else (some (15,x7_2))) = some (r1,r2):=by rw [← hbq36] at H;exact H
            have Nbq36:=AM hbq36;clear hbq36;by_cases c37:bq36 = true
            ·subst c37;have H1:(r09_Check.l1 k2 t361 (wrap64 (x7_2+1)) l0_0 a0_1) = some (r1,r2):=by rw [if_pos rfl] at H;exact H
             clear H;have H:=H1;clear H1;have H':=AM H;clear H;have hcz38_0:=BC BK354 0 (.slice A0_0 l0_0.length c0_0) rfl;have hcz38_1:=BC BK354 1 (.int .i64 a0_1) rfl;have hfz38_0:=BF BK354 0;have hfz38_1:=BF BK354 1;obtain ⟨Ao39,co39,eo39⟩:=Kd.R_slice HO_6.out;subst eo39;have p364:0≤(x7_2:Int):=OD;have q364:x7_2 < (t361.length:Int):=OD;obtain ⟨ad364,e364,hx364_0⟩:=Kd.at_bool (Kd.R_reads' HO_6.out).2.2 x7_2 p364 q364;(try rw [← Nbq36.out] at hx364_0)
             cases e364
             replace p364:=eq_true p364;replace q364:=eq_true q364;go_wp2
             go_roundg k2
             case measure => have:=HK1.out;have:=HK2.out;omega
             case rel => exact ⟨(wrap64 (x7_2+1)),QD,H',⟨by have:=HK1.out;have:=HK2.out;omega⟩,⟨RA HO_6.out⟩,⟨BL BK354⟩,⟨BB HB⟩⟩
            ·replace c37:=Bool.eq_false_iff.mpr c37;subst c37;have H1:(some (15,x7_2)) = some (r1,r2):=by rw [if_neg (show ¬ (false = true) by decide)] at H;exact H
             clear H;have H:=H1;clear H1;simp only [Option.some.injEq,Prod.mk.injEq] at H;obtain ⟨rfl,rfl⟩:=H;have hcz40_0:=BC BK354 0 (.slice A0_0 l0_0.length c0_0) rfl;have hcz40_1:=BC BK354 1 (.int .i64 a0_1) rfl;have hfz40_0:=BF BK354 0;have hfz40_1:=BF BK354 1;obtain ⟨Ao41,co41,eo41⟩:=Kd.R_slice HO_6.out;subst eo41;have p364:0≤(x7_2:Int):=OD;have q364:x7_2 < (t361.length:Int):=OD;obtain ⟨ad364,e364,hx364_0⟩:=Kd.at_bool (Kd.R_reads' HO_6.out).2.2 x7_2 p364 q364;(try rw [← Nbq36.out] at hx364_0)
             cases e364
             replace p364:=eq_true p364;replace q364:=eq_true q364;go_wp2
             go_ret2
             exact RT (BB HB)
           ·rw [if_neg c35] at H;exact absurd H (by simp)
          ·rw [if_neg c34] at H;exact absurd H (by simp)
        ·rw [if_neg c31] at H;have c31b0:decide (x7_2 < (l0_0.length:Int)) = false:=decide_eq_false c31;clear c31;simp only [Option.some.injEq,Prod.mk.injEq] at H;obtain ⟨rfl,rfl⟩:=H;have hcz42_0:=BC BK354 0 (.slice A0_0 l0_0.length c0_0) rfl;have hcz42_1:=BC BK354 1 (.int .i64 a0_1) rfl;have hfz42_0:=BF BK354 0;have hfz42_1:=BF BK354 1;go_wp2
         go_ret2
         exact RT (BB HB)
 ·replace c3:=Bool.eq_false_iff.mpr c3;subst c3;have H1:(some (13,(-1))) = some (r1,r2):=by rw [if_neg (show ¬ (false = true) by decide)] at H;exact H
  clear H;have H:=H1;clear H1;simp only [Option.some.injEq,Prod.mk.injEq] at H;obtain ⟨rfl,rfl⟩:=H;go_enter Tryd.func35,Tryd.ntmps35;go_wp2_with (first | ((with_reducible refine gate_dst (N:=1) rfl ?_);refine boxE 1 #[.slice A0_0 l0_0.length c0_0,.int .i64 a0_1] 24 ?_;intro gb354 hg w43 hbox hb;have BK354:=AM (hbox);have GW354:=GW HB hg;have GE354:=GW HB hg;replace HB:=BS HB hb;clear hb hbox hg;have hcz44_0:=BC BK354 0 (.slice A0_0 l0_0.length c0_0) rfl;have hcz44_1:=BC BK354 1 (.int .i64 a0_1) rfl;have hfz44_0:=BF BK354 0;have hfz44_1:=BF BK354 1) | ((with_reducible refine gate_callee (f:=59) rfl ?_);refine goesM_ (some 11) rfl rfl Tryd.func59 #[.agg #[.slice A0_0 l0_0.length c0_0,.int .i64 a0_1],.int .i64 a0_1] rfl ?_;(with_reducible refine (r09_Place.calls _ _ l0_0 a0_1 a0_1 false _ ?side1 ?side2 A2.out).mono ?_);(case side1 => exact Kd.C_below HR0_0.out (BB HB));(case side2 => exact HC0_0.out);rintro e w45 ⟨rfl,hb⟩;refine ⟨_,rfl,?_⟩;replace BK354:=BE BK354 hb;replace HB:=BS HB hb;(try clear hb);(try clear hb2);(try clear hk);(try clear hi)))
  go_ret2
  exact RT (BB HB)
def r09_Right.f (k:Nat) (l0_0:List (S53)) (a0_1:Int):Option (Bool):=(r09_Check.f k l0_0 a0_1).bind fun bt366 => (some (bt366.1 == 0))
theorem r09_Right.calls (k:Nat) (A0_0:Option Addr) (c0_0:Nat) (l0_0:List (S53)) (a0_1:Int) (r:Bool) (w:World) (hr0_0:Kd.C k53 w A0_0 l0_0.length l0_0) (hc0_0:l0_0.length≤c0_0) (h:r09_Right.f k l0_0 a0_1 = some r) :
  Calls Tryd.prog 26 #[.agg #[.slice A0_0 l0_0.length c0_0,.int .i64 a0_1]] w fun e w' => e = .returned (.bool r)∧Below w.heap.size w w':=by
 have hu24:=Tryd.underlying24;have HR0_0:=AM hr0_0;have HC0_0:=AM hc0_0;clear hr0_0 hc0_0;have HB:=AM (Below.refl w.heap.size w);have H:((r09_Check.f k l0_0 a0_1).bind fun bt366 => (some (bt366.1 == 0))) = some r:=h;clear h;replace H:=Option.bind_eq_some_iff.mp H;obtain ⟨⟨t366,t367⟩,A20,H⟩:=H;replace H:(some (t366 == 0)) = some r:=H;have A2:=AM A20;clear A20;obtain rfl:=Option.some.inj H;go_enter Tryd.func26,Tryd.ntmps26;go_wp2_with (first | ((with_reducible refine gate_dst (N:=1) rfl ?_);refine boxE 1 #[.slice A0_0 l0_0.length c0_0,.int .i64 a0_1] 24 ?_;intro gb365 hg w3 hbox hb;have BK365:=AM (hbox);have GW365:=GW HB hg;have GE365:=GW HB hg;replace HB:=BS HB hb;clear hb hbox hg;have hcz4_0:=BC BK365 0 (.slice A0_0 l0_0.length c0_0) rfl;have hcz4_1:=BC BK365 1 (.int .i64 a0_1) rfl;have hfz4_0:=BF BK365 0;have hfz4_1:=BF BK365 1) | ((with_reducible refine gate_callee (f:=35) rfl ?_);refine goesM_ (some 7) rfl rfl Tryd.func35 #[.agg #[.slice A0_0 l0_0.length c0_0,.int .i64 a0_1]] rfl ?_;(with_reducible refine (r09_Check.calls k _ _ l0_0 a0_1 t366 t367 _ ?side1 ?side2 A2.out).mono ?_);(case side1 => exact Kd.C_below HR0_0.out (BB HB));(case side2 => exact HC0_0.out);rintro e w5 ⟨rfl,hb⟩;refine ⟨_,rfl,?_⟩;replace BK365:=BE BK365 hb;replace HB:=BS HB hb;(try clear hb);(try clear hb2);(try clear hk);(try clear hi)))
 go_ret;exact RT (BB HB)
def r06_Bytes.l0:Nat→List ByteArray→Int→Int→Option (Int)
 | 0,_,_,_ => none
 | k+1,x0,x3,x4 => if x4 < (x0.length:Int) then (if 0≤x4 then (r06_Bytes.l0 k x0 (wrap64 (x3+((rdOf ByteArray.empty x0 x4).size:Int))) (wrap64 (x4+1))) else (none)) else (some x3)
def r06_Bytes.f (k:Nat) (l0:List ByteArray):Option (Int):=r06_Bytes.l0 k l0 0 0
def r06_Find.l0:Nat→List ByteArray→ByteArray→Int→Option (Int)
 | 0,_,_,_ => none
 | k+1,x0,x1,x5 => if x5 < (x0.length:Int) then (if 0≤x5 then (if (rdOf ByteArray.empty x0 x5).toList = x1.toList then (some x5) else (r06_Find.l0 k x0 x1 (wrap64 (x5+1)))) else (none)) else (some (-1))
def r06_Find.f (k:Nat) (l0:List ByteArray) (a1:ByteArray):Option (Int):=r06_Find.l0 k l0 a1 0
def r06_Intern.f (k:Nat) (l0:List ByteArray) (a1:ByteArray):Option (List ByteArray × Int):=(r06_Find.f k l0 a1).bind fun t370 => (if t370 ≥ 0 then (some (l0,t370)) else ((some (([]:List ByteArray):List ByteArray)).bind fun y371 => (if y371.length+l0.length < 8796093022208 then ((some (y371 ++ l0:List ByteArray)).bind fun y374 => (if y374.length < 8796093022208 then (some ((y374 ++ [a1]),(l0.length:Int))) else (none))) else (none))))
end Go.Proofs.YtcphcaiiofeflaaDoor.GO
