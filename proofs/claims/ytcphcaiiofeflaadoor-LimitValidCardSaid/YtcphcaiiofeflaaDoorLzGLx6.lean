
import Derived.Test.YtcphcaiiofeflaaDoorLzGLx0
import Derived.Test.YtcphcaiiofeflaaDoorLzGLx4
import Derived.Test.YtcphcaiiofeflaaDoorLzGLx5
namespace Go.Proofs.YtcphcaiiofeflaaDoor.GL
open Go.RowKit Go.Proofs.YtcphcaiiofeflaaDoorW.PrintWords Go.Proofs.YtcphcaiiofeflaaDoorW.PrintLast Go.Proofs.YtcphcaiiofeflaaDoorW.PrintMore
attribute [local go_sem] max2_int min2_int max_two min_two max_three min_three max_four min_four
set_option linter.unusedVariables false
set_option linter.unusedSimpArgs false
mutual
def graph_Depth.l0:Nat→List Int→List Int→Int→Int→List (S53)→Int→Option (Int)
 | 0,_,_,_,_,_,_ => none
 | k+1,x5,x22,x23,x24,x154000,x154001 => if x24 < x23 then (if 0≤x24 then (if x24 < (x22.length:Int) then (if 0≤(rd x22 x24) then (if (rd x22 x24) < (x154000.length:Int) then (graph_Depth.l1 k x5 (rd x22 x24) x22 x23 x24 ((rd_T53 x154000 (rd x22 x24)).f3) (((rd_T53 x154000 (rd x22 x24)).f3).length:Int) 0 x154000 x154001) else (none)) else (none)) else (none)) else (none)) else (if 0≤x154001 then (if x154001 < (x5.length:Int) then (some (rd x5 x154001)) else (none)) else (none))
def graph_Depth.l1:Nat→List Int→Int→List Int→Int→Int→List Int→Int→Int→List (S53)→Int→Option (Int)
 | 0,_,_,_,_,_,_,_,_,_,_ => none
 | k+1,x5,x7,x22,x23,x24,x33,x34,x35,x154000,x154001 => if x35 < x34 then (if 0≤x35 then (if x35 < (x33.length:Int) then (if 0≤x7 then (if x7 < (x5.length:Int) then (if 0≤(rd x33 x35) then (if (rd x33 x35) < (x5.length:Int) then (graph_Depth.l1 k (x5.set (x7:Int).toNat (mx (rd x5 x7) (rd x5 (rd x33 x35)))) x7 x22 x23 x24 x33 x34 (wrap64 (x35+1)) x154000 x154001) else (none)) else (none)) else (none)) else (none)) else (none)) else (none)) else (if 0≤x7 then (if x7 < (x5.length:Int) then (graph_Depth.l0 k (x5.set (x7:Int).toNat (wrap64 ((rd x5 x7)+1))) x22 x23 (wrap64 (x24+1)) x154000 x154001) else (none)) else (none))
end
def graph_Depth.f (k:Nat) (l0_0:List (S53)) (a0_1:Int):Option (Int):=(graph_Check.f k l0_0 a0_1).bind fun bt154 => (if bt154.1 = 0 then (if 0≤(l0_0.length:Int) then (if ((l0_0.length:Int):Int).toNat≤35184372088832 then ((graph_order.f k l0_0 a0_1).bind fun t159 => (graph_Depth.l0 k (List.replicate ((l0_0.length:Int):Int).toNat 0) t159 (t159.length:Int) 0 l0_0 a0_1)) else (none)) else (none)) else (some 0))
theorem graph_Depth.mono_l:∀ k,(∀ y0 y1 y2 y3 y4 y5,LeO (graph_Depth.l0 k y0 y1 y2 y3 y4 y5) (graph_Depth.l0 (k+1) y0 y1 y2 y3 y4 y5))∧(∀ y0 y1 y2 y3 y4 y5 y6 y7 y8 y9,LeO (graph_Depth.l1 k y0 y1 y2 y3 y4 y5 y6 y7 y8 y9) (graph_Depth.l1 (k+1) y0 y1 y2 y3 y4 y5 y6 y7 y8 y9))
 | 0 => ⟨fun _ _ _ _ _ _ r h => by simp [graph_Depth.l0] at h,fun _ _ _ _ _ _ _ _ _ _ r h => by simp [graph_Depth.l1] at h⟩
 | k+1 => by
  obtain ⟨ih0,ih1⟩:=graph_Depth.mono_l k;refine ⟨?_,?_⟩
  ·intro y0 y1 y2 y3 y4 y5;unfold graph_Depth.l0
   repeat' first
   | (with_reducible exact ih0 _ _ _ _ _ _)
   | (with_reducible exact ih1 _ _ _ _ _ _ _ _ _ _)
   | (with_reducible exact graph_Check.mono _ _ _)
   | (with_reducible exact graph_order.mono _ _ _)
   | (with_reducible exact LeO.refl _)
   | (with_reducible exact LeO.none _)
   | (with_reducible refine LeO.ite ?_ ?_)
   | (with_reducible refine LeO.bind ?_ (fun _ => ?_))
   | exact ih0 _ _ _ _ _ _
   | exact ih1 _ _ _ _ _ _ _ _ _ _
   | exact graph_Check.mono _ _ _
   | exact graph_order.mono _ _ _
   | exact LeO.none _
   | refine LeO.ite ?_ ?_
   | refine LeO.bind ?_ (fun _ => ?_)
  ·intro y0 y1 y2 y3 y4 y5 y6 y7 y8 y9;unfold graph_Depth.l1
   repeat' first
   | (with_reducible exact ih0 _ _ _ _ _ _)
   | (with_reducible exact ih1 _ _ _ _ _ _ _ _ _ _)
   | (with_reducible exact graph_Check.mono _ _ _)
   | (with_reducible exact graph_order.mono _ _ _)
   | (with_reducible exact LeO.refl _)
   | (with_reducible exact LeO.none _)
   | (with_reducible refine LeO.ite ?_ ?_)
   | (with_reducible refine LeO.bind ?_ (fun _ => ?_))
   | exact ih0 _ _ _ _ _ _
   | exact ih1 _ _ _ _ _ _ _ _ _ _
   | exact graph_Check.mono _ _ _
   | exact graph_order.mono _ _ _
   | exact LeO.none _
   | refine LeO.ite ?_ ?_
   | refine LeO.bind ?_ (fun _ => ?_)
theorem graph_Depth.mono:∀ a0 a1 k,LeO (graph_Depth.f k a0 a1) (graph_Depth.f (k+1) a0 a1):=by
 intro a0 a1 k;obtain ⟨ih0,ih1⟩:=graph_Depth.mono_l k;unfold graph_Depth.f
 repeat' first
   | (with_reducible exact ih0 _ _ _ _ _ _)
   | (with_reducible exact ih1 _ _ _ _ _ _ _ _ _ _)
   | (with_reducible exact graph_Check.mono _ _ _)
   | (with_reducible exact graph_order.mono _ _ _)
   | (with_reducible exact LeO.refl _)
   | (with_reducible exact LeO.none _)
   | (with_reducible refine LeO.ite ?_ ?_)
   | (with_reducible refine LeO.bind ?_ (fun _ => ?_))
   | exact ih0 _ _ _ _ _ _
   | exact ih1 _ _ _ _ _ _ _ _ _ _
   | exact graph_Check.mono _ _ _
   | exact graph_order.mono _ _ _
   | exact LeO.none _
   | refine LeO.ite ?_ ?_
   | refine LeO.bind ?_ (fun _ => ?_)
def graph_Depth.T11:Bool × List (List Nat × List Nat):=(true,[([],[]),([],[]),([],[]),([],[]),([2,3],[2,3]),([4],[4]),([],[]),([],[]),([6,7],[6,7]),([8],[8]),([5,9],[5,9]),([0,1,0,1,2,3,4,5,6,7,8,9,10],[0,1]),([11,10,0,1,2,3,4,5,6,7,8,9,10],[10,11])])
def graph_Depth.B11:List Nat:=[0,0,0,0,12,28,0,0,192,448,1020,2047,4095]
theorem graph_Depth.tab11:rtab .any (opsOf Tryd.f39 11) = graph_Depth.T11:=by kernel_rfl
theorem graph_Depth.bits11:waitsOk graph_Depth.T11.2 graph_Depth.B11 = true:=by kernel_rfl
set_option maxHeartbeats 8000000 in
set_option maxRecDepth 100000 in
theorem graph_Depth.calls (k:Nat) (A0_0:Option Addr) (c0_0:Nat) (l0_0:List (S53)) (a0_1:Int) (r:Int) (w:World) (hr0_0:Kd.C k53 w A0_0 l0_0.length l0_0) (hc0_0:l0_0.length≤c0_0) (h:graph_Depth.f k l0_0 a0_1 = some r) :
  Calls Tryd.prog 39 #[.agg #[.slice A0_0 l0_0.length c0_0,.int .i64 a0_1]] w fun e w' => e = .returned (.int .i64 r)∧Below w.heap.size w w':=by
 have hu24:=Tryd.underlying24;have HR0_0:=AM hr0_0;have HC0_0:=AM hc0_0;clear hr0_0 hc0_0;have HB:=AM (Below.refl w.heap.size w);have H:((graph_Check.f k l0_0 a0_1).bind fun bt154 => (if bt154.1 = 0 then (if 0≤(l0_0.length:Int) then (if ((l0_0.length:Int):Int).toNat≤35184372088832 then ((graph_order.f k l0_0 a0_1).bind fun t159 => (graph_Depth.l0 k (List.replicate ((l0_0.length:Int):Int).toNat 0) t159 (t159.length:Int) 0 l0_0 a0_1)) else (none)) else (none)) else (some 0))) = some r:=h;clear h;replace H:=Option.bind_eq_some_iff.mp H;obtain ⟨⟨t154,t155⟩,A20,H⟩:=H;replace H:(if t154 = 0 then (if 0≤(l0_0.length:Int) then (if ((l0_0.length:Int):Int).toNat≤35184372088832 then ((graph_order.f k l0_0 a0_1).bind fun t159 => (graph_Depth.l0 k (List.replicate ((l0_0.length:Int):Int).toNat 0) t159 (t159.length:Int) 0 l0_0 a0_1)) else (none)) else (none)) else (some 0)) = some r:=H;have A2:=AM A20;clear A20;by_cases c3:t154 = 0
 ·rw [if_pos c3] at H;have c3b0:(t154 == 0) = true:=beq_iff_eq.mpr c3;have c3b1:(t154 != 0) = false:=bne_eq_false_iff_eq.mpr c3;clear c3;by_cases c4:0≤(l0_0.length:Int)
  ·rw [if_pos c4] at H;have c4b0:=eq_true c4;have c4b1:decide (0≤(l0_0.length:Int)) = true:=decide_eq_true c4;clear c4;by_cases c5:((l0_0.length:Int):Int).toNat≤35184372088832
   ·rw [if_pos c5] at H;have c5b0:=eq_true c5;have c5b1:decide (((l0_0.length:Int):Int).toNat≤35184372088832) = true:=decide_eq_true c5;clear c5;obtain ⟨y156,hy156⟩:∃ y_:List Int,y_ = (List.replicate ((l0_0.length:Int):Int).toNat 0):=⟨_,rfl⟩;replace H:((graph_order.f k l0_0 a0_1).bind fun t159 => (graph_Depth.l0 k y156 t159 (t159.length:Int) 0 l0_0 a0_1)) = some r:=by first | (rw [hy156];with_reducible exact H) | (have H2_:=(Option.bind_some _ _).symm.trans H;rw [hy156];with_reducible exact H2_) | (have H2_:=(Option.bind_some _ _).symm.trans H;with_reducible exact H2_) | with_reducible exact H | (rw [hy156];exact H) | exact H
    have Ny156:=AM hy156;clear hy156;replace H:=Option.bind_eq_some_iff.mp H;obtain ⟨t159,A60,H⟩:=H;replace H:(graph_Depth.l0 k y156 t159 (t159.length:Int) 0 l0_0 a0_1) = some r:=H;have A6:=AM A60;clear A60;have H':=AM H;clear H;go_enter Tryd.func39,Tryd.ntmps39;go_wp2_with (first | ((with_reducible refine gate_dst (N:=1) rfl ?_);refine box_event ?hg (N:=1) ?hd (cs:=#[.slice A0_0 l0_0.length c0_0,.int .i64 a0_1]) (t:=24) ?hr ?_;(case hd => rfl);(case hg => rfl);(case hr => first | (go_simp;done) | (go_simp;rfl));intro gb153 hg w7 hbox hb;have BK153:=AM (hbox);have GW153:=GW HB hg;have GE153:=GW HB hg;replace HB:=BS HB hb;clear hb hbox hg;have hcz8_0:=BC BK153 0 (.slice A0_0 l0_0.length c0_0) rfl;have hcz8_1:=BC BK153 1 (.int .i64 a0_1) rfl;have hfz8_0:=BF BK153 0;have hfz8_1:=BF BK153 1) | ((with_reducible refine gate_callee (f:=40) rfl ?_);refine goesM_ (some 12) rfl rfl Tryd.func40 #[.agg #[.slice A0_0 l0_0.length c0_0,.int .i64 a0_1]] rfl ?_;(with_reducible refine (graph_Check.calls k _ _ l0_0 a0_1 t154 t155 _ ?side1 ?side2 A2.out).mono ?_);(case side1 => exact Kd.C_below HR0_0.out (BB HB));(case side2 => exact HC0_0.out);rintro e w9 ⟨rfl,hb⟩;refine ⟨_,rfl,?_⟩;replace BK153:=BE BK153 hb;replace HB:=BS HB hb;(try clear hb);(try clear hb2);(try clear hk);(try clear hi);have hcz10_0:=BC BK153 0 (.slice A0_0 l0_0.length c0_0) rfl;have hcz10_1:=BC BK153 1 (.int .i64 a0_1) rfl;have hfz10_0:=BF BK153 0;have hfz10_1:=BF BK153 1) | ((with_reducible refine gate_dst (N:=20) rfl ?_);refine Kd.R_make (Kd.int .i64) _ 3 rfl (N:=20) rfl 51 _ _ rfl (l0_0.length:Int) rfl rfl Tryd.underlying51 (.int .i64 0) 8 info3 rfl (by decide) (by omega) 0 (ok:=fun _ => True) (okp:=fun _ => True) rfl (fun _ hk => hk) trivial (OD) (Nat.le_trans (Nat.mul_le_mul_right _ (OD:(l0_0.length:Int).toNat≤35184372088832)) (by omega)) (Below.refl _ _) (Nat.le_refl _) ?_;intro v157 w11 ho12 hb hg_ hnew_;clear hg_ hnew_;(first | rw [← Ny156.out] at ho12 | (simp only [Int.reduceToNat] at ho12;rw [← Ny156.out] at ho12));have HO158:=AM (Kd.R_lower ho12 (below_size (BB HB)));replace BK153:=BE BK153 hb;replace HB:=BS HB hb;clear hb ho12;have hcz13_0:=BC BK153 0 (.slice A0_0 l0_0.length c0_0) rfl;have hcz13_1:=BC BK153 1 (.int .i64 a0_1) rfl;have hfz13_0:=BF BK153 0;have hfz13_1:=BF BK153 1) | ((with_reducible refine gate_callee (f:=66) rfl ?_);refine goesM_ (some 22) rfl rfl Tryd.func66 #[.agg #[.slice A0_0 l0_0.length c0_0,.int .i64 a0_1]] rfl ?_;(with_reducible refine (graph_order.calls k _ _ l0_0 a0_1 t159 _ ?side1 ?side2 A6.out).mono ?_);(case side1 => exact Kd.C_below HR0_0.out (BB HB));(case side2 => exact HC0_0.out);rintro e w14 ⟨v160,rfl,ho0,hb⟩;refine ⟨_,rfl,?_⟩;have HO161:=AM (Kd.R_lower (Kd.R_new' ho0 (Kd.R_lt (RL HO158))) (below_size (BB HB)));replace HO158:=AM (Kd.R_elder' (RL HO158) (Kd.R_base ho0) hb);replace BK153:=BE BK153 hb;replace HB:=BS HB hb;(try clear hb);(try clear hb2);(try clear hk);(try clear hi);(try clear ho0);obtain ⟨Ao15,co15,eo15⟩:=Kd.R_slice HO161.out;subst eo15))
    go_loopg [24] k (fun kq v24 w' => ∃ (x5_1:List Int) (x24_1:Int),v24 = .int .i64 x24_1∧Aside0 (graph_Depth.l0 kq x5_1 t159 (t159.length:Int) x24_1 l0_0 a0_1 = some r)∧Aside0 (kq≤k)∧Aside0 (Kd.R (Kd.int .i64) 3 w' w.heap.size (fun k_ => some k_≠((.slice Ao15 t159.length co15):Value).ownBlock) v157 x5_1)∧Aside0 (Kd.R (Kd.int .i64) 3 w' w.heap.size (fun k_ => some k_≠(v157:Value).ownBlock) (.slice Ao15 t159.length co15) t159)∧Aside0 (w'.heap[gb153]? = some (.cells #[(.slice A0_0 l0_0.length c0_0),.int .i64 a0_1] 24 (0,0)))∧Aside0 (Below w.heap.size w w'))
    case atStart => exact ⟨(y156),(0),(by first | rfl | (simp;done) | (simp [*];done)),H',⟨Nat.le_refl _⟩,⟨by (with_reducible repeat (first | apply Kd.R_alloc | apply Kd.R_drewN | apply Kd.R_drew));exact Kd.R_mono HO158.out (fun _ hk => hk.2)⟩,⟨by (with_reducible repeat (first | apply Kd.R_alloc | apply Kd.R_drewN | apply Kd.R_drew));exact Kd.R_mono HO161.out (fun _ hk => hk.2)⟩,⟨BL BK153⟩,⟨BB HB⟩⟩
    case round =>
     clear H';try clear p2
     try clear c3
     try clear c3b0
     try clear c3b1
     try clear c4
     try clear c4b0
     try clear c4b1
     try clear c5
     try clear c5b0
     try clear c5b1
     try clear c6
     try clear hcz10_0
     try clear hcz10_1
     try clear hcz13_0
     try clear hcz13_1
     try clear hcz8_0
     try clear hcz8_1
     try clear hfz10_0
     try clear hfz10_1
     try clear hfz13_0
     try clear hfz13_1
     try clear hfz8_0
     try clear hfz8_1
     obtain ⟨x5_1,x24_1,rfl,HA,HK1,HO_5,HO_22,BK153,HB⟩:=hrel;cases gk with
     | zero => exact absurd HA.out (by simp [graph_Depth.l0])
     | succ k1 =>
      have H:=HA.out;clear HA;simp only [graph_Depth.l0] at H;by_cases c16:x24_1 < (t159.length:Int)
      ·rw [if_pos c16] at H;have c16b0:decide (x24_1 < (t159.length:Int)) = true:=decide_eq_true c16;clear c16;by_cases c17:0≤x24_1
       ·rw [if_pos c17] at H;have c17b0:decide (0≤x24_1) = true:=decide_eq_true c17;clear c17;by_cases c18:x24_1 < (t159.length:Int)
        ·rw [if_pos c18] at H;have c18b0:decide (x24_1 < (t159.length:Int)) = true:=decide_eq_true c18;clear c18;by_cases c19:0≤(rd t159 x24_1)
         ·rw [if_pos c19] at H;have c19b0:decide (0≤(rd t159 x24_1)) = true:=decide_eq_true c19;clear c19;by_cases c20:(rd t159 x24_1) < (l0_0.length:Int)
          ·rw [if_pos c20] at H;have c20b0:decide ((rd t159 x24_1) < (l0_0.length:Int)) = true:=decide_eq_true c20;clear c20;have H':=AM H;clear H;have p163:0≤(x24_1:Int):=OD;have q163:x24_1 < (t159.length:Int):=OD;obtain ⟨ad163,e163,hx163_0⟩:=Kd.at_int (Kd.R_reads' HO_22.out).2.2 x24_1 p163 q163;cases e163
           replace p163:=eq_true p163;replace q163:=eq_true q163;have hcz21_0:=BC BK153 0 (.slice A0_0 l0_0.length c0_0) rfl;have hcz21_1:=BC BK153 1 (.int .i64 a0_1) rfl;have hfz21_0:=BF BK153 0;have hfz21_1:=BF BK153 1;have p164:0≤((rd t159 x24_1):Int):=OD;have q164:(rd t159 x24_1) < (l0_0.length:Int):=OD;obtain ⟨ad164,A164_1,c164_1,A164_2,c164_2,A164_3,c164_3,e164,hx164_0,hx164_1,hx164_2,hx164_3,hl164_1,hi164_1,hl164_2,hi164_2,hl164_3,hi164_3⟩:=at_T53 HR0_0.out (rd t159 x24_1) p164 q164;cases e164
           replace hx164_0:=CL HB hx164_0;replace hx164_1:=CL HB hx164_1;replace hx164_2:=CL HB hx164_2;replace hx164_3:=CL HB hx164_3;have HR164_1:=AM hi164_1;have HC164_1:=AM hl164_1;clear hi164_1 hl164_1;have HR164_2:=AM hi164_2;have HC164_2:=AM hl164_2;clear hi164_2 hl164_2;have HR164_3:=AM hi164_3;have HC164_3:=AM hl164_3;clear hi164_3 hl164_3;replace p164:=eq_true p164;replace q164:=eq_true q164;go_wp2
           go_loopg [35] k1 (fun kq v35 w' => ∃ (x5_2:List Int) (x35_2:Int),v35 = .int .i64 x35_2∧Aside0 (graph_Depth.l1 kq x5_2 (rd t159 x24_1) t159 (t159.length:Int) x24_1 ((rd_T53 l0_0 (rd t159 x24_1)).f3) (((rd_T53 l0_0 (rd t159 x24_1)).f3).length:Int) x35_2 l0_0 a0_1 = some r)∧Aside0 (kq≤k1)∧Aside0 (Kd.R (Kd.int .i64) 3 w' w.heap.size (fun k_ => some k_≠((.slice (some ad163) t159.length co15):Value).ownBlock) v157 x5_2)∧Aside0 (Kd.R (Kd.int .i64) 3 w' w.heap.size (fun k_ => some k_≠(v157:Value).ownBlock) (.slice (some ad163) t159.length co15) t159)∧Aside0 (w'.heap[gb153]? = some (.cells #[(.slice (some ad164) l0_0.length c0_0),.int .i64 a0_1] 24 (0,0)))∧Aside0 (Below w.heap.size w w'))
           case atStart => exact ⟨(x5_1),(0),(by first | rfl | (simp;done) | (simp [*];done)),H',⟨Nat.le_refl _⟩,⟨by (with_reducible repeat (first | apply Kd.R_alloc | apply Kd.R_drewN | apply Kd.R_drew));exact HO_5.out⟩,⟨by (with_reducible repeat (first | apply Kd.R_alloc | apply Kd.R_drewN | apply Kd.R_drew));exact HO_22.out⟩,⟨BL BK153⟩,⟨BB HB⟩⟩
           case round =>
            clear H';try clear c1
            try clear p1
            try clear q1
            try clear hx1
            try clear c2
            try clear p2
            try clear c3
            try clear c3b0
            try clear c3b1
            try clear c4
            try clear c4b0
            try clear c4b1
            try clear c5
            try clear c5b0
            try clear c5b1
            try clear c6
            try clear c16
            try clear c16b0
            try clear p16
            try clear q16
            try clear hx16
            try clear c17
            try clear c17b0
            try clear c18
            try clear c18b0
            try clear c19
            try clear c19b0
            try clear c20
            try clear c20b0
            try clear hcz10_0
            try clear hcz10_1
            try clear hcz13_0
            try clear hcz13_1
            try clear hcz21_0
            try clear hcz21_1
            try clear hcz8_0
            try clear hcz8_1
            try clear hfz10_0
            try clear hfz10_1
            try clear hfz13_0
            try clear hfz13_1
            try clear hfz21_0
            try clear hfz21_1
            try clear hfz8_0
            try clear hfz8_1
            try clear hx163_0
            try clear hx164_0
            try clear hx164_1
            try clear hx164_2
            try clear hx164_3
            try clear p163
            try clear p164
            try clear p2
            try clear q163
            try clear q164
            obtain ⟨x5_2,x35_2,rfl,HA,HK2,HO_5,HO_22,BK153,HB⟩:=hrel;cases gk with
            | zero => exact absurd HA.out (by simp [graph_Depth.l1])
            | succ k2 =>
             have H:=HA.out;clear HA;simp only [graph_Depth.l1] at H;by_cases c22:x35_2 < (((rd_T53 l0_0 (rd t159 x24_1)).f3).length:Int)
             ·rw [if_pos c22] at H;have c22b0:decide (x35_2 < (((rd_T53 l0_0 (rd t159 x24_1)).f3).length:Int)) = true:=decide_eq_true c22;clear c22;by_cases c23:0≤x35_2
              ·rw [if_pos c23] at H;have c23b0:decide (0≤x35_2) = true:=decide_eq_true c23;clear c23;by_cases c24:x35_2 < (((rd_T53 l0_0 (rd t159 x24_1)).f3).length:Int)
               ·rw [if_pos c24] at H;have c24b0:decide (x35_2 < (((rd_T53 l0_0 (rd t159 x24_1)).f3).length:Int)) = true:=decide_eq_true c24;clear c24;by_cases c25:0≤(rd t159 x24_1)
                ·rw [if_pos c25] at H;have c25b0:decide (0≤(rd t159 x24_1)) = true:=decide_eq_true c25;clear c25;by_cases c26:(rd t159 x24_1) < (x5_2.length:Int)
                 ·rw [if_pos c26] at H;have c26b0:decide ((rd t159 x24_1) < (x5_2.length:Int)) = true:=decide_eq_true c26;clear c26;by_cases c27:0≤(rd ((rd_T53 l0_0 (rd t159 x24_1)).f3) x35_2)
                  ·rw [if_pos c27] at H;have c27b0:decide (0≤(rd ((rd_T53 l0_0 (rd t159 x24_1)).f3) x35_2)) = true:=decide_eq_true c27;clear c27;by_cases c28:(rd ((rd_T53 l0_0 (rd t159 x24_1)).f3) x35_2) < (x5_2.length:Int)
                   ·rw [if_pos c28] at H;have c28b0:decide ((rd ((rd_T53 l0_0 (rd t159 x24_1)).f3) x35_2) < (x5_2.length:Int)) = true:=decide_eq_true c28;clear c28;obtain ⟨ji29,hji29⟩:∃ j_:Int,(mx (rd x5_2 (rd t159 x24_1)) (rd x5_2 (rd ((rd_T53 l0_0 (rd t159 x24_1)).f3) x35_2))) = j_:=⟨_,rfl⟩;replace H:(graph_Depth.l1 k2 (x5_2.set ((rd t159 x24_1):Int).toNat (ji29)) (rd t159 x24_1) t159 (t159.length:Int) x24_1 ((rd_T53 l0_0 (rd t159 x24_1)).f3) (((rd_T53 l0_0 (rd t159 x24_1)).f3).length:Int) (wrap64 (x35_2+1)) l0_0 a0_1) = some r:=by first | (rw [hji29] at H;exact H) | (simp only [hji29] at H ⊢;exact H)
                    have hji29_:(if (rd x5_2 (rd t159 x24_1)) < (rd x5_2 (rd ((rd_T53 l0_0 (rd t159 x24_1)).f3) x35_2)) then (rd x5_2 (rd ((rd_T53 l0_0 (rd t159 x24_1)).f3) x35_2)) else (rd x5_2 (rd t159 x24_1))) = ji29:=hji29;obtain ⟨y168,hy168⟩:∃ y_:List Int,y_ = (x5_2.set ((rd t159 x24_1):Int).toNat (ji29)):=⟨_,rfl⟩;replace H:(graph_Depth.l1 k2 y168 (rd t159 x24_1) t159 (t159.length:Int) x24_1 ((rd_T53 l0_0 (rd t159 x24_1)).f3) (((rd_T53 l0_0 (rd t159 x24_1)).f3).length:Int) (wrap64 (x35_2+1)) l0_0 a0_1) = some r:=by first | (rw [hy168];with_reducible exact H) | (have H2_:=(Option.bind_some _ _).symm.trans H;rw [hy168];with_reducible exact H2_) | (have H2_:=(Option.bind_some _ _).symm.trans H;with_reducible exact H2_) | with_reducible exact H | (rw [hy168];exact H) | exact H
                    have Ny168:=AM hy168;clear hy168;have H':=AM H;clear H;have p165:0≤(x35_2:Int):=OD;have q165:x35_2 < (((rd_T53 l0_0 (rd t159 x24_1)).f3).length:Int):=OD;obtain ⟨ad165,e165,hx165_0⟩:=Kd.at_int HR164_3.out x35_2 p165 q165;cases e165
                    replace hx165_0:=CL HB hx165_0;replace p165:=eq_true p165;replace q165:=eq_true q165;try go_wp2
                    replace HO_5:=AM (Kd.R_drew HO_5.out);replace HO_22:=AM (Kd.R_drew HO_22.out);replace BK153:=AM (blk_drew BK153.out);replace HB:=AM (below_drew1 HB.out);obtain ⟨Ao32,co32,eo32⟩:=Kd.R_slice HO_5.out;(first | subst eo32 | (injection eo32 with f1_ f2_ f3_;have f4_:=f1_.symm;have f5_:=f3_.symm;clear f1_ f2_ f3_;subst f4_;subst f5_))
                    have p166:0≤((rd t159 x24_1):Int):=OD;have q166:(rd t159 x24_1) < (x5_2.length:Int):=OD;obtain ⟨ad166,e166,hx166_0⟩:=Kd.at_int (Kd.R_reads' HO_5.out).2.2 (rd t159 x24_1) p166 q166;cases e166
                    replace p166:=eq_true p166;replace q166:=eq_true q166;have p167:0≤((rd ((rd_T53 l0_0 (rd t159 x24_1)).f3) x35_2):Int):=OD;have q167:(rd ((rd_T53 l0_0 (rd t159 x24_1)).f3) x35_2) < (x5_2.length:Int):=OD;obtain ⟨ad167,e167,hx167_0⟩:=Kd.at_int (Kd.R_reads' HO_5.out).2.2 (rd ((rd_T53 l0_0 (rd t159 x24_1)).f3) x35_2) p167 q167;obtain rfl:ad166 = ad167:=(by injection e167);replace p167:=eq_true p167;replace q167:=eq_true q167;have p30:0≤((rd t159 x24_1):Int):=OD;have q30:((rd t159 x24_1):Int) < ((x5_2.length:Int):Int):=OD;obtain ⟨go30,co30,eo30,gb30,gl30,cl30,HG30⟩:=Kd.R_form HO_5.out (by omega);(first | cases eo30 | (injection eo30 with ea_ en_ ec_;(first | subst ea_ | (injection ea_ with ea_;subst ea_));subst ec_;clear en_))
                    have GB30:=AM gb30;have GG30:=AM HG30;clear gb30 gl30 HG30;(first | simp only [add_plain] at hx166_0 | skip)
                    (first | simp only [add_plain] at hx167_0 | skip)
                    obtain ⟨hx30_0,hf30_0⟩:=Kd.R_celln 0 HO_5.out ((rd t159 x24_1):Int) p30 q30;replace p30:=eq_true p30;replace q30:=eq_true q30;have HP33:=Kd.R_putn HO_5.out ((rd t159 x24_1):Int) ji29;rw [← Ny168.out] at HP33;have HQ33:=AM HP33;clear HP33;refine start_ (n:=13) (S:=fun w' => w'.cell? ⟨go30,((rd t159 x24_1)).toNat,none⟩ = some (.int .i64 (rd x5_2 (rd t159 x24_1)))∧w'.cell? ⟨go30,((rd ((rd_T53 l0_0 (rd t159 x24_1)).f3) x35_2)).toNat,none⟩ = some (.int .i64 (rd x5_2 (rd ((rd_T53 l0_0 (rd t159 x24_1)).f3) x35_2)))) (ds:=[12]) #[false,false,false,false,false,false,false,false,false,false,false,false,false] (by kernel_rfl) rfl rfl ⟨hx166_0,hx167_0⟩ (fun hHeld => ?_);refine with_tabW graph_Depth.tab11 graph_Depth.bits11 (fun HT_ HW_ => ?_);generalize wr.drew = w31 at HO_5 HO_22 BK153 HB GG30 HQ33 hf30_0 hx166_0 hx167_0 hx30_0 hHeld ⊢;refine pure_ (i:=0) (N:=some 39) (v:=?_) (a':=?_) #[true,false,false,false,false,false,false,false,false,false,false,false,false] rfl rfl (any_of HT_.out (by kernel_rfl)) (fun _ _ _ h => h) (Or.inl ⟨by rfl,?_⟩) ?_ ?_
                    rotate_left
                    ·intro w';go_simp
                     with_reducible rfl
                    rotate_left
                    ·simp only [Act.put,List.setIfInBounds_toArray,List.set_cons_zero,List.set_cons_succ,i64_w,i32_w];rfl
                    refine pure_ (i:=1) (N:=some 40) (v:=?_) (a':=?_) #[true,true,false,false,false,false,false,false,false,false,false,false,false] rfl rfl (any_of HT_.out (by kernel_rfl)) (fun _ _ _ h => h) (Or.inl ⟨by rfl,?_⟩) ?_ ?_
                    rotate_left
                    ·intro w';go_simp
                     with_reducible rfl
                    rotate_left
                    ·simp only [Act.put,List.setIfInBounds_toArray,List.set_cons_zero,List.set_cons_succ,i64_w,i32_w];rfl
                    refine pure_ (i:=2) (N:=some 41) (v:=?_) (a':=?_) #[true,true,true,false,false,false,false,false,false,false,false,false,false] rfl rfl (any_of HT_.out (by kernel_rfl)) (fun _ _ _ h => h) (Or.inl ⟨by rfl,?_⟩) ?_ ?_
                    rotate_left
                    ·intro w';go_simp
                     with_reducible rfl
                    rotate_left
                    ·simp only [Act.put,List.setIfInBounds_toArray,List.set_cons_zero,List.set_cons_succ,i64_w,i32_w];rfl
                    refine pure_ (i:=3) (N:=some 42) (v:=?_) (a':=?_) #[true,true,true,true,false,false,false,false,false,false,false,false,false] rfl rfl (any_of HT_.out (by kernel_rfl)) (fun _ _ _ h => h) (Or.inl ⟨by rfl,?_⟩) ?_ ?_
                    rotate_left
                    ·intro w';go_simp
                     with_reducible rfl
                    rotate_left
                    ·simp only [Act.put,List.setIfInBounds_toArray,List.set_cons_zero,List.set_cons_succ,i64_w,i32_w];rfl
                    refine pure_ (i:=4) (N:=some 43) (v:=?_) (a':=?_) #[true,true,true,true,true,false,false,false,false,false,false,false,false] rfl rfl (any_of HT_.out (by kernel_rfl)) (fun _ _ _ h => h) (Or.inl ⟨by rfl,?_⟩) ?_ ?_
                    rotate_left
                    ·intro w';go_simp
                     with_reducible rfl
                    rotate_left
                    ·simp only [Act.put,List.setIfInBounds_toArray,List.set_cons_zero,List.set_cons_succ,i64_w,i32_w];rfl
                    refine pure_ (i:=6) (N:=some 45) (v:=?_) (a':=?_) #[true,true,true,true,true,false,true,false,false,false,false,false,false] rfl rfl (any_of HT_.out (by kernel_rfl)) (fun _ _ _ h => h) (Or.inl ⟨by rfl,?_⟩) ?_ ?_
                    rotate_left
                    ·intro w';go_simp
                     with_reducible rfl
                    rotate_left
                    ·simp only [Act.put,List.setIfInBounds_toArray,List.set_cons_zero,List.set_cons_succ,i64_w,i32_w];rfl
                    refine pure_ (i:=7) (N:=some 46) (v:=?_) (a':=?_) #[true,true,true,true,true,false,true,true,false,false,false,false,false] rfl rfl (any_of HT_.out (by kernel_rfl)) (fun _ _ _ h => h) (Or.inl ⟨by rfl,?_⟩) ?_ ?_
                    rotate_left
                    ·intro w';go_simp
                     with_reducible rfl
                    rotate_left
                    ·simp only [Act.put,List.setIfInBounds_toArray,List.set_cons_zero,List.set_cons_succ,i64_w,i32_w];rfl
                    refine pure_ (i:=8) (N:=some 47) (v:=?_) (a':=?_) #[true,true,true,true,true,false,true,true,true,false,false,false,false] rfl rfl (any_of HT_.out (by kernel_rfl)) (fun _ _ _ h => h) (Or.inl ⟨by rfl,?_⟩) ?_ ?_
                    rotate_left
                    ·intro w';go_simp
                     with_reducible rfl
                    rotate_left
                    ·simp only [Act.put,List.setIfInBounds_toArray,List.set_cons_zero,List.set_cons_succ,i64_w,i32_w];rfl
                    refine take_ (i:=5) (N:=some 44) (v:=?_) (a':=?_) #[true,true,true,true,true,true,true,true,true,false,false,false,false] rfl rfl (take_ofW HT_.out HW_.out (by kernel_rfl)) (fun _ _ _ h => h) (Or.inl ⟨by rfl,?_⟩) hHeld ?_ ?_
                    rotate_left
                    ·rintro w' ⟨s0,s1⟩;go_simp
                     with_reducible rfl
                    rotate_left
                    ·simp only [Act.put,List.setIfInBounds_toArray,List.set_cons_zero,List.set_cons_succ,i64_w,i32_w];rfl
                    refine take_ (i:=9) (N:=some 48) (v:=?_) (a':=?_) #[true,true,true,true,true,true,true,true,true,true,false,false,false] rfl rfl (take_ofW HT_.out HW_.out (by kernel_rfl)) (fun _ _ _ h => h) (Or.inl ⟨by rfl,?_⟩) hHeld ?_ ?_
                    rotate_left
                    ·rintro w' ⟨s0,s1⟩;go_simp
                     with_reducible rfl
                    rotate_left
                    ·simp only [Act.put,List.setIfInBounds_toArray,List.set_cons_zero,List.set_cons_succ,i64_w,i32_w];rfl
                    refine pure_ (i:=10) (N:=some 49) (v:=?_) (a':=?_) #[true,true,true,true,true,true,true,true,true,true,true,false,false] rfl rfl (any_of HT_.out (by kernel_rfl)) (fun _ _ _ h => h) (Or.inl ⟨by rfl,?_⟩) ?_ ?_
                    rotate_left
                    ·intro w';go_simp
                     with_reducible rfl
                    rotate_left
                    ·simp only [Act.put,List.setIfInBounds_toArray,List.set_cons_zero,List.set_cons_succ,i64_w,i32_w];rfl
                    refine pure_ (i:=11) (N:=some 50) (v:=?_) (a':=?_) #[true,true,true,true,true,true,true,true,true,true,true,true,false] rfl rfl (any_of HT_.out (by kernel_rfl)) (fun _ _ _ h => h) (Or.inl ⟨by rfl,?_⟩) ?_ ?_
                    rotate_left
                    ·intro w';go_simp
                     with_reducible rfl
                    rotate_left
                    ·simp only [Act.put,List.setIfInBounds_toArray,List.set_cons_zero,List.set_cons_succ,i64_w,i32_w];rfl
                    refine last_ (i:=12) (N:=none) #[true,true,true,true,true,true,true,true,true,true,true,true,true] rfl rfl (one_of HT_.out (by kernel_rfl)) (by decide) (fun K hK => ?_);refine skip_ (w1:=?_) (by rfl) rfl ?_ ?_
                    rotate_left
                    ·go_simp
                     rfl
                    refine hK.out _ _ ?_;clear hK K;refine done_ (done_of HT_.out (by kernel_rfl)) ?_;try go_wp2
                    go_roundg k2
                    case measure => have:=HK1.out;have:=HK2.out;omega
                    case rel => exact ⟨(y168),(wrap64 (x35_2+1)),(by first | rfl | (simp;done) | (simp [*];done)),H',⟨by have:=HK1.out;have:=HK2.out;omega⟩,⟨by (with_reducible repeat (first | apply Kd.R_alloc | apply Kd.R_drewN | apply Kd.R_drew));exact HQ33.out⟩,⟨by exact Kd.R_mono (Kd.R_far (p:=⟨go30,((rd t159 x24_1):Int).toNat,none⟩) (Kd.R_mono HO_22.out (fun k_ hk => (⟨hk,fun e_ => hk (by rw [e_];rfl)⟩:_∧k_≠go30))) (fun _ hk => hk.2) (.int .i64 ji29)) (fun _ hk => hk.1)⟩,⟨by refine blk_far ?_ (by have h_:=Kd.R_ne HO_5.out BK153.out (by decide);intro e_;exact h_ (by rw [e_];rfl)) _;exact BL BK153⟩,⟨BB HB⟩⟩
                   ·rw [if_neg c28] at H;exact absurd H (by simp)
                  ·rw [if_neg c27] at H;exact absurd H (by simp)
                 ·rw [if_neg c26] at H;exact absurd H (by simp)
                ·rw [if_neg c25] at H;exact absurd H (by simp)
               ·rw [if_neg c24] at H;exact absurd H (by simp)
              ·rw [if_neg c23] at H;exact absurd H (by simp)
             ·rw [if_neg c22] at H;have c22b0:decide (x35_2 < (((rd_T53 l0_0 (rd t159 x24_1)).f3).length:Int)) = false:=decide_eq_false c22;clear c22;by_cases c34:0≤(rd t159 x24_1)
              ·rw [if_pos c34] at H;have c34b0:decide (0≤(rd t159 x24_1)) = true:=decide_eq_true c34;clear c34;by_cases c35:(rd t159 x24_1) < (x5_2.length:Int)
               ·rw [if_pos c35] at H;have c35b0:decide ((rd t159 x24_1) < (x5_2.length:Int)) = true:=decide_eq_true c35;clear c35;obtain ⟨y170,hy170⟩:∃ y_:List Int,y_ = (x5_2.set ((rd t159 x24_1):Int).toNat (wrap64 ((rd x5_2 (rd t159 x24_1))+1))):=⟨_,rfl⟩;replace H:(graph_Depth.l0 k2 y170 t159 (t159.length:Int) (wrap64 (x24_1+1)) l0_0 a0_1) = some r:=by first | (rw [hy170];with_reducible exact H) | (have H2_:=(Option.bind_some _ _).symm.trans H;rw [hy170];with_reducible exact H2_) | (have H2_:=(Option.bind_some _ _).symm.trans H;with_reducible exact H2_) | with_reducible exact H | (rw [hy170];exact H) | exact H
                have Ny170:=AM hy170;clear hy170;have H':=AM H;clear H;obtain ⟨Ao37,co37,eo37⟩:=Kd.R_slice HO_5.out;subst eo37;have p169:0≤((rd t159 x24_1):Int):=OD;have q169:(rd t159 x24_1) < (x5_2.length:Int):=OD;obtain ⟨ad169,e169,hx169_0⟩:=Kd.at_int (Kd.R_reads' HO_5.out).2.2 (rd t159 x24_1) p169 q169;cases e169
                replace p169:=eq_true p169;replace q169:=eq_true q169;have p36:0≤((rd t159 x24_1):Int):=OD;have q36:((rd t159 x24_1):Int) < ((x5_2.length:Int):Int):=OD;obtain ⟨go36,co36,eo36,gb36,gl36,cl36,HG36⟩:=Kd.R_form HO_5.out (by omega);(first | cases eo36 | (injection eo36 with ea_ en_ ec_;(first | subst ea_ | (injection ea_ with ea_;subst ea_));subst ec_;clear en_))
                have GB36:=AM gb36;have GG36:=AM HG36;clear gb36 gl36 HG36;(first | simp only [add_plain] at hx169_0 | skip)
                obtain ⟨hx36_0,hf36_0⟩:=Kd.R_celln 0 HO_5.out ((rd t159 x24_1):Int) p36 q36;replace p36:=eq_true p36;replace q36:=eq_true q36;have HP38:=Kd.R_putg HO_5.out ((rd t159 x24_1):Int) (wrap64 ((rd x5_2 (rd t159 x24_1))+1));go_wp2_with (first | ((with_reducible refine gate_store (t:=3) (p:=57) rfl ?_);refine store_event (t:=3) (p:=57) (v:=?vo_w39) (w1:=(wr.setCell ⟨go36,((rd t159 x24_1):Int).toNat,none⟩ (.int .i64 (wrap64 ((rd x5_2 (rd t159 x24_1))+1))))) ?hg ?ho ?hn ?hr ?_;(case ho => rfl);(case hg => rfl);(case hn => rfl);(case hr => first | (go_simp;done) | (go_simp;rfl));intro w39 hw;have hg:wr.grownBy w39 (some go36):=(by rw [hw];exact HP38.2);have hp_:Kd.R (Kd.int .i64) 3 w39 w.heap.size (fun k_ => some k_≠(.slice (some ad163) t159.length co15:Value).ownBlock) (.slice (some ⟨go36,0,none⟩) x5_2.length co37) y170:=(by rw [hw,Ny170.out];exact HP38.1);clear HP38;replace HO_22:=AM (Kd.R_after (v:=(.slice (some ⟨go36,0,none⟩) x5_2.length co37)) (v1:=(.slice (some ⟨go36,0,none⟩) x5_2.length co37)) (ok:=(fun _ => True)) (by (with_reducible repeat (first | apply Kd.R_alloc | apply Kd.R_drewN | apply Kd.R_drew));exact Kd.R_mono HO_22.out (fun _ hk => ⟨trivial,hk⟩)) hg (.inl rfl));replace BK153:=AM (blk_grown (g:=gb153) (o:=.cells #[.slice (some ad164) l0_0.length c0_0,.int .i64 a0_1] 24 (0,0)) (BL BK153) hg (Kd.R_ne HO_5.out BK153.out (by decide)));replace HO_5:=AM (hp_);replace HB:=AM ((by rw [hw];exact below_set (HB.out) GB36.out:Below w.heap.size w w39));clear hg hw hp_))
                go_roundg k2
                case measure => have:=HK1.out;have:=HK2.out;omega
                case rel => exact ⟨(y170),(wrap64 (x24_1+1)),(by first | rfl | (simp;done) | (simp [*];done)),H',⟨by have:=HK1.out;have:=HK2.out;omega⟩,⟨by (with_reducible repeat (first | apply Kd.R_alloc | apply Kd.R_drewN | apply Kd.R_drew));exact HO_5.out⟩,⟨by (with_reducible repeat (first | apply Kd.R_alloc | apply Kd.R_drewN | apply Kd.R_drew));exact Kd.R_mono HO_22.out (fun _ hk => hk.2)⟩,⟨BL BK153⟩,⟨BB HB⟩⟩
               ·rw [if_neg c35] at H;exact absurd H (by simp)
              ·rw [if_neg c34] at H;exact absurd H (by simp)
          ·rw [if_neg c20] at H;exact absurd H (by simp)
         ·rw [if_neg c19] at H;exact absurd H (by simp)
        ·rw [if_neg c18] at H;exact absurd H (by simp)
       ·rw [if_neg c17] at H;exact absurd H (by simp)
      ·rw [if_neg c16] at H;have c16b0:decide (x24_1 < (t159.length:Int)) = false:=decide_eq_false c16;clear c16;by_cases c40:0≤a0_1
       ·rw [if_pos c40] at H;have c40b0:decide (0≤a0_1) = true:=decide_eq_true c40;clear c40;by_cases c41:a0_1 < (x5_1.length:Int)
        ·rw [if_pos c41] at H;have c41b0:decide (a0_1 < (x5_1.length:Int)) = true:=decide_eq_true c41;clear c41;obtain rfl:=Option.some.inj H;have hcz42_0:=BC BK153 0 (.slice A0_0 l0_0.length c0_0) rfl;have hcz42_1:=BC BK153 1 (.int .i64 a0_1) rfl;have hfz42_0:=BF BK153 0;have hfz42_1:=BF BK153 1;obtain ⟨Ao43,co43,eo43⟩:=Kd.R_slice HO_5.out;subst eo43;have p162:0≤(a0_1:Int):=OD;have q162:a0_1 < (x5_1.length:Int):=OD;obtain ⟨ad162,e162,hx162_0⟩:=Kd.at_int (Kd.R_reads' HO_5.out).2.2 a0_1 p162 q162;cases e162
         replace p162:=eq_true p162;replace q162:=eq_true q162;go_wp2
         go_ret;exact RT (BB HB)
        ·rw [if_neg c41] at H;exact absurd H (by simp)
       ·rw [if_neg c40] at H;exact absurd H (by simp)
   ·rw [if_neg c5] at H;exact absurd H (by simp)
  ·rw [if_neg c4] at H;exact absurd H (by simp)
 ·rw [if_neg c3] at H;have c3b0:(t154 == 0) = false:=beq_eq_false_iff_ne.mpr c3;have c3b1:(t154 != 0) = true:=bne_iff_ne.mpr c3;obtain rfl:=Option.some.inj H;go_enter Tryd.func39,Tryd.ntmps39;go_wp2_with (first | ((with_reducible refine gate_dst (N:=1) rfl ?_);refine box_event ?hg (N:=1) ?hd (cs:=#[.slice A0_0 l0_0.length c0_0,.int .i64 a0_1]) (t:=24) ?hr ?_;(case hd => rfl);(case hg => rfl);(case hr => first | (go_simp;done) | (go_simp;rfl));intro gb153 hg w44 hbox hb;have BK153:=AM (hbox);have GW153:=GW HB hg;have GE153:=GW HB hg;replace HB:=BS HB hb;clear hb hbox hg;have hcz45_0:=BC BK153 0 (.slice A0_0 l0_0.length c0_0) rfl;have hcz45_1:=BC BK153 1 (.int .i64 a0_1) rfl;have hfz45_0:=BF BK153 0;have hfz45_1:=BF BK153 1) | ((with_reducible refine gate_callee (f:=40) rfl ?_);refine goesM_ (some 12) rfl rfl Tryd.func40 #[.agg #[.slice A0_0 l0_0.length c0_0,.int .i64 a0_1]] rfl ?_;(with_reducible refine (graph_Check.calls k _ _ l0_0 a0_1 t154 t155 _ ?side1 ?side2 A2.out).mono ?_);(case side1 => exact Kd.C_below HR0_0.out (BB HB));(case side2 => exact HC0_0.out);rintro e w46 ⟨rfl,hb⟩;refine ⟨_,rfl,?_⟩;replace BK153:=BE BK153 hb;replace HB:=BS HB hb;(try clear hb);(try clear hb2);(try clear hk);(try clear hi)))
  go_ret;exact RT (BB HB)
def graph_Edges.l0:Nat→Int→List (S53)→Int→Int→Option (Int)
 | 0,_,_,_,_ => none
 | k+1,x3,x7,x8,x9 => if x9 < x8 then (if 0≤x9 then (if x9 < (x7.length:Int) then (graph_Edges.l0 k (wrap64 (x3+(((rd_T53 x7 x9).f3).length:Int))) x7 x8 (wrap64 (x9+1))) else (none)) else (none)) else (some x3)
def graph_Edges.f (k:Nat) (l0_0:List (S53)) (a0_1:Int):Option (Int):=graph_Edges.l0 k 0 l0_0 (l0_0.length:Int) 0
theorem graph_Edges.mono_l:∀ k,(∀ y0 y1 y2 y3,LeO (graph_Edges.l0 k y0 y1 y2 y3) (graph_Edges.l0 (k+1) y0 y1 y2 y3))
 | 0 => fun _ _ _ _ r h => by simp [graph_Edges.l0] at h
 | k+1 => by
  have ih0:=graph_Edges.mono_l k
  ·intro y0 y1 y2 y3;unfold graph_Edges.l0
   repeat' first
   | (with_reducible exact ih0 _ _ _ _)
   | (with_reducible exact LeO.refl _)
   | (with_reducible exact LeO.none _)
   | (with_reducible refine LeO.ite ?_ ?_)
   | (with_reducible refine LeO.bind ?_ (fun _ => ?_))
   | exact ih0 _ _ _ _
   | exact LeO.none _
   | refine LeO.ite ?_ ?_
   | refine LeO.bind ?_ (fun _ => ?_)
theorem graph_Edges.mono:∀ a0 a1 k,LeO (graph_Edges.f k a0 a1) (graph_Edges.f (k+1) a0 a1):=by
 intro a0 a1 k;have ih0:=graph_Edges.mono_l k;unfold graph_Edges.f
 repeat' first
   | (with_reducible exact ih0 _ _ _ _)
   | (with_reducible exact LeO.refl _)
   | (with_reducible exact LeO.none _)
   | (with_reducible refine LeO.ite ?_ ?_)
   | (with_reducible refine LeO.bind ?_ (fun _ => ?_))
   | exact ih0 _ _ _ _
   | exact LeO.none _
   | refine LeO.ite ?_ ?_
   | refine LeO.bind ?_ (fun _ => ?_)
set_option maxHeartbeats 8000000 in
set_option maxRecDepth 100000 in
theorem graph_Edges.calls (k:Nat) (A0_0:Option Addr) (c0_0:Nat) (l0_0:List (S53)) (a0_1:Int) (r:Int) (w:World) (hr0_0:Kd.C k53 w A0_0 l0_0.length l0_0) (hc0_0:l0_0.length≤c0_0) (h:graph_Edges.f k l0_0 a0_1 = some r) :
  Calls Tryd.prog 48 #[.agg #[.slice A0_0 l0_0.length c0_0,.int .i64 a0_1]] w fun e w' => e = .returned (.int .i64 r)∧Below w.heap.size w w':=by
 have hu24:=Tryd.underlying24;have hu53:=Tryd.underlying53;have HR0_0:=AM hr0_0;have HC0_0:=AM hc0_0;clear hr0_0 hc0_0;have HB:=AM (Below.refl w.heap.size w);have H:(graph_Edges.l0 k 0 l0_0 (l0_0.length:Int) 0) = some r:=h;clear h;have H':=AM H;clear H;go_enter Tryd.func48,Tryd.ntmps48;go_wp2_with (first | ((with_reducible refine gate_dst (N:=1) rfl ?_);refine box_event ?hg (N:=1) ?hd (cs:=#[.slice A0_0 l0_0.length c0_0,.int .i64 a0_1]) (t:=24) ?hr ?_;(case hd => rfl);(case hg => rfl);(case hr => first | (go_simp;done) | (go_simp;rfl));intro gb171 hg w2 hbox hb;have BK171:=AM (hbox);have GW171:=GW HB hg;have GE171:=GW HB hg;replace HB:=BS HB hb;clear hb hbox hg;have hcz3_0:=BC BK171 0 (.slice A0_0 l0_0.length c0_0) rfl;have hcz3_1:=BC BK171 1 (.int .i64 a0_1) rfl;have hfz3_0:=BF BK171 0;have hfz3_1:=BF BK171 1))
 go_loopg [3,9] k (fun kq v3 v9 w' => ∃ (x3_1:Int) (x9_1:Int),v3 = .int .i64 x3_1∧v9 = .int .i64 x9_1∧Aside0 (graph_Edges.l0 kq x3_1 l0_0 (l0_0.length:Int) x9_1 = some r)∧Aside0 (kq≤k)∧Aside0 (w'.heap[gb171]? = some (.cells #[(.slice A0_0 l0_0.length c0_0),.int .i64 a0_1] 24 (0,0)))∧Aside0 (Below w.heap.size w w'))
 case atStart => exact ⟨(0),(0),(by first | rfl | (simp;done) | (simp [*];done)),(by first | rfl | (simp;done) | (simp [*];done)),H',⟨Nat.le_refl _⟩,⟨BL BK171⟩,⟨BB HB⟩⟩
 case round =>
  clear H';try clear p2
  try clear hcz3_0
  try clear hcz3_1
  try clear hfz3_0
  try clear hfz3_1
  obtain ⟨x3_1,x9_1,rfl,rfl,HA,HK1,BK171,HB⟩:=hrel;cases gk with
  | zero => exact absurd HA.out (by simp [graph_Edges.l0])
  | succ k1 =>
   have H:=HA.out;clear HA;simp only [graph_Edges.l0] at H;by_cases c4:x9_1 < (l0_0.length:Int)
   ·rw [if_pos c4] at H;have c4b0:decide (x9_1 < (l0_0.length:Int)) = true:=decide_eq_true c4;clear c4;by_cases c5:0≤x9_1
    ·rw [if_pos c5] at H;have c5b0:decide (0≤x9_1) = true:=decide_eq_true c5;clear c5;by_cases c6:x9_1 < (l0_0.length:Int)
     ·rw [if_pos c6] at H;have c6b0:decide (x9_1 < (l0_0.length:Int)) = true:=decide_eq_true c6;clear c6;have H':=AM H;clear H;have p172:0≤(x9_1:Int):=OD;have q172:x9_1 < (l0_0.length:Int):=OD;obtain ⟨ad172,A172_1,c172_1,A172_2,c172_2,A172_3,c172_3,e172,hx172_0,hx172_1,hx172_2,hx172_3,hl172_1,hi172_1,hl172_2,hi172_2,hl172_3,hi172_3⟩:=at_T53 HR0_0.out x9_1 p172 q172;cases e172
      replace hx172_0:=CL HB hx172_0;replace hx172_1:=CL HB hx172_1;replace hx172_2:=CL HB hx172_2;replace hx172_3:=CL HB hx172_3;have HR172_1:=AM hi172_1;have HC172_1:=AM hl172_1;clear hi172_1 hl172_1;have HR172_2:=AM hi172_2;have HC172_2:=AM hl172_2;clear hi172_2 hl172_2;have HR172_3:=AM hi172_3;have HC172_3:=AM hl172_3;clear hi172_3 hl172_3;replace p172:=eq_true p172;replace q172:=eq_true q172;go_wp2_with (first | ((with_reducible refine gate_dst (N:=5) rfl ?_);refine box_event ?hg (N:=5) ?hd (cs:=#[.int .i64 0,.slice none 0 0,.slice none 0 0,.slice none 0 0]) (t:=53) ?hr ?_;(case hd => rfl);(case hg => rfl);(case hr => first | (go_simp;done) | (go_simp;rfl));intro gb173 hg w7 hbox hb;have BK173:=AM (hbox);have GW173:=GW HB hg;have GE173:=GW HB hg;replace HB:=BS HB hb;have NB171_173:=NL BK171 hg;have NB173_171:=NG BK171 hg;replace BK171:=BE BK171 hb;clear hb hbox hg;have hnb8:=NB173_171.out;have hnc8:=NB171_173.out;have hcz9_0:=BC BK173 0 (.int .i64 0) rfl;have hcz9_1:=BC BK173 1 (.slice none 0 0) rfl;have hcz9_2:=BC BK173 2 (.slice none 0 0) rfl;have hcz9_3:=BC BK173 3 (.slice none 0 0) rfl;have hfz9_0:=BF BK173 0;have hfz9_1:=BF BK173 1;have hfz9_2:=BF BK173 2;have hfz9_3:=BF BK173 3))
      go_roundg k1
      case measure => have:=HK1.out;omega
      case rel => exact ⟨(wrap64 (x3_1+(((rd_T53 l0_0 x9_1).f3).length:Int))),(wrap64 (x9_1+1)),(by first | rfl | (simp;done) | (simp [*];done)),(by first | rfl | (simp;done) | (simp [*];done)),H',⟨by have:=HK1.out;omega⟩,⟨by (repeat refine blk_far ?_ NB171_173.out _);exact BL BK171⟩,⟨BB HB⟩⟩
     ·rw [if_neg c6] at H;exact absurd H (by simp)
    ·rw [if_neg c5] at H;exact absurd H (by simp)
   ·rw [if_neg c4] at H;have c4b0:decide (x9_1 < (l0_0.length:Int)) = false:=decide_eq_false c4;clear c4;obtain rfl:=Option.some.inj H;go_wp2
    go_ret;exact RT (BB HB)
end Go.Proofs.YtcphcaiiofeflaaDoor.GL
