
import Derived.Test.YtcphcaiiofeflaaDoorOmGOx0
import Derived.Test.YtcphcaiiofeflaaDoorOmGOx9
import Derived.Test.YtcphcaiiofeflaaDoorOmGOx10
namespace Go.Proofs.YtcphcaiiofeflaaDoor.GO
open Go.RowKit Go.Proofs.YtcphcaiiofeflaaDoorW.PrintWords Go.Proofs.YtcphcaiiofeflaaDoorW.PrintLast Go.Proofs.YtcphcaiiofeflaaDoorW.PrintMore
attribute [local go_sem] max2_int min2_int max_two min_two max_three min_three max_four min_four
set_option maxHeartbeats 8000000
set_option maxRecDepth 100000
set_option linter.unusedVariables false
set_option linter.unusedSimpArgs false
mutual
def graph_Depth.l0:Nat→List Int→List Int→Int→Int→List (S53)→Int→Option (Int)
 | 0,_,_,_,_,_,_ => none
 | k+1,x5,x22,x23,x24,x229000,x229001 => if x24 < x23 then (if 0≤x24 then (if x24 < (x22.length:Int) then (if 0≤(rd x22 x24) then (if (rd x22 x24) < (x229000.length:Int) then (graph_Depth.l1 k x5 (rd x22 x24) x22 x23 x24 ((rd_T53 x229000 (rd x22 x24)).f3) (((rd_T53 x229000 (rd x22 x24)).f3).length:Int) 0 x229000 x229001) else (none)) else (none)) else (none)) else (none)) else (if 0≤x229001 then (if x229001 < (x5.length:Int) then (some (rd x5 x229001)) else (none)) else (none))
def graph_Depth.l1:Nat→List Int→Int→List Int→Int→Int→List Int→Int→Int→List (S53)→Int→Option (Int)
 | 0,_,_,_,_,_,_,_,_,_,_ => none
 | k+1,x5,x7,x22,x23,x24,x33,x34,x35,x229000,x229001 => if x35 < x34 then (if 0≤x35 then (if x35 < (x33.length:Int) then (if 0≤x7 then (if x7 < (x5.length:Int) then (if 0≤(rd x33 x35) then (if (rd x33 x35) < (x5.length:Int) then (graph_Depth.l1 k (x5.set (x7:Int).toNat (mx (rd x5 x7) (rd x5 (rd x33 x35)))) x7 x22 x23 x24 x33 x34 (wrap64 (x35+1)) x229000 x229001) else (none)) else (none)) else (none)) else (none)) else (none)) else (none)) else (if 0≤x7 then (if x7 < (x5.length:Int) then (graph_Depth.l0 k (x5.set (x7:Int).toNat (wrap64 ((rd x5 x7)+1))) x22 x23 (wrap64 (x24+1)) x229000 x229001) else (none)) else (none))
end
def graph_Depth.f (k:Nat) (l0_0:List (S53)) (a0_1:Int):Option (Int):=(graph_Check.f k l0_0 a0_1).bind fun bt229 => (if bt229.1 = 0 then (if 0≤(l0_0.length:Int) then (if ((l0_0.length:Int):Int).toNat≤35184372088832 then ((graph_order.f k l0_0 a0_1).bind fun t234 => (graph_Depth.l0 k (List.replicate ((l0_0.length:Int):Int).toNat 0) t234 (t234.length:Int) 0 l0_0 a0_1)) else (none)) else (none)) else (some 0))
def graph_Depth.T11:Bool × List (List Nat × List Nat):=(true,[([],[]),([],[]),([],[]),([],[]),([2,3],[2,3]),([4],[4]),([],[]),([],[]),([6,7],[6,7]),([8],[8]),([5,9],[5,9]),([0,1,0,1,2,3,4,5,6,7,8,9,10],[0,1]),([11,10,0,1,2,3,4,5,6,7,8,9,10],[10,11])])
def graph_Depth.B11:List Nat:=[0,0,0,0,12,28,0,0,192,448,1020,2047,4095]
theorem graph_Depth.tab11:rtab .any (opsOf Tryd.f39 11) = graph_Depth.T11:=by kernel_rfl
theorem graph_Depth.bits11:waitsOk graph_Depth.T11.2 graph_Depth.B11 = true:=by kernel_rfl
theorem graph_Depth.calls (k:Nat) (A0_0:Option Addr) (c0_0:Nat) (l0_0:List (S53)) (a0_1:Int) (r:Int) (w:World) (hr0_0:Kd.C k53 w A0_0 l0_0.length l0_0) (hc0_0:l0_0.length≤c0_0) (h:graph_Depth.f k l0_0 a0_1 = some r) :
  Calls Tryd.prog 39 #[.agg #[.slice A0_0 l0_0.length c0_0,.int .i64 a0_1]] w fun e w' => e = .returned (.int .i64 r)∧Below w.heap.size w w':=by
 have hu24:=Tryd.underlying24;have HR0_0:=AM hr0_0;have HC0_0:=AM hc0_0;clear hr0_0 hc0_0;have HB:=AM (Below.refl w.heap.size w);have H:((graph_Check.f k l0_0 a0_1).bind fun bt229 => (if bt229.1 = 0 then (if 0≤(l0_0.length:Int) then (if ((l0_0.length:Int):Int).toNat≤35184372088832 then ((graph_order.f k l0_0 a0_1).bind fun t234 => (graph_Depth.l0 k (List.replicate ((l0_0.length:Int):Int).toNat 0) t234 (t234.length:Int) 0 l0_0 a0_1)) else (none)) else (none)) else (some 0))) = some r:=h;clear h;replace H:=Option.bind_eq_some_iff.mp H;obtain ⟨⟨t229,t230⟩,A20,H⟩:=H;replace H:(if t229 = 0 then (if 0≤(l0_0.length:Int) then (if ((l0_0.length:Int):Int).toNat≤35184372088832 then ((graph_order.f k l0_0 a0_1).bind fun t234 => (graph_Depth.l0 k (List.replicate ((l0_0.length:Int):Int).toNat 0) t234 (t234.length:Int) 0 l0_0 a0_1)) else (none)) else (none)) else (some 0)) = some r:=H;have A2:=AM A20;clear A20;by_cases c3:t229 = 0
 ·rw [if_pos c3] at H;have c3b0:(t229 == 0) = true:=beq_iff_eq.mpr c3;have c3b1:(t229 != 0) = false:=bne_eq_false_iff_eq.mpr c3;clear c3;by_cases c4:0≤(l0_0.length:Int)
  ·rw [if_pos c4] at H;have c4b0:=eq_true c4;have c4b1:decide (0≤(l0_0.length:Int)) = true:=decide_eq_true c4;clear c4;by_cases c5:((l0_0.length:Int):Int).toNat≤35184372088832
   ·rw [if_pos c5] at H;have c5b0:=eq_true c5;have c5b1:decide (((l0_0.length:Int):Int).toNat≤35184372088832) = true:=decide_eq_true c5;clear c5;obtain ⟨y231,hy231⟩:∃ y_:List Int,y_ = (List.replicate ((l0_0.length:Int):Int).toNat 0):=⟨_,rfl⟩;replace H:((graph_order.f k l0_0 a0_1).bind fun t234 => (graph_Depth.l0 k y231 t234 (t234.length:Int) 0 l0_0 a0_1)) = some r:=QH hy231 H
    have Ny231:=AM hy231;clear hy231;replace H:=Option.bind_eq_some_iff.mp H;obtain ⟨t234,A60,H⟩:=H;replace H:(graph_Depth.l0 k y231 t234 (t234.length:Int) 0 l0_0 a0_1) = some r:=H;have A6:=AM A60;clear A60;have H':=AM H;clear H;go_enter Tryd.func39,Tryd.ntmps39;go_wp2_with (first | ((with_reducible refine gate_dst (N:=1) rfl ?_);refine boxE 1 #[.slice A0_0 l0_0.length c0_0,.int .i64 a0_1] 24 ?_;intro gb228 hg w7 hbox hb;have BK228:=AM (hbox);have GW228:=GW HB hg;have GE228:=GW HB hg;replace HB:=BS HB hb;clear hb hbox hg;have hcz8_0:=BC BK228 0 (.slice A0_0 l0_0.length c0_0) rfl;have hcz8_1:=BC BK228 1 (.int .i64 a0_1) rfl;have hfz8_0:=BF BK228 0;have hfz8_1:=BF BK228 1) | ((with_reducible refine gate_callee (f:=40) rfl ?_);refine goesM_ (some 12) rfl rfl Tryd.func40 #[.agg #[.slice A0_0 l0_0.length c0_0,.int .i64 a0_1]] rfl ?_;(with_reducible refine (graph_Check.calls k _ _ l0_0 a0_1 t229 t230 _ ?side1 ?side2 A2.out).mono ?_);(case side1 => exact Kd.C_below HR0_0.out (BB HB));(case side2 => exact HC0_0.out);rintro e w9 ⟨rfl,hb⟩;refine ⟨_,rfl,?_⟩;replace BK228:=BE BK228 hb;replace HB:=BS HB hb;(try clear hb);(try clear hb2);(try clear hk);(try clear hi);have hcz10_0:=BC BK228 0 (.slice A0_0 l0_0.length c0_0) rfl;have hcz10_1:=BC BK228 1 (.int .i64 a0_1) rfl;have hfz10_0:=BF BK228 0;have hfz10_1:=BF BK228 1) | ((with_reducible refine gate_dst (N:=20) rfl ?_);refine Kd.R_make (Kd.int .i64) _ 3 rfl (N:=20) rfl 51 _ _ rfl (l0_0.length:Int) rfl rfl Tryd.underlying51 (.int .i64 0) 8 info3 rfl (by decide) (by omega) 0 (ok:=fun _ => True) (okp:=fun _ => True) rfl (fun _ hk => hk) trivial (OD) (Nat.le_trans (Nat.mul_le_mul_right _ (OD:(l0_0.length:Int).toNat≤35184372088832)) (by omega)) (Below.refl _ _) (Nat.le_refl _) ?_;intro v232 w11 ho12 hb hg_ hnew_;clear hg_ hnew_;(first | rw [← Ny231.out] at ho12 | (simp only [Int.reduceToNat] at ho12;rw [← Ny231.out] at ho12));have HO233:=AM (Kd.R_lower ho12 (below_size (BB HB)));replace BK228:=BE BK228 hb;replace HB:=BS HB hb;clear hb ho12;have hcz13_0:=BC BK228 0 (.slice A0_0 l0_0.length c0_0) rfl;have hcz13_1:=BC BK228 1 (.int .i64 a0_1) rfl;have hfz13_0:=BF BK228 0;have hfz13_1:=BF BK228 1) | ((with_reducible refine gate_callee (f:=66) rfl ?_);refine goesM_ (some 22) rfl rfl Tryd.func66 #[.agg #[.slice A0_0 l0_0.length c0_0,.int .i64 a0_1]] rfl ?_;(with_reducible refine (graph_order.calls k _ _ l0_0 a0_1 t234 _ ?side1 ?side2 A6.out).mono ?_);(case side1 => exact Kd.C_below HR0_0.out (BB HB));(case side2 => exact HC0_0.out);rintro e w14 ⟨v235,rfl,ho0,hb⟩;refine ⟨_,rfl,?_⟩;have HO236:=AM (Kd.R_lower (Kd.R_new' ho0 (Kd.R_lt (RL HO233))) (below_size (BB HB)));replace HO233:=AM (Kd.R_elder' (RL HO233) (Kd.R_base ho0) hb);replace BK228:=BE BK228 hb;replace HB:=BS HB hb;(try clear hb);(try clear hb2);(try clear hk);(try clear hi);(try clear ho0);obtain ⟨Ao15,co15,eo15⟩:=Kd.R_slice HO236.out;subst eo15))
    go_loopg [24] k (fun kq v24 w' => ∃ (x5_1:List Int) (x24_1:Int),v24 = .int .i64 x24_1∧Aside0 (graph_Depth.l0 kq x5_1 t234 (t234.length:Int) x24_1 l0_0 a0_1 = some r)∧Aside0 (kq≤k)∧Aside0 (Kd.R (Kd.int .i64) 3 w' w.heap.size (fun k_ => some k_≠((.slice Ao15 t234.length co15):Value).ownBlock) v232 x5_1)∧Aside0 (Kd.R (Kd.int .i64) 3 w' w.heap.size (fun k_ => some k_≠(v232:Value).ownBlock) (.slice Ao15 t234.length co15) t234)∧Aside0 (w'.heap[gb228]? = some (.cells #[(.slice A0_0 l0_0.length c0_0),.int .i64 a0_1] 24 (0,0)))∧Aside0 (Below w.heap.size w w'))
    case atStart => exact ⟨(y231),(0),QD,H',⟨Nat.le_refl _⟩,⟨by (with_reducible repeat (first | apply Kd.R_alloc | apply Kd.R_drewN | apply Kd.R_drew));exact Kd.R_mono HO233.out (fun _ hk => hk.2)⟩,⟨by (with_reducible repeat (first | apply Kd.R_alloc | apply Kd.R_drewN | apply Kd.R_drew));exact Kd.R_mono HO236.out (fun _ hk => hk.2)⟩,⟨BL BK228⟩,⟨BB HB⟩⟩
    case round =>
     clear H';try clear p2
     try clear c3
     try clear c3b0
     try clear c3b1
     try clear c4
     try clear c4b0
     try clear c4b1
     try clear c5
     try clear c5b0
     try clear c5b1
     try clear c6
     try clear hcz10_0
     try clear hcz10_1
     try clear hcz13_0
     try clear hcz13_1
     try clear hcz8_0
     try clear hcz8_1
     try clear hfz10_0
     try clear hfz10_1
     try clear hfz13_0
     try clear hfz13_1
     try clear hfz8_0
     try clear hfz8_1
     obtain ⟨x5_1,x24_1,rfl,HA,HK1,HO_5,HO_22,BK228,HB⟩:=hrel;cases gk with
     | zero => exact absurd HA.out (by simp [graph_Depth.l0])
     | succ k1 =>
      have H:=HA.out;clear HA;simp only [graph_Depth.l0] at H;by_cases c16:x24_1 < (t234.length:Int)
      ·rw [if_pos c16] at H;have c16b0:decide (x24_1 < (t234.length:Int)) = true:=decide_eq_true c16;clear c16;by_cases c17:0≤x24_1
       ·rw [if_pos c17] at H;have c17b0:decide (0≤x24_1) = true:=decide_eq_true c17;clear c17;by_cases c18:x24_1 < (t234.length:Int)
        ·rw [if_pos c18] at H;have c18b0:decide (x24_1 < (t234.length:Int)) = true:=decide_eq_true c18;clear c18;by_cases c19:0≤(rd t234 x24_1)
         ·rw [if_pos c19] at H;have c19b0:decide (0≤(rd t234 x24_1)) = true:=decide_eq_true c19;clear c19;by_cases c20:(rd t234 x24_1) < (l0_0.length:Int)
          ·rw [if_pos c20] at H;have c20b0:decide ((rd t234 x24_1) < (l0_0.length:Int)) = true:=decide_eq_true c20;clear c20;have H':=AM H;clear H;have p238:0≤(x24_1:Int):=OD;have q238:x24_1 < (t234.length:Int):=OD;obtain ⟨ad238,e238,hx238_0⟩:=Kd.at_int (Kd.R_reads' HO_22.out).2.2 x24_1 p238 q238;cases e238
           replace p238:=eq_true p238;replace q238:=eq_true q238;have hcz21_0:=BC BK228 0 (.slice A0_0 l0_0.length c0_0) rfl;have hcz21_1:=BC BK228 1 (.int .i64 a0_1) rfl;have hfz21_0:=BF BK228 0;have hfz21_1:=BF BK228 1;have p239:0≤((rd t234 x24_1):Int):=OD;have q239:(rd t234 x24_1) < (l0_0.length:Int):=OD;obtain ⟨ad239,A239_1,c239_1,A239_2,c239_2,A239_3,c239_3,e239,hx239_0,hx239_1,hx239_2,hx239_3,hl239_1,hi239_1,hl239_2,hi239_2,hl239_3,hi239_3⟩:=at_T53 HR0_0.out (rd t234 x24_1) p239 q239;cases e239
           replace hx239_0:=CL HB hx239_0;replace hx239_1:=CL HB hx239_1;replace hx239_2:=CL HB hx239_2;replace hx239_3:=CL HB hx239_3;have HR239_1:=AM hi239_1;have HC239_1:=AM hl239_1;clear hi239_1 hl239_1;have HR239_2:=AM hi239_2;have HC239_2:=AM hl239_2;clear hi239_2 hl239_2;have HR239_3:=AM hi239_3;have HC239_3:=AM hl239_3;clear hi239_3 hl239_3;replace p239:=eq_true p239;replace q239:=eq_true q239;go_wp2
           go_loopg [35] k1 (fun kq v35 w' => ∃ (x5_2:List Int) (x35_2:Int),v35 = .int .i64 x35_2∧Aside0 (graph_Depth.l1 kq x5_2 (rd t234 x24_1) t234 (t234.length:Int) x24_1 ((rd_T53 l0_0 (rd t234 x24_1)).f3) (((rd_T53 l0_0 (rd t234 x24_1)).f3).length:Int) x35_2 l0_0 a0_1 = some r)∧Aside0 (kq≤k1)∧Aside0 (Kd.R (Kd.int .i64) 3 w' w.heap.size (fun k_ => some k_≠((.slice (some ad238) t234.length co15):Value).ownBlock) v232 x5_2)∧Aside0 (Kd.R (Kd.int .i64) 3 w' w.heap.size (fun k_ => some k_≠(v232:Value).ownBlock) (.slice (some ad238) t234.length co15) t234)∧Aside0 (w'.heap[gb228]? = some (.cells #[(.slice (some ad239) l0_0.length c0_0),.int .i64 a0_1] 24 (0,0)))∧Aside0 (Below w.heap.size w w'))
           case atStart => exact ⟨(x5_1),(0),QD,H',⟨Nat.le_refl _⟩,⟨RA HO_5.out⟩,⟨RA HO_22.out⟩,⟨BL BK228⟩,⟨BB HB⟩⟩
           case round =>
            clear H';try clear c1
            try clear c2
            try clear p2
            try clear q2
            try clear hx2
            try clear c3
            try clear c3b0
            try clear c3b1
            try clear c4
            try clear c4b0
            try clear c4b1
            try clear c5
            try clear c5b0
            try clear c5b1
            try clear c6
            try clear c16
            try clear c16b0
            try clear c17
            try clear c17b0
            try clear c18
            try clear c18b0
            try clear c19
            try clear c19b0
            try clear c20
            try clear c20b0
            try clear hcz10_0
            try clear hcz10_1
            try clear hcz13_0
            try clear hcz13_1
            try clear hcz21_0
            try clear hcz21_1
            try clear hcz8_0
            try clear hcz8_1
            try clear hfz10_0
            try clear hfz10_1
            try clear hfz13_0
            try clear hfz13_1
            try clear hfz21_0
            try clear hfz21_1
            try clear hfz8_0
            try clear hfz8_1
            try clear hx238_0
            try clear hx239_0
            try clear hx239_1
            try clear hx239_2
            try clear hx239_3
            try clear p2
            try clear p238
            try clear p239
            try clear q238
            try clear q239
            obtain ⟨x5_2,x35_2,rfl,HA,HK2,HO_5,HO_22,BK228,HB⟩:=hrel;cases gk with
            | zero => exact absurd HA.out (by simp [graph_Depth.l1])
            | succ k2 =>
             have H:=HA.out;clear HA;simp only [graph_Depth.l1] at H;by_cases c22:x35_2 < (((rd_T53 l0_0 (rd t234 x24_1)).f3).length:Int)
             ·rw [if_pos c22] at H;have c22b0:decide (x35_2 < (((rd_T53 l0_0 (rd t234 x24_1)).f3).length:Int)) = true:=decide_eq_true c22;clear c22;by_cases c23:0≤x35_2
              ·rw [if_pos c23] at H;have c23b0:decide (0≤x35_2) = true:=decide_eq_true c23;clear c23;by_cases c24:x35_2 < (((rd_T53 l0_0 (rd t234 x24_1)).f3).length:Int)
               ·rw [if_pos c24] at H;have c24b0:decide (x35_2 < (((rd_T53 l0_0 (rd t234 x24_1)).f3).length:Int)) = true:=decide_eq_true c24;clear c24;by_cases c25:0≤(rd t234 x24_1)
                ·rw [if_pos c25] at H;have c25b0:decide (0≤(rd t234 x24_1)) = true:=decide_eq_true c25;clear c25;by_cases c26:(rd t234 x24_1) < (x5_2.length:Int)
                 ·rw [if_pos c26] at H;have c26b0:decide ((rd t234 x24_1) < (x5_2.length:Int)) = true:=decide_eq_true c26;clear c26;by_cases c27:0≤(rd ((rd_T53 l0_0 (rd t234 x24_1)).f3) x35_2)
                  ·rw [if_pos c27] at H;have c27b0:decide (0≤(rd ((rd_T53 l0_0 (rd t234 x24_1)).f3) x35_2)) = true:=decide_eq_true c27;clear c27;by_cases c28:(rd ((rd_T53 l0_0 (rd t234 x24_1)).f3) x35_2) < (x5_2.length:Int)
                   ·rw [if_pos c28] at H;have c28b0:decide ((rd ((rd_T53 l0_0 (rd t234 x24_1)).f3) x35_2) < (x5_2.length:Int)) = true:=decide_eq_true c28;clear c28;obtain ⟨ji29,hji29⟩:∃ j_:Int,(mx (rd x5_2 (rd t234 x24_1)) (rd x5_2 (rd ((rd_T53 l0_0 (rd t234 x24_1)).f3) x35_2))) = j_:=⟨_,rfl⟩;replace H:(graph_Depth.l1 k2 (x5_2.set ((rd t234 x24_1):Int).toNat (ji29)) (rd t234 x24_1) t234 (t234.length:Int) x24_1 ((rd_T53 l0_0 (rd t234 x24_1)).f3) (((rd_T53 l0_0 (rd t234 x24_1)).f3).length:Int) (wrap64 (x35_2+1)) l0_0 a0_1) = some r:=by first | (rw [hji29] at H;exact H) | (simp only [hji29] at H ⊢;exact H)
                    have hji29_:(if (rd x5_2 (rd t234 x24_1)) < (rd x5_2 (rd ((rd_T53 l0_0 (rd t234 x24_1)).f3) x35_2)) then (rd x5_2 (rd ((rd_T53 l0_0 (rd t234 x24_1)).f3) x35_2)) else (rd x5_2 (rd t234 x24_1))) = ji29:=hji29;obtain ⟨y243,hy243⟩:∃ y_:List Int,y_ = (x5_2.set ((rd t234 x24_1):Int).toNat (ji29)):=⟨_,rfl⟩;replace H:(graph_Depth.l1 k2 y243 (rd t234 x24_1) t234 (t234.length:Int) x24_1 ((rd_T53 l0_0 (rd t234 x24_1)).f3) (((rd_T53 l0_0 (rd t234 x24_1)).f3).length:Int) (wrap64 (x35_2+1)) l0_0 a0_1) = some r:=QH hy243 H
                    have Ny243:=AM hy243;clear hy243;have H':=AM H;clear H;have p240:0≤(x35_2:Int):=OD;have q240:x35_2 < (((rd_T53 l0_0 (rd t234 x24_1)).f3).length:Int):=OD;obtain ⟨ad240,e240,hx240_0⟩:=Kd.at_int HR239_3.out x35_2 p240 q240;cases e240
                    replace hx240_0:=CL HB hx240_0;replace p240:=eq_true p240;replace q240:=eq_true q240;try go_wp2
                    replace HO_5:=AM (Kd.R_drew HO_5.out);replace HO_22:=AM (Kd.R_drew HO_22.out);replace BK228:=AM (blk_drew BK228.out);replace HB:=AM (below_drew1 HB.out);obtain ⟨Ao32,co32,eo32⟩:=Kd.R_slice HO_5.out;(first | subst eo32 | (injection eo32 with f1_ f2_ f3_;have f4_:=f1_.symm;have f5_:=f3_.symm;clear f1_ f2_ f3_;subst f4_;subst f5_))
                    have p241:0≤((rd t234 x24_1):Int):=OD;have q241:(rd t234 x24_1) < (x5_2.length:Int):=OD;obtain ⟨ad241,e241,hx241_0⟩:=Kd.at_int (Kd.R_reads' HO_5.out).2.2 (rd t234 x24_1) p241 q241;cases e241
                    replace p241:=eq_true p241;replace q241:=eq_true q241;have p242:0≤((rd ((rd_T53 l0_0 (rd t234 x24_1)).f3) x35_2):Int):=OD;have q242:(rd ((rd_T53 l0_0 (rd t234 x24_1)).f3) x35_2) < (x5_2.length:Int):=OD;obtain ⟨ad242,e242,hx242_0⟩:=Kd.at_int (Kd.R_reads' HO_5.out).2.2 (rd ((rd_T53 l0_0 (rd t234 x24_1)).f3) x35_2) p242 q242;obtain rfl:ad241 = ad242:=(by injection e242);replace p242:=eq_true p242;replace q242:=eq_true q242;have p30:0≤((rd t234 x24_1):Int):=OD;have q30:((rd t234 x24_1):Int) < ((x5_2.length:Int):Int):=OD;obtain ⟨go30,co30,eo30,gb30,gl30,cl30,HG30⟩:=Kd.R_form HO_5.out (by omega);(first | cases eo30 | (injection eo30 with ea_ en_ ec_;(first | subst ea_ | (injection ea_ with ea_;subst ea_));subst ec_;clear en_))
                    have GB30:=AM gb30;have GG30:=AM HG30;clear gb30 gl30 HG30;(first | simp only [add_plain] at hx241_0 | skip)
                    (first | simp only [add_plain] at hx242_0 | skip)
                    obtain ⟨hx30_0,hf30_0⟩:=Kd.R_celln 0 HO_5.out ((rd t234 x24_1):Int) p30 q30;replace p30:=eq_true p30;replace q30:=eq_true q30;have HP33:=Kd.R_putn HO_5.out ((rd t234 x24_1):Int) ji29;rw [← Ny243.out] at HP33;have HQ33:=AM HP33;clear HP33;refine start_ (n:=13) (S:=fun w' => w'.cell? ⟨go30,((rd t234 x24_1)).toNat,none⟩ = some (.int .i64 (rd x5_2 (rd t234 x24_1)))∧w'.cell? ⟨go30,((rd ((rd_T53 l0_0 (rd t234 x24_1)).f3) x35_2)).toNat,none⟩ = some (.int .i64 (rd x5_2 (rd ((rd_T53 l0_0 (rd t234 x24_1)).f3) x35_2)))) (ds:=[12]) #[false,false,false,false,false,false,false,false,false,false,false,false,false] (by kernel_rfl) rfl rfl ⟨hx241_0,hx242_0⟩ (fun hHeld => ?_);refine with_tabW graph_Depth.tab11 graph_Depth.bits11 (fun HT_ HW_ => ?_);generalize wr.drew = w31 at HO_5 HO_22 BK228 HB GG30 HQ33 hf30_0 hx241_0 hx242_0 hx30_0 hHeld ⊢;refine pureA HT_ (i:=0) (N:=some 39) #[true,false,false,false,false,false,false,false,false,false,false,false,false] ?_;refine pureA HT_ (i:=1) (N:=some 40) #[true,true,false,false,false,false,false,false,false,false,false,false,false] ?_;refine pureA HT_ (i:=2) (N:=some 41) #[true,true,true,false,false,false,false,false,false,false,false,false,false] ?_;refine pureA HT_ (i:=3) (N:=some 42) #[true,true,true,true,false,false,false,false,false,false,false,false,false] ?_;refine pureA HT_ (i:=4) (N:=some 43) #[true,true,true,true,true,false,false,false,false,false,false,false,false] ?_;refine pureA HT_ (i:=6) (N:=some 45) #[true,true,true,true,true,false,true,false,false,false,false,false,false] ?_;refine pureA HT_ (i:=7) (N:=some 46) #[true,true,true,true,true,false,true,true,false,false,false,false,false] ?_;refine pureA HT_ (i:=8) (N:=some 47) #[true,true,true,true,true,false,true,true,true,false,false,false,false] ?_;refine takeB_ (i:=5) (N:=some 44) (hi:=rfl) (hN:=rfl) (hc:=take_ofW HT_.out HW_.out (by kernel_rfl)) #[true,true,true,true,true,true,true,true,true,false,false,false,false] hHeld (by rintro w' ⟨s0,s1⟩;go_simp;with_reducible rfl) ?_;refine takeB_ (i:=9) (N:=some 48) (hi:=rfl) (hN:=rfl) (hc:=take_ofW HT_.out HW_.out (by kernel_rfl)) #[true,true,true,true,true,true,true,true,true,true,false,false,false] hHeld (by rintro w' ⟨s0,s1⟩;go_simp;with_reducible rfl) ?_;refine pureA HT_ (i:=10) (N:=some 49) #[true,true,true,true,true,true,true,true,true,true,true,false,false] ?_;refine pureA HT_ (i:=11) (N:=some 50) #[true,true,true,true,true,true,true,true,true,true,true,true,false] ?_;refine last_ (i:=12) (N:=none) #[true,true,true,true,true,true,true,true,true,true,true,true,true] rfl rfl (one_of HT_.out (by kernel_rfl)) (by decide) (fun K hK => ?_);refine skip_ (w1:=?_) (by rfl) rfl ?_ ?_
                    rotate_left
                    ·go_simp
                     rfl
                    refine hK.out _ _ ?_;clear hK K;refine done_ (done_of HT_.out (by kernel_rfl)) ?_;try go_wp2
                    go_roundg k2
                    case measure => have:=HK1.out;have:=HK2.out;omega
                    case rel => exact ⟨(y243),(wrap64 (x35_2+1)),QD,H',⟨by have:=HK1.out;have:=HK2.out;omega⟩,⟨by (with_reducible repeat (first | apply Kd.R_alloc | apply Kd.R_drewN | apply Kd.R_drew));exact HQ33.out⟩,⟨by exact Kd.R_mono (Kd.R_far (p:=⟨go30,((rd t234 x24_1):Int).toNat,none⟩) (Kd.R_mono HO_22.out (fun k_ hk => (⟨hk,fun e_ => hk (by rw [e_];rfl)⟩:_∧k_≠go30))) (fun _ hk => hk.2) (.int .i64 ji29)) (fun _ hk => hk.1)⟩,⟨by refine blk_far ?_ (by have h_:=Kd.R_ne HO_5.out BK228.out (by decide);intro e_;exact h_ (by rw [e_];rfl)) _;exact BL BK228⟩,⟨BB HB⟩⟩
                   ·rw [if_neg c28] at H;exact absurd H (by simp)
                  ·rw [if_neg c27] at H;exact absurd H (by simp)
                 ·rw [if_neg c26] at H;exact absurd H (by simp)
                ·rw [if_neg c25] at H;exact absurd H (by simp)
               ·rw [if_neg c24] at H;exact absurd H (by simp)
              ·rw [if_neg c23] at H;exact absurd H (by simp)
             ·rw [if_neg c22] at H;have c22b0:decide (x35_2 < (((rd_T53 l0_0 (rd t234 x24_1)).f3).length:Int)) = false:=decide_eq_false c22;clear c22;by_cases c34:0≤(rd t234 x24_1)
              ·rw [if_pos c34] at H;have c34b0:decide (0≤(rd t234 x24_1)) = true:=decide_eq_true c34;clear c34;by_cases c35:(rd t234 x24_1) < (x5_2.length:Int)
               ·rw [if_pos c35] at H;have c35b0:decide ((rd t234 x24_1) < (x5_2.length:Int)) = true:=decide_eq_true c35;clear c35;obtain ⟨y245,hy245⟩:∃ y_:List Int,y_ = (x5_2.set ((rd t234 x24_1):Int).toNat (wrap64 ((rd x5_2 (rd t234 x24_1))+1))):=⟨_,rfl⟩;replace H:(graph_Depth.l0 k2 y245 t234 (t234.length:Int) (wrap64 (x24_1+1)) l0_0 a0_1) = some r:=QH hy245 H
                have Ny245:=AM hy245;clear hy245;have H':=AM H;clear H;obtain ⟨Ao37,co37,eo37⟩:=Kd.R_slice HO_5.out;subst eo37;have p244:0≤((rd t234 x24_1):Int):=OD;have q244:(rd t234 x24_1) < (x5_2.length:Int):=OD;obtain ⟨ad244,e244,hx244_0⟩:=Kd.at_int (Kd.R_reads' HO_5.out).2.2 (rd t234 x24_1) p244 q244;cases e244
                replace p244:=eq_true p244;replace q244:=eq_true q244;have p36:0≤((rd t234 x24_1):Int):=OD;have q36:((rd t234 x24_1):Int) < ((x5_2.length:Int):Int):=OD;obtain ⟨go36,co36,eo36,gb36,gl36,cl36,HG36⟩:=Kd.R_form HO_5.out (by omega);(first | cases eo36 | (injection eo36 with ea_ en_ ec_;(first | subst ea_ | (injection ea_ with ea_;subst ea_));subst ec_;clear en_))
                have GB36:=AM gb36;have GG36:=AM HG36;clear gb36 gl36 HG36;(first | simp only [add_plain] at hx244_0 | skip)
                obtain ⟨hx36_0,hf36_0⟩:=Kd.R_celln 0 HO_5.out ((rd t234 x24_1):Int) p36 q36;replace p36:=eq_true p36;replace q36:=eq_true q36;have HP38:=Kd.R_putg HO_5.out ((rd t234 x24_1):Int) (wrap64 ((rd x5_2 (rd t234 x24_1))+1));go_wp2_with (first | ((with_reducible refine gate_store (t:=3) (p:=57) rfl ?_);refine store_event (t:=3) (p:=57) (v:=?vo_w39) (w1:=(wr.setCell ⟨go36,((rd t234 x24_1):Int).toNat,none⟩ (.int .i64 (wrap64 ((rd x5_2 (rd t234 x24_1))+1))))) ?hg ?ho ?hn ?hr ?_;(case ho => rfl);(case hg => rfl);(case hn => rfl);(case hr => first | (go_simp;done) | (go_simp;rfl));intro w39 hw;have hg:wr.grownBy w39 (some go36):=(by rw [hw];exact HP38.2);have hp_:Kd.R (Kd.int .i64) 3 w39 w.heap.size (fun k_ => some k_≠(.slice (some ad238) t234.length co15:Value).ownBlock) (.slice (some ⟨go36,0,none⟩) x5_2.length co37) y245:=(by rw [hw,Ny245.out];exact HP38.1);clear HP38;replace HO_22:=AM (Kd.R_after (v:=(.slice (some ⟨go36,0,none⟩) x5_2.length co37)) (v1:=(.slice (some ⟨go36,0,none⟩) x5_2.length co37)) (ok:=(fun _ => True)) (by (with_reducible repeat (first | apply Kd.R_alloc | apply Kd.R_drewN | apply Kd.R_drew));exact Kd.R_mono HO_22.out (fun _ hk => ⟨trivial,hk⟩)) hg (.inl rfl));replace BK228:=AM (blk_grown (g:=gb228) (o:=.cells #[.slice (some ad239) l0_0.length c0_0,.int .i64 a0_1] 24 (0,0)) (BL BK228) hg (Kd.R_ne HO_5.out BK228.out (by decide)));replace HO_5:=AM (hp_);replace HB:=AM ((by rw [hw];exact below_set (HB.out) GB36.out:Below w.heap.size w w39));clear hg hw hp_))
                go_roundg k2
                case measure => have:=HK1.out;have:=HK2.out;omega
                case rel => exact ⟨(y245),(wrap64 (x24_1+1)),QD,H',⟨by have:=HK1.out;have:=HK2.out;omega⟩,⟨RA HO_5.out⟩,⟨by (with_reducible repeat (first | apply Kd.R_alloc | apply Kd.R_drewN | apply Kd.R_drew));exact Kd.R_mono HO_22.out (fun _ hk => hk.2)⟩,⟨BL BK228⟩,⟨BB HB⟩⟩
               ·rw [if_neg c35] at H;exact absurd H (by simp)
              ·rw [if_neg c34] at H;exact absurd H (by simp)
          ·rw [if_neg c20] at H;exact absurd H (by simp)
         ·rw [if_neg c19] at H;exact absurd H (by simp)
        ·rw [if_neg c18] at H;exact absurd H (by simp)
       ·rw [if_neg c17] at H;exact absurd H (by simp)
      ·rw [if_neg c16] at H;have c16b0:decide (x24_1 < (t234.length:Int)) = false:=decide_eq_false c16;clear c16;by_cases c40:0≤a0_1
       ·rw [if_pos c40] at H;have c40b0:decide (0≤a0_1) = true:=decide_eq_true c40;clear c40;by_cases c41:a0_1 < (x5_1.length:Int)
        ·rw [if_pos c41] at H;have c41b0:decide (a0_1 < (x5_1.length:Int)) = true:=decide_eq_true c41;clear c41;obtain rfl:=Option.some.inj H;have hcz42_0:=BC BK228 0 (.slice A0_0 l0_0.length c0_0) rfl;have hcz42_1:=BC BK228 1 (.int .i64 a0_1) rfl;have hfz42_0:=BF BK228 0;have hfz42_1:=BF BK228 1;obtain ⟨Ao43,co43,eo43⟩:=Kd.R_slice HO_5.out;subst eo43;have p237:0≤(a0_1:Int):=OD;have q237:a0_1 < (x5_1.length:Int):=OD;obtain ⟨ad237,e237,hx237_0⟩:=Kd.at_int (Kd.R_reads' HO_5.out).2.2 a0_1 p237 q237;cases e237
         replace p237:=eq_true p237;replace q237:=eq_true q237;go_wp2
         go_ret;exact RT (BB HB)
        ·rw [if_neg c41] at H;exact absurd H (by simp)
       ·rw [if_neg c40] at H;exact absurd H (by simp)
   ·rw [if_neg c5] at H;exact absurd H (by simp)
  ·rw [if_neg c4] at H;exact absurd H (by simp)
 ·rw [if_neg c3] at H;have c3b0:(t229 == 0) = false:=beq_eq_false_iff_ne.mpr c3;have c3b1:(t229 != 0) = true:=bne_iff_ne.mpr c3;obtain rfl:=Option.some.inj H;go_enter Tryd.func39,Tryd.ntmps39;go_wp2_with (first | ((with_reducible refine gate_dst (N:=1) rfl ?_);refine boxE 1 #[.slice A0_0 l0_0.length c0_0,.int .i64 a0_1] 24 ?_;intro gb228 hg w44 hbox hb;have BK228:=AM (hbox);have GW228:=GW HB hg;have GE228:=GW HB hg;replace HB:=BS HB hb;clear hb hbox hg;have hcz45_0:=BC BK228 0 (.slice A0_0 l0_0.length c0_0) rfl;have hcz45_1:=BC BK228 1 (.int .i64 a0_1) rfl;have hfz45_0:=BF BK228 0;have hfz45_1:=BF BK228 1) | ((with_reducible refine gate_callee (f:=40) rfl ?_);refine goesM_ (some 12) rfl rfl Tryd.func40 #[.agg #[.slice A0_0 l0_0.length c0_0,.int .i64 a0_1]] rfl ?_;(with_reducible refine (graph_Check.calls k _ _ l0_0 a0_1 t229 t230 _ ?side1 ?side2 A2.out).mono ?_);(case side1 => exact Kd.C_below HR0_0.out (BB HB));(case side2 => exact HC0_0.out);rintro e w46 ⟨rfl,hb⟩;refine ⟨_,rfl,?_⟩;replace BK228:=BE BK228 hb;replace HB:=BS HB hb;(try clear hb);(try clear hb2);(try clear hk);(try clear hi)))
  go_ret;exact RT (BB HB)
def graph_Edges.l0:Nat→Int→List (S53)→Int→Int→Option (Int)
 | 0,_,_,_,_ => none
 | k+1,x3,x7,x8,x9 => if x9 < x8 then (if 0≤x9 then (if x9 < (x7.length:Int) then (graph_Edges.l0 k (wrap64 (x3+(((rd_T53 x7 x9).f3).length:Int))) x7 x8 (wrap64 (x9+1))) else (none)) else (none)) else (some x3)
def graph_Edges.f (k:Nat) (l0_0:List (S53)) (a0_1:Int):Option (Int):=graph_Edges.l0 k 0 l0_0 (l0_0.length:Int) 0
theorem graph_Edges.calls (k:Nat) (A0_0:Option Addr) (c0_0:Nat) (l0_0:List (S53)) (a0_1:Int) (r:Int) (w:World) (hr0_0:Kd.C k53 w A0_0 l0_0.length l0_0) (hc0_0:l0_0.length≤c0_0) (h:graph_Edges.f k l0_0 a0_1 = some r) :
  Calls Tryd.prog 48 #[.agg #[.slice A0_0 l0_0.length c0_0,.int .i64 a0_1]] w fun e w' => e = .returned (.int .i64 r)∧Below w.heap.size w w':=by
 have hu24:=Tryd.underlying24;have hu53:=Tryd.underlying53;have HR0_0:=AM hr0_0;have HC0_0:=AM hc0_0;clear hr0_0 hc0_0;have HB:=AM (Below.refl w.heap.size w);have H:(graph_Edges.l0 k 0 l0_0 (l0_0.length:Int) 0) = some r:=h;clear h;have H':=AM H;clear H;go_enter Tryd.func48,Tryd.ntmps48;go_wp2_with (first | ((with_reducible refine gate_dst (N:=1) rfl ?_);refine boxE 1 #[.slice A0_0 l0_0.length c0_0,.int .i64 a0_1] 24 ?_;intro gb246 hg w2 hbox hb;have BK246:=AM (hbox);have GW246:=GW HB hg;have GE246:=GW HB hg;replace HB:=BS HB hb;clear hb hbox hg;have hcz3_0:=BC BK246 0 (.slice A0_0 l0_0.length c0_0) rfl;have hcz3_1:=BC BK246 1 (.int .i64 a0_1) rfl;have hfz3_0:=BF BK246 0;have hfz3_1:=BF BK246 1))
 go_loopg [3,9] k (fun kq v3 v9 w' => ∃ (x3_1:Int) (x9_1:Int),v3 = .int .i64 x3_1∧v9 = .int .i64 x9_1∧Aside0 (graph_Edges.l0 kq x3_1 l0_0 (l0_0.length:Int) x9_1 = some r)∧Aside0 (kq≤k)∧Aside0 (w'.heap[gb246]? = some (.cells #[(.slice A0_0 l0_0.length c0_0),.int .i64 a0_1] 24 (0,0)))∧Aside0 (Below w.heap.size w w'))
 case atStart => exact ⟨(0),(0),QD,QD,H',⟨Nat.le_refl _⟩,⟨BL BK246⟩,⟨BB HB⟩⟩
 case round =>
  clear H';try clear p2
  try clear hcz3_0
  try clear hcz3_1
  try clear hfz3_0
  try clear hfz3_1
  obtain ⟨x3_1,x9_1,rfl,rfl,HA,HK1,BK246,HB⟩:=hrel;cases gk with
  | zero => exact absurd HA.out (by simp [graph_Edges.l0])
  | succ k1 =>
   have H:=HA.out;clear HA;simp only [graph_Edges.l0] at H;by_cases c4:x9_1 < (l0_0.length:Int)
   ·rw [if_pos c4] at H;have c4b0:decide (x9_1 < (l0_0.length:Int)) = true:=decide_eq_true c4;clear c4;by_cases c5:0≤x9_1
    ·rw [if_pos c5] at H;have c5b0:decide (0≤x9_1) = true:=decide_eq_true c5;clear c5;by_cases c6:x9_1 < (l0_0.length:Int)
     ·rw [if_pos c6] at H;have c6b0:decide (x9_1 < (l0_0.length:Int)) = true:=decide_eq_true c6;clear c6;have H':=AM H;clear H;have p247:0≤(x9_1:Int):=OD;have q247:x9_1 < (l0_0.length:Int):=OD;obtain ⟨ad247,A247_1,c247_1,A247_2,c247_2,A247_3,c247_3,e247,hx247_0,hx247_1,hx247_2,hx247_3,hl247_1,hi247_1,hl247_2,hi247_2,hl247_3,hi247_3⟩:=at_T53 HR0_0.out x9_1 p247 q247;cases e247
      replace hx247_0:=CL HB hx247_0;replace hx247_1:=CL HB hx247_1;replace hx247_2:=CL HB hx247_2;replace hx247_3:=CL HB hx247_3;have HR247_1:=AM hi247_1;have HC247_1:=AM hl247_1;clear hi247_1 hl247_1;have HR247_2:=AM hi247_2;have HC247_2:=AM hl247_2;clear hi247_2 hl247_2;have HR247_3:=AM hi247_3;have HC247_3:=AM hl247_3;clear hi247_3 hl247_3;replace p247:=eq_true p247;replace q247:=eq_true q247;go_wp2_with (first | ((with_reducible refine gate_dst (N:=5) rfl ?_);refine boxE 5 #[.int .i64 0,.slice none 0 0,.slice none 0 0,.slice none 0 0] 53 ?_;intro gb248 hg w7 hbox hb;have BK248:=AM (hbox);have GW248:=GW HB hg;have GE248:=GW HB hg;replace HB:=BS HB hb;have NB246_248:=NL BK246 hg;have NB248_246:=NG BK246 hg;replace BK246:=BE BK246 hb;clear hb hbox hg;have hnb8:=NB248_246.out;have hnc8:=NB246_248.out;have hcz9_0:=BC BK248 0 (.int .i64 0) rfl;have hcz9_1:=BC BK248 1 (.slice none 0 0) rfl;have hcz9_2:=BC BK248 2 (.slice none 0 0) rfl;have hcz9_3:=BC BK248 3 (.slice none 0 0) rfl;have hfz9_0:=BF BK248 0;have hfz9_1:=BF BK248 1;have hfz9_2:=BF BK248 2;have hfz9_3:=BF BK248 3))
      go_roundg k1
      case measure => have:=HK1.out;omega
      case rel => exact ⟨(wrap64 (x3_1+(((rd_T53 l0_0 x9_1).f3).length:Int))),(wrap64 (x9_1+1)),QD,QD,H',⟨by have:=HK1.out;omega⟩,⟨by (repeat refine blk_far ?_ NB246_248.out _);exact BL BK246⟩,⟨BB HB⟩⟩
     ·rw [if_neg c6] at H;exact absurd H (by simp)
    ·rw [if_neg c5] at H;exact absurd H (by simp)
   ·rw [if_neg c4] at H;have c4b0:decide (x9_1 < (l0_0.length:Int)) = false:=decide_eq_false c4;clear c4;obtain rfl:=Option.some.inj H;go_wp2
    go_ret;exact RT (BB HB)
end Go.Proofs.YtcphcaiiofeflaaDoor.GO
