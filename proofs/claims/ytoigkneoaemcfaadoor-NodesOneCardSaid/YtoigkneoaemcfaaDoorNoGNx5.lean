
import Derived.Test.YtoigkneoaemcfaaDoorNoM2
import Derived.Test.YtoigkneoaemcfaaDoorNoGNx3
import Derived.Test.YtoigkneoaemcfaaDoorNoGNx4
namespace Go.Proofs.YtoigkneoaemcfaaDoor.GN
open Go.RowKit Go.Proofs.YtoigkneoaemcfaaDoorW.PrintWords Go.Proofs.YtoigkneoaemcfaaDoorW.PrintLast Go.Proofs.YtoigkneoaemcfaaDoorW.PrintMore
attribute [local go_sem] max2_int min2_int max_two min_two max_three min_three max_four min_four
set_option maxHeartbeats 8000000
set_option maxRecDepth 100000
set_option linter.unusedVariables false
set_option linter.unusedSimpArgs false
mutual
def graph_Depth.l0:Nat→List Int→List Int→Int→Int→List (S40)→Int→Option (Int)
 | 0,_,_,_,_,_,_ => none
 | k+1,x5,x22,x23,x24,x142000,x142001 => if x24 < x23 then (if 0≤x24 then (if x24 < (x22.length:Int) then (if 0≤(rd x22 x24) then (if (rd x22 x24) < (x142000.length:Int) then (graph_Depth.l1 k x5 (rd x22 x24) x22 x23 x24 ((rd_T40 x142000 (rd x22 x24)).f3) (((rd_T40 x142000 (rd x22 x24)).f3).length:Int) 0 x142000 x142001) else (none)) else (none)) else (none)) else (none)) else (if 0≤x142001 then (if x142001 < (x5.length:Int) then (some (rd x5 x142001)) else (none)) else (none))
def graph_Depth.l1:Nat→List Int→Int→List Int→Int→Int→List Int→Int→Int→List (S40)→Int→Option (Int)
 | 0,_,_,_,_,_,_,_,_,_,_ => none
 | k+1,x5,x7,x22,x23,x24,x33,x34,x35,x142000,x142001 => if x35 < x34 then (if 0≤x35 then (if x35 < (x33.length:Int) then (if 0≤x7 then (if x7 < (x5.length:Int) then (if 0≤(rd x33 x35) then (if (rd x33 x35) < (x5.length:Int) then (graph_Depth.l1 k (x5.set (x7:Int).toNat (mx (rd x5 x7) (rd x5 (rd x33 x35)))) x7 x22 x23 x24 x33 x34 (wrap64 (x35+1)) x142000 x142001) else (none)) else (none)) else (none)) else (none)) else (none)) else (none)) else (if 0≤x7 then (if x7 < (x5.length:Int) then (graph_Depth.l0 k (x5.set (x7:Int).toNat (wrap64 ((rd x5 x7)+1))) x22 x23 (wrap64 (x24+1)) x142000 x142001) else (none)) else (none))
end
def graph_Depth.f (k:Nat) (l0_0:List (S40)) (a0_1:Int):Option (Int):=(graph_Check.f k l0_0 a0_1).bind fun bt142 => (if bt142.1 = 0 then (if 0≤(l0_0.length:Int) then (if ((l0_0.length:Int):Int).toNat≤35184372088832 then ((graph_order.f k l0_0 a0_1).bind fun t147 => (graph_Depth.l0 k (List.replicate ((l0_0.length:Int):Int).toNat 0) t147 (t147.length:Int) 0 l0_0 a0_1)) else (none)) else (none)) else (some 0))
def graph_Depth.T11:Bool × List (List Nat × List Nat):=(true,[([],[]),([],[]),([],[]),([],[]),([2,3],[2,3]),([4],[4]),([],[]),([],[]),([6,7],[6,7]),([8],[8]),([5,9],[5,9]),([0,1,0,1,2,3,4,5,6,7,8,9,10],[0,1]),([11,10,0,1,2,3,4,5,6,7,8,9,10],[10,11])])
def graph_Depth.B11:List Nat:=[0,0,0,0,12,28,0,0,192,448,1020,2047,4095]
theorem graph_Depth.tab11:rtab .any (opsOf Tryd.f34 11) = graph_Depth.T11:=by kernel_rfl
theorem graph_Depth.bits11:waitsOk graph_Depth.T11.2 graph_Depth.B11 = true:=by kernel_rfl
theorem graph_Depth.calls (k:Nat) (A0_0:Option Addr) (c0_0:Nat) (l0_0:List (S40)) (a0_1:Int) (r:Int) (w:World) (hr0_0:Kd.C k40 w A0_0 l0_0.length l0_0) (hc0_0:l0_0.length≤c0_0) (h:graph_Depth.f k l0_0 a0_1 = some r) :
  Calls Tryd.prog 34 #[.agg #[.slice A0_0 l0_0.length c0_0,.int .i64 a0_1]] w fun e w' => e = .returned (.int .i64 r)∧Below w.heap.size w w':=by
 have hu27:=Tryd.underlying27;have HR0_0:=AM hr0_0;have HC0_0:=AM hc0_0;clear hr0_0 hc0_0;have HB:=AM (Below.refl w.heap.size w);have H:((graph_Check.f k l0_0 a0_1).bind fun bt142 => (if bt142.1 = 0 then (if 0≤(l0_0.length:Int) then (if ((l0_0.length:Int):Int).toNat≤35184372088832 then ((graph_order.f k l0_0 a0_1).bind fun t147 => (graph_Depth.l0 k (List.replicate ((l0_0.length:Int):Int).toNat 0) t147 (t147.length:Int) 0 l0_0 a0_1)) else (none)) else (none)) else (some 0))) = some r:=h;clear h;replace H:=Option.bind_eq_some_iff.mp H;obtain ⟨⟨t142,t143⟩,A20,H⟩:=H;replace H:(if t142 = 0 then (if 0≤(l0_0.length:Int) then (if ((l0_0.length:Int):Int).toNat≤35184372088832 then ((graph_order.f k l0_0 a0_1).bind fun t147 => (graph_Depth.l0 k (List.replicate ((l0_0.length:Int):Int).toNat 0) t147 (t147.length:Int) 0 l0_0 a0_1)) else (none)) else (none)) else (some 0)) = some r:=H;have A2:=AM A20;clear A20;by_cases c3:t142 = 0
 ·rw [if_pos c3] at H;have c3b0:(t142 == 0) = true:=beq_iff_eq.mpr c3;have c3b1:(t142 != 0) = false:=bne_eq_false_iff_eq.mpr c3;clear c3;by_cases c4:0≤(l0_0.length:Int)
  ·rw [if_pos c4] at H;have c4b0:=eq_true c4;have c4b1:decide (0≤(l0_0.length:Int)) = true:=decide_eq_true c4;clear c4;by_cases c5:((l0_0.length:Int):Int).toNat≤35184372088832
   ·rw [if_pos c5] at H;have c5b0:=eq_true c5;have c5b1:decide (((l0_0.length:Int):Int).toNat≤35184372088832) = true:=decide_eq_true c5;clear c5;obtain ⟨y144,hy144⟩:∃ y_:List Int,y_ = (List.replicate ((l0_0.length:Int):Int).toNat 0):=⟨_,rfl⟩;replace H:((graph_order.f k l0_0 a0_1).bind fun t147 => (graph_Depth.l0 k y144 t147 (t147.length:Int) 0 l0_0 a0_1)) = some r:=QH hy144 H
    have Ny144:=AM hy144;clear hy144;replace H:=Option.bind_eq_some_iff.mp H;obtain ⟨t147,A60,H⟩:=H;replace H:(graph_Depth.l0 k y144 t147 (t147.length:Int) 0 l0_0 a0_1) = some r:=H;have A6:=AM A60;clear A60;have H':=AM H;clear H;go_enter Tryd.func34,Tryd.ntmps34;go_wp2_with (first | ((with_reducible refine gate_dst (N:=1) rfl ?_);refine boxE 1 #[.slice A0_0 l0_0.length c0_0,.int .i64 a0_1] 27 ?_;intro gb141 hg w7 hbox hb;have BK141:=AM (hbox);have GW141:=GW HB hg;have GE141:=GW HB hg;replace HB:=BS HB hb;clear hb hbox hg;have hcz8_0:=BC BK141 0 (.slice A0_0 l0_0.length c0_0) rfl;have hcz8_1:=BC BK141 1 (.int .i64 a0_1) rfl;have hfz8_0:=BF BK141 0;have hfz8_1:=BF BK141 1) | ((with_reducible refine gate_callee (f:=33) rfl ?_);refine goesM_ (some 12) rfl rfl Tryd.func33 #[.agg #[.slice A0_0 l0_0.length c0_0,.int .i64 a0_1]] rfl ?_;(with_reducible refine (graph_Check.calls k _ _ l0_0 a0_1 t142 t143 _ ?side1 ?side2 A2.out).mono ?_);(case side1 => exact Kd.C_below HR0_0.out (BB HB));(case side2 => exact HC0_0.out);rintro e w9 ⟨rfl,hb⟩;refine ⟨_,rfl,?_⟩;replace BK141:=BE BK141 hb;replace HB:=BS HB hb;(try clear hb);(try clear hb2);(try clear hk);(try clear hi);have hcz10_0:=BC BK141 0 (.slice A0_0 l0_0.length c0_0) rfl;have hcz10_1:=BC BK141 1 (.int .i64 a0_1) rfl;have hfz10_0:=BF BK141 0;have hfz10_1:=BF BK141 1) | ((with_reducible refine gate_dst (N:=20) rfl ?_);refine Kd.R_make (Kd.int .i64) _ 3 rfl (N:=20) rfl 38 _ _ rfl (l0_0.length:Int) rfl rfl Tryd.underlying38 (.int .i64 0) 8 info3 rfl (by decide) (by omega) 0 (ok:=fun _ => True) (okp:=fun _ => True) rfl (fun _ hk => hk) trivial (OD) (Nat.le_trans (Nat.mul_le_mul_right _ (OD:(l0_0.length:Int).toNat≤35184372088832)) (by omega)) (Below.refl _ _) (Nat.le_refl _) ?_;intro v145 w11 ho12 hb hg_ hnew_;clear hg_ hnew_;(first | rw [← Ny144.out] at ho12 | (simp only [Int.reduceToNat] at ho12;rw [← Ny144.out] at ho12));have HO146:=AM (Kd.R_lower ho12 (below_size (BB HB)));replace BK141:=BE BK141 hb;replace HB:=BS HB hb;clear hb ho12;have hcz13_0:=BC BK141 0 (.slice A0_0 l0_0.length c0_0) rfl;have hcz13_1:=BC BK141 1 (.int .i64 a0_1) rfl;have hfz13_0:=BF BK141 0;have hfz13_1:=BF BK141 1) | ((with_reducible refine gate_callee (f:=69) rfl ?_);refine goesM_ (some 22) rfl rfl Tryd.func69 #[.agg #[.slice A0_0 l0_0.length c0_0,.int .i64 a0_1]] rfl ?_;(with_reducible refine (graph_order.calls k _ _ l0_0 a0_1 t147 _ ?side1 ?side2 A6.out).mono ?_);(case side1 => exact Kd.C_below HR0_0.out (BB HB));(case side2 => exact HC0_0.out);rintro e w14 ⟨v148,rfl,ho0,hb⟩;refine ⟨_,rfl,?_⟩;have HO149:=AM (Kd.R_lower (Kd.R_new' ho0 (Kd.R_lt (RL HO146))) (below_size (BB HB)));replace HO146:=AM (Kd.R_elder' (RL HO146) (Kd.R_base ho0) hb);replace BK141:=BE BK141 hb;replace HB:=BS HB hb;(try clear hb);(try clear hb2);(try clear hk);(try clear hi);(try clear ho0);obtain ⟨Ao15,co15,eo15⟩:=Kd.R_slice HO149.out;subst eo15))
    go_loopg [24] k (fun kq v24 w' => ∃ (x5_1:List Int) (x24_1:Int),v24 = .int .i64 x24_1∧Aside0 (graph_Depth.l0 kq x5_1 t147 (t147.length:Int) x24_1 l0_0 a0_1 = some r)∧Aside0 (kq≤k)∧Aside0 (Kd.R (Kd.int .i64) 3 w' w.heap.size (fun k_ => some k_≠((.slice Ao15 t147.length co15):Value).ownBlock) v145 x5_1)∧Aside0 (Kd.R (Kd.int .i64) 3 w' w.heap.size (fun k_ => some k_≠(v145:Value).ownBlock) (.slice Ao15 t147.length co15) t147)∧Aside0 (w'.heap[gb141]? = some (.cells #[(.slice A0_0 l0_0.length c0_0),.int .i64 a0_1] 27 (0,0)))∧Aside0 (Below w.heap.size w w'))
    case atStart => exact ⟨(y144),(0),QD,H',⟨Nat.le_refl _⟩,⟨by (with_reducible repeat (first | apply Kd.R_alloc | apply Kd.R_drewN | apply Kd.R_drew));exact Kd.R_mono HO146.out (fun _ hk => hk.2)⟩,⟨by (with_reducible repeat (first | apply Kd.R_alloc | apply Kd.R_drewN | apply Kd.R_drew));exact Kd.R_mono HO149.out (fun _ hk => hk.2)⟩,⟨BL BK141⟩,⟨BB HB⟩⟩
    case round =>
     clear H';try clear p2
     try clear c3
     try clear c3b0
     try clear c3b1
     try clear c4
     try clear c4b0
     try clear c4b1
     try clear c5
     try clear c5b0
     try clear c5b1
     try clear c6
     try clear hcz10_0
     try clear hcz10_1
     try clear hcz13_0
     try clear hcz13_1
     try clear hcz8_0
     try clear hcz8_1
     try clear hfz10_0
     try clear hfz10_1
     try clear hfz13_0
     try clear hfz13_1
     try clear hfz8_0
     try clear hfz8_1
     obtain ⟨x5_1,x24_1,rfl,HA,HK1,HO_5,HO_22,BK141,HB⟩:=hrel;cases gk with
     | zero => exact absurd HA.out (by simp [graph_Depth.l0])
     | succ k1 =>
      have H:=HA.out;clear HA;simp only [graph_Depth.l0] at H;by_cases c16:x24_1 < (t147.length:Int)
      ·rw [if_pos c16] at H;have c16b0:decide (x24_1 < (t147.length:Int)) = true:=decide_eq_true c16;clear c16;by_cases c17:0≤x24_1
       ·rw [if_pos c17] at H;have c17b0:decide (0≤x24_1) = true:=decide_eq_true c17;clear c17;by_cases c18:x24_1 < (t147.length:Int)
        ·rw [if_pos c18] at H;have c18b0:decide (x24_1 < (t147.length:Int)) = true:=decide_eq_true c18;clear c18;by_cases c19:0≤(rd t147 x24_1)
         ·rw [if_pos c19] at H;have c19b0:decide (0≤(rd t147 x24_1)) = true:=decide_eq_true c19;clear c19;by_cases c20:(rd t147 x24_1) < (l0_0.length:Int)
          ·rw [if_pos c20] at H;have c20b0:decide ((rd t147 x24_1) < (l0_0.length:Int)) = true:=decide_eq_true c20;clear c20;have H':=AM H;clear H;have p151:0≤(x24_1:Int):=OD;have q151:x24_1 < (t147.length:Int):=OD;obtain ⟨ad151,e151,hx151_0⟩:=Kd.at_int (Kd.R_reads' HO_22.out).2.2 x24_1 p151 q151;cases e151
           replace p151:=eq_true p151;replace q151:=eq_true q151;have hcz21_0:=BC BK141 0 (.slice A0_0 l0_0.length c0_0) rfl;have hcz21_1:=BC BK141 1 (.int .i64 a0_1) rfl;have hfz21_0:=BF BK141 0;have hfz21_1:=BF BK141 1;have p152:0≤((rd t147 x24_1):Int):=OD;have q152:(rd t147 x24_1) < (l0_0.length:Int):=OD;obtain ⟨ad152,A152_1,c152_1,A152_2,c152_2,A152_3,c152_3,e152,hx152_0,hx152_1,hx152_2,hx152_3,hl152_1,hi152_1,hl152_2,hi152_2,hl152_3,hi152_3⟩:=at_T40 HR0_0.out (rd t147 x24_1) p152 q152;cases e152
           replace hx152_0:=CL HB hx152_0;replace hx152_1:=CL HB hx152_1;replace hx152_2:=CL HB hx152_2;replace hx152_3:=CL HB hx152_3;have HR152_1:=AM hi152_1;have HC152_1:=AM hl152_1;clear hi152_1 hl152_1;have HR152_2:=AM hi152_2;have HC152_2:=AM hl152_2;clear hi152_2 hl152_2;have HR152_3:=AM hi152_3;have HC152_3:=AM hl152_3;clear hi152_3 hl152_3;replace p152:=eq_true p152;replace q152:=eq_true q152;go_wp2
           go_loopg [35] k1 (fun kq v35 w' => ∃ (x5_2:List Int) (x35_2:Int),v35 = .int .i64 x35_2∧Aside0 (graph_Depth.l1 kq x5_2 (rd t147 x24_1) t147 (t147.length:Int) x24_1 ((rd_T40 l0_0 (rd t147 x24_1)).f3) (((rd_T40 l0_0 (rd t147 x24_1)).f3).length:Int) x35_2 l0_0 a0_1 = some r)∧Aside0 (kq≤k1)∧Aside0 (Kd.R (Kd.int .i64) 3 w' w.heap.size (fun k_ => some k_≠((.slice (some ad151) t147.length co15):Value).ownBlock) v145 x5_2)∧Aside0 (Kd.R (Kd.int .i64) 3 w' w.heap.size (fun k_ => some k_≠(v145:Value).ownBlock) (.slice (some ad151) t147.length co15) t147)∧Aside0 (w'.heap[gb141]? = some (.cells #[(.slice (some ad152) l0_0.length c0_0),.int .i64 a0_1] 27 (0,0)))∧Aside0 (Below w.heap.size w w'))
           case atStart => exact ⟨(x5_1),(0),QD,H',⟨Nat.le_refl _⟩,⟨RA HO_5.out⟩,⟨RA HO_22.out⟩,⟨BL BK141⟩,⟨BB HB⟩⟩
           case round =>
            clear H';try clear c1
            try clear p1
            try clear q1
            try clear hx1
            try clear c2
            try clear p2
            try clear c3
            try clear c3b0
            try clear c3b1
            try clear c4
            try clear c4b0
            try clear c4b1
            try clear c5
            try clear c5b0
            try clear c5b1
            try clear c6
            try clear c15
            try clear p15
            try clear q15
            try clear hx15
            try clear c16
            try clear c16b0
            try clear c17
            try clear c17b0
            try clear c18
            try clear c18b0
            try clear c19
            try clear c19b0
            try clear c20
            try clear c20b0
            try clear hcz10_0
            try clear hcz10_1
            try clear hcz13_0
            try clear hcz13_1
            try clear hcz21_0
            try clear hcz21_1
            try clear hcz8_0
            try clear hcz8_1
            try clear hfz10_0
            try clear hfz10_1
            try clear hfz13_0
            try clear hfz13_1
            try clear hfz21_0
            try clear hfz21_1
            try clear hfz8_0
            try clear hfz8_1
            try clear hx151_0
            try clear hx152_0
            try clear hx152_1
            try clear hx152_2
            try clear hx152_3
            try clear p151
            try clear p152
            try clear p2
            try clear q151
            try clear q152
            obtain ⟨x5_2,x35_2,rfl,HA,HK2,HO_5,HO_22,BK141,HB⟩:=hrel;cases gk with
            | zero => exact absurd HA.out (by simp [graph_Depth.l1])
            | succ k2 =>
             have H:=HA.out;clear HA;simp only [graph_Depth.l1] at H;by_cases c22:x35_2 < (((rd_T40 l0_0 (rd t147 x24_1)).f3).length:Int)
             ·rw [if_pos c22] at H;have c22b0:decide (x35_2 < (((rd_T40 l0_0 (rd t147 x24_1)).f3).length:Int)) = true:=decide_eq_true c22;clear c22;by_cases c23:0≤x35_2
              ·rw [if_pos c23] at H;have c23b0:decide (0≤x35_2) = true:=decide_eq_true c23;clear c23;by_cases c24:x35_2 < (((rd_T40 l0_0 (rd t147 x24_1)).f3).length:Int)
               ·rw [if_pos c24] at H;have c24b0:decide (x35_2 < (((rd_T40 l0_0 (rd t147 x24_1)).f3).length:Int)) = true:=decide_eq_true c24;clear c24;by_cases c25:0≤(rd t147 x24_1)
                ·rw [if_pos c25] at H;have c25b0:decide (0≤(rd t147 x24_1)) = true:=decide_eq_true c25;clear c25;by_cases c26:(rd t147 x24_1) < (x5_2.length:Int)
                 ·rw [if_pos c26] at H;have c26b0:decide ((rd t147 x24_1) < (x5_2.length:Int)) = true:=decide_eq_true c26;clear c26;by_cases c27:0≤(rd ((rd_T40 l0_0 (rd t147 x24_1)).f3) x35_2)
                  ·rw [if_pos c27] at H;have c27b0:decide (0≤(rd ((rd_T40 l0_0 (rd t147 x24_1)).f3) x35_2)) = true:=decide_eq_true c27;clear c27;by_cases c28:(rd ((rd_T40 l0_0 (rd t147 x24_1)).f3) x35_2) < (x5_2.length:Int)
                   ·rw [if_pos c28] at H;have c28b0:decide ((rd ((rd_T40 l0_0 (rd t147 x24_1)).f3) x35_2) < (x5_2.length:Int)) = true:=decide_eq_true c28;clear c28;obtain ⟨ji29,hji29⟩:∃ j_:Int,(mx (rd x5_2 (rd t147 x24_1)) (rd x5_2 (rd ((rd_T40 l0_0 (rd t147 x24_1)).f3) x35_2))) = j_:=⟨_,rfl⟩;replace H:(graph_Depth.l1 k2 (x5_2.set ((rd t147 x24_1):Int).toNat (ji29)) (rd t147 x24_1) t147 (t147.length:Int) x24_1 ((rd_T40 l0_0 (rd t147 x24_1)).f3) (((rd_T40 l0_0 (rd t147 x24_1)).f3).length:Int) (wrap64 (x35_2+1)) l0_0 a0_1) = some r:=by first | (rw [hji29] at H;exact H) | (simp only [hji29] at H ⊢;exact H)
                    have hji29_:(if (rd x5_2 (rd t147 x24_1)) < (rd x5_2 (rd ((rd_T40 l0_0 (rd t147 x24_1)).f3) x35_2)) then (rd x5_2 (rd ((rd_T40 l0_0 (rd t147 x24_1)).f3) x35_2)) else (rd x5_2 (rd t147 x24_1))) = ji29:=hji29;obtain ⟨y156,hy156⟩:∃ y_:List Int,y_ = (x5_2.set ((rd t147 x24_1):Int).toNat (ji29)):=⟨_,rfl⟩;replace H:(graph_Depth.l1 k2 y156 (rd t147 x24_1) t147 (t147.length:Int) x24_1 ((rd_T40 l0_0 (rd t147 x24_1)).f3) (((rd_T40 l0_0 (rd t147 x24_1)).f3).length:Int) (wrap64 (x35_2+1)) l0_0 a0_1) = some r:=QH hy156 H
                    have Ny156:=AM hy156;clear hy156;have H':=AM H;clear H;have p153:0≤(x35_2:Int):=OD;have q153:x35_2 < (((rd_T40 l0_0 (rd t147 x24_1)).f3).length:Int):=OD;obtain ⟨ad153,e153,hx153_0⟩:=Kd.at_int HR152_3.out x35_2 p153 q153;cases e153
                    replace hx153_0:=CL HB hx153_0;replace p153:=eq_true p153;replace q153:=eq_true q153;try go_wp2
                    replace HO_5:=AM (Kd.R_drew HO_5.out);replace HO_22:=AM (Kd.R_drew HO_22.out);replace BK141:=AM (blk_drew BK141.out);replace HB:=AM (below_drew1 HB.out);obtain ⟨Ao32,co32,eo32⟩:=Kd.R_slice HO_5.out;(first | subst eo32 | (injection eo32 with f1_ f2_ f3_;have f4_:=f1_.symm;have f5_:=f3_.symm;clear f1_ f2_ f3_;subst f4_;subst f5_))
                    have p154:0≤((rd t147 x24_1):Int):=OD;have q154:(rd t147 x24_1) < (x5_2.length:Int):=OD;obtain ⟨ad154,e154,hx154_0⟩:=Kd.at_int (Kd.R_reads' HO_5.out).2.2 (rd t147 x24_1) p154 q154;cases e154
                    replace p154:=eq_true p154;replace q154:=eq_true q154;have p155:0≤((rd ((rd_T40 l0_0 (rd t147 x24_1)).f3) x35_2):Int):=OD;have q155:(rd ((rd_T40 l0_0 (rd t147 x24_1)).f3) x35_2) < (x5_2.length:Int):=OD;obtain ⟨ad155,e155,hx155_0⟩:=Kd.at_int (Kd.R_reads' HO_5.out).2.2 (rd ((rd_T40 l0_0 (rd t147 x24_1)).f3) x35_2) p155 q155;obtain rfl:ad154 = ad155:=(by injection e155);replace p155:=eq_true p155;replace q155:=eq_true q155;have p30:0≤((rd t147 x24_1):Int):=OD;have q30:((rd t147 x24_1):Int) < ((x5_2.length:Int):Int):=OD;obtain ⟨go30,co30,eo30,gb30,gl30,cl30,HG30⟩:=Kd.R_form HO_5.out (by omega);(first | cases eo30 | (injection eo30 with ea_ en_ ec_;(first | subst ea_ | (injection ea_ with ea_;subst ea_));subst ec_;clear en_))
                    have GB30:=AM gb30;have GG30:=AM HG30;clear gb30 gl30 HG30;(first | simp only [add_plain] at hx154_0 | skip)
                    (first | simp only [add_plain] at hx155_0 | skip)
                    obtain ⟨hx30_0,hf30_0⟩:=Kd.R_celln 0 HO_5.out ((rd t147 x24_1):Int) p30 q30;replace p30:=eq_true p30;replace q30:=eq_true q30;have HP33:=Kd.R_putn HO_5.out ((rd t147 x24_1):Int) ji29;rw [← Ny156.out] at HP33;have HQ33:=AM HP33;clear HP33;refine start_ (n:=13) (S:=fun w' => w'.cell? ⟨go30,((rd t147 x24_1)).toNat,none⟩ = some (.int .i64 (rd x5_2 (rd t147 x24_1)))∧w'.cell? ⟨go30,((rd ((rd_T40 l0_0 (rd t147 x24_1)).f3) x35_2)).toNat,none⟩ = some (.int .i64 (rd x5_2 (rd ((rd_T40 l0_0 (rd t147 x24_1)).f3) x35_2)))) (ds:=[12]) #[false,false,false,false,false,false,false,false,false,false,false,false,false] (by kernel_rfl) rfl rfl ⟨hx154_0,hx155_0⟩ (fun hHeld => ?_);refine with_tabW graph_Depth.tab11 graph_Depth.bits11 (fun HT_ HW_ => ?_);generalize wr.drew = w31 at HO_5 HO_22 BK141 HB GG30 HQ33 hf30_0 hx154_0 hx155_0 hx30_0 hHeld ⊢;refine pureA HT_ (i:=0) (N:=some 39) #[true,false,false,false,false,false,false,false,false,false,false,false,false] ?_;refine pureA HT_ (i:=1) (N:=some 40) #[true,true,false,false,false,false,false,false,false,false,false,false,false] ?_;refine pureA HT_ (i:=2) (N:=some 41) #[true,true,true,false,false,false,false,false,false,false,false,false,false] ?_;refine pureA HT_ (i:=3) (N:=some 42) #[true,true,true,true,false,false,false,false,false,false,false,false,false] ?_;refine pureA HT_ (i:=4) (N:=some 43) #[true,true,true,true,true,false,false,false,false,false,false,false,false] ?_;refine pureA HT_ (i:=6) (N:=some 45) #[true,true,true,true,true,false,true,false,false,false,false,false,false] ?_;refine pureA HT_ (i:=7) (N:=some 46) #[true,true,true,true,true,false,true,true,false,false,false,false,false] ?_;refine pureA HT_ (i:=8) (N:=some 47) #[true,true,true,true,true,false,true,true,true,false,false,false,false] ?_;refine takeB_ (i:=5) (N:=some 44) (hi:=rfl) (hN:=rfl) (hc:=take_ofW HT_.out HW_.out (by kernel_rfl)) #[true,true,true,true,true,true,true,true,true,false,false,false,false] hHeld (by rintro w' ⟨s0,s1⟩;go_simp;with_reducible rfl) ?_;refine takeB_ (i:=9) (N:=some 48) (hi:=rfl) (hN:=rfl) (hc:=take_ofW HT_.out HW_.out (by kernel_rfl)) #[true,true,true,true,true,true,true,true,true,true,false,false,false] hHeld (by rintro w' ⟨s0,s1⟩;go_simp;with_reducible rfl) ?_;refine pureA HT_ (i:=10) (N:=some 49) #[true,true,true,true,true,true,true,true,true,true,true,false,false] ?_;refine pureA HT_ (i:=11) (N:=some 50) #[true,true,true,true,true,true,true,true,true,true,true,true,false] ?_;refine last_ (i:=12) (N:=none) #[true,true,true,true,true,true,true,true,true,true,true,true,true] rfl rfl (one_of HT_.out (by kernel_rfl)) (by decide) (fun K hK => ?_);refine skip_ (w1:=?_) (by rfl) rfl ?_ ?_
                    rotate_left
                    ·go_simp
                     rfl
                    refine hK.out _ _ ?_;clear hK K;refine done_ (done_of HT_.out (by kernel_rfl)) ?_;try go_wp2
                    go_roundg k2
                    case measure => have:=HK1.out;have:=HK2.out;omega
                    case rel => exact ⟨(y156),(wrap64 (x35_2+1)),QD,H',⟨by have:=HK1.out;have:=HK2.out;omega⟩,⟨by (with_reducible repeat (first | apply Kd.R_alloc | apply Kd.R_drewN | apply Kd.R_drew));exact HQ33.out⟩,⟨by exact Kd.R_mono (Kd.R_far (p:=⟨go30,((rd t147 x24_1):Int).toNat,none⟩) (Kd.R_mono HO_22.out (fun k_ hk => (⟨hk,fun e_ => hk (by rw [e_];rfl)⟩:_∧k_≠go30))) (fun _ hk => hk.2) (.int .i64 ji29)) (fun _ hk => hk.1)⟩,⟨by refine blk_far ?_ (by have h_:=Kd.R_ne HO_5.out BK141.out (by decide);intro e_;exact h_ (by rw [e_];rfl)) _;exact BL BK141⟩,⟨BB HB⟩⟩
                   ·rw [if_neg c28] at H;exact absurd H (by simp)
                  ·rw [if_neg c27] at H;exact absurd H (by simp)
                 ·rw [if_neg c26] at H;exact absurd H (by simp)
                ·rw [if_neg c25] at H;exact absurd H (by simp)
               ·rw [if_neg c24] at H;exact absurd H (by simp)
              ·rw [if_neg c23] at H;exact absurd H (by simp)
             ·rw [if_neg c22] at H;have c22b0:decide (x35_2 < (((rd_T40 l0_0 (rd t147 x24_1)).f3).length:Int)) = false:=decide_eq_false c22;clear c22;by_cases c34:0≤(rd t147 x24_1)
              ·rw [if_pos c34] at H;have c34b0:decide (0≤(rd t147 x24_1)) = true:=decide_eq_true c34;clear c34;by_cases c35:(rd t147 x24_1) < (x5_2.length:Int)
               ·rw [if_pos c35] at H;have c35b0:decide ((rd t147 x24_1) < (x5_2.length:Int)) = true:=decide_eq_true c35;clear c35;obtain ⟨y158,hy158⟩:∃ y_:List Int,y_ = (x5_2.set ((rd t147 x24_1):Int).toNat (wrap64 ((rd x5_2 (rd t147 x24_1))+1))):=⟨_,rfl⟩;replace H:(graph_Depth.l0 k2 y158 t147 (t147.length:Int) (wrap64 (x24_1+1)) l0_0 a0_1) = some r:=QH hy158 H
                have Ny158:=AM hy158;clear hy158;have H':=AM H;clear H;obtain ⟨Ao37,co37,eo37⟩:=Kd.R_slice HO_5.out;subst eo37;have p157:0≤((rd t147 x24_1):Int):=OD;have q157:(rd t147 x24_1) < (x5_2.length:Int):=OD;obtain ⟨ad157,e157,hx157_0⟩:=Kd.at_int (Kd.R_reads' HO_5.out).2.2 (rd t147 x24_1) p157 q157;cases e157
                replace p157:=eq_true p157;replace q157:=eq_true q157;have p36:0≤((rd t147 x24_1):Int):=OD;have q36:((rd t147 x24_1):Int) < ((x5_2.length:Int):Int):=OD;obtain ⟨go36,co36,eo36,gb36,gl36,cl36,HG36⟩:=Kd.R_form HO_5.out (by omega);(first | cases eo36 | (injection eo36 with ea_ en_ ec_;(first | subst ea_ | (injection ea_ with ea_;subst ea_));subst ec_;clear en_))
                have GB36:=AM gb36;have GG36:=AM HG36;clear gb36 gl36 HG36;(first | simp only [add_plain] at hx157_0 | skip)
                obtain ⟨hx36_0,hf36_0⟩:=Kd.R_celln 0 HO_5.out ((rd t147 x24_1):Int) p36 q36;replace p36:=eq_true p36;replace q36:=eq_true q36;have HP38:=Kd.R_putg HO_5.out ((rd t147 x24_1):Int) (wrap64 ((rd x5_2 (rd t147 x24_1))+1));go_wp2_with (first | ((with_reducible refine gate_store (t:=3) (p:=57) rfl ?_);refine store_event (t:=3) (p:=57) (v:=?vo_w39) (w1:=(wr.setCell ⟨go36,((rd t147 x24_1):Int).toNat,none⟩ (.int .i64 (wrap64 ((rd x5_2 (rd t147 x24_1))+1))))) ?hg ?ho ?hn ?hr ?_;(case ho => rfl);(case hg => rfl);(case hn => rfl);(case hr => first | (go_simp;done) | (go_simp;rfl));intro w39 hw;have hg:wr.grownBy w39 (some go36):=(by rw [hw];exact HP38.2);have hp_:Kd.R (Kd.int .i64) 3 w39 w.heap.size (fun k_ => some k_≠(.slice (some ad151) t147.length co15:Value).ownBlock) (.slice (some ⟨go36,0,none⟩) x5_2.length co37) y158:=(by rw [hw,Ny158.out];exact HP38.1);clear HP38;replace HO_22:=AM (Kd.R_after (v:=(.slice (some ⟨go36,0,none⟩) x5_2.length co37)) (v1:=(.slice (some ⟨go36,0,none⟩) x5_2.length co37)) (ok:=(fun _ => True)) (by (with_reducible repeat (first | apply Kd.R_alloc | apply Kd.R_drewN | apply Kd.R_drew));exact Kd.R_mono HO_22.out (fun _ hk => ⟨trivial,hk⟩)) hg (.inl rfl));replace BK141:=AM (blk_grown (g:=gb141) (o:=.cells #[.slice (some ad152) l0_0.length c0_0,.int .i64 a0_1] 27 (0,0)) (BL BK141) hg (Kd.R_ne HO_5.out BK141.out (by decide)));replace HO_5:=AM (hp_);replace HB:=AM ((by rw [hw];exact below_set (HB.out) GB36.out:Below w.heap.size w w39));clear hg hw hp_))
                go_roundg k2
                case measure => have:=HK1.out;have:=HK2.out;omega
                case rel => exact ⟨(y158),(wrap64 (x24_1+1)),QD,H',⟨by have:=HK1.out;have:=HK2.out;omega⟩,⟨RA HO_5.out⟩,⟨by (with_reducible repeat (first | apply Kd.R_alloc | apply Kd.R_drewN | apply Kd.R_drew));exact Kd.R_mono HO_22.out (fun _ hk => hk.2)⟩,⟨BL BK141⟩,⟨BB HB⟩⟩
               ·rw [if_neg c35] at H;exact absurd H (by simp)
              ·rw [if_neg c34] at H;exact absurd H (by simp)
          ·rw [if_neg c20] at H;exact absurd H (by simp)
         ·rw [if_neg c19] at H;exact absurd H (by simp)
        ·rw [if_neg c18] at H;exact absurd H (by simp)
       ·rw [if_neg c17] at H;exact absurd H (by simp)
      ·rw [if_neg c16] at H;have c16b0:decide (x24_1 < (t147.length:Int)) = false:=decide_eq_false c16;clear c16;by_cases c40:0≤a0_1
       ·rw [if_pos c40] at H;have c40b0:decide (0≤a0_1) = true:=decide_eq_true c40;clear c40;by_cases c41:a0_1 < (x5_1.length:Int)
        ·rw [if_pos c41] at H;have c41b0:decide (a0_1 < (x5_1.length:Int)) = true:=decide_eq_true c41;clear c41;obtain rfl:=Option.some.inj H;have hcz42_0:=BC BK141 0 (.slice A0_0 l0_0.length c0_0) rfl;have hcz42_1:=BC BK141 1 (.int .i64 a0_1) rfl;have hfz42_0:=BF BK141 0;have hfz42_1:=BF BK141 1;obtain ⟨Ao43,co43,eo43⟩:=Kd.R_slice HO_5.out;subst eo43;have p150:0≤(a0_1:Int):=OD;have q150:a0_1 < (x5_1.length:Int):=OD;obtain ⟨ad150,e150,hx150_0⟩:=Kd.at_int (Kd.R_reads' HO_5.out).2.2 a0_1 p150 q150;cases e150
         replace p150:=eq_true p150;replace q150:=eq_true q150;go_wp2
         go_ret;exact RT (BB HB)
        ·rw [if_neg c41] at H;exact absurd H (by simp)
       ·rw [if_neg c40] at H;exact absurd H (by simp)
   ·rw [if_neg c5] at H;exact absurd H (by simp)
  ·rw [if_neg c4] at H;exact absurd H (by simp)
 ·rw [if_neg c3] at H;have c3b0:(t142 == 0) = false:=beq_eq_false_iff_ne.mpr c3;have c3b1:(t142 != 0) = true:=bne_iff_ne.mpr c3;obtain rfl:=Option.some.inj H;go_enter Tryd.func34,Tryd.ntmps34;go_wp2_with (first | ((with_reducible refine gate_dst (N:=1) rfl ?_);refine boxE 1 #[.slice A0_0 l0_0.length c0_0,.int .i64 a0_1] 27 ?_;intro gb141 hg w44 hbox hb;have BK141:=AM (hbox);have GW141:=GW HB hg;have GE141:=GW HB hg;replace HB:=BS HB hb;clear hb hbox hg;have hcz45_0:=BC BK141 0 (.slice A0_0 l0_0.length c0_0) rfl;have hcz45_1:=BC BK141 1 (.int .i64 a0_1) rfl;have hfz45_0:=BF BK141 0;have hfz45_1:=BF BK141 1) | ((with_reducible refine gate_callee (f:=33) rfl ?_);refine goesM_ (some 12) rfl rfl Tryd.func33 #[.agg #[.slice A0_0 l0_0.length c0_0,.int .i64 a0_1]] rfl ?_;(with_reducible refine (graph_Check.calls k _ _ l0_0 a0_1 t142 t143 _ ?side1 ?side2 A2.out).mono ?_);(case side1 => exact Kd.C_below HR0_0.out (BB HB));(case side2 => exact HC0_0.out);rintro e w46 ⟨rfl,hb⟩;refine ⟨_,rfl,?_⟩;replace BK141:=BE BK141 hb;replace HB:=BS HB hb;(try clear hb);(try clear hb2);(try clear hk);(try clear hi)))
  go_ret;exact RT (BB HB)
section
open Go.Lib
theorem wpList_insert {ops:Array Oper} {rest:List Oper} {o:Oper} {a:Act} {Q:Exit→Act→World→Prop} (w:World)
  (hg:o.guard = none) (m x v:Operand) (hop:o.op = Op.insert 125 m x v) (b n:Nat) (met:List Nat) (hown:Set.IsSet w b n met) (j:Nat) (hj:j≤9223372036854775807) (ji:Int) (hji:ji = (j:Int)) (hn:n < maxLen)
  (hm:a.eval m = .map (some b)) (hx:a.eval x = .int .i64 ji) (hv:a.eval v = .bool true)
  (hK:∀ w',Set.IsSet w' b (n+1) (j :: met)→w.grownBy w' (some b)→wpList Tryd.prog ops Q rest (a.put o.dst undef) w') :
  wpList Tryd.prog ops Q (o :: rest) a w:=by
 subst hji;refine wpList_plain hg fun K' hK' => ?_
 obtain ⟨w',hrun,r1,r2⟩:=hown.store hj hn;unfold Oper.wp
 simp [execOp,hop,hm,hx,hv,hrun,Result.andThen]
 exact hK' _ _ (hK w' r1 r2)
def stackV (st:List (Nat × Nat)):List Value:=st.flatMap fun p => [.int .i64 (p.1:Int),.int .i64 (p.2:Int)]
theorem stackV_len:∀ st:List (Nat × Nat),(stackV st).length = st.length * 2
 | [] => rfl
 | p :: st => by
  have:=stackV_len st;unfold stackV at this ⊢
  rw [List.flatMap_cons,List.length_append,this,List.length_cons];simp
  omega
theorem stackV_snoc (st:List (Nat × Nat)) (p:Nat × Nat):stackV (st ++ [p]) = stackV st ++ [.int .i64 (p.1:Int),.int .i64 (p.2:Int)]:=by
 unfold stackV
 rw [List.flatMap_append];simp
theorem own_apart {w:World} {b b' e e' s s' n n':Nat} {v v':Value} {xs ys:List Value} (h:w.ownsRow b e s v n xs) (h2:w.ownsRow b' e' s' v' n' ys) (he:e≠e'):v.ownBlock = none ∨ v.ownBlock≠v'.ownBlock:=by
 rcases h.2 with ⟨rfl,_⟩ | ⟨g,cap,cur,rfl,hg,hh,_⟩
 ·exact .inl rfl
 ·refine .inr (fun hx => ?_);rcases h2.2 with ⟨rfl,_⟩ | ⟨g',cap',cur',rfl,hg',hh',_⟩
  ·simp [Value.ownBlock] at hx
  ·simp [Value.ownBlock] at hx
   subst hx;rw [hh] at hh';simp only [Option.some.injEq,Obj.cells.injEq] at hh';exact he hh'.2.1
theorem own_cut2 {w:World} {base e g n cap:Nat} {xs:List Value} {x y:Value} (h:w.ownsRow base e 2 (.slice (some ⟨g,0,none⟩) (n+1) cap) (n+1) (xs ++ [x,y])):w.ownsRow base e 2 (.slice (some ⟨g,0,none⟩) n cap) n xs:=by
 obtain ⟨hl,h2⟩:=h;have hx:xs.length = n * 2:=by simp at hl;omega
 refine ⟨hx,?_⟩;rcases h2 with ⟨h2,_⟩ | ⟨g',cap',cur,hv,hg,hh,hn,hc,hs,ht⟩
 ·cases h2
 ·cases hv
  refine .inr ⟨g,cap,cur,rfl,hg,hh,by omega,hc,hs,?_⟩;have:(cur.toList.take ((n+1) * 2)).take (n * 2) = (xs ++ [x,y]).take (n * 2):=by rw [ht]
  rw [List.take_take,Nat.min_eq_left (by omega),← hx,List.take_left] at this;rw [← hx];exact this
theorem own_cap {w:World} {base e s g n cap n':Nat} {xs:List Value} (h:w.ownsRow base e s (.slice (some ⟨g,0,none⟩) n cap) n' xs):n≤cap∧cap≤maxLen:=by
 rcases h.2 with ⟨h,_⟩ | ⟨g',cap',cur,hv,_,_,hn,hm,_⟩
 ·cases h
 ·cases hv;exact ⟨hn,hm⟩
theorem corder_calls (A0:Option Addr) (c0:Nat) (l0:List (S40)) (a1:Int) (w:World) (hr0:Kd.C k40 w A0 l0.length l0) (hc0:l0.length≤c0) (hlen:l0.length≤1000000) (hsum:((kidsI l0).map List.length).sum≤1000000)
  (h0:0≤a1) (h1:a1 < (l0.length:Int)) (hgood:GT.firstBad (kidsI l0) = none) (o:List Nat) (ho:GT.ordL (GT.toG (kidsI l0)) 10000000 [(a1.toNat,0)] [a1.toNat] [] = some o) :
  Calls Tryd.prog 96 #[.agg #[.slice A0 l0.length c0,.int .i64 a1]] w fun e w' => ∃ v0_:Value,e = .returned (v0_)∧Kd.R (Kd.int .i64) 3 w' w.heap.size (fun _ => True) v0_ (intsOf o)∧Below w.heap.size w w':=by
 have HW:=Lib.hid (GT.wf_of_firstBad hgood);have HR:=Lib.hid hr0;have HS:=Lib.hid hsum;have HG:=Lib.hid hgood;have HO:=Lib.hid ho;have HU:=Lib.hid hc0;clear hr0 hsum hgood ho hc0;have hmm:=@run_makeMap Tryd.prog;obtain ⟨r,hr⟩:∃ r:Nat,a1 = (r:Int):=⟨a1.toNat,by omega⟩;have HRT:=Lib.hid hr;have hrl:r < l0.length:=by omega
 have hrw:r≤9223372036854775807:=by omega
 have HO2:Hid (GT.ordL (GT.toG (kidsI l0)) 10000000 [(r,0)] [r] [] = some o):=Lib.hid (by have h:=HO.out;rw [hr,Int.toNat_natCast] at h;exact h);clear HO hr;go_enter Tryd.func96,Tryd.ntmps96;go_wp2_with (first
  | (refine wpList_insert _ rfl _ _ _ rfl (w.heap.size+1) 0 [] (by have:=Set.made (w.alloc (.cells #[.slice A0 l0.length c0,.int .i64 a1] 27));simpa using this) r hrw a1 HRT.out (by unfold maxLen;omega) rfl rfl rfl ?_;intro w5 hset5 hg5;have HS5:=Lib.hid hset5;have HB5:=Lib.hid (Kw.grown_below (((Below.refl _ w).alloc (Nat.le_refl _) (.cells #[.slice A0 l0.length c0,.int .i64 a1] 27)).alloc (by simp) (.map #[] 0)) hg5 (fun g h => by cases h;omega));have HX5:Hid (SBox w5 w.heap.size A0 l0.length c0 a1):=Lib.hid ((hg5.block w.heap.size (by simp;omega) (by simp)).trans (blk_alloc (heap_alloc_new w _) _));have q1:w5.cell? ⟨w.heap.size,1,none⟩ = some (.int .i64 a1):=(blk_cell HX5.out 1).trans rfl;have hsz5:w.heap.size+2≤w5.heap.size:=(by have:=hg5.size;simp at this;omega);have HZ5:=Lib.hid hsz5;clear hset5 hg5 hsz5))
 clear q1;obtain ⟨iI,hiI,hzI0,hzI1,hzI2⟩:=info_parts (show (Tryd.prog.info? 3).map (fun i => (i.zero,i.size,i.bytes)) = some (some (.int .i64 0),1,8) from by kernel_rfl);obtain ⟨iF,hiF,hzF0,hzF1,hzF2⟩:=info_parts (show (Tryd.prog.info? 168).map (fun i => (i.zero,i.size,i.bytes)) = some (some (.agg #[.int .i64 0,.int .i64 0]),2,16) from by kernel_rfl);go_loopg [3,5] 10000000 (fun kq v3 v5 wr => ∃ (S:List (Nat × Nat)) (met out:List Nat) (m:Nat),Aside0 (GT.ordL (GT.toG (kidsI l0)) kq S met out = some o)∧Aside0 (wr.ownsRow (w.heap.size+2) 168 2 v5 S.length (stackV S.reverse))∧Aside0 (wr.ownsRow (w.heap.size+2) 3 1 v3 out.length ((intsOf out).map (Value.int .i64)))∧Aside0 (Set.IsSet wr (w.heap.size+1) m met∧m+kq≤10000001) ∧
   Aside0 (∀ s ∈ S,s.1 < l0.length∧s.2≤(GT.kids (GT.toG (kidsI l0)) s.1).length)∧Aside0 (S.length+kq≤10000001)∧Aside0 (out.length+kq≤10000000)∧Aside0 (SBox wr w.heap.size A0 l0.length c0 a1)∧Aside0 (Below w.heap.size w wr))
 case atStart =>
  refine ⟨[(r,0)],[r],[],1,⟨HO2.out⟩,⟨?_⟩,⟨?_⟩,⟨?_,by omega⟩,⟨?_⟩,⟨by simp⟩,⟨by simp⟩,⟨?_⟩,⟨?_⟩⟩
  ·have hz:=HZ5.out;rw [HRT.out];exact ⟨rfl,.inr ⟨w5.heap.size,1,#[.int .i64 (r:Int),.int .i64 0],rfl,hz,heap_alloc_new w5 _,Nat.le_refl _,by unfold maxLen;omega,rfl,rfl⟩⟩
  ·exact ⟨rfl,.inl ⟨rfl,rfl⟩⟩
  ·exact HS5.out.alloc _
  ·intro s hs;rw [List.mem_singleton] at hs;subst hs;exact ⟨hrl,Nat.zero_le _⟩
  ·exact blk_alloc HX5.out _
  ·exact HB5.out.alloc (by have:=HZ5.out;omega) _
 case round =>
  obtain ⟨S,met,out,m,hord,hst,hout,hset,hin,hsl,hol,hbx,hbel⟩:=hrel;have q0:wr.cell? ⟨w.heap.size,0,none⟩ = some (.slice A0 l0.length c0):=(blk_cell hbx.out 0).trans rfl;cases gk with
  | zero => have:=hord.out;simp [GT.ordL] at this
  | succ gk =>
   cases S with
   | nil =>
    have hform:∃ A c,u5 = .slice A 0 c:=by
     rcases hst.out.2 with ⟨rfl,_⟩ | ⟨g,cap,cur,rfl,_⟩
     ·exact ⟨_,_,rfl⟩
     ·exact ⟨_,_,rfl⟩
    obtain ⟨A,c,rfl⟩:=hform;go_wp2_with (fail)
    go_ret;have h:=hord.out;rw [GT.ordL] at h;obtain rfl:=Option.some.inj h;exact ⟨_,rfl,Kd.R_lower (Kw.R_of_own (by rw [intsOf_len];exact hout.out)) (by omega),hbel.out⟩
   | cons p S =>
    obtain ⟨x,i⟩:=p;have hstd0:=hst.out.drew;have houtd:=hout.out.drew;have hsetd:=hset.out.1.drew;have hsetm:=hset.out.2;have hbxd:SBox wr.drew w.heap.size A0 l0.length c0 a1:=blk_drew hbx.out;have hbeld:=hbel.out.drew;have q0d:wr.drew.cell? ⟨w.heap.size,0,none⟩ = some (.slice A0 l0.length c0):=q0;clear q0;obtain ⟨g,cap,hv⟩:∃ g cap,u5 = .slice (some ⟨g,0,none⟩) (S.length+1) cap:=by
     rcases hstd0.2 with ⟨_,h0⟩ | ⟨g,cap,cur,hv,_⟩
     ·simp at h0
     ·exact ⟨g,cap,by simpa using hv⟩
    subst hv;have hst2:=hstd0;rw [List.length_cons,List.reverse_cons,stackV_snoc] at hst2;have hsr:(stackV S.reverse).length = S.length * 2:=by rw [stackV_len,List.length_reverse]
    obtain ⟨xi,hxi⟩:∃ z:Int,z = (x:Int):=⟨_,rfl⟩;obtain ⟨ii,hii⟩:∃ z:Int,z = (i:Int):=⟨_,rfl⟩;have hcx:wr.drew.cell? ⟨g,S.length * 2,none⟩ = some (.int .i64 xi):=by
     rw [hst2.cellAt _ (by omega),List.getElem?_append_right (by omega),hsr,hxi];simp
    have hc1:wr.drew.cell? ⟨g,S.length * 2+1,none⟩ = some (.int .i64 ii):=by
     rw [hst2.cellAt _ (by omega),List.getElem?_append_right (by omega),hsr,hii];simp
    have hfr:wr.drew.frozen? ⟨g,S.length * 2+1,none⟩ = false:=hst2.frozenAt _;have hcaps:=own_cap hst2;have hcap:=hcaps.1;have hcap2:=hcaps.2;have hgb:w.heap.size+2≤g:=own_base hst2 g rfl;obtain ⟨hxl,hil⟩:=hin.out (x,i) (by simp);have hxl:x < l0.length:=hxl;have hil:i≤(GT.kids (GT.toG (kidsI l0)) x).length:=hil;have hin2:∀ s ∈ S,s.1 < l0.length∧s.2≤(GT.kids (GT.toG (kidsI l0)) s.1).length:=fun s hs => hin.out s (by simp [hs])
    have hxp:0≤xi:=by omega
    have hxq:xi < (l0.length:Int):=by omega
    have hip:0≤ii:=by omega
    obtain ⟨ad,A1,c1,A2,c2,A3,c3,e,hx0,hx1,hx2,hx3,hl1,hi1,hl2,hi2,hl3,hi3⟩:=at_T40 (Kd.C_below HR.out hbeld) xi hxp hxq;cases e
    have hkl:((rd_T40 l0 xi).f3).length≤1000000:=kid_len l0 HS.out xi;have hki:intsOf (GT.kids (GT.toG (kidsI l0)) x) = (rd_T40 l0 xi).f3:=by
     have h:=kids_ints HG.out xi;rw [hxi,Int.toNat_natCast] at h;rw [hxi];exact h
    have hkln:((rd_T40 l0 xi).f3).length = (GT.kids (GT.toG (kidsI l0)) x).length:=by rw [← hki,intsOf_len]
    have HI3:=Lib.hid hi3;have HIN:=Lib.hid hin2;have HKI:=Lib.hid hki;have HKN:=Lib.hid hkln;have HXI:=Lib.hid hxi;have HII:=Lib.hid hii;have HST:=Lib.hid hst2;have HSR:=Lib.hid hsr;have hsz:=hbeld.size;have hsz2:w.heap.size+2≤wr.drew.heap.size:=by have:=(hst2.lt g rfl).2;omega
    have hsw:S.length≤10000000:=by have:=hsl.out;simp at this;omega
    have e1:IntKind.i64.wrap ((S.length:Int)+1 - 1) = S.length:=IntWalk.i64_in _ (by omega) |>.trans (by omega)
    have hsl2:S.length+1+(gk+1)≤10000001:=by have:=hsl.out;simpa using this
    have HSL:=Lib.hid hsl2;clear hst2 hsr hxi hii hx0 hx1 hx2 hl1 hi1 hl2 hi2 hi3 hin2 hki hkln hin hst hsl hcaps hsl2 hstd0 hset hout hbx hbel;go_wp2_with (fail)
    go_region_held3 (fun w' => w'.cell? ⟨w.heap.size,0,none⟩ = some (.slice (some ad) l0.length c0)∧w'.cell? ⟨g,S.length * 2,none⟩ = some (.int .i64 xi)∧w'.cell? ⟨(ad.add (xi.toNat * 4)).block,(ad.add (xi.toNat * 4)).off+3,none⟩ = some (.slice A3 (rd_T40 l0 xi).f3.length c3)) (go_keep) (fail)
    rename_i hS9;clear hS9;have HSET:=Lib.hid hsetd;have HOUT:=Lib.hid houtd;have HBX:=Lib.hid hbxd;have HBEL:=Lib.hid hbeld;have HSM:=Lib.hid hsetm;clear hsetd houtd hbxd hbeld q0d hx3 hsetm;generalize wr.drew = wd at HSET HOUT HBX HBEL HST HI3 hcx hc1 hfr hsz hsz2 ⊢;by_cases hik:i = (GT.kids (GT.toG (kidsI l0)) x).length
    ·have t4:decide (ii = (((rd_T40 l0 xi).f3).length:Int)) = true:=decide_eq_true (by have:=HII.out;have:=HKN.out;omega);have t4b:(ii == (((rd_T40 l0 xi).f3).length:Int)) = true:=by simpa using t4
     go_wp2_with (at_builtin;refine wpList_append_own _ rfl _ _ 38 rfl (w.heap.size+2) 3 iI (.int .i64 0) 1 8 Tryd.underlying38 hiI hzI0 hzI1 hzI2 rfl (by decide) u3 out.length ((intsOf out).map (Value.int .i64)) rfl (HOUT.out.alloc _) ⟨wd.heap.size,0,none⟩ 1 1 [.int .i64 xi] rfl rfl (fun j u hj => by match j,hj with | 0,hj => cases hj;exact (blk_cell (heap_alloc_new wd _) 0).trans rfl) (fun u hu => by rw [List.mem_singleton] at hu;subst hu;rfl) (by have:=hol.out;unfold maxLen;omega) (by have:=hol.out;omega) (by simp;omega) ?_;intro v2 w2 hown2 hgrow2 hnil2)
     go_wp2_with (fail)
     go_roundg gk
     case measure => omega
     case rel =>
      have hap:=own_apart (HST.out.alloc (.cells #[.int .i64 xi] 3)) (HOUT.out.alloc (.cells #[.int .i64 xi] 3)) (by decide);have hob:=own_base HOUT.out;refine ⟨S,met,out ++ [x],m,⟨?_⟩,⟨(own_cut2 (HST.out.alloc _)).kept hgrow2 hap⟩,⟨?_⟩,⟨(HSET.out.alloc _).kept hgrow2 (fun h => by have:=hob _ h.symm;omega),by have:=HSM.out;omega⟩,⟨HIN.out⟩,⟨by have:=HSL.out;omega⟩,⟨by have:=hol.out;simp;omega⟩,⟨(hgrow2.block w.heap.size (by have:=blk_lt HBX.out;simp;omega) (fun h => by have:=hob _ h.symm;omega)).trans (blk_alloc HBX.out _)⟩,⟨Kw.grown_below (HBEL.out.alloc hsz _) hgrow2 (fun g h => by have:=hob _ h;omega)⟩⟩
      ·have h:=hord.out;rw [GT.ordL,if_pos hik] at h;exact h
      ·have e:(intsOf (out ++ [x])).map (Value.int .i64) = (intsOf out).map (Value.int .i64) ++ [.int .i64 xi]:=by unfold intsOf;rw [HXI.out];simp
       rw [e,List.length_append];exact hown2
    ·have hi1:ii < (((rd_T40 l0 xi).f3).length:Int):=by have:=HII.out;have:=HKN.out;omega
     have t4:decide (ii = (((rd_T40 l0 xi).f3).length:Int)) = false:=decide_eq_false (by omega);have t4b:(ii == (((rd_T40 l0 xi).f3).length:Int)) = false:=by simpa using t4
     have t4n:¬ ii = (((rd_T40 l0 xi).f3).length:Int):=by omega
     obtain ⟨ad3,e3,hx4⟩:=Kd.at_int HI3.out ii hip hi1;cases e3
     obtain ⟨kn,hkn⟩:∃ kn,kn = (GT.kids (GT.toG (kidsI l0)) x).getD i 0:=⟨_,rfl⟩;obtain ⟨ki,hki⟩:∃ ki,ki = rd ((rd_T40 l0 xi).f3) ii:=⟨_,rfl⟩;have hil2:i < (GT.kids (GT.toG (kidsI l0)) x).length:=by omega
     have hkm:kn ∈ GT.kids (GT.toG (kidsI l0)) x:=by rw [hkn,List.getD_eq_getElem?_getD,List.getElem?_eq_getElem hil2];exact List.getElem_mem _
     have hknl:kn < l0.length:=by have:=HW.out x kn hkm;rw [GT.length_toG,kids_len] at this;exact this
     have hkr:ki = (kn:Int):=by
      rw [hki,hkn,← HKI.out,HII.out];show (intsOf _).getD ((i:Int)).toNat 0 = _
      unfold intsOf
      rw [Int.toNat_natCast,List.getD_eq_getElem?_getD,List.getD_eq_getElem?_getD,List.getElem?_map];cases (GT.kids (GT.toG (kidsI l0)) x)[i]? <;> rfl
     rw [← hki] at hx4;have HKR:=Lib.hid hkr;have HKN2:=Lib.hid hkn;have HIL:=Lib.hid hil2;have hkw:kn≤9223372036854775807:=by omega
     have hstd:=HST.out.stored (S.length * 2+1) (.int .i64 (ii+1));have HSE:=Lib.hid (HSET.out.kept hstd.2 (by intro h;cases h;omega));have HSX:Hid (SBox (wd.setCell ⟨g,S.length * 2+1,none⟩ (.int .i64 (ii+1))) w.heap.size (some ad) l0.length c0 a1):=Lib.hid ((hstd.2.block w.heap.size (blk_lt HBX.out) (by intro h;cases h;omega)).trans HBX.out);have HSB:=Lib.hid (Kw.grown_below HBEL.out hstd.2 (fun g h => by cases h;omega));have hso:Hid ((wd.setCell ⟨g,S.length * 2+1,none⟩ (.int .i64 (ii+1))).ownsRow (w.heap.size+2) 168 2 (.slice (some ⟨g,0,none⟩) (S.length+1) cap) (S.length+1) (stackV S.reverse ++ [.int .i64 xi,.int .i64 (ii+1)])):=Lib.hid (by
      have h:=hstd.1;rw [List.set_append_right _ _ (by rw [HSR.out];omega),HSR.out,show S.length * 2+1 - S.length * 2 = 1 by omega,← HXI.out] at h;exact h)
     have HOU:=Lib.hid (HOUT.out.kept hstd.2 (by
      rcases own_apart HOUT.out HST.out (by decide) with h | h
      ·exact .inl h
      ·exact .inr h))
     have hszs:(wd.setCell ⟨g,S.length * 2+1,none⟩ (.int .i64 (ii+1))).heap.size = wd.heap.size:=by simp
     have HZS:=Lib.hid hszs;clear hkn hki hkr hkm hil2 hstd hszs;by_cases hm:kn ∈ met
     ·have hd:decide (kn ∈ met) = true:=decide_eq_true hm;go_wp2_with (at_lookup;refine Set.wpList_look _ rfl _ _ rfl (w.heap.size+1) m met HSE.out kn hkw ki HKR.out rfl rfl ?_;rw [hd])
      go_roundg gk
      case measure => omega
      case rel =>
       refine ⟨(x,i+1) :: S,met,out,m,⟨?_⟩,⟨?_⟩,⟨HOU.out⟩,⟨HSE.out,by have:=HSM.out;omega⟩,⟨?_⟩,⟨by have:=HSL.out;simp;omega⟩,⟨by have:=hol.out;omega⟩,⟨HSX.out⟩,⟨HSB.out⟩⟩
       ·have h:=hord.out;rw [GT.ordL,if_neg hik,← HKN2.out,if_pos hm] at h;exact h
       ·have e:[Value.int .i64 ((x,i+1).1:Int),.int .i64 (((x,i+1).2:Nat):Int)] = [.int .i64 xi,.int .i64 (ii+1)]:=by rw [HXI.out,HII.out];simp
        rw [List.length_cons,List.reverse_cons,stackV_snoc,e];exact hso.out
       ·intro s hs;rcases List.mem_cons.1 hs with rfl | hs
        ·exact ⟨hxl,HIL.out⟩
        ·exact HIN.out s hs
     ·have hd:decide (kn ∈ met) = false:=decide_eq_false hm;have hmx:m < maxLen:=by have:=HSM.out;unfold maxLen;omega
      go_wp2_with (first
       | (at_lookup;refine Set.wpList_look _ rfl _ _ rfl (w.heap.size+1) m met HSE.out kn hkw ki HKR.out rfl rfl ?_;rw [hd])
       | (at_mapUpdate;refine Set.wpList_store _ rfl _ _ _ rfl (w.heap.size+1) m met HSE.out kn hkw ki HKR.out hmx rfl rfl rfl ?_;intro w1 hset1 hg1;have HS1:=Lib.hid hset1;have HG1:=Lib.hid hg1;have HO1:=Lib.hid (hso.out.kept hg1 (.inr (fun h => by simp [Value.ownBlock] at h;omega)));clear hset1 hg1)
       | (at_builtin;refine wpList_append_own _ rfl _ _ 169 rfl (w.heap.size+2) 168 iF (.agg #[.int .i64 0,.int .i64 0]) 2 16 Tryd.underlying169 hiF hzF0 hzF1 hzF2 rfl (by decide) (.slice (some ⟨g,0,none⟩) (S.length+1) cap) (S.length+1) (stackV S.reverse ++ [.int .i64 xi,.int .i64 (ii+1)]) rfl (HO1.out.alloc _) ⟨w1.heap.size,0,none⟩ 1 1 [.int .i64 ki,.int .i64 0] rfl rfl (fun j u hj => by match j,hj with | 0,hj => cases hj;exact (blk_cell (heap_alloc_new w1 _) 0).trans rfl | 1,hj => cases hj;exact (blk_cell (heap_alloc_new w1 _) 1).trans rfl) (fun u hu => by simp at hu;rcases hu with rfl | rfl <;> rfl) (by have:=HSL.out;unfold maxLen;omega) (by have:=HSL.out;omega) (by have:=HG1.out.size;have:=HZS.out;simp;omega) ?_;intro v2 w2 hown2 hgrow2 hnil2))
      go_wp2_with (fail)
      go_roundg gk
      case measure => omega
      case rel =>
       have hz1:=HG1.out.size;have hz0:=HZS.out;have hbz:=blk_lt HBX.out;have hob:=own_base HOUT.out;have hou1:=HOU.out.kept HG1.out (by
        rcases h:u3.ownBlock with _ | q
        ·exact .inl rfl
        ·refine .inr (fun h2 => ?_);have:=hob q h;cases h2
         omega)
       have hap:=own_apart (hou1.alloc (.cells #[.int .i64 ki,.int .i64 0] 168)) (HO1.out.alloc (.cells #[.int .i64 ki,.int .i64 0] 168)) (by decide);refine ⟨(kn,0) :: (x,i+1) :: S,kn :: met,out,m+1,⟨?_⟩,⟨?_⟩,⟨(hou1.alloc _).kept hgrow2 hap⟩,⟨(HS1.out.alloc _).kept hgrow2 (fun h => by simp [Value.ownBlock] at h;omega),by have:=HSM.out;omega⟩,⟨?_⟩,⟨by have:=HSL.out;simp;omega⟩,⟨by have:=hol.out;omega⟩,⟨(hgrow2.block w.heap.size (by simp;omega) (fun h => by simp [Value.ownBlock] at h;omega)).trans (blk_alloc ((HG1.out.block w.heap.size (by omega) (fun h => by simp at h)).trans HSX.out) _)⟩,⟨?_⟩⟩
       ·have h:=hord.out;rw [GT.ordL,if_neg hik,← HKN2.out,if_neg hm] at h;exact h
       ·rw [List.length_cons,List.length_cons,List.reverse_cons,stackV_snoc,List.reverse_cons,stackV_snoc];have e:[Value.int .i64 ((x,i+1).1:Int),.int .i64 (((x,i+1).2:Nat):Int)] = [.int .i64 xi,.int .i64 (ii+1)]:=by rw [HXI.out,HII.out];simp
        have e2:[Value.int .i64 ((kn,0).1:Int),.int .i64 (((kn,0).2:Nat):Int)] = [.int .i64 ki,.int .i64 0]:=by rw [HKR.out];simp
        rw [e,e2];exact hown2
       ·intro s hs;rcases List.mem_cons.1 hs with rfl | hs
        ·exact ⟨hknl,Nat.zero_le _⟩
        ·rcases List.mem_cons.1 hs with rfl | hs
         ·exact ⟨hxl,HIL.out⟩
         ·exact HIN.out s hs
       ·exact Kw.grown_below ((Kw.grown_below HSB.out HG1.out (fun g h => by cases h;omega)).alloc (by omega) _) hgrow2 (fun g h => by simp [Value.ownBlock] at h;omega)
end
def canon_order.f (l0_0:List (S40)) (a0_1:Int):Option (List Int) :=
 if l0_0.length≤1000000∧((kidsI l0_0).map List.length).sum≤1000000∧0≤a0_1∧a0_1 < (l0_0.length:Int)∧GT.firstBad (kidsI l0_0) = none then
  ((GT.ordL (GT.toG (kidsI l0_0)) 10000000 [(a0_1.toNat,0)] [a0_1.toNat] []).bind fun o => some (intsOf o))
 else none
end Go.Proofs.YtoigkneoaemcfaaDoor.GN
