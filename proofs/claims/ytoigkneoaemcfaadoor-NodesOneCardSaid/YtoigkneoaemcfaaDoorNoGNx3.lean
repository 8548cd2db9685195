
import Derived.Test.YtoigkneoaemcfaaDoorNoM2
namespace Go.Proofs.YtoigkneoaemcfaaDoor.GN
open Go.RowKit Go.Proofs.YtoigkneoaemcfaaDoorW.PrintWords Go.Proofs.YtoigkneoaemcfaaDoorW.PrintLast Go.Proofs.YtoigkneoaemcfaaDoorW.PrintMore
attribute [local go_sem] max2_int min2_int max_two min_two max_three min_three max_four min_four
set_option linter.unusedVariables false
set_option linter.unusedSimpArgs false
mutual
def graph_order.l0:Nat→List (List Int)→List Int→List Int→List (S40)→Int→Int→Option (List Int)
 | 0,_,_,_,_,_,_ => none
 | k+1,x3,x4,x5,x22,x23,x24 => if x24 < x23 then (if 0≤x24 then (if x24 < (x22.length:Int) then (if x24 < (x4.length:Int) then (graph_order.l1 k x3 (x4.set (x24:Int).toNat (((rd_T40 x22 x24).f3).length:Int)) x5 x24 x22 x23 x24 ((rd_T40 x22 x24).f3) (((rd_T40 x22 x24).f3).length:Int) 0) else (none)) else (none)) else (none)) else (graph_order.l2 k x3 x4 x5 0)
def graph_order.l1:Nat→List (List Int)→List Int→List Int→Int→List (S40)→Int→Int→List Int→Int→Int→Option (List Int)
 | 0,_,_,_,_,_,_,_,_,_,_ => none
 | k+1,x3,x4,x5,x6,x22,x23,x24,x36,x37,x38 => if x38 < x37 then (if 0≤x38 then (if x38 < (x36.length:Int) then (if 0≤(rd x36 x38) then (if (rd x36 x38) < (x3.length:Int) then (if (rd_L2 x3 (rd x36 x38)).length < 17592186044416 then (graph_order.l1 k (x3.set ((rd x36 x38):Int).toNat ((rd_L2 x3 (rd x36 x38)) ++ [x6])) x4 x5 x6 x22 x23 x24 x36 x37 (wrap64 (x38+1))) else (none)) else (none)) else (none)) else (none)) else (none)) else (if 0≤x6 then (if x6 < (x4.length:Int) then (if (rd x4 x6) = 0 then (if x5.length < 17592186044416 then (graph_order.l0 k x3 x4 (x5 ++ [x6]) x22 x23 (wrap64 (x24+1))) else (none)) else (graph_order.l0 k x3 x4 x5 x22 x23 (wrap64 (x24+1)))) else (none)) else (none))
def graph_order.l2:Nat→List (List Int)→List Int→List Int→Int→Option (List Int)
 | 0,_,_,_,_ => none
 | k+1,x3,x4,x5,x10 => if x10 < (x5.length:Int) then (if 0≤x10 then (if 0≤(rd x5 x10) then (if (rd x5 x10) < (x3.length:Int) then (graph_order.l3 k x3 x4 x5 x10 (rd_L2 x3 (rd x5 x10)) ((rd_L2 x3 (rd x5 x10)).length:Int) 0) else (none)) else (none)) else (none)) else (some x5)
def graph_order.l3:Nat→List (List Int)→List Int→List Int→Int→List Int→Int→Int→Option (List Int)
 | 0,_,_,_,_,_,_,_ => none
 | k+1,x3,x4,x5,x10,x75,x76,x77 => if x77 < x76 then (if 0≤x77 then (if x77 < (x75.length:Int) then (if 0≤(rd x75 x77) then (if (rd x75 x77) < (x4.length:Int) then ((some (x4.set ((rd x75 x77):Int).toNat (wrap64 ((rd x4 (rd x75 x77)) - 1)):List Int)).bind fun y136 => (if (rd y136 (rd x75 x77)) = 0 then (if x5.length < 17592186044416 then (graph_order.l3 k x3 y136 (x5 ++ [rd x75 x77]) x10 x75 x76 (wrap64 (x77+1))) else (none)) else (graph_order.l3 k x3 y136 x5 x10 x75 x76 (wrap64 (x77+1))))) else (none)) else (none)) else (none)) else (none)) else (graph_order.l2 k x3 x4 x5 (wrap64 (x10+1)))
end
def graph_order.f (k:Nat) (l0_0:List (S40)) (a0_1:Int):Option (List Int):=if 0≤(l0_0.length:Int) then (if ((l0_0.length:Int):Int).toNat≤11728124029610 then (if ((l0_0.length:Int):Int).toNat≤35184372088832 then (graph_order.l0 k (List.replicate ((l0_0.length:Int):Int).toNat []) (List.replicate ((l0_0.length:Int):Int).toNat 0) ([]:List Int) l0_0 (l0_0.length:Int) 0) else (none)) else (none)) else (none)
theorem graph_order.mono_l:∀ k,(∀ y0 y1 y2 y3 y4 y5,LeO (graph_order.l0 k y0 y1 y2 y3 y4 y5) (graph_order.l0 (k+1) y0 y1 y2 y3 y4 y5))∧(∀ y0 y1 y2 y3 y4 y5 y6 y7 y8 y9,LeO (graph_order.l1 k y0 y1 y2 y3 y4 y5 y6 y7 y8 y9) (graph_order.l1 (k+1) y0 y1 y2 y3 y4 y5 y6 y7 y8 y9))∧(∀ y0 y1 y2 y3,LeO (graph_order.l2 k y0 y1 y2 y3) (graph_order.l2 (k+1) y0 y1 y2 y3))∧(∀ y0 y1 y2 y3 y4 y5 y6,LeO (graph_order.l3 k y0 y1 y2 y3 y4 y5 y6) (graph_order.l3 (k+1) y0 y1 y2 y3 y4 y5 y6))
 | 0 => ⟨fun _ _ _ _ _ _ r h => by simp [graph_order.l0] at h,fun _ _ _ _ _ _ _ _ _ _ r h => by simp [graph_order.l1] at h,fun _ _ _ _ r h => by simp [graph_order.l2] at h,fun _ _ _ _ _ _ _ r h => by simp [graph_order.l3] at h⟩
 | k+1 => by
  obtain ⟨ih0,ih1,ih2,ih3⟩:=graph_order.mono_l k;refine ⟨?_,?_,?_,?_⟩
  ·intro y0 y1 y2 y3 y4 y5;unfold graph_order.l0
   repeat' first
   | (with_reducible exact ih0 _ _ _ _ _ _)
   | (with_reducible exact ih1 _ _ _ _ _ _ _ _ _ _)
   | (with_reducible exact ih2 _ _ _ _)
   | (with_reducible exact ih3 _ _ _ _ _ _ _)
   | (with_reducible exact LeO.refl _)
   | (with_reducible exact LeO.none _)
   | (with_reducible refine LeO.ite ?_ ?_)
   | (with_reducible refine LeO.bind ?_ (fun _ => ?_))
   | exact ih0 _ _ _ _ _ _
   | exact ih1 _ _ _ _ _ _ _ _ _ _
   | exact ih2 _ _ _ _
   | exact ih3 _ _ _ _ _ _ _
   | exact LeO.none _
   | refine LeO.ite ?_ ?_
   | refine LeO.bind ?_ (fun _ => ?_)
  ·intro y0 y1 y2 y3 y4 y5 y6 y7 y8 y9;unfold graph_order.l1
   repeat' first
   | (with_reducible exact ih0 _ _ _ _ _ _)
   | (with_reducible exact ih1 _ _ _ _ _ _ _ _ _ _)
   | (with_reducible exact ih2 _ _ _ _)
   | (with_reducible exact ih3 _ _ _ _ _ _ _)
   | (with_reducible exact LeO.refl _)
   | (with_reducible exact LeO.none _)
   | (with_reducible refine LeO.ite ?_ ?_)
   | (with_reducible refine LeO.bind ?_ (fun _ => ?_))
   | exact ih0 _ _ _ _ _ _
   | exact ih1 _ _ _ _ _ _ _ _ _ _
   | exact ih2 _ _ _ _
   | exact ih3 _ _ _ _ _ _ _
   | exact LeO.none _
   | refine LeO.ite ?_ ?_
   | refine LeO.bind ?_ (fun _ => ?_)
  ·intro y0 y1 y2 y3;unfold graph_order.l2
   repeat' first
   | (with_reducible exact ih0 _ _ _ _ _ _)
   | (with_reducible exact ih1 _ _ _ _ _ _ _ _ _ _)
   | (with_reducible exact ih2 _ _ _ _)
   | (with_reducible exact ih3 _ _ _ _ _ _ _)
   | (with_reducible exact LeO.refl _)
   | (with_reducible exact LeO.none _)
   | (with_reducible refine LeO.ite ?_ ?_)
   | (with_reducible refine LeO.bind ?_ (fun _ => ?_))
   | exact ih0 _ _ _ _ _ _
   | exact ih1 _ _ _ _ _ _ _ _ _ _
   | exact ih2 _ _ _ _
   | exact ih3 _ _ _ _ _ _ _
   | exact LeO.none _
   | refine LeO.ite ?_ ?_
   | refine LeO.bind ?_ (fun _ => ?_)
  ·intro y0 y1 y2 y3 y4 y5 y6;unfold graph_order.l3
   repeat' first
   | (with_reducible exact ih0 _ _ _ _ _ _)
   | (with_reducible exact ih1 _ _ _ _ _ _ _ _ _ _)
   | (with_reducible exact ih2 _ _ _ _)
   | (with_reducible exact ih3 _ _ _ _ _ _ _)
   | (with_reducible exact LeO.refl _)
   | (with_reducible exact LeO.none _)
   | (with_reducible refine LeO.ite ?_ ?_)
   | (with_reducible refine LeO.bind ?_ (fun _ => ?_))
   | exact ih0 _ _ _ _ _ _
   | exact ih1 _ _ _ _ _ _ _ _ _ _
   | exact ih2 _ _ _ _
   | exact ih3 _ _ _ _ _ _ _
   | exact LeO.none _
   | refine LeO.ite ?_ ?_
   | refine LeO.bind ?_ (fun _ => ?_)
theorem graph_order.mono:∀ a0 a1 k,LeO (graph_order.f k a0 a1) (graph_order.f (k+1) a0 a1):=by
 intro a0 a1 k;obtain ⟨ih0,ih1,ih2,ih3⟩:=graph_order.mono_l k;unfold graph_order.f
 repeat' first
   | (with_reducible exact ih0 _ _ _ _ _ _)
   | (with_reducible exact ih1 _ _ _ _ _ _ _ _ _ _)
   | (with_reducible exact ih2 _ _ _ _)
   | (with_reducible exact ih3 _ _ _ _ _ _ _)
   | (with_reducible exact LeO.refl _)
   | (with_reducible exact LeO.none _)
   | (with_reducible refine LeO.ite ?_ ?_)
   | (with_reducible refine LeO.bind ?_ (fun _ => ?_))
   | exact ih0 _ _ _ _ _ _
   | exact ih1 _ _ _ _ _ _ _ _ _ _
   | exact ih2 _ _ _ _
   | exact ih3 _ _ _ _ _ _ _
   | exact LeO.none _
   | refine LeO.ite ?_ ?_
   | refine LeO.bind ?_ (fun _ => ?_)
set_option maxHeartbeats 8000000 in
set_option maxRecDepth 100000 in
theorem graph_order.calls (k:Nat) (A0_0:Option Addr) (c0_0:Nat) (l0_0:List (S40)) (a0_1:Int) (r:List Int) (w:World) (hr0_0:Kd.C k40 w A0_0 l0_0.length l0_0) (hc0_0:l0_0.length≤c0_0) (h:graph_order.f k l0_0 a0_1 = some r) :
  Calls Tryd.prog 69 #[.agg #[.slice A0_0 l0_0.length c0_0,.int .i64 a0_1]] w fun e w' => ∃ v0_:Value,e = .returned (v0_)∧Kd.R (Kd.int .i64) 3 w' w.heap.size (fun _ => True) v0_ r∧Below w.heap.size w w':=by
 have hu27:=Tryd.underlying27;have hu40:=Tryd.underlying40;have HR0_0:=AM hr0_0;have HC0_0:=AM hc0_0;clear hr0_0 hc0_0;have HB:=AM (Below.refl w.heap.size w);have H:(if 0≤(l0_0.length:Int) then (if ((l0_0.length:Int):Int).toNat≤11728124029610 then (if ((l0_0.length:Int):Int).toNat≤35184372088832 then (graph_order.l0 k (List.replicate ((l0_0.length:Int):Int).toNat []) (List.replicate ((l0_0.length:Int):Int).toNat 0) ([]:List Int) l0_0 (l0_0.length:Int) 0) else (none)) else (none)) else (none)) = some r:=h;clear h;by_cases c2:0≤(l0_0.length:Int)
 ·rw [if_pos c2] at H;have c2b0:=eq_true c2;have c2b1:decide (0≤(l0_0.length:Int)) = true:=decide_eq_true c2;clear c2;by_cases c3:((l0_0.length:Int):Int).toNat≤11728124029610
  ·rw [if_pos c3] at H;have c3b0:=eq_true c3;have c3b1:decide (((l0_0.length:Int):Int).toNat≤11728124029610) = true:=decide_eq_true c3;clear c3;obtain ⟨y113,hy113⟩:∃ y_:List (List Int),y_ = (List.replicate ((l0_0.length:Int):Int).toNat []):=⟨_,rfl⟩;replace H:(if ((l0_0.length:Int):Int).toNat≤35184372088832 then (graph_order.l0 k y113 (List.replicate ((l0_0.length:Int):Int).toNat 0) ([]:List Int) l0_0 (l0_0.length:Int) 0) else (none)) = some r:=QH hy113 H
   have Ny113:=AM hy113;clear hy113;by_cases c4:((l0_0.length:Int):Int).toNat≤35184372088832
   ·rw [if_pos c4] at H;have c4b0:=eq_true c4;have c4b1:decide (((l0_0.length:Int):Int).toNat≤35184372088832) = true:=decide_eq_true c4;clear c4;obtain ⟨y116,hy116⟩:∃ y_:List Int,y_ = (List.replicate ((l0_0.length:Int):Int).toNat 0):=⟨_,rfl⟩;replace H:(graph_order.l0 k y113 y116 ([]:List Int) l0_0 (l0_0.length:Int) 0) = some r:=QH hy116 H
    have Ny116:=AM hy116;clear hy116;have H':=AM H;clear H;go_enter Tryd.func69,Tryd.ntmps69;go_wp2_with (first | ((with_reducible refine gate_dst (N:=1) rfl ?_);refine boxE 1 #[.slice A0_0 l0_0.length c0_0,.int .i64 a0_1] 27 ?_;intro gb112 hg w5 hbox hb;have BK112:=AM (hbox);have GW112:=GW HB hg;have GE112:=GW HB hg;replace HB:=BS HB hb;clear hb hbox hg;have hcz6_0:=BC BK112 0 (.slice A0_0 l0_0.length c0_0) rfl;have hcz6_1:=BC BK112 1 (.int .i64 a0_1) rfl;have hfz6_0:=BF BK112 0;have hfz6_1:=BF BK112 1) | ((with_reducible refine gate_dst (N:=16) rfl ?_);refine Kd.S_make (Kd.slice 3 (Kd.int .i64)) _ 38 rfl (N:=16) rfl 155 _ _ rfl (l0_0.length:Int) rfl rfl Tryd.underlying155 (.slice none 0 0) 24 info38 rfl (by decide) (by omega) [] (ok:=fun _ => True) (okp:=fun _ => True) ⟨_,rfl,Kd.R_nil _ _ _ _ _⟩ (fun _ hk => hk) trivial (OD) (Nat.le_trans (Nat.mul_le_mul_right _ (OD:(l0_0.length:Int).toNat≤11728124029610)) (by omega)) (Below.refl _ _) (Nat.le_refl _) ?_;intro v114 w7 ho8 hb hg_ hnew_;clear hg_ hnew_;(first | rw [← Ny113.out] at ho8 | (simp only [Int.reduceToNat] at ho8;rw [← Ny113.out] at ho8));have HO115:=AM (Kd.S_lower ho8 (below_size (BB HB)));replace BK112:=BE BK112 hb;replace HB:=BS HB hb;clear hb ho8;have hcz9_0:=BC BK112 0 (.slice A0_0 l0_0.length c0_0) rfl;have hcz9_1:=BC BK112 1 (.int .i64 a0_1) rfl;have hfz9_0:=BF BK112 0;have hfz9_1:=BF BK112 1) | ((with_reducible refine gate_dst (N:=20) rfl ?_);refine Kd.R_make (Kd.int .i64) _ 3 rfl (N:=20) rfl 38 _ _ rfl (l0_0.length:Int) rfl rfl Tryd.underlying38 (.int .i64 0) 8 info3 rfl (by decide) (by omega) 0 (ok:=fun _ => True) (okp:=fun _ => True) rfl (fun _ hk => hk) trivial (OD) (Nat.le_trans (Nat.mul_le_mul_right _ (OD:(l0_0.length:Int).toNat≤35184372088832)) (by omega)) (Below.refl _ _) (Nat.le_refl _) ?_;intro v117 w10 ho11 hb hg_ hnew_;clear hg_ hnew_;(first | rw [← Ny116.out] at ho11 | (simp only [Int.reduceToNat] at ho11;rw [← Ny116.out] at ho11));replace HO115:=AM (Kd.S_elder' (SL HO115) (Kd.R_base ho11) hb);have HO118:=AM (Kd.R_lower ho11 (below_size (BB HB)));replace BK112:=BE BK112 hb;replace HB:=BS HB hb;clear hb ho11;have hcz12_0:=BC BK112 0 (.slice A0_0 l0_0.length c0_0) rfl;have hcz12_1:=BC BK112 1 (.int .i64 a0_1) rfl;have hfz12_0:=BF BK112 0;have hfz12_1:=BF BK112 1))
    go_loopg [5,24] k (fun kq v5 v24 w' => ∃ (x3_1:List (List Int)) (x4_1:List Int) (x5_1:List Int) (x24_1:Int),v24 = .int .i64 x24_1∧Aside0 (graph_order.l0 kq x3_1 x4_1 x5_1 l0_0 (l0_0.length:Int) x24_1 = some r)∧Aside0 (kq≤k)∧Aside0 (Kd.S (Kd.slice 3 (Kd.int .i64)) 38 w' w.heap.size (fun k_ => some k_≠(v117:Value).ownBlock∧some k_≠(v5:Value).ownBlock) v114 x3_1)∧Aside0 (Kd.R (Kd.int .i64) 3 w' w.heap.size (fun k_ => some k_≠(v5:Value).ownBlock) v117 x4_1)∧Aside0 (Kd.R (Kd.int .i64) 3 w' w.heap.size (fun k_ => some k_≠(v117:Value).ownBlock) v5 x5_1)∧Aside0 (w'.heap[gb112]? = some (.cells #[(.slice A0_0 l0_0.length c0_0),.int .i64 a0_1] 27 (0,0)))∧Aside0 (Below w.heap.size w w'))
    case atStart => exact ⟨(y113),(y116),(([]:List Int)),(0),QD,H',⟨Nat.le_refl _⟩,⟨by (with_reducible repeat (first | apply Kd.S_alloc | apply Kd.S_drewN | apply Kd.S_drew));exact Kd.S_mono HO115.out (fun _ hk => ⟨hk.2,(by simp [Value.ownBlock])⟩)⟩,⟨by (with_reducible repeat (first | apply Kd.R_alloc | apply Kd.R_drewN | apply Kd.R_drew));exact Kd.R_mono HO118.out (fun _ hk => (by simp [Value.ownBlock]))⟩,⟨by first | exact Kd.R_nil _ _ _ _ _ | exact Kd.N_nil _ _ _ _ _ | exact Kd.V_nil _ _ _ _ _ | exact Kd.Q_nil _ _ _ _ _ | exact Kd.S_nil _ _ _ _ _⟩,⟨BL BK112⟩,⟨BB HB⟩⟩
    case round =>
     clear H';try clear c2
     try clear c2b0
     try clear c2b1
     try clear p2
     try clear c3
     try clear c3b0
     try clear c3b1
     try clear c4
     try clear c4b0
     try clear c4b1
     try clear c6
     try clear hcz12_0
     try clear hcz12_1
     try clear hcz6_0
     try clear hcz6_1
     try clear hcz9_0
     try clear hcz9_1
     try clear hfz12_0
     try clear hfz12_1
     try clear hfz6_0
     try clear hfz6_1
     try clear hfz9_0
     try clear hfz9_1
     obtain ⟨x3_1,x4_1,x5_1,x24_1,rfl,HA,HK1,HO_3,HO_4,HO_5,BK112,HB⟩:=hrel;cases gk with
     | zero => exact absurd HA.out (by simp [graph_order.l0])
     | succ k1 =>
      have H:=HA.out;clear HA;simp only [graph_order.l0] at H;by_cases c13:x24_1 < (l0_0.length:Int)
      ·rw [if_pos c13] at H;have c13b0:decide (x24_1 < (l0_0.length:Int)) = true:=decide_eq_true c13;clear c13;by_cases c14:0≤x24_1
       ·rw [if_pos c14] at H;have c14b0:decide (0≤x24_1) = true:=decide_eq_true c14;clear c14;by_cases c15:x24_1 < (l0_0.length:Int)
        ·rw [if_pos c15] at H;have c15b0:decide (x24_1 < (l0_0.length:Int)) = true:=decide_eq_true c15;clear c15;by_cases c16:x24_1 < (x4_1.length:Int)
         ·rw [if_pos c16] at H;have c16b0:decide (x24_1 < (x4_1.length:Int)) = true:=decide_eq_true c16;clear c16;obtain ⟨y121,hy121⟩:∃ y_:List Int,y_ = (x4_1.set (x24_1:Int).toNat (((rd_T40 l0_0 x24_1).f3).length:Int)):=⟨_,rfl⟩;replace H:(graph_order.l1 k1 x3_1 y121 x5_1 x24_1 l0_0 (l0_0.length:Int) x24_1 ((rd_T40 l0_0 x24_1).f3) (((rd_T40 l0_0 x24_1).f3).length:Int) 0) = some r:=QH hy121 H
          have Ny121:=AM hy121;clear hy121;have H':=AM H;clear H;have p119:0≤(x24_1:Int):=OD;have q119:x24_1 < (l0_0.length:Int):=OD;obtain ⟨ad119,A119_1,c119_1,A119_2,c119_2,A119_3,c119_3,e119,hx119_0,hx119_1,hx119_2,hx119_3,hl119_1,hi119_1,hl119_2,hi119_2,hl119_3,hi119_3⟩:=at_T40 HR0_0.out x24_1 p119 q119;cases e119
          replace hx119_0:=CL HB hx119_0;replace hx119_1:=CL HB hx119_1;replace hx119_2:=CL HB hx119_2;replace hx119_3:=CL HB hx119_3;have HR119_1:=AM hi119_1;have HC119_1:=AM hl119_1;clear hi119_1 hl119_1;have HR119_2:=AM hi119_2;have HC119_2:=AM hl119_2;clear hi119_2 hl119_2;have HR119_3:=AM hi119_3;have HC119_3:=AM hl119_3;clear hi119_3 hl119_3;replace p119:=eq_true p119;replace q119:=eq_true q119;go_wp2_with (first | ((with_reducible refine gate_dst (N:=7) rfl ?_);refine boxE 7 #[.int .i64 0,.slice none 0 0,.slice none 0 0,.slice none 0 0] 40 ?_;intro gb120 hg w18 hbox hb;replace HO_3:=AM (Kd.S_below (SL HO_3) hb);replace HO_4:=AM (Kd.R_below (RL HO_4) hb);replace HO_5:=AM (Kd.R_below (RL HO_5) hb);have BK120:=AM (hbox);have GW120:=GW HB hg;have GE120:=GW HB hg;replace HB:=BS HB hb;have NB112_120:=NL BK112 hg;have NB120_112:=NG BK112 hg;replace BK112:=BE BK112 hb;clear hb hbox hg;have hnb19:=NB120_112.out;have hnc19:=NB112_120.out;have hcz20_0:=BC BK120 0 (.int .i64 0) rfl;have hcz20_1:=BC BK120 1 (.slice none 0 0) rfl;have hcz20_2:=BC BK120 2 (.slice none 0 0) rfl;have hcz20_3:=BC BK120 3 (.slice none 0 0) rfl;have hfz20_0:=BF BK120 0;have hfz20_1:=BF BK120 1;have hfz20_2:=BF BK120 2;have hfz20_3:=BF BK120 3) | ((with_reducible refine gate_store (t:=40) (p:=7) rfl ?_);refine store_event (t:=40) (p:=7) (v:=?vo_w21) (w1:=((((w18.setCell ⟨gb120,0,none⟩ (.int .i64 ((rd_T40 l0_0 x24_1).f0))).setCell ⟨gb120,1,none⟩ (.slice A119_1 ((rd_T40 l0_0 x24_1).f1).length c119_1)).setCell ⟨gb120,2,none⟩ (.slice A119_2 ((rd_T40 l0_0 x24_1).f2).length c119_2)).setCell ⟨gb120,3,none⟩ (.slice A119_3 ((rd_T40 l0_0 x24_1).f3).length c119_3))) ?hg ?ho ?hn ?hr ?_;(case ho => rfl);(case hg => rfl);(case hn => rfl);(case hr => first | (go_simp;done) | (go_simp;rfl));intro w21 hw;have n0_:Aside0 (Kd.S (Kd.slice 3 (Kd.int .i64)) 38 w21 w.heap.size (fun k_ => some k_≠(v117:Value).ownBlock∧some k_≠(u5:Value).ownBlock) v114 x3_1):=⟨(by rw [hw];exact (by (with_reducible repeat (first | apply Kd.S_alloc | apply Kd.S_drewN | apply Kd.S_drew));exact Kd.S_mono (Kd.S_far (p:=⟨gb120,3,none⟩) (Kd.S_far (p:=⟨gb120,2,none⟩) (Kd.S_far (p:=⟨gb120,1,none⟩) (Kd.S_far (p:=⟨gb120,0,none⟩) (Kd.S_types HO_3.out BK120.out (by decide)) (fun _ hk => hk.2) (.int .i64 ((rd_T40 l0_0 x24_1).f0))) (fun _ hk => hk.2) (.slice A119_1 ((rd_T40 l0_0 x24_1).f1).length c119_1)) (fun _ hk => hk.2) (.slice A119_2 ((rd_T40 l0_0 x24_1).f2).length c119_2)) (fun _ hk => hk.2) (.slice A119_3 ((rd_T40 l0_0 x24_1).f3).length c119_3)) (fun _ hk => ⟨hk.1.1,hk.1.2⟩)))⟩;have n1_:Aside0 (Kd.R (Kd.int .i64) 3 w21 w.heap.size (fun k_ => some k_≠(u5:Value).ownBlock) v117 x4_1):=⟨(by rw [hw];exact (by exact Kd.R_mono (Kd.R_far (p:=⟨gb120,3,none⟩) (Kd.R_far (p:=⟨gb120,2,none⟩) (Kd.R_far (p:=⟨gb120,1,none⟩) (Kd.R_far (p:=⟨gb120,0,none⟩) (Kd.R_types HO_4.out BK120.out (by decide)) (fun _ hk => hk.2) (.int .i64 ((rd_T40 l0_0 x24_1).f0))) (fun _ hk => hk.2) (.slice A119_1 ((rd_T40 l0_0 x24_1).f1).length c119_1)) (fun _ hk => hk.2) (.slice A119_2 ((rd_T40 l0_0 x24_1).f2).length c119_2)) (fun _ hk => hk.2) (.slice A119_3 ((rd_T40 l0_0 x24_1).f3).length c119_3)) (fun _ hk => hk.1)))⟩;have n2_:Aside0 (Kd.R (Kd.int .i64) 3 w21 w.heap.size (fun k_ => some k_≠(v117:Value).ownBlock) u5 x5_1):=⟨(by rw [hw];exact (by exact Kd.R_mono (Kd.R_far (p:=⟨gb120,3,none⟩) (Kd.R_far (p:=⟨gb120,2,none⟩) (Kd.R_far (p:=⟨gb120,1,none⟩) (Kd.R_far (p:=⟨gb120,0,none⟩) (Kd.R_types HO_5.out BK120.out (by decide)) (fun _ hk => hk.2) (.int .i64 ((rd_T40 l0_0 x24_1).f0))) (fun _ hk => hk.2) (.slice A119_1 ((rd_T40 l0_0 x24_1).f1).length c119_1)) (fun _ hk => hk.2) (.slice A119_2 ((rd_T40 l0_0 x24_1).f2).length c119_2)) (fun _ hk => hk.2) (.slice A119_3 ((rd_T40 l0_0 x24_1).f3).length c119_3)) (fun _ hk => hk.1)))⟩;have n3_:Aside0 (w21.heap[gb112]? = some (.cells #[.slice (some ad119) l0_0.length c0_0,.int .i64 a0_1] 27 (0,0))):=⟨(by rw [hw];exact (by (repeat refine blk_far ?_ NB112_120.out _);exact BL BK112))⟩;have n4_:Aside0 (w21.heap[gb120]? = some (.cells #[.int .i64 ((rd_T40 l0_0 x24_1).f0),.slice A119_1 ((rd_T40 l0_0 x24_1).f1).length c119_1,.slice A119_2 ((rd_T40 l0_0 x24_1).f2).length c119_2,.slice A119_3 ((rd_T40 l0_0 x24_1).f3).length c119_3] 40 (0,0))):=⟨(by rw [hw];exact (by refine blk_put (cs:=#[.int .i64 ((rd_T40 l0_0 x24_1).f0),.slice A119_1 ((rd_T40 l0_0 x24_1).f1).length c119_1,.slice A119_2 ((rd_T40 l0_0 x24_1).f2).length c119_2,.slice none 0 0]) ?_ 3 _ rfl;refine blk_put (cs:=#[.int .i64 ((rd_T40 l0_0 x24_1).f0),.slice A119_1 ((rd_T40 l0_0 x24_1).f1).length c119_1,.slice none 0 0,.slice none 0 0]) ?_ 2 _ rfl;refine blk_put (cs:=#[.int .i64 ((rd_T40 l0_0 x24_1).f0),.slice none 0 0,.slice none 0 0,.slice none 0 0]) ?_ 1 _ rfl;refine blk_put (cs:=#[.int .i64 0,.slice none 0 0,.slice none 0 0,.slice none 0 0]) ?_ 0 _ rfl;exact BL BK120))⟩;have n5_:Aside0 (Below w.heap.size w w21):=⟨(by rw [hw];exact (BB HB))⟩;clear hw;clear HO_3;clear HO_4;clear HO_5;clear BK112;clear BK120;clear HB;have HO_3:=n0_;have HO_4:=n1_;have HO_5:=n2_;have BK112:=n3_;have BK120:=n4_;have HB:=n5_;clear n0_ n1_ n2_ n3_ n4_ n5_;have hcz22_0:=BC BK120 0 (.int .i64 ((rd_T40 l0_0 x24_1).f0)) rfl;have hcz22_1:=BC BK120 1 (.slice A119_1 ((rd_T40 l0_0 x24_1).f1).length c119_1) rfl;have hcz22_2:=BC BK120 2 (.slice A119_2 ((rd_T40 l0_0 x24_1).f2).length c119_2) rfl;have hcz22_3:=BC BK120 3 (.slice A119_3 ((rd_T40 l0_0 x24_1).f3).length c119_3) rfl;have hfz22_0:=BF BK120 0;have hfz22_1:=BF BK120 1;have hfz22_2:=BF BK120 2;have hfz22_3:=BF BK120 3;have p17:0≤(x24_1:Int):=OD;have q17:(x24_1:Int) < ((x4_1.length:Int):Int):=OD;obtain ⟨go17,co17,eo17,gb17,gl17,cl17,HG17⟩:=Kd.R_form HO_4.out (by omega);(first | cases eo17 | (injection eo17 with ea_ en_ ec_;(first | subst ea_ | (injection ea_ with ea_;subst ea_));subst ec_;clear en_));have GB17:=AM gb17;have GG17:=AM HG17;clear gb17 gl17 HG17;obtain ⟨hx17_0,hf17_0⟩:=Kd.R_celln 0 HO_4.out (x24_1:Int) p17 q17;replace p17:=eq_true p17;replace q17:=eq_true q17;obtain ⟨hy23_,hz23_⟩:=Kd.R_celln 0 HO_4.out (x24_1:Int) (OD) (OD);have HP23:=Kd.R_putg HO_4.out (x24_1:Int) (((rd_T40 l0_0 x24_1).f3).length:Int)) | ((with_reducible refine gate_store (t:=3) (p:=34) rfl ?_);refine store_event (t:=3) (p:=34) (v:=?vo_w24) (w1:=(w21.setCell ⟨go17,(x24_1:Int).toNat,none⟩ (.int .i64 (((rd_T40 l0_0 x24_1).f3).length:Int)))) ?hg ?ho ?hn ?hr ?_;(case ho => rfl);(case hg => rfl);(case hn => rfl);(case hr => first | (go_simp;done) | (go_simp;rfl));intro w24 hw;have hg:w21.grownBy w24 (some go17):=(by rw [hw];exact HP23.2);have hp_:Kd.R (Kd.int .i64) 3 w24 w.heap.size (fun k_ => some k_≠(u5:Value).ownBlock) (.slice (some ⟨go17,0,none⟩) x4_1.length co17) y121:=(by rw [hw,Ny121.out];exact HP23.1);clear HP23;replace HO_3:=AM (Kd.S_after (v:=(.slice (some ⟨go17,0,none⟩) x4_1.length co17)) (v1:=(.slice (some ⟨go17,0,none⟩) x4_1.length co17)) (ok:=(fun k_ => some k_≠(u5:Value).ownBlock)) (by (with_reducible repeat (first | apply Kd.S_alloc | apply Kd.S_drewN | apply Kd.S_drew));exact Kd.S_mono HO_3.out (fun _ hk => ⟨hk.2,hk.1⟩)) hg (.inl rfl));replace HO_5:=AM (Kd.R_after (v:=(.slice (some ⟨go17,0,none⟩) x4_1.length co17)) (v1:=(.slice (some ⟨go17,0,none⟩) x4_1.length co17)) (ok:=(fun _ => True)) (by (with_reducible repeat (first | apply Kd.R_alloc | apply Kd.R_drewN | apply Kd.R_drew));exact Kd.R_mono HO_5.out (fun _ hk => ⟨trivial,hk⟩)) hg (.inl rfl));replace BK112:=AM (blk_grown (g:=gb112) (o:=.cells #[.slice (some ad119) l0_0.length c0_0,.int .i64 a0_1] 27 (0,0)) (BL BK112) hg (Kd.R_ne HO_4.out BK112.out (by decide)));replace BK120:=AM (blk_grown (g:=gb120) (o:=.cells #[.int .i64 ((rd_T40 l0_0 x24_1).f0),.slice A119_1 ((rd_T40 l0_0 x24_1).f1).length c119_1,.slice A119_2 ((rd_T40 l0_0 x24_1).f2).length c119_2,.slice A119_3 ((rd_T40 l0_0 x24_1).f3).length c119_3] 40 (0,0)) (BL BK120) hg (Kd.R_ne HO_4.out BK120.out (by decide)));replace HO_4:=AM (hp_);replace HB:=AM ((by rw [hw];exact below_set (HB.out) GB17.out:Below w.heap.size w w24));clear hg hw hp_;have hcz25_0:=BC BK120 0 (.int .i64 ((rd_T40 l0_0 x24_1).f0)) rfl;have hcz25_1:=BC BK120 1 (.slice A119_1 ((rd_T40 l0_0 x24_1).f1).length c119_1) rfl;have hcz25_2:=BC BK120 2 (.slice A119_2 ((rd_T40 l0_0 x24_1).f2).length c119_2) rfl;have hcz25_3:=BC BK120 3 (.slice A119_3 ((rd_T40 l0_0 x24_1).f3).length c119_3) rfl;have hfz25_0:=BF BK120 0;have hfz25_1:=BF BK120 1;have hfz25_2:=BF BK120 2;have hfz25_3:=BF BK120 3))
          go_loopg [38] k1 (fun kq v38 w' => ∃ (x3_2:List (List Int)) (x38_2:Int),v38 = .int .i64 x38_2∧Aside0 (graph_order.l1 kq x3_2 y121 x5_1 x24_1 l0_0 (l0_0.length:Int) x24_1 ((rd_T40 l0_0 x24_1).f3) (((rd_T40 l0_0 x24_1).f3).length:Int) x38_2 = some r)∧Aside0 (kq≤k1)∧Aside0 (Kd.S (Kd.slice 3 (Kd.int .i64)) 38 w' w.heap.size (fun k_ => some k_≠((.slice (some ⟨go17,0,none⟩) x4_1.length co17):Value).ownBlock∧some k_≠(u5:Value).ownBlock) v114 x3_2)∧Aside0 (Kd.R (Kd.int .i64) 3 w' w.heap.size (fun k_ => some k_≠(u5:Value).ownBlock) (.slice (some ⟨go17,0,none⟩) x4_1.length co17) y121)∧Aside0 (Kd.R (Kd.int .i64) 3 w' w.heap.size (fun k_ => some k_≠((.slice (some ⟨go17,0,none⟩) x4_1.length co17):Value).ownBlock) u5 x5_1)∧Aside0 (w'.heap[gb112]? = some (.cells #[(.slice (some ad119) l0_0.length c0_0),.int .i64 a0_1] 27 (0,0)))∧Aside0 (w'.heap[gb120]? = some (.cells #[.int .i64 ((rd_T40 l0_0 x24_1).f0),(.slice A119_1 ((rd_T40 l0_0 x24_1).f1).length c119_1),(.slice A119_2 ((rd_T40 l0_0 x24_1).f2).length c119_2),(.slice A119_3 ((rd_T40 l0_0 x24_1).f3).length c119_3)] 40 (0,0)))∧Aside0 (Below w.heap.size w w'))
          case atStart => exact ⟨(x3_1),(0),QD,H',⟨Nat.le_refl _⟩,⟨by (with_reducible repeat (first | apply Kd.S_alloc | apply Kd.S_drewN | apply Kd.S_drew));exact Kd.S_mono HO_3.out (fun _ hk => ⟨hk.2,hk.1⟩)⟩,⟨RA HO_4.out⟩,⟨by (with_reducible repeat (first | apply Kd.R_alloc | apply Kd.R_drewN | apply Kd.R_drew));exact Kd.R_mono HO_5.out (fun _ hk => hk.2)⟩,⟨BL BK112⟩,⟨BL BK120⟩,⟨BB HB⟩⟩
          case round =>
           clear H';try clear c1
           try clear p1
           try clear q1
           try clear hx1
           try clear hf1
           try clear c2
           try clear c2b0
           try clear c2b1
           try clear p2
           try clear c3
           try clear c3b0
           try clear c3b1
           try clear c4
           try clear c4b0
           try clear c4b1
           try clear c6
           try clear c11
           try clear p11
           try clear q11
           try clear hx11
           try clear c13
           try clear c13b0
           try clear c14
           try clear c14b0
           try clear c15
           try clear c15b0
           try clear c16
           try clear c16b0
           try clear p17
           try clear q17
           try clear hx17
           try clear hf17
           try clear c19
           try clear hcz12_0
           try clear hcz12_1
           try clear hcz20_0
           try clear hcz20_1
           try clear hcz20_2
           try clear hcz20_3
           try clear hcz22_0
           try clear hcz22_1
           try clear hcz22_2
           try clear hcz22_3
           try clear hcz25_0
           try clear hcz25_1
           try clear hcz25_2
           try clear hcz25_3
           try clear hcz6_0
           try clear hcz6_1
           try clear hcz9_0
           try clear hcz9_1
           try clear hfz12_0
           try clear hfz12_1
           try clear hfz20_0
           try clear hfz20_1
           try clear hfz20_2
           try clear hfz20_3
           try clear hfz22_0
           try clear hfz22_1
           try clear hfz22_2
           try clear hfz22_3
           try clear hfz25_0
           try clear hfz25_1
           try clear hfz25_2
           try clear hfz25_3
           try clear hfz6_0
           try clear hfz6_1
           try clear hfz9_0
           try clear hfz9_1
           try clear hx119_0
           try clear hx119_1
           try clear hx119_2
           try clear hx119_3
           try clear hx17_0
           try clear p119
           try clear p17
           try clear p2
           try clear q119
           try clear q17
           obtain ⟨x3_2,x38_2,rfl,HA,HK2,HO_3,HO_4,HO_5,BK112,BK120,HB⟩:=hrel;have hl4_2:=(Kd.R_reads' HO_4.out).1;rw [hl4_2] at HO_4;(try simp only [hl4_2])
           (try simp only [hl4_2] at BK112)
           (try simp only [hl4_2] at BK120)
           (try simp only [hl4_2] at HO_3)
           (try simp only [hl4_2] at HO_5)
           cases gk with
           | zero => exact absurd HA.out (by simp [graph_order.l1])
           | succ k2 =>
            have H:=HA.out;clear HA;simp only [graph_order.l1] at H;by_cases c26:x38_2 < (((rd_T40 l0_0 x24_1).f3).length:Int)
            ·rw [if_pos c26] at H;have c26b0:decide (x38_2 < (((rd_T40 l0_0 x24_1).f3).length:Int)) = true:=decide_eq_true c26;clear c26;by_cases c27:0≤x38_2
             ·rw [if_pos c27] at H;have c27b0:decide (0≤x38_2) = true:=decide_eq_true c27;clear c27;by_cases c28:x38_2 < (((rd_T40 l0_0 x24_1).f3).length:Int)
              ·rw [if_pos c28] at H;have c28b0:decide (x38_2 < (((rd_T40 l0_0 x24_1).f3).length:Int)) = true:=decide_eq_true c28;clear c28;by_cases c29:0≤(rd ((rd_T40 l0_0 x24_1).f3) x38_2)
               ·rw [if_pos c29] at H;have c29b0:decide (0≤(rd ((rd_T40 l0_0 x24_1).f3) x38_2)) = true:=decide_eq_true c29;clear c29;by_cases c30:(rd ((rd_T40 l0_0 x24_1).f3) x38_2) < (x3_2.length:Int)
                ·rw [if_pos c30] at H;have c30b0:decide ((rd ((rd_T40 l0_0 x24_1).f3) x38_2) < (x3_2.length:Int)) = true:=decide_eq_true c30;clear c30;by_cases c31:(rd_L2 x3_2 (rd ((rd_T40 l0_0 x24_1).f3) x38_2)).length < 17592186044416
                 ·rw [if_pos c31] at H;have LMc31:=AM c31;clear c31;obtain ⟨y124,hy124⟩:∃ y_:List Int,y_ = ((rd_L2 x3_2 (rd ((rd_T40 l0_0 x24_1).f3) x38_2)) ++ [x24_1]):=⟨_,rfl⟩;replace H:(graph_order.l1 k2 (x3_2.set ((rd ((rd_T40 l0_0 x24_1).f3) x38_2):Int).toNat y124) y121 x5_1 x24_1 l0_0 (l0_0.length:Int) x24_1 ((rd_T40 l0_0 x24_1).f3) (((rd_T40 l0_0 x24_1).f3).length:Int) (wrap64 (x38_2+1))) = some r:=QH hy124 H
                  have Ny124:=AM hy124;clear hy124;obtain ⟨y127,hy127⟩:∃ y_:List (List Int),y_ = (x3_2.set ((rd ((rd_T40 l0_0 x24_1).f3) x38_2):Int).toNat y124):=⟨_,rfl⟩;replace H:(graph_order.l1 k2 y127 y121 x5_1 x24_1 l0_0 (l0_0.length:Int) x24_1 ((rd_T40 l0_0 x24_1).f3) (((rd_T40 l0_0 x24_1).f3).length:Int) (wrap64 (x38_2+1))) = some r:=QH hy127 H
                  have Ny127:=AM hy127;clear hy127;have H':=AM H;clear H;have p122:0≤(x38_2:Int):=OD;have q122:x38_2 < (((rd_T40 l0_0 x24_1).f3).length:Int):=OD;obtain ⟨ad122,e122,hx122_0⟩:=Kd.at_int HR119_3.out x38_2 p122 q122;cases e122
                  replace hx122_0:=CL HB hx122_0;replace p122:=eq_true p122;replace q122:=eq_true q122;obtain ⟨Ao33,co33,eo33⟩:=Kd.S_slice HO_3.out;subst eo33;have p123:0≤((rd ((rd_T40 l0_0 x24_1).f3) x38_2):Int):=OD;have q123:(rd ((rd_T40 l0_0 x24_1).f3) x38_2) < (x3_2.length:Int):=OD;obtain ⟨ad123,A123_0,c123_0,e123,hx123_0,hl123_0,hi123_0⟩:=at_L2 (Kd.S_reads' HO_3.out).2.2 (rd ((rd_T40 l0_0 x24_1).f3) x38_2) p123 q123;cases e123
                  obtain ⟨ce123,hce123,hMe123,hcc123⟩:=Kd.S_get HO_3.out [] (rd ((rd_T40 l0_0 x24_1).f3) x38_2) p123 (by first | exact q123 | exact OD | (have e_:=(Kd.S_reads' HO_3.out).1;omega));obtain ⟨ve123_0,rfl,ge123_0⟩:=hMe123;have hv123_0:=hcc123 0 _ rfl;rw [Nat.add_zero,show ((Kd.slice 3 (Kd.int .i64))).sz = 1 from rfl,Nat.mul_one] at hv123_0;replace hv123_0:=Option.some.inj (hv123_0.symm.trans hx123_0);rw [hv123_0] at ge123_0;have HL123_0:=AM (show Kd.R (Kd.int .i64) 3 _ _ _ _ (rd_L2 x3_2 (rd ((rd_T40 l0_0 x24_1).f3) x38_2)) from ge123_0);clear hv123_0 ge123_0;have HX123_0:=AM hx123_0;clear hcc123 hce123;have HR123_0:=AM hi123_0;have HC123_0:=AM hl123_0;clear hi123_0 hl123_0;replace p123:=eq_true p123;replace q123:=eq_true q123;obtain ⟨go34,co34,eo34,gb34,gl34,cl34,HG34⟩:=Kd.S_form HO_3.out (by have h_:((rd ((rd_T40 l0_0 x24_1).f3) x38_2):Int) < ((x3_2.length:Int):Int):=OD;have h2_:0≤((rd ((rd_T40 l0_0 x24_1).f3) x38_2):Int):=(OD);omega);(first | cases eo34 | (injection eo34 with ea_ en_ ec_;(first | subst ea_ | (injection ea_ with ea_;subst ea_));subst ec_;clear en_))
                  have GB34:=AM gb34;have GG34:=AM HG34;clear gb34 gl34 HG34;(first | simp only [add_plain] at hx123_0 | skip)
                  obtain ⟨oki34,ce34,hcl34,hM34,hcc34,_,_,hH34⟩:=Kd.S_elem HO_3.out [] ((rd ((rd_T40 l0_0 x24_1).f3) x38_2):Int) (OD) (by have h_:((rd ((rd_T40 l0_0 x24_1).f3) x38_2):Int) < ((x3_2.length:Int):Int):=OD;first | exact h_ | (have e_:=(Kd.S_reads' HO_3.out).1;omega) | simpa using h_);obtain ⟨ve34_0,rfl,ge34_0⟩:=hM34;have hv34:=hcc34 0 _ rfl;have hX34:=HX123_0.out;(try simp only [add_plain] at hX34)
                  (try simp only [Nat.add_zero] at hv34)
                  (try rw [show ((Kd.slice 3 (Kd.int .i64))).sz = 1 from rfl,Nat.mul_one] at hv34)
                  replace hv34:=Option.some.inj (hv34.symm.trans hX34);subst hv34;clear hX34 hcc34 hcl34;have UU34:=AM (show Kd.R (Kd.int .i64) 3 _ w.heap.size oki34 (.slice A123_0 (rd_L2 x3_2 (rd ((rd_T40 l0_0 x24_1).f3) x38_2)).length c123_0) (rd_L2 x3_2 (rd ((rd_T40 l0_0 x24_1).f3) x38_2)) from ge34_0);have HH34:=AM hH34;have HN34:=AM (Kd.S_reads' HO_3.out).1;clear hH34 ge34_0;go_wp2_with (first | ((with_reducible refine gate_builtin (b:=.append) (xs:=#[.tmp 47,.tmp 49]) rfl ?_);at_builtin;refine Kd.R_append (Kd.int .i64) (w0:=w) w.heap.size rfl (.tmp 47) (.tmp 49) 38 3 (.int .i64 0) 8 rfl Tryd.underlying38 info3 rfl (by decide) (by omega) (.slice A123_0 (rd_L2 x3_2 (rd ((rd_T40 l0_0 x24_1).f3) x38_2)).length c123_0) (rd_L2 x3_2 (rd ((rd_T40 l0_0 x24_1).f3) x38_2)) x24_1 [.int .i64 x24_1] (fun k_ => oki34 k_ ∨ ((fun k_ => some k_≠(.slice (some ⟨go17,0,none⟩) y121.length co17:Value).ownBlock∧some k_≠(u5:Value).ownBlock)) k_∧wr.heap.size≤k_) (fun _ => False) rfl rfl ?aP (fun _ hk => hk.elim) ?aF ?aO ?aB ?aS ?aL ?_;(case aP => exact rfl);(case aB => exact (BB HB));(case aF => exact (fun k_ hk => .inr ⟨⟨Kd.fresh' (Kd.R_lt (RL HO_4)) k_ hk,Kd.fresh' (Kd.R_lt (RL HO_5)) k_ hk⟩,hk⟩));(case aO => exact (by (with_reducible repeat (first | apply Kd.R_alloc | apply Kd.R_drewN | apply Kd.R_drew));exact Kd.R_mono UU34.out (fun _ hk => .inl hk)));(case aS => exact (below_size (BB HB)));(case aL => have:=LMc31.out;omega);intro v125 w35 ho hb hg hat;rw [← Ny124.out] at ho;replace HO_4:=AM (Kd.R_grown2 (RL HO_4) rfl hg (fun k_ e_ => (HL123_0.out.1 k_ e_).1.1));replace HO_5:=AM (Kd.R_grown2 (RL HO_5) rfl hg (fun k_ e_ => (HL123_0.out.1 k_ e_).1.2));replace BK112:=AM (blk_grown (g:=gb112) (o:=.cells #[.slice (some ad119) l0_0.length c0_0,.int .i64 a0_1] 27 (0,0)) (BL BK112) hg (Kd.R_ne HL123_0.out BK112.out (by decide)));replace BK120:=AM (blk_grown (g:=gb120) (o:=.cells #[.int .i64 ((rd_T40 l0_0 x24_1).f0),.slice A119_1 ((rd_T40 l0_0 x24_1).f1).length c119_1,.slice A119_2 ((rd_T40 l0_0 x24_1).f2).length c119_2,.slice (some ad122) ((rd_T40 l0_0 x24_1).f3).length c119_3] 40 (0,0)) (BL BK120) hg (Kd.R_ne HL123_0.out BK120.out (by decide)));replace HB:=AM (hb);replace HH34:=AM (Kd.H_grown (Kd.H_widen (by repeat (first | exact HH34.out | refine Kd.H_alloc ?_ _ | refine Kd.H_drewN ?_ _ | refine Kd.H_drew ?_))) hg (fun k_ e_ => .inl (UU34.out.1 k_ e_)));have HO126:=AM (ho);clear HO_3;clear UU34;clear HL123_0;clear ho hb hg hat;have p32:0≤((rd ((rd_T40 l0_0 x24_1).f3) x38_2):Int):=OD;have q32:((rd ((rd_T40 l0_0 x24_1).f3) x38_2):Int) < ((x3_2.length:Int):Int):=OD;replace p32:=eq_true p32;replace q32:=eq_true q32;obtain ⟨Ao38,co38,eo38⟩:=Kd.R_slice HO126.out;subst eo38;obtain ⟨_,_,hraw36,_,_,hcc36,_⟩:=Kd.H_raw HH34.out (OD) (by have h_:((rd ((rd_T40 l0_0 x24_1).f3) x38_2):Int) < ((x3_2.length:Int):Int):=OD;first | exact h_ | (have e_:=(HN34.out);omega) | simpa using h_);obtain ⟨_,hfr36⟩:=Kd.H_at HH34.out (OD) (by have h_:((rd ((rd_T40 l0_0 x24_1).f3) x38_2):Int) < ((x3_2.length:Int):Int):=OD;first | exact h_ | (have e_:=(HN34.out);omega) | simpa using h_);have hx36_0:=hcc36 0 _ rfl;have hf36_0:=hfr36 0;(try simp only [Nat.add_zero] at hx36_0 hf36_0);(try rw [show ((Kd.slice 3 (Kd.int .i64))).sz = 1 from rfl,Nat.mul_one] at hx36_0);(try rw [show ((Kd.slice 3 (Kd.int .i64))).sz = 1 from rfl,Nat.mul_one] at hf36_0);have HP36:=Kd.S_seg0 HH34.out (OD) (by have h_:((rd ((rd_T40 l0_0 x24_1).f3) x38_2):Int) < ((x3_2.length:Int):Int):=OD;first | exact h_ | (have e_:=(HN34.out);omega) | simpa using h_) (seg:=[.slice Ao38 y124.length co38]) (j:=0) (show 1≤1 from by decide) (x':=y124) (Kd.M_row HO126.out) (fun _ hk => hk);(try simp only [show ((Kd.slice 3 (Kd.int .i64))).sz = 1 from rfl,Nat.mul_one,Nat.add_zero] at HP36);clear hcc36 hfr36) | ((with_reducible refine gate_store (t:=38) (p:=51) rfl ?_);refine store_event (t:=38) (p:=51) (v:=?vo_w37) (w1:=(w35.setCell ⟨go34,((rd ((rd_T40 l0_0 x24_1).f3) x38_2):Int).toNat,none⟩ (.slice Ao38 y124.length co38))) ?hg ?ho ?hn ?hr ?_;(case ho => rfl);(case hg => rfl);(case hn => rfl);(case hr => first | (go_simp;done) | (go_simp;rfl));intro w37 hw;have hg:w35.grownBy w37 (some go34):=(by rw [hw];exact HP36.2);have hp_:Kd.S (Kd.slice 3 (Kd.int .i64)) 38 w37 w.heap.size (fun k_ => some k_≠(.slice (some ⟨go17,0,none⟩) y121.length co17:Value).ownBlock∧some k_≠(u5:Value).ownBlock) (.slice (some ⟨go34,0,none⟩) x3_2.length co33) y127:=(by rw [hw,Ny127.out];exact HP36.1);clear HP36;replace HO_4:=AM (Kd.R_over' (v:=(.slice (some ⟨go34,0,none⟩) x3_2.length co33)) (RL HO_4) (Kd.R_typed hraw36) (by decide) hg);replace HO_5:=AM (Kd.R_over' (v:=(.slice (some ⟨go34,0,none⟩) x3_2.length co33)) (RL HO_5) (Kd.R_typed hraw36) (by decide) hg);replace BK112:=AM (blk_grown (g:=gb112) (o:=.cells #[.slice (some ad119) l0_0.length c0_0,.int .i64 a0_1] 27 (0,0)) (BL BK112) hg (Kd.R_ne hraw36 BK112.out (by decide)));replace BK120:=AM (blk_grown (g:=gb120) (o:=.cells #[.int .i64 ((rd_T40 l0_0 x24_1).f0),.slice A119_1 ((rd_T40 l0_0 x24_1).f1).length c119_1,.slice A119_2 ((rd_T40 l0_0 x24_1).f2).length c119_2,.slice (some ad122) ((rd_T40 l0_0 x24_1).f3).length c119_3] 40 (0,0)) (BL BK120) hg (Kd.R_ne hraw36 BK120.out (by decide)));replace HB:=AM ((by rw [hw];exact below_set HB.out GB34.out:Below w.heap.size w w37));have HO_3:=AM (hp_);clear HO126;clear HH34;clear hg hw hp_ hraw36))
                  (try simp only [← hl4_2])
                  go_roundg k2
                  case measure => have:=HK1.out;have:=HK2.out;omega
                  case rel => exact ⟨(y127),(wrap64 (x38_2+1)),QD,H',⟨by have:=HK1.out;have:=HK2.out;omega⟩,⟨by (try simp only [hl4_2]);(with_reducible repeat (first | apply Kd.S_alloc | apply Kd.S_drewN | apply Kd.S_drew));exact HO_3.out⟩,⟨by (try simp only [hl4_2]);(with_reducible repeat (first | apply Kd.R_alloc | apply Kd.R_drewN | apply Kd.R_drew));exact HO_4.out⟩,⟨by (try simp only [hl4_2]);(with_reducible repeat (first | apply Kd.R_alloc | apply Kd.R_drewN | apply Kd.R_drew));exact HO_5.out⟩,⟨by (try simp only [hl4_2]);exact BL BK112⟩,⟨by (try simp only [hl4_2]);exact BL BK120⟩,⟨BB HB⟩⟩
                 ·rw [if_neg c31] at H;exact absurd H (by simp)
                ·rw [if_neg c30] at H;exact absurd H (by simp)
               ·rw [if_neg c29] at H;exact absurd H (by simp)
              ·rw [if_neg c28] at H;exact absurd H (by simp)
             ·rw [if_neg c27] at H;exact absurd H (by simp)
            ·rw [if_neg c26] at H;have c26b0:decide (x38_2 < (((rd_T40 l0_0 x24_1).f3).length:Int)) = false:=decide_eq_false c26;clear c26;by_cases c39:0≤x24_1
             ·rw [if_pos c39] at H;have c39b0:decide (0≤x24_1) = true:=decide_eq_true c39;clear c39;by_cases c40:x24_1 < (y121.length:Int)
              ·rw [if_pos c40] at H;have c40b0:decide (x24_1 < (y121.length:Int)) = true:=decide_eq_true c40;clear c40;by_cases c41:(rd y121 x24_1) = 0
               ·rw [if_pos c41] at H;have c41b0:((rd y121 x24_1) == 0) = true:=beq_iff_eq.mpr c41;have c41b1:((rd y121 x24_1) != 0) = false:=bne_eq_false_iff_eq.mpr c41;clear c41;by_cases c42:x5_1.length < 17592186044416
                ·rw [if_pos c42] at H;have LMc42:=AM c42;clear c42;obtain ⟨y129,hy129⟩:∃ y_:List Int,y_ = (x5_1 ++ [x24_1]):=⟨_,rfl⟩;replace H:(graph_order.l0 k2 x3_2 y121 y129 l0_0 (l0_0.length:Int) (wrap64 (x24_1+1))) = some r:=QH hy129 H
                 have Ny129:=AM hy129;clear hy129;have H':=AM H;clear H;have p128:0≤(x24_1:Int):=OD;have q128:x24_1 < (y121.length:Int):=OD;obtain ⟨ad128,e128,hx128_0⟩:=Kd.at_int (Kd.R_reads' HO_4.out).2.2 x24_1 p128 q128;obtain rfl:(⟨go17,0,none⟩:Addr) = ad128:=(by injection e128);(first | simp only [add_plain] at hx128_0 | simp only [add_at] at hx128_0 | simp only [Addr.add,Nat.zero_add] at hx128_0 | skip)
                 replace p128:=eq_true p128;replace q128:=eq_true q128;go_wp2_with (first | ((with_reducible refine gate_builtin (b:=.append) (xs:=#[.tmp 58,.tmp 60]) rfl ?_);at_builtin;refine Kd.R_append (Kd.int .i64) (w0:=w) w.heap.size rfl (.tmp 58) (.tmp 60) 38 3 (.int .i64 0) 8 rfl Tryd.underlying38 info3 rfl (by decide) (by omega) u5 x5_1 x24_1 [.int .i64 x24_1] (fun k_ => some k_≠(.slice (some ⟨go17,0,none⟩) y121.length co17:Value).ownBlock) (fun _ => False) rfl rfl ?aP (fun _ hk => hk.elim) ?aF ?aO ?aB ?aS ?aL ?_;(case aP => exact rfl);(case aB => exact (BB HB));(case aF => exact (fun k_ hk => Kd.fresh' (Kd.R_lt (RL HO_4)) k_ hk));(case aO => exact (RL HO_5));(case aS => exact (below_size (BB HB)));(case aL => have:=LMc42.out;omega);intro v130 w43 ho hb hg hat;rw [← Ny129.out] at ho;replace HO_3:=AM (Kd.S_after (ok:=(fun k_ => some k_≠(.slice (some ⟨go17,0,none⟩) y121.length co17:Value).ownBlock)) (SL HO_3) hg hat);replace HO_4:=AM (Kd.R_after (ok:=(fun _ => True)) (by (with_reducible repeat (first | apply Kd.R_alloc | apply Kd.R_drewN | apply Kd.R_drew));exact Kd.R_mono HO_4.out (fun _ hk => ⟨trivial,hk⟩)) hg hat);replace BK112:=AM (blk_grown (g:=gb112) (o:=.cells #[.slice (some ad119) l0_0.length c0_0,.int .i64 a0_1] 27 (0,0)) (BL BK112) hg (Kd.R_ne HO_5.out BK112.out (by decide)));replace BK120:=AM (blk_grown (g:=gb120) (o:=.cells #[.int .i64 ((rd_T40 l0_0 x24_1).f0),.slice A119_1 ((rd_T40 l0_0 x24_1).f1).length c119_1,.slice A119_2 ((rd_T40 l0_0 x24_1).f2).length c119_2,.slice A119_3 ((rd_T40 l0_0 x24_1).f3).length c119_3] 40 (0,0)) (BL BK120) hg (Kd.R_ne HO_5.out BK120.out (by decide)));replace HB:=AM (hb);have HO131:=AM (ho);clear HO_5;clear ho hb hg hat))
                 (try simp only [← hl4_2])
                 go_roundg k2
                 case measure => have:=HK1.out;have:=HK2.out;omega
                 case rel => exact ⟨(x3_2),(y121),(y129),(wrap64 (x24_1+1)),QD,H',⟨by have:=HK1.out;have:=HK2.out;omega⟩,⟨by (try simp only [hl4_2]);(with_reducible repeat (first | apply Kd.S_alloc | apply Kd.S_drewN | apply Kd.S_drew));exact HO_3.out⟩,⟨by (try simp only [hl4_2]);(with_reducible repeat (first | apply Kd.R_alloc | apply Kd.R_drewN | apply Kd.R_drew));exact Kd.R_mono HO_4.out (fun _ hk => hk.2)⟩,⟨by (try simp only [hl4_2]);(with_reducible repeat (first | apply Kd.R_alloc | apply Kd.R_drewN | apply Kd.R_drew));exact HO131.out⟩,⟨by (try simp only [hl4_2]);exact BL BK112⟩,⟨BB HB⟩⟩
                ·rw [if_neg c42] at H;exact absurd H (by simp)
               ·rw [if_neg c41] at H;have c41b0:((rd y121 x24_1) == 0) = false:=beq_eq_false_iff_ne.mpr c41;have c41b1:((rd y121 x24_1) != 0) = true:=bne_iff_ne.mpr c41;have H':=AM H;clear H;have p128:0≤(x24_1:Int):=OD;have q128:x24_1 < (y121.length:Int):=OD;obtain ⟨ad128,e128,hx128_0⟩:=Kd.at_int (Kd.R_reads' HO_4.out).2.2 x24_1 p128 q128;obtain rfl:(⟨go17,0,none⟩:Addr) = ad128:=(by injection e128);(first | simp only [add_plain] at hx128_0 | simp only [add_at] at hx128_0 | simp only [Addr.add,Nat.zero_add] at hx128_0 | skip)
                replace p128:=eq_true p128;replace q128:=eq_true q128;go_wp2
                (try simp only [← hl4_2])
                go_roundg k2
                case measure => have:=HK1.out;have:=HK2.out;omega
                case rel => exact ⟨(x3_2),(y121),(x5_1),(wrap64 (x24_1+1)),QD,H',⟨by have:=HK1.out;have:=HK2.out;omega⟩,⟨by (try simp only [hl4_2]);(with_reducible repeat (first | apply Kd.S_alloc | apply Kd.S_drewN | apply Kd.S_drew));exact HO_3.out⟩,⟨by (try simp only [hl4_2]);(with_reducible repeat (first | apply Kd.R_alloc | apply Kd.R_drewN | apply Kd.R_drew));exact HO_4.out⟩,⟨by (try simp only [hl4_2]);(with_reducible repeat (first | apply Kd.R_alloc | apply Kd.R_drewN | apply Kd.R_drew));exact HO_5.out⟩,⟨by (try simp only [hl4_2]);exact BL BK112⟩,⟨BB HB⟩⟩
              ·rw [if_neg c40] at H;exact absurd H (by simp)
             ·rw [if_neg c39] at H;exact absurd H (by simp)
         ·rw [if_neg c16] at H;exact absurd H (by simp)
        ·rw [if_neg c15] at H;exact absurd H (by simp)
       ·rw [if_neg c14] at H;exact absurd H (by simp)
      ·rw [if_neg c13] at H;have c13b0:decide (x24_1 < (l0_0.length:Int)) = false:=decide_eq_false c13;clear c13;have H':=AM H;clear H;go_wp2
       go_loopg [5,10] k1 (fun kq v5 v10 w' => ∃ (x4_2:List Int) (x5_2:List Int) (x10_2:Int),v10 = .int .i64 x10_2∧Aside0 (graph_order.l2 kq x3_1 x4_2 x5_2 x10_2 = some r)∧Aside0 (kq≤k1)∧Aside0 (Kd.S (Kd.slice 3 (Kd.int .i64)) 38 w' w.heap.size (fun k_ => some k_≠(v117:Value).ownBlock∧some k_≠(v5:Value).ownBlock) v114 x3_1)∧Aside0 (Kd.R (Kd.int .i64) 3 w' w.heap.size (fun k_ => some k_≠(v5:Value).ownBlock) v117 x4_2)∧Aside0 (Kd.R (Kd.int .i64) 3 w' w.heap.size (fun k_ => some k_≠(v117:Value).ownBlock) v5 x5_2)∧Aside0 (w'.heap[gb112]? = some (.cells #[(.slice A0_0 l0_0.length c0_0),.int .i64 a0_1] 27 (0,0)))∧Aside0 (Below w.heap.size w w'))
       case atStart => exact ⟨(x4_1),(x5_1),(0),QD,H',⟨Nat.le_refl _⟩,⟨by (with_reducible repeat (first | apply Kd.S_alloc | apply Kd.S_drewN | apply Kd.S_drew));exact HO_3.out⟩,⟨RA HO_4.out⟩,⟨RA HO_5.out⟩,⟨BL BK112⟩,⟨BB HB⟩⟩
       case round =>
        clear H';try clear c1
        try clear p1
        try clear q1
        try clear hx1
        try clear hf1
        try clear c2
        try clear c2b0
        try clear c2b1
        try clear p2
        try clear c3
        try clear c3b0
        try clear c3b1
        try clear p3
        try clear q3
        try clear hx3
        try clear hf3
        try clear c4
        try clear c4b0
        try clear c4b1
        try clear c6
        try clear p6
        try clear c11
        try clear p11
        try clear q11
        try clear hx11
        try clear c12
        try clear p12
        try clear q12
        try clear hx12
        try clear c13
        try clear c13b0
        try clear c14
        try clear c14b0
        try clear c15
        try clear c15b0
        try clear c16
        try clear c16b0
        try clear p17
        try clear q17
        try clear hx17
        try clear hf17
        try clear c19
        try clear c26
        try clear c26b0
        try clear c27
        try clear c27b0
        try clear c28
        try clear c28b0
        try clear c29
        try clear c29b0
        try clear c30
        try clear c30b0
        try clear c31
        try clear p32
        try clear q32
        try clear c34
        try clear c36
        try clear hx36
        try clear hf36
        try clear c39
        try clear c39b0
        try clear c40
        try clear c40b0
        try clear c41
        try clear c41b0
        try clear c41b1
        try clear c42
        try clear hcz12_0
        try clear hcz12_1
        try clear hcz20_0
        try clear hcz20_1
        try clear hcz20_2
        try clear hcz20_3
        try clear hcz22_0
        try clear hcz22_1
        try clear hcz22_2
        try clear hcz22_3
        try clear hcz25_0
        try clear hcz25_1
        try clear hcz25_2
        try clear hcz25_3
        try clear hcz6_0
        try clear hcz6_1
        try clear hcz9_0
        try clear hcz9_1
        try clear hfz12_0
        try clear hfz12_1
        try clear hfz20_0
        try clear hfz20_1
        try clear hfz20_2
        try clear hfz20_3
        try clear hfz22_0
        try clear hfz22_1
        try clear hfz22_2
        try clear hfz22_3
        try clear hfz25_0
        try clear hfz25_1
        try clear hfz25_2
        try clear hfz25_3
        try clear hfz6_0
        try clear hfz6_1
        try clear hfz9_0
        try clear hfz9_1
        try clear hx119_0
        try clear hx119_1
        try clear hx119_2
        try clear hx119_3
        try clear hx122_0
        try clear hx123_0
        try clear hx128_0
        try clear hx17_0
        try clear hx36_0
        try clear p1
        try clear p11
        try clear p119
        try clear p122
        try clear p123
        try clear p128
        try clear p17
        try clear p2
        try clear p32
        try clear q1
        try clear q11
        try clear q119
        try clear q122
        try clear q123
        try clear q128
        try clear q17
        try clear q32
        obtain ⟨x4_2,x5_2,x10_2,rfl,HA,HK2,HO_3,HO_4,HO_5,BK112,HB⟩:=hrel;cases gk with
        | zero => exact absurd HA.out (by simp [graph_order.l2])
        | succ k2 =>
         have H:=HA.out;clear HA;simp only [graph_order.l2] at H;by_cases c44:x10_2 < (x5_2.length:Int)
         ·rw [if_pos c44] at H;have c44b0:decide (x10_2 < (x5_2.length:Int)) = true:=decide_eq_true c44;clear c44;by_cases c45:0≤x10_2
          ·rw [if_pos c45] at H;have c45b0:decide (0≤x10_2) = true:=decide_eq_true c45;clear c45;by_cases c46:0≤(rd x5_2 x10_2)
           ·rw [if_pos c46] at H;have c46b0:decide (0≤(rd x5_2 x10_2)) = true:=decide_eq_true c46;clear c46;by_cases c47:(rd x5_2 x10_2) < (x3_1.length:Int)
            ·rw [if_pos c47] at H;have c47b0:decide ((rd x5_2 x10_2) < (x3_1.length:Int)) = true:=decide_eq_true c47;clear c47;have H':=AM H;clear H;obtain ⟨Ao48,co48,eo48⟩:=Kd.R_slice HO_5.out;subst eo48;have p132:0≤(x10_2:Int):=OD;have q132:x10_2 < (x5_2.length:Int):=OD;obtain ⟨ad132,e132,hx132_0⟩:=Kd.at_int (Kd.R_reads' HO_5.out).2.2 x10_2 p132 q132;cases e132
             replace p132:=eq_true p132;replace q132:=eq_true q132;obtain ⟨Ao49,co49,eo49⟩:=Kd.S_slice HO_3.out;subst eo49;have p133:0≤((rd x5_2 x10_2):Int):=OD;have q133:(rd x5_2 x10_2) < (x3_1.length:Int):=OD;obtain ⟨ad133,A133_0,c133_0,e133,hx133_0,hl133_0,hi133_0⟩:=at_L2 (Kd.S_reads' HO_3.out).2.2 (rd x5_2 x10_2) p133 q133;cases e133
             obtain ⟨ce133,hce133,hMe133,hcc133⟩:=Kd.S_get HO_3.out [] (rd x5_2 x10_2) p133 (by first | exact q133 | exact OD | (have e_:=(Kd.S_reads' HO_3.out).1;omega));obtain ⟨ve133_0,rfl,ge133_0⟩:=hMe133;have hv133_0:=hcc133 0 _ rfl;rw [Nat.add_zero,show ((Kd.slice 3 (Kd.int .i64))).sz = 1 from rfl,Nat.mul_one] at hv133_0;replace hv133_0:=Option.some.inj (hv133_0.symm.trans hx133_0);rw [hv133_0] at ge133_0;have HL133_0:=AM (show Kd.R (Kd.int .i64) 3 _ _ _ _ (rd_L2 x3_1 (rd x5_2 x10_2)) from ge133_0);clear hv133_0 ge133_0;have HX133_0:=AM hx133_0;clear hcc133 hce133;have HR133_0:=AM hi133_0;have HC133_0:=AM hl133_0;clear hi133_0 hl133_0;replace p133:=eq_true p133;replace q133:=eq_true q133;go_wp2
             go_loopg [5,77] k2 (fun kq v5 v77 w' => ∃ (x4_3:List Int) (x5_3:List Int) (x77_3:Int),v77 = .int .i64 x77_3∧Aside0 (graph_order.l3 kq x3_1 x4_3 x5_3 x10_2 (rd_L2 x3_1 (rd x5_2 x10_2)) ((rd_L2 x3_1 (rd x5_2 x10_2)).length:Int) x77_3 = some r)∧Aside0 (kq≤k2)∧Aside0 (Kd.S (Kd.slice 3 (Kd.int .i64)) 38 w' w.heap.size (fun k_ => some k_≠(v117:Value).ownBlock∧some k_≠(v5:Value).ownBlock) (.slice (some ad133) x3_1.length co49) x3_1)∧Aside0 (Kd.R (Kd.int .i64) 3 w' w.heap.size (fun k_ => some k_≠(v5:Value).ownBlock) v117 x4_3)∧Aside0 (Kd.R (Kd.int .i64) 3 w' w.heap.size (fun k_ => some k_≠(v117:Value).ownBlock) v5 x5_3)∧Aside0 (w'.heap[gb112]? = some (.cells #[(.slice A0_0 l0_0.length c0_0),.int .i64 a0_1] 27 (0,0)))∧Aside0 (Below w.heap.size w w')∧Aside0 (Kd.R (Kd.int .i64) 3 w' w.heap.size (fun k_ => some k_≠(v117:Value).ownBlock∧some k_≠(v5:Value).ownBlock) (.slice A133_0 (rd_L2 x3_1 (rd x5_2 x10_2)).length c133_0) (rd_L2 x3_1 (rd x5_2 x10_2))))
             case atStart => exact ⟨(x4_2),(x5_2),(0),QD,H',⟨Nat.le_refl _⟩,⟨by (with_reducible repeat (first | apply Kd.S_alloc | apply Kd.S_drewN | apply Kd.S_drew));exact HO_3.out⟩,⟨RA HO_4.out⟩,⟨RA HO_5.out⟩,⟨BL BK112⟩,⟨BB HB⟩,⟨by (with_reducible repeat (first | apply Kd.R_alloc | apply Kd.R_drewN | apply Kd.R_drew));exact Kd.R_mono HL133_0.out (fun _ hk => hk.1)⟩⟩
             case round =>
              clear H';try clear c1
              try clear p1
              try clear q1
              try clear hx1
              try clear hf1
              try clear c2
              try clear c2b0
              try clear c2b1
              try clear p2
              try clear c3
              try clear c3b0
              try clear c3b1
              try clear p3
              try clear q3
              try clear hx3
              try clear hf3
              try clear c4
              try clear c4b0
              try clear c4b1
              try clear c6
              try clear p6
              try clear c11
              try clear p11
              try clear q11
              try clear hx11
              try clear c12
              try clear p12
              try clear q12
              try clear hx12
              try clear c13
              try clear c13b0
              try clear p13
              try clear q13
              try clear hx13
              try clear c14
              try clear c14b0
              try clear c15
              try clear c15b0
              try clear c16
              try clear c16b0
              try clear p17
              try clear q17
              try clear hx17
              try clear hf17
              try clear c19
              try clear c26
              try clear c26b0
              try clear c27
              try clear c27b0
              try clear c28
              try clear c28b0
              try clear c29
              try clear c29b0
              try clear c30
              try clear c30b0
              try clear c31
              try clear p32
              try clear q32
              try clear c34
              try clear c36
              try clear hx36
              try clear hf36
              try clear c39
              try clear c39b0
              try clear c40
              try clear c40b0
              try clear c41
              try clear c41b0
              try clear c41b1
              try clear c42
              try clear c44
              try clear c44b0
              try clear c45
              try clear c45b0
              try clear c46
              try clear c46b0
              try clear c47
              try clear c47b0
              try clear hcz12_0
              try clear hcz12_1
              try clear hcz20_0
              try clear hcz20_1
              try clear hcz20_2
              try clear hcz20_3
              try clear hcz22_0
              try clear hcz22_1
              try clear hcz22_2
              try clear hcz22_3
              try clear hcz25_0
              try clear hcz25_1
              try clear hcz25_2
              try clear hcz25_3
              try clear hcz6_0
              try clear hcz6_1
              try clear hcz9_0
              try clear hcz9_1
              try clear hfz12_0
              try clear hfz12_1
              try clear hfz20_0
              try clear hfz20_1
              try clear hfz20_2
              try clear hfz20_3
              try clear hfz22_0
              try clear hfz22_1
              try clear hfz22_2
              try clear hfz22_3
              try clear hfz25_0
              try clear hfz25_1
              try clear hfz25_2
              try clear hfz25_3
              try clear hfz6_0
              try clear hfz6_1
              try clear hfz9_0
              try clear hfz9_1
              try clear hx119_0
              try clear hx119_1
              try clear hx119_2
              try clear hx119_3
              try clear hx122_0
              try clear hx123_0
              try clear hx128_0
              try clear hx132_0
              try clear hx133_0
              try clear hx17_0
              try clear hx36_0
              try clear p1
              try clear p11
              try clear p119
              try clear p12
              try clear p122
              try clear p123
              try clear p128
              try clear p132
              try clear p133
              try clear p17
              try clear p2
              try clear p3
              try clear p32
              try clear p6
              try clear q1
              try clear q11
              try clear q119
              try clear q12
              try clear q122
              try clear q123
              try clear q128
              try clear q132
              try clear q133
              try clear q17
              try clear q3
              try clear q32
              obtain ⟨x4_3,x5_3,x77_3,rfl,HA,HK3,HO_3,HO_4,HO_5,BK112,HB,HLx⟩:=hrel;cases gk with
              | zero => exact absurd HA.out (by simp [graph_order.l3])
              | succ k3 =>
               have H:=HA.out;clear HA;simp only [graph_order.l3] at H;by_cases c50:x77_3 < ((rd_L2 x3_1 (rd x5_2 x10_2)).length:Int)
               ·rw [if_pos c50] at H;have c50b0:decide (x77_3 < ((rd_L2 x3_1 (rd x5_2 x10_2)).length:Int)) = true:=decide_eq_true c50;clear c50;by_cases c51:0≤x77_3
                ·rw [if_pos c51] at H;have c51b0:decide (0≤x77_3) = true:=decide_eq_true c51;clear c51;by_cases c52:x77_3 < ((rd_L2 x3_1 (rd x5_2 x10_2)).length:Int)
                 ·rw [if_pos c52] at H;have c52b0:decide (x77_3 < ((rd_L2 x3_1 (rd x5_2 x10_2)).length:Int)) = true:=decide_eq_true c52;clear c52;by_cases c53:0≤(rd (rd_L2 x3_1 (rd x5_2 x10_2)) x77_3)
                  ·rw [if_pos c53] at H;have c53b0:decide (0≤(rd (rd_L2 x3_1 (rd x5_2 x10_2)) x77_3)) = true:=decide_eq_true c53;clear c53;by_cases c54:(rd (rd_L2 x3_1 (rd x5_2 x10_2)) x77_3) < (x4_3.length:Int)
                   ·rw [if_pos c54] at H;have c54b0:decide ((rd (rd_L2 x3_1 (rd x5_2 x10_2)) x77_3) < (x4_3.length:Int)) = true:=decide_eq_true c54;clear c54;obtain ⟨y136,hy136⟩:∃ y_:List Int,y_ = (x4_3.set ((rd (rd_L2 x3_1 (rd x5_2 x10_2)) x77_3):Int).toNat (wrap64 ((rd x4_3 (rd (rd_L2 x3_1 (rd x5_2 x10_2)) x77_3)) - 1))):=⟨_,rfl⟩;replace H:(if (rd y136 (rd (rd_L2 x3_1 (rd x5_2 x10_2)) x77_3)) = 0 then (if x5_3.length < 17592186044416 then (graph_order.l3 k3 x3_1 y136 (x5_3 ++ [rd (rd_L2 x3_1 (rd x5_2 x10_2)) x77_3]) x10_2 (rd_L2 x3_1 (rd x5_2 x10_2)) ((rd_L2 x3_1 (rd x5_2 x10_2)).length:Int) (wrap64 (x77_3+1))) else (none)) else (graph_order.l3 k3 x3_1 y136 x5_3 x10_2 (rd_L2 x3_1 (rd x5_2 x10_2)) ((rd_L2 x3_1 (rd x5_2 x10_2)).length:Int) (wrap64 (x77_3+1)))) = some r:=QH hy136 H
                    have Ny136:=AM hy136;clear hy136;by_cases c56:(rd y136 (rd (rd_L2 x3_1 (rd x5_2 x10_2)) x77_3)) = 0
                    ·rw [if_pos c56] at H;have c56b0:((rd y136 (rd (rd_L2 x3_1 (rd x5_2 x10_2)) x77_3)) == 0) = true:=beq_iff_eq.mpr c56;have c56b1:((rd y136 (rd (rd_L2 x3_1 (rd x5_2 x10_2)) x77_3)) != 0) = false:=bne_eq_false_iff_eq.mpr c56;clear c56;by_cases c57:x5_3.length < 17592186044416
                     ·rw [if_pos c57] at H;have LMc57:=AM c57;clear c57;obtain ⟨y138,hy138⟩:∃ y_:List Int,y_ = (x5_3 ++ [rd (rd_L2 x3_1 (rd x5_2 x10_2)) x77_3]):=⟨_,rfl⟩;replace H:(graph_order.l3 k3 x3_1 y136 y138 x10_2 (rd_L2 x3_1 (rd x5_2 x10_2)) ((rd_L2 x3_1 (rd x5_2 x10_2)).length:Int) (wrap64 (x77_3+1))) = some r:=QH hy138 H
                      have Ny138:=AM hy138;clear hy138;have H':=AM H;clear H;have p134:0≤(x77_3:Int):=OD;have q134:x77_3 < ((rd_L2 x3_1 (rd x5_2 x10_2)).length:Int):=OD;obtain ⟨ad134,e134,hx134_0⟩:=Kd.at_int (Kd.R_reads' HLx.out).2.2 x77_3 p134 q134;cases e134
                      replace p134:=eq_true p134;replace q134:=eq_true q134;obtain ⟨Ao58,co58,eo58⟩:=Kd.R_slice HO_4.out;subst eo58;have p135:0≤((rd (rd_L2 x3_1 (rd x5_2 x10_2)) x77_3):Int):=OD;have q135:(rd (rd_L2 x3_1 (rd x5_2 x10_2)) x77_3) < (x4_3.length:Int):=OD;obtain ⟨ad135,e135,hx135_0⟩:=Kd.at_int (Kd.R_reads' HO_4.out).2.2 (rd (rd_L2 x3_1 (rd x5_2 x10_2)) x77_3) p135 q135;cases e135
                      replace p135:=eq_true p135;replace q135:=eq_true q135;have p55:0≤((rd (rd_L2 x3_1 (rd x5_2 x10_2)) x77_3):Int):=OD;have q55:((rd (rd_L2 x3_1 (rd x5_2 x10_2)) x77_3):Int) < ((x4_3.length:Int):Int):=OD;obtain ⟨go55,co55,eo55,gb55,gl55,cl55,HG55⟩:=Kd.R_form HO_4.out (by omega);(first | cases eo55 | (injection eo55 with ea_ en_ ec_;(first | subst ea_ | (injection ea_ with ea_;subst ea_));subst ec_;clear en_))
                      have GB55:=AM gb55;have GG55:=AM HG55;clear gb55 gl55 HG55;(first | simp only [add_plain] at hx135_0 | skip)
                      obtain ⟨hx55_0,hf55_0⟩:=Kd.R_celln 0 HO_4.out ((rd (rd_L2 x3_1 (rd x5_2 x10_2)) x77_3):Int) p55 q55;replace p55:=eq_true p55;replace q55:=eq_true q55;have HP59:=Kd.R_putg HO_4.out ((rd (rd_L2 x3_1 (rd x5_2 x10_2)) x77_3):Int) (wrap64 ((rd x4_3 (rd (rd_L2 x3_1 (rd x5_2 x10_2)) x77_3)) - 1));go_wp2_with (first | ((with_reducible refine gate_store (t:=3) (p:=86) rfl ?_);refine store_event (t:=3) (p:=86) (v:=?vo_w60) (w1:=(wr.setCell ⟨go55,((rd (rd_L2 x3_1 (rd x5_2 x10_2)) x77_3):Int).toNat,none⟩ (.int .i64 (wrap64 ((rd x4_3 (rd (rd_L2 x3_1 (rd x5_2 x10_2)) x77_3)) - 1))))) ?hg ?ho ?hn ?hr ?_;(case ho => rfl);(case hg => rfl);(case hn => rfl);(case hr => first | (go_simp;done) | (go_simp;rfl));intro w60 hw;have hg:wr.grownBy w60 (some go55):=(by rw [hw];exact HP59.2);have hp_:Kd.R (Kd.int .i64) 3 w60 w.heap.size (fun k_ => some k_≠(u5:Value).ownBlock) (.slice (some ⟨go55,0,none⟩) x4_3.length co58) y136:=(by rw [hw,Ny136.out];exact HP59.1);clear HP59;have nx_:=AM (Kd.R_after (v:=(.slice (some ⟨go55,0,none⟩) x4_3.length co58)) (v1:=(.slice (some ⟨go55,0,none⟩) x4_3.length co58)) (ok:=(fun k_ => some k_≠(u5:Value).ownBlock)) (by (with_reducible repeat (first | apply Kd.R_alloc | apply Kd.R_drewN | apply Kd.R_drew));exact Kd.R_mono HLx.out (fun _ hk => ⟨hk.2,hk.1⟩)) hg (.inl rfl));replace HO_3:=AM (Kd.S_after (v:=(.slice (some ⟨go55,0,none⟩) x4_3.length co58)) (v1:=(.slice (some ⟨go55,0,none⟩) x4_3.length co58)) (ok:=(fun k_ => some k_≠(u5:Value).ownBlock)) (by (with_reducible repeat (first | apply Kd.S_alloc | apply Kd.S_drewN | apply Kd.S_drew));exact Kd.S_mono HO_3.out (fun _ hk => ⟨hk.2,hk.1⟩)) hg (.inl rfl));replace HO_5:=AM (Kd.R_after (v:=(.slice (some ⟨go55,0,none⟩) x4_3.length co58)) (v1:=(.slice (some ⟨go55,0,none⟩) x4_3.length co58)) (ok:=(fun _ => True)) (by (with_reducible repeat (first | apply Kd.R_alloc | apply Kd.R_drewN | apply Kd.R_drew));exact Kd.R_mono HO_5.out (fun _ hk => ⟨trivial,hk⟩)) hg (.inl rfl));replace BK112:=AM (blk_grown (g:=gb112) (o:=.cells #[.slice A0_0 l0_0.length c0_0,.int .i64 a0_1] 27 (0,0)) (BL BK112) hg (Kd.R_ne HO_4.out BK112.out (by decide)));replace HO_4:=AM (hp_);replace HB:=AM ((by rw [hw];exact below_set (HB.out) GB55.out:Below w.heap.size w w60));clear HLx;have HLx:=nx_;clear nx_;clear hg hw hp_;have p137:0≤((rd (rd_L2 x3_1 (rd x5_2 x10_2)) x77_3):Int):=OD;have q137:(rd (rd_L2 x3_1 (rd x5_2 x10_2)) x77_3) < (y136.length:Int):=(by have h_:((rd (rd_L2 x3_1 (rd x5_2 x10_2)) x77_3):Int) < ((x4_3.length:Int):Int):=OD;first | (have e_:=(Kd.R_reads' HO_4.out).1;omega) | simpa only [Ny136.out,List.length_set] using h_);have ql137:(((rd (rd_L2 x3_1 (rd x5_2 x10_2)) x77_3):Int) < ((x4_3.length:Int):Int)) = True:=eq_true (OD);obtain ⟨ad137,e137,hx137_0⟩:=Kd.at_int (Kd.R_reads' HO_4.out).2.2 (rd (rd_L2 x3_1 (rd x5_2 x10_2)) x77_3) p137 q137;obtain rfl:(⟨go55,0,none⟩:Addr) = ad137:=(by injection e137);(first | simp only [add_plain] at hx137_0 | simp only [add_at] at hx137_0 | simp only [Addr.add,Nat.zero_add] at hx137_0 | skip);replace p137:=eq_true p137;replace q137:=eq_true q137) | ((with_reducible refine gate_builtin (b:=.append) (xs:=#[.tmp 92,.tmp 94]) rfl ?_);at_builtin;refine Kd.R_append (Kd.int .i64) (w0:=w) w.heap.size rfl (.tmp 92) (.tmp 94) 38 3 (.int .i64 0) 8 rfl Tryd.underlying38 info3 rfl (by decide) (by omega) u5 x5_3 (rd (rd_L2 x3_1 (rd x5_2 x10_2)) x77_3) [.int .i64 (rd (rd_L2 x3_1 (rd x5_2 x10_2)) x77_3)] (fun k_ => some k_≠(.slice (some ⟨go55,0,none⟩) x4_3.length co58:Value).ownBlock) (fun _ => False) rfl rfl ?aP (fun _ hk => hk.elim) ?aF ?aO ?aB ?aS ?aL ?_;(case aP => exact rfl);(case aB => exact (BB HB));(case aF => exact (fun k_ hk => Kd.fresh' (Kd.R_lt (RL HO_4)) k_ hk));(case aO => exact (by (with_reducible repeat (first | apply Kd.R_alloc | apply Kd.R_drewN | apply Kd.R_drew));exact Kd.R_mono HO_5.out (fun _ hk => hk.2)));(case aS => exact (below_size (BB HB)));(case aL => have:=LMc57.out;omega);intro v139 w61 ho hb hg hat;rw [← Ny138.out] at ho;have nx_:=AM (Kd.R_after (ok:=(fun k_ => some k_≠(.slice (some ⟨go55,0,none⟩) x4_3.length co58:Value).ownBlock)) (by (with_reducible repeat (first | apply Kd.R_alloc | apply Kd.R_drewN | apply Kd.R_drew));exact Kd.R_mono HLx.out (fun _ hk => ⟨hk.2,hk.1⟩)) hg hat);replace HO_3:=AM (Kd.S_after (ok:=(fun k_ => some k_≠(.slice (some ⟨go55,0,none⟩) x4_3.length co58:Value).ownBlock)) (by (with_reducible repeat (first | apply Kd.S_alloc | apply Kd.S_drewN | apply Kd.S_drew));exact Kd.S_mono HO_3.out (fun _ hk => ⟨hk.2,hk.1⟩)) hg hat);replace HO_4:=AM (Kd.R_after (ok:=(fun _ => True)) (by (with_reducible repeat (first | apply Kd.R_alloc | apply Kd.R_drewN | apply Kd.R_drew));exact Kd.R_mono HO_4.out (fun _ hk => ⟨trivial,hk⟩)) hg hat);replace BK112:=AM (blk_grown (g:=gb112) (o:=.cells #[.slice A0_0 l0_0.length c0_0,.int .i64 a0_1] 27 (0,0)) (BL BK112) hg (Kd.R_ne HO_5.out BK112.out (by decide)));replace HB:=AM (hb);have HO140:=AM (ho);clear HO_5;clear HLx;have HLx:=nx_;clear nx_;clear ho hb hg hat))
                      go_roundg k3
                      case measure => have:=HK1.out;have:=HK2.out;have:=HK3.out;omega
                      case rel => exact ⟨(y136),(y138),(wrap64 (x77_3+1)),QD,H',⟨by have:=HK1.out;have:=HK2.out;have:=HK3.out;omega⟩,⟨by (with_reducible repeat (first | apply Kd.S_alloc | apply Kd.S_drewN | apply Kd.S_drew));exact HO_3.out⟩,⟨by (with_reducible repeat (first | apply Kd.R_alloc | apply Kd.R_drewN | apply Kd.R_drew));exact Kd.R_mono HO_4.out (fun _ hk => hk.2)⟩,⟨RA HO140.out⟩,⟨BL BK112⟩,⟨BB HB⟩,⟨by (with_reducible repeat (first | apply Kd.R_alloc | apply Kd.R_drewN | apply Kd.R_drew));exact HLx.out⟩⟩
                     ·rw [if_neg c57] at H;exact absurd H (by simp)
                    ·rw [if_neg c56] at H;have c56b0:((rd y136 (rd (rd_L2 x3_1 (rd x5_2 x10_2)) x77_3)) == 0) = false:=beq_eq_false_iff_ne.mpr c56;have c56b1:((rd y136 (rd (rd_L2 x3_1 (rd x5_2 x10_2)) x77_3)) != 0) = true:=bne_iff_ne.mpr c56;have H':=AM H;clear H;have p134:0≤(x77_3:Int):=OD;have q134:x77_3 < ((rd_L2 x3_1 (rd x5_2 x10_2)).length:Int):=OD;obtain ⟨ad134,e134,hx134_0⟩:=Kd.at_int (Kd.R_reads' HLx.out).2.2 x77_3 p134 q134;cases e134
                     replace p134:=eq_true p134;replace q134:=eq_true q134;obtain ⟨Ao62,co62,eo62⟩:=Kd.R_slice HO_4.out;subst eo62;have p135:0≤((rd (rd_L2 x3_1 (rd x5_2 x10_2)) x77_3):Int):=OD;have q135:(rd (rd_L2 x3_1 (rd x5_2 x10_2)) x77_3) < (x4_3.length:Int):=OD;obtain ⟨ad135,e135,hx135_0⟩:=Kd.at_int (Kd.R_reads' HO_4.out).2.2 (rd (rd_L2 x3_1 (rd x5_2 x10_2)) x77_3) p135 q135;cases e135
                     replace p135:=eq_true p135;replace q135:=eq_true q135;have p55:0≤((rd (rd_L2 x3_1 (rd x5_2 x10_2)) x77_3):Int):=OD;have q55:((rd (rd_L2 x3_1 (rd x5_2 x10_2)) x77_3):Int) < ((x4_3.length:Int):Int):=OD;obtain ⟨go55,co55,eo55,gb55,gl55,cl55,HG55⟩:=Kd.R_form HO_4.out (by omega);(first | cases eo55 | (injection eo55 with ea_ en_ ec_;(first | subst ea_ | (injection ea_ with ea_;subst ea_));subst ec_;clear en_))
                     have GB55:=AM gb55;have GG55:=AM HG55;clear gb55 gl55 HG55;(first | simp only [add_plain] at hx135_0 | skip)
                     obtain ⟨hx55_0,hf55_0⟩:=Kd.R_celln 0 HO_4.out ((rd (rd_L2 x3_1 (rd x5_2 x10_2)) x77_3):Int) p55 q55;replace p55:=eq_true p55;replace q55:=eq_true q55;have HP63:=Kd.R_putg HO_4.out ((rd (rd_L2 x3_1 (rd x5_2 x10_2)) x77_3):Int) (wrap64 ((rd x4_3 (rd (rd_L2 x3_1 (rd x5_2 x10_2)) x77_3)) - 1));go_wp2_with (first | ((with_reducible refine gate_store (t:=3) (p:=86) rfl ?_);refine store_event (t:=3) (p:=86) (v:=?vo_w64) (w1:=(wr.setCell ⟨go55,((rd (rd_L2 x3_1 (rd x5_2 x10_2)) x77_3):Int).toNat,none⟩ (.int .i64 (wrap64 ((rd x4_3 (rd (rd_L2 x3_1 (rd x5_2 x10_2)) x77_3)) - 1))))) ?hg ?ho ?hn ?hr ?_;(case ho => rfl);(case hg => rfl);(case hn => rfl);(case hr => first | (go_simp;done) | (go_simp;rfl));intro w64 hw;have hg:wr.grownBy w64 (some go55):=(by rw [hw];exact HP63.2);have hp_:Kd.R (Kd.int .i64) 3 w64 w.heap.size (fun k_ => some k_≠(u5:Value).ownBlock) (.slice (some ⟨go55,0,none⟩) x4_3.length co62) y136:=(by rw [hw,Ny136.out];exact HP63.1);clear HP63;have nx_:=AM (Kd.R_after (v:=(.slice (some ⟨go55,0,none⟩) x4_3.length co62)) (v1:=(.slice (some ⟨go55,0,none⟩) x4_3.length co62)) (ok:=(fun k_ => some k_≠(u5:Value).ownBlock)) (by (with_reducible repeat (first | apply Kd.R_alloc | apply Kd.R_drewN | apply Kd.R_drew));exact Kd.R_mono HLx.out (fun _ hk => ⟨hk.2,hk.1⟩)) hg (.inl rfl));replace HO_3:=AM (Kd.S_after (v:=(.slice (some ⟨go55,0,none⟩) x4_3.length co62)) (v1:=(.slice (some ⟨go55,0,none⟩) x4_3.length co62)) (ok:=(fun k_ => some k_≠(u5:Value).ownBlock)) (by (with_reducible repeat (first | apply Kd.S_alloc | apply Kd.S_drewN | apply Kd.S_drew));exact Kd.S_mono HO_3.out (fun _ hk => ⟨hk.2,hk.1⟩)) hg (.inl rfl));replace HO_5:=AM (Kd.R_after (v:=(.slice (some ⟨go55,0,none⟩) x4_3.length co62)) (v1:=(.slice (some ⟨go55,0,none⟩) x4_3.length co62)) (ok:=(fun _ => True)) (by (with_reducible repeat (first | apply Kd.R_alloc | apply Kd.R_drewN | apply Kd.R_drew));exact Kd.R_mono HO_5.out (fun _ hk => ⟨trivial,hk⟩)) hg (.inl rfl));replace BK112:=AM (blk_grown (g:=gb112) (o:=.cells #[.slice A0_0 l0_0.length c0_0,.int .i64 a0_1] 27 (0,0)) (BL BK112) hg (Kd.R_ne HO_4.out BK112.out (by decide)));replace HO_4:=AM (hp_);replace HB:=AM ((by rw [hw];exact below_set (HB.out) GB55.out:Below w.heap.size w w64));clear HLx;have HLx:=nx_;clear nx_;clear hg hw hp_;have p137:0≤((rd (rd_L2 x3_1 (rd x5_2 x10_2)) x77_3):Int):=OD;have q137:(rd (rd_L2 x3_1 (rd x5_2 x10_2)) x77_3) < (y136.length:Int):=(by have h_:((rd (rd_L2 x3_1 (rd x5_2 x10_2)) x77_3):Int) < ((x4_3.length:Int):Int):=OD;first | (have e_:=(Kd.R_reads' HO_4.out).1;omega) | simpa only [Ny136.out,List.length_set] using h_);have ql137:(((rd (rd_L2 x3_1 (rd x5_2 x10_2)) x77_3):Int) < ((x4_3.length:Int):Int)) = True:=eq_true (OD);obtain ⟨ad137,e137,hx137_0⟩:=Kd.at_int (Kd.R_reads' HO_4.out).2.2 (rd (rd_L2 x3_1 (rd x5_2 x10_2)) x77_3) p137 q137;obtain rfl:(⟨go55,0,none⟩:Addr) = ad137:=(by injection e137);(first | simp only [add_plain] at hx137_0 | simp only [add_at] at hx137_0 | simp only [Addr.add,Nat.zero_add] at hx137_0 | skip);replace p137:=eq_true p137;replace q137:=eq_true q137))
                     go_roundg k3
                     case measure => have:=HK1.out;have:=HK2.out;have:=HK3.out;omega
                     case rel => exact ⟨(y136),(x5_3),(wrap64 (x77_3+1)),QD,H',⟨by have:=HK1.out;have:=HK2.out;have:=HK3.out;omega⟩,⟨by (with_reducible repeat (first | apply Kd.S_alloc | apply Kd.S_drewN | apply Kd.S_drew));exact Kd.S_mono HO_3.out (fun _ hk => ⟨hk.2,hk.1⟩)⟩,⟨RA HO_4.out⟩,⟨by (with_reducible repeat (first | apply Kd.R_alloc | apply Kd.R_drewN | apply Kd.R_drew));exact Kd.R_mono HO_5.out (fun _ hk => hk.2)⟩,⟨BL BK112⟩,⟨BB HB⟩,⟨by (with_reducible repeat (first | apply Kd.R_alloc | apply Kd.R_drewN | apply Kd.R_drew));exact Kd.R_mono HLx.out (fun _ hk => ⟨hk.2,hk.1⟩)⟩⟩
                   ·rw [if_neg c54] at H;exact absurd H (by simp)
                  ·rw [if_neg c53] at H;exact absurd H (by simp)
                 ·rw [if_neg c52] at H;exact absurd H (by simp)
                ·rw [if_neg c51] at H;exact absurd H (by simp)
               ·rw [if_neg c50] at H;have c50b0:decide (x77_3 < ((rd_L2 x3_1 (rd x5_2 x10_2)).length:Int)) = false:=decide_eq_false c50;clear c50;have H':=AM H;clear H;go_wp2
                go_roundg k3
                case measure => have:=HK1.out;have:=HK2.out;have:=HK3.out;omega
                case rel => exact ⟨(x4_3),(x5_3),(wrap64 (x10_2+1)),QD,H',⟨by have:=HK1.out;have:=HK2.out;have:=HK3.out;omega⟩,⟨by (with_reducible repeat (first | apply Kd.S_alloc | apply Kd.S_drewN | apply Kd.S_drew));exact HO_3.out⟩,⟨RA HO_4.out⟩,⟨RA HO_5.out⟩,⟨BL BK112⟩,⟨BB HB⟩⟩
            ·rw [if_neg c47] at H;exact absurd H (by simp)
           ·rw [if_neg c46] at H;exact absurd H (by simp)
          ·rw [if_neg c45] at H;exact absurd H (by simp)
         ·rw [if_neg c44] at H;have c44b0:decide (x10_2 < (x5_2.length:Int)) = false:=decide_eq_false c44;clear c44;obtain rfl:=Option.some.inj H;obtain ⟨Ao65,co65,eo65⟩:=Kd.R_slice HO_5.out;subst eo65;go_wp2
          go_ret;exact ⟨_,by first | rfl | (simp [errW_none,errW_some] <;> rfl) | (simp [*,errW_none,errW_some] <;> rfl),by (with_reducible repeat (first | apply Kd.R_alloc | apply Kd.R_drewN | apply Kd.R_drew));exact Kd.R_mono HO_5.out (fun _ hk => trivial),BB HB⟩
   ·rw [if_neg c4] at H;exact absurd H (by simp)
  ·rw [if_neg c3] at H;exact absurd H (by simp)
 ·rw [if_neg c2] at H;exact absurd H (by simp)
end Go.Proofs.YtoigkneoaemcfaaDoor.GN
