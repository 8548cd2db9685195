
import Derived.Test.YtcphcaiiofeflaaDoorOmGOx0
namespace Go.Proofs.YtcphcaiiofeflaaDoor.GO
open Go.RowKit Go.Proofs.YtcphcaiiofeflaaDoorW.PrintWords Go.Proofs.YtcphcaiiofeflaaDoorW.PrintLast Go.Proofs.YtcphcaiiofeflaaDoorW.PrintMore
attribute [local go_sem] max2_int min2_int max_two min_two max_three min_three max_four min_four
set_option linter.unusedVariables false
set_option linter.unusedSimpArgs false
mutual
def graph_order.l0:Nat→List (List Int)→List Int→List Int→List (S53)→Int→Int→Option (List Int)
 | 0,_,_,_,_,_,_ => none
 | k+1,x3,x4,x5,x22,x23,x24 => if x24 < x23 then (if 0≤x24 then (if x24 < (x22.length:Int) then (if x24 < (x4.length:Int) then (graph_order.l1 k x3 (x4.set (x24:Int).toNat (((rd_T53 x22 x24).f3).length:Int)) x5 x24 x22 x23 x24 ((rd_T53 x22 x24).f3) (((rd_T53 x22 x24).f3).length:Int) 0) else (none)) else (none)) else (none)) else (graph_order.l2 k x3 x4 x5 0)
def graph_order.l1:Nat→List (List Int)→List Int→List Int→Int→List (S53)→Int→Int→List Int→Int→Int→Option (List Int)
 | 0,_,_,_,_,_,_,_,_,_,_ => none
 | k+1,x3,x4,x5,x6,x22,x23,x24,x36,x37,x38 => if x38 < x37 then (if 0≤x38 then (if x38 < (x36.length:Int) then (if 0≤(rd x36 x38) then (if (rd x36 x38) < (x3.length:Int) then (if (rd_L4 x3 (rd x36 x38)).length < 17592186044416 then (graph_order.l1 k (x3.set ((rd x36 x38):Int).toNat ((rd_L4 x3 (rd x36 x38)) ++ [x6])) x4 x5 x6 x22 x23 x24 x36 x37 (wrap64 (x38+1))) else (none)) else (none)) else (none)) else (none)) else (none)) else (if 0≤x6 then (if x6 < (x4.length:Int) then (if (rd x4 x6) = 0 then (if x5.length < 17592186044416 then (graph_order.l0 k x3 x4 (x5 ++ [x6]) x22 x23 (wrap64 (x24+1))) else (none)) else (graph_order.l0 k x3 x4 x5 x22 x23 (wrap64 (x24+1)))) else (none)) else (none))
def graph_order.l2:Nat→List (List Int)→List Int→List Int→Int→Option (List Int)
 | 0,_,_,_,_ => none
 | k+1,x3,x4,x5,x10 => if x10 < (x5.length:Int) then (if 0≤x10 then (if 0≤(rd x5 x10) then (if (rd x5 x10) < (x3.length:Int) then (graph_order.l3 k x3 x4 x5 x10 (rd_L4 x3 (rd x5 x10)) ((rd_L4 x3 (rd x5 x10)).length:Int) 0) else (none)) else (none)) else (none)) else (some x5)
def graph_order.l3:Nat→List (List Int)→List Int→List Int→Int→List Int→Int→Int→Option (List Int)
 | 0,_,_,_,_,_,_,_ => none
 | k+1,x3,x4,x5,x10,x75,x76,x77 => if x77 < x76 then (if 0≤x77 then (if x77 < (x75.length:Int) then (if 0≤(rd x75 x77) then (if (rd x75 x77) < (x4.length:Int) then ((some (x4.set ((rd x75 x77):Int).toNat (wrap64 ((rd x4 (rd x75 x77)) - 1)):List Int)).bind fun y223 => (if (rd y223 (rd x75 x77)) = 0 then (if x5.length < 17592186044416 then (graph_order.l3 k x3 y223 (x5 ++ [rd x75 x77]) x10 x75 x76 (wrap64 (x77+1))) else (none)) else (graph_order.l3 k x3 y223 x5 x10 x75 x76 (wrap64 (x77+1))))) else (none)) else (none)) else (none)) else (none)) else (graph_order.l2 k x3 x4 x5 (wrap64 (x10+1)))
end
def graph_order.f (k:Nat) (l0_0:List (S53)) (a0_1:Int):Option (List Int):=if 0≤(l0_0.length:Int) then (if ((l0_0.length:Int):Int).toNat≤11728124029610 then (if ((l0_0.length:Int):Int).toNat≤35184372088832 then (graph_order.l0 k (List.replicate ((l0_0.length:Int):Int).toNat []) (List.replicate ((l0_0.length:Int):Int).toNat 0) ([]:List Int) l0_0 (l0_0.length:Int) 0) else (none)) else (none)) else (none)
theorem graph_order.mono_l:∀ k,(∀ y0 y1 y2 y3 y4 y5,LeO (graph_order.l0 k y0 y1 y2 y3 y4 y5) (graph_order.l0 (k+1) y0 y1 y2 y3 y4 y5))∧(∀ y0 y1 y2 y3 y4 y5 y6 y7 y8 y9,LeO (graph_order.l1 k y0 y1 y2 y3 y4 y5 y6 y7 y8 y9) (graph_order.l1 (k+1) y0 y1 y2 y3 y4 y5 y6 y7 y8 y9))∧(∀ y0 y1 y2 y3,LeO (graph_order.l2 k y0 y1 y2 y3) (graph_order.l2 (k+1) y0 y1 y2 y3))∧(∀ y0 y1 y2 y3 y4 y5 y6,LeO (graph_order.l3 k y0 y1 y2 y3 y4 y5 y6) (graph_order.l3 (k+1) y0 y1 y2 y3 y4 y5 y6))
 | 0 => ⟨fun _ _ _ _ _ _ r h => by simp [graph_order.l0] at h,fun _ _ _ _ _ _ _ _ _ _ r h => by simp [graph_order.l1] at h,fun _ _ _ _ r h => by simp [graph_order.l2] at h,fun _ _ _ _ _ _ _ r h => by simp [graph_order.l3] at h⟩
 | k+1 => by
  obtain ⟨ih0,ih1,ih2,ih3⟩:=graph_order.mono_l k;refine ⟨?_,?_,?_,?_⟩
  ·intro y0 y1 y2 y3 y4 y5;unfold graph_order.l0
   repeat' first
   | (with_reducible exact ih0 _ _ _ _ _ _)
   | (with_reducible exact ih1 _ _ _ _ _ _ _ _ _ _)
   | (with_reducible exact ih2 _ _ _ _)
   | (with_reducible exact ih3 _ _ _ _ _ _ _)
   | (with_reducible exact LeO.refl _)
   | (with_reducible exact LeO.none _)
   | (with_reducible refine LeO.ite ?_ ?_)
   | (with_reducible refine LeO.bind ?_ (fun _ => ?_))
   | exact ih0 _ _ _ _ _ _
   | exact ih1 _ _ _ _ _ _ _ _ _ _
   | exact ih2 _ _ _ _
   | exact ih3 _ _ _ _ _ _ _
   | exact LeO.none _
   | refine LeO.ite ?_ ?_
   | refine LeO.bind ?_ (fun _ => ?_)
  ·intro y0 y1 y2 y3 y4 y5 y6 y7 y8 y9;unfold graph_order.l1
   repeat' first
   | (with_reducible exact ih0 _ _ _ _ _ _)
   | (with_reducible exact ih1 _ _ _ _ _ _ _ _ _ _)
   | (with_reducible exact ih2 _ _ _ _)
   | (with_reducible exact ih3 _ _ _ _ _ _ _)
   | (with_reducible exact LeO.refl _)
   | (with_reducible exact LeO.none _)
   | (with_reducible refine LeO.ite ?_ ?_)
   | (with_reducible refine LeO.bind ?_ (fun _ => ?_))
   | exact ih0 _ _ _ _ _ _
   | exact ih1 _ _ _ _ _ _ _ _ _ _
   | exact ih2 _ _ _ _
   | exact ih3 _ _ _ _ _ _ _
   | exact LeO.none _
   | refine LeO.ite ?_ ?_
   | refine LeO.bind ?_ (fun _ => ?_)
  ·intro y0 y1 y2 y3;unfold graph_order.l2
   repeat' first
   | (with_reducible exact ih0 _ _ _ _ _ _)
   | (with_reducible exact ih1 _ _ _ _ _ _ _ _ _ _)
   | (with_reducible exact ih2 _ _ _ _)
   | (with_reducible exact ih3 _ _ _ _ _ _ _)
   | (with_reducible exact LeO.refl _)
   | (with_reducible exact LeO.none _)
   | (with_reducible refine LeO.ite ?_ ?_)
   | (with_reducible refine LeO.bind ?_ (fun _ => ?_))
   | exact ih0 _ _ _ _ _ _
   | exact ih1 _ _ _ _ _ _ _ _ _ _
   | exact ih2 _ _ _ _
   | exact ih3 _ _ _ _ _ _ _
   | exact LeO.none _
   | refine LeO.ite ?_ ?_
   | refine LeO.bind ?_ (fun _ => ?_)
  ·intro y0 y1 y2 y3 y4 y5 y6;unfold graph_order.l3
   repeat' first
   | (with_reducible exact ih0 _ _ _ _ _ _)
   | (with_reducible exact ih1 _ _ _ _ _ _ _ _ _ _)
   | (with_reducible exact ih2 _ _ _ _)
   | (with_reducible exact ih3 _ _ _ _ _ _ _)
   | (with_reducible exact LeO.refl _)
   | (with_reducible exact LeO.none _)
   | (with_reducible refine LeO.ite ?_ ?_)
   | (with_reducible refine LeO.bind ?_ (fun _ => ?_))
   | exact ih0 _ _ _ _ _ _
   | exact ih1 _ _ _ _ _ _ _ _ _ _
   | exact ih2 _ _ _ _
   | exact ih3 _ _ _ _ _ _ _
   | exact LeO.none _
   | refine LeO.ite ?_ ?_
   | refine LeO.bind ?_ (fun _ => ?_)
theorem graph_order.mono:∀ a0 a1 k,LeO (graph_order.f k a0 a1) (graph_order.f (k+1) a0 a1):=by
 intro a0 a1 k;obtain ⟨ih0,ih1,ih2,ih3⟩:=graph_order.mono_l k;unfold graph_order.f
 repeat' first
   | (with_reducible exact ih0 _ _ _ _ _ _)
   | (with_reducible exact ih1 _ _ _ _ _ _ _ _ _ _)
   | (with_reducible exact ih2 _ _ _ _)
   | (with_reducible exact ih3 _ _ _ _ _ _ _)
   | (with_reducible exact LeO.refl _)
   | (with_reducible exact LeO.none _)
   | (with_reducible refine LeO.ite ?_ ?_)
   | (with_reducible refine LeO.bind ?_ (fun _ => ?_))
   | exact ih0 _ _ _ _ _ _
   | exact ih1 _ _ _ _ _ _ _ _ _ _
   | exact ih2 _ _ _ _
   | exact ih3 _ _ _ _ _ _ _
   | exact LeO.none _
   | refine LeO.ite ?_ ?_
   | refine LeO.bind ?_ (fun _ => ?_)
set_option maxHeartbeats 8000000 in
set_option maxRecDepth 100000 in
theorem graph_order.calls (k:Nat) (A0_0:Option Addr) (c0_0:Nat) (l0_0:List (S53)) (a0_1:Int) (r:List Int) (w:World) (hr0_0:Kd.C k53 w A0_0 l0_0.length l0_0) (hc0_0:l0_0.length≤c0_0) (h:graph_order.f k l0_0 a0_1 = some r) :
  Calls Tryd.prog 66 #[.agg #[.slice A0_0 l0_0.length c0_0,.int .i64 a0_1]] w fun e w' => ∃ v0_:Value,e = .returned (v0_)∧Kd.R (Kd.int .i64) 3 w' w.heap.size (fun _ => True) v0_ r∧Below w.heap.size w w':=by
 have hu24:=Tryd.underlying24;have hu53:=Tryd.underlying53;have HR0_0:=AM hr0_0;have HC0_0:=AM hc0_0;clear hr0_0 hc0_0;have HB:=AM (Below.refl w.heap.size w);have H:(if 0≤(l0_0.length:Int) then (if ((l0_0.length:Int):Int).toNat≤11728124029610 then (if ((l0_0.length:Int):Int).toNat≤35184372088832 then (graph_order.l0 k (List.replicate ((l0_0.length:Int):Int).toNat []) (List.replicate ((l0_0.length:Int):Int).toNat 0) ([]:List Int) l0_0 (l0_0.length:Int) 0) else (none)) else (none)) else (none)) = some r:=h;clear h;by_cases c2:0≤(l0_0.length:Int)
 ·rw [if_pos c2] at H;have c2b0:=eq_true c2;have c2b1:decide (0≤(l0_0.length:Int)) = true:=decide_eq_true c2;clear c2;by_cases c3:((l0_0.length:Int):Int).toNat≤11728124029610
  ·rw [if_pos c3] at H;have c3b0:=eq_true c3;have c3b1:decide (((l0_0.length:Int):Int).toNat≤11728124029610) = true:=decide_eq_true c3;clear c3;obtain ⟨y200,hy200⟩:∃ y_:List (List Int),y_ = (List.replicate ((l0_0.length:Int):Int).toNat []):=⟨_,rfl⟩;replace H:(if ((l0_0.length:Int):Int).toNat≤35184372088832 then (graph_order.l0 k y200 (List.replicate ((l0_0.length:Int):Int).toNat 0) ([]:List Int) l0_0 (l0_0.length:Int) 0) else (none)) = some r:=QH hy200 H
   have Ny200:=AM hy200;clear hy200;by_cases c4:((l0_0.length:Int):Int).toNat≤35184372088832
   ·rw [if_pos c4] at H;have c4b0:=eq_true c4;have c4b1:decide (((l0_0.length:Int):Int).toNat≤35184372088832) = true:=decide_eq_true c4;clear c4;obtain ⟨y203,hy203⟩:∃ y_:List Int,y_ = (List.replicate ((l0_0.length:Int):Int).toNat 0):=⟨_,rfl⟩;replace H:(graph_order.l0 k y200 y203 ([]:List Int) l0_0 (l0_0.length:Int) 0) = some r:=QH hy203 H
    have Ny203:=AM hy203;clear hy203;have H':=AM H;clear H;go_enter Tryd.func66,Tryd.ntmps66;go_wp2_with (first | ((with_reducible refine gate_dst (N:=1) rfl ?_);refine boxE 1 #[.slice A0_0 l0_0.length c0_0,.int .i64 a0_1] 24 ?_;intro gb199 hg w5 hbox hb;have BK199:=AM (hbox);have GW199:=GW HB hg;have GE199:=GW HB hg;replace HB:=BS HB hb;clear hb hbox hg;have hcz6_0:=BC BK199 0 (.slice A0_0 l0_0.length c0_0) rfl;have hcz6_1:=BC BK199 1 (.int .i64 a0_1) rfl;have hfz6_0:=BF BK199 0;have hfz6_1:=BF BK199 1) | ((with_reducible refine gate_dst (N:=16) rfl ?_);refine Kd.S_make (Kd.slice 3 (Kd.int .i64)) _ 51 rfl (N:=16) rfl 95 _ _ rfl (l0_0.length:Int) rfl rfl Tryd.underlying95 (.slice none 0 0) 24 info51 rfl (by decide) (by omega) [] (ok:=fun _ => True) (okp:=fun _ => True) ⟨_,rfl,Kd.R_nil _ _ _ _ _⟩ (fun _ hk => hk) trivial (OD) (Nat.le_trans (Nat.mul_le_mul_right _ (OD:(l0_0.length:Int).toNat≤11728124029610)) (by omega)) (Below.refl _ _) (Nat.le_refl _) ?_;intro v201 w7 ho8 hb hg_ hnew_;clear hg_ hnew_;(first | rw [← Ny200.out] at ho8 | (simp only [Int.reduceToNat] at ho8;rw [← Ny200.out] at ho8));have HO202:=AM (Kd.S_lower ho8 (below_size (BB HB)));replace BK199:=BE BK199 hb;replace HB:=BS HB hb;clear hb ho8;have hcz9_0:=BC BK199 0 (.slice A0_0 l0_0.length c0_0) rfl;have hcz9_1:=BC BK199 1 (.int .i64 a0_1) rfl;have hfz9_0:=BF BK199 0;have hfz9_1:=BF BK199 1) | ((with_reducible refine gate_dst (N:=20) rfl ?_);refine Kd.R_make (Kd.int .i64) _ 3 rfl (N:=20) rfl 51 _ _ rfl (l0_0.length:Int) rfl rfl Tryd.underlying51 (.int .i64 0) 8 info3 rfl (by decide) (by omega) 0 (ok:=fun _ => True) (okp:=fun _ => True) rfl (fun _ hk => hk) trivial (OD) (Nat.le_trans (Nat.mul_le_mul_right _ (OD:(l0_0.length:Int).toNat≤35184372088832)) (by omega)) (Below.refl _ _) (Nat.le_refl _) ?_;intro v204 w10 ho11 hb hg_ hnew_;clear hg_ hnew_;(first | rw [← Ny203.out] at ho11 | (simp only [Int.reduceToNat] at ho11;rw [← Ny203.out] at ho11));replace HO202:=AM (Kd.S_elder' (SL HO202) (Kd.R_base ho11) hb);have HO205:=AM (Kd.R_lower ho11 (below_size (BB HB)));replace BK199:=BE BK199 hb;replace HB:=BS HB hb;clear hb ho11;have hcz12_0:=BC BK199 0 (.slice A0_0 l0_0.length c0_0) rfl;have hcz12_1:=BC BK199 1 (.int .i64 a0_1) rfl;have hfz12_0:=BF BK199 0;have hfz12_1:=BF BK199 1))
    go_loopg [5,24] k (fun kq v5 v24 w' => ∃ (x3_1:List (List Int)) (x4_1:List Int) (x5_1:List Int) (x24_1:Int),v24 = .int .i64 x24_1∧Aside0 (graph_order.l0 kq x3_1 x4_1 x5_1 l0_0 (l0_0.length:Int) x24_1 = some r)∧Aside0 (kq≤k)∧Aside0 (Kd.S (Kd.slice 3 (Kd.int .i64)) 51 w' w.heap.size (fun k_ => some k_≠(v204:Value).ownBlock∧some k_≠(v5:Value).ownBlock) v201 x3_1)∧Aside0 (Kd.R (Kd.int .i64) 3 w' w.heap.size (fun k_ => some k_≠(v5:Value).ownBlock) v204 x4_1)∧Aside0 (Kd.R (Kd.int .i64) 3 w' w.heap.size (fun k_ => some k_≠(v204:Value).ownBlock) v5 x5_1)∧Aside0 (w'.heap[gb199]? = some (.cells #[(.slice A0_0 l0_0.length c0_0),.int .i64 a0_1] 24 (0,0)))∧Aside0 (Below w.heap.size w w'))
    case atStart => exact ⟨(y200),(y203),(([]:List Int)),(0),QD,H',⟨Nat.le_refl _⟩,⟨by (with_reducible repeat (first | apply Kd.S_alloc | apply Kd.S_drewN | apply Kd.S_drew));exact Kd.S_mono HO202.out (fun _ hk => ⟨hk.2,(by simp [Value.ownBlock])⟩)⟩,⟨by (with_reducible repeat (first | apply Kd.R_alloc | apply Kd.R_drewN | apply Kd.R_drew));exact Kd.R_mono HO205.out (fun _ hk => (by simp [Value.ownBlock]))⟩,⟨by first | exact Kd.R_nil _ _ _ _ _ | exact Kd.N_nil _ _ _ _ _ | exact Kd.V_nil _ _ _ _ _ | exact Kd.Q_nil _ _ _ _ _ | exact Kd.S_nil _ _ _ _ _⟩,⟨BL BK199⟩,⟨BB HB⟩⟩
    case round =>
     clear H';try clear c2
     try clear c2b0
     try clear c2b1
     try clear p2
     try clear c3
     try clear c3b0
     try clear c3b1
     try clear c4
     try clear c4b0
     try clear c4b1
     try clear c6
     try clear hcz12_0
     try clear hcz12_1
     try clear hcz6_0
     try clear hcz6_1
     try clear hcz9_0
     try clear hcz9_1
     try clear hfz12_0
     try clear hfz12_1
     try clear hfz6_0
     try clear hfz6_1
     try clear hfz9_0
     try clear hfz9_1
     obtain ⟨x3_1,x4_1,x5_1,x24_1,rfl,HA,HK1,HO_3,HO_4,HO_5,BK199,HB⟩:=hrel;cases gk with
     | zero => exact absurd HA.out (by simp [graph_order.l0])
     | succ k1 =>
      have H:=HA.out;clear HA;simp only [graph_order.l0] at H;by_cases c13:x24_1 < (l0_0.length:Int)
      ·rw [if_pos c13] at H;have c13b0:decide (x24_1 < (l0_0.length:Int)) = true:=decide_eq_true c13;clear c13;by_cases c14:0≤x24_1
       ·rw [if_pos c14] at H;have c14b0:decide (0≤x24_1) = true:=decide_eq_true c14;clear c14;by_cases c15:x24_1 < (l0_0.length:Int)
        ·rw [if_pos c15] at H;have c15b0:decide (x24_1 < (l0_0.length:Int)) = true:=decide_eq_true c15;clear c15;by_cases c16:x24_1 < (x4_1.length:Int)
         ·rw [if_pos c16] at H;have c16b0:decide (x24_1 < (x4_1.length:Int)) = true:=decide_eq_true c16;clear c16;obtain ⟨y208,hy208⟩:∃ y_:List Int,y_ = (x4_1.set (x24_1:Int).toNat (((rd_T53 l0_0 x24_1).f3).length:Int)):=⟨_,rfl⟩;replace H:(graph_order.l1 k1 x3_1 y208 x5_1 x24_1 l0_0 (l0_0.length:Int) x24_1 ((rd_T53 l0_0 x24_1).f3) (((rd_T53 l0_0 x24_1).f3).length:Int) 0) = some r:=QH hy208 H
          have Ny208:=AM hy208;clear hy208;have H':=AM H;clear H;have p206:0≤(x24_1:Int):=OD;have q206:x24_1 < (l0_0.length:Int):=OD;obtain ⟨ad206,A206_1,c206_1,A206_2,c206_2,A206_3,c206_3,e206,hx206_0,hx206_1,hx206_2,hx206_3,hl206_1,hi206_1,hl206_2,hi206_2,hl206_3,hi206_3⟩:=at_T53 HR0_0.out x24_1 p206 q206;cases e206
          replace hx206_0:=CL HB hx206_0;replace hx206_1:=CL HB hx206_1;replace hx206_2:=CL HB hx206_2;replace hx206_3:=CL HB hx206_3;have HR206_1:=AM hi206_1;have HC206_1:=AM hl206_1;clear hi206_1 hl206_1;have HR206_2:=AM hi206_2;have HC206_2:=AM hl206_2;clear hi206_2 hl206_2;have HR206_3:=AM hi206_3;have HC206_3:=AM hl206_3;clear hi206_3 hl206_3;replace p206:=eq_true p206;replace q206:=eq_true q206;go_wp2_with (first | ((with_reducible refine gate_dst (N:=7) rfl ?_);refine boxE 7 #[.int .i64 0,.slice none 0 0,.slice none 0 0,.slice none 0 0] 53 ?_;intro gb207 hg w18 hbox hb;replace HO_3:=AM (Kd.S_below (SL HO_3) hb);replace HO_4:=AM (Kd.R_below (RL HO_4) hb);replace HO_5:=AM (Kd.R_below (RL HO_5) hb);have BK207:=AM (hbox);have GW207:=GW HB hg;have GE207:=GW HB hg;replace HB:=BS HB hb;have NB199_207:=NL BK199 hg;have NB207_199:=NG BK199 hg;replace BK199:=BE BK199 hb;clear hb hbox hg;have hnb19:=NB207_199.out;have hnc19:=NB199_207.out;have hcz20_0:=BC BK207 0 (.int .i64 0) rfl;have hcz20_1:=BC BK207 1 (.slice none 0 0) rfl;have hcz20_2:=BC BK207 2 (.slice none 0 0) rfl;have hcz20_3:=BC BK207 3 (.slice none 0 0) rfl;have hfz20_0:=BF BK207 0;have hfz20_1:=BF BK207 1;have hfz20_2:=BF BK207 2;have hfz20_3:=BF BK207 3) | ((with_reducible refine gate_store (t:=53) (p:=7) rfl ?_);refine store_event (t:=53) (p:=7) (v:=?vo_w21) (w1:=((((w18.setCell ⟨gb207,0,none⟩ (.int .i64 ((rd_T53 l0_0 x24_1).f0))).setCell ⟨gb207,1,none⟩ (.slice A206_1 ((rd_T53 l0_0 x24_1).f1).length c206_1)).setCell ⟨gb207,2,none⟩ (.slice A206_2 ((rd_T53 l0_0 x24_1).f2).length c206_2)).setCell ⟨gb207,3,none⟩ (.slice A206_3 ((rd_T53 l0_0 x24_1).f3).length c206_3))) ?hg ?ho ?hn ?hr ?_;(case ho => rfl);(case hg => rfl);(case hn => rfl);(case hr => first | (go_simp;done) | (go_simp;rfl));intro w21 hw;have n0_:Aside0 (Kd.S (Kd.slice 3 (Kd.int .i64)) 51 w21 w.heap.size (fun k_ => some k_≠(v204:Value).ownBlock∧some k_≠(u5:Value).ownBlock) v201 x3_1):=⟨(by rw [hw];exact (by (with_reducible repeat (first | apply Kd.S_alloc | apply Kd.S_drewN | apply Kd.S_drew));exact Kd.S_mono (Kd.S_far (p:=⟨gb207,3,none⟩) (Kd.S_far (p:=⟨gb207,2,none⟩) (Kd.S_far (p:=⟨gb207,1,none⟩) (Kd.S_far (p:=⟨gb207,0,none⟩) (Kd.S_types HO_3.out BK207.out (by decide)) (fun _ hk => hk.2) (.int .i64 ((rd_T53 l0_0 x24_1).f0))) (fun _ hk => hk.2) (.slice A206_1 ((rd_T53 l0_0 x24_1).f1).length c206_1)) (fun _ hk => hk.2) (.slice A206_2 ((rd_T53 l0_0 x24_1).f2).length c206_2)) (fun _ hk => hk.2) (.slice A206_3 ((rd_T53 l0_0 x24_1).f3).length c206_3)) (fun _ hk => ⟨hk.1.1,hk.1.2⟩)))⟩;have n1_:Aside0 (Kd.R (Kd.int .i64) 3 w21 w.heap.size (fun k_ => some k_≠(u5:Value).ownBlock) v204 x4_1):=⟨(by rw [hw];exact (by exact Kd.R_mono (Kd.R_far (p:=⟨gb207,3,none⟩) (Kd.R_far (p:=⟨gb207,2,none⟩) (Kd.R_far (p:=⟨gb207,1,none⟩) (Kd.R_far (p:=⟨gb207,0,none⟩) (Kd.R_types HO_4.out BK207.out (by decide)) (fun _ hk => hk.2) (.int .i64 ((rd_T53 l0_0 x24_1).f0))) (fun _ hk => hk.2) (.slice A206_1 ((rd_T53 l0_0 x24_1).f1).length c206_1)) (fun _ hk => hk.2) (.slice A206_2 ((rd_T53 l0_0 x24_1).f2).length c206_2)) (fun _ hk => hk.2) (.slice A206_3 ((rd_T53 l0_0 x24_1).f3).length c206_3)) (fun _ hk => hk.1)))⟩;have n2_:Aside0 (Kd.R (Kd.int .i64) 3 w21 w.heap.size (fun k_ => some k_≠(v204:Value).ownBlock) u5 x5_1):=⟨(by rw [hw];exact (by exact Kd.R_mono (Kd.R_far (p:=⟨gb207,3,none⟩) (Kd.R_far (p:=⟨gb207,2,none⟩) (Kd.R_far (p:=⟨gb207,1,none⟩) (Kd.R_far (p:=⟨gb207,0,none⟩) (Kd.R_types HO_5.out BK207.out (by decide)) (fun _ hk => hk.2) (.int .i64 ((rd_T53 l0_0 x24_1).f0))) (fun _ hk => hk.2) (.slice A206_1 ((rd_T53 l0_0 x24_1).f1).length c206_1)) (fun _ hk => hk.2) (.slice A206_2 ((rd_T53 l0_0 x24_1).f2).length c206_2)) (fun _ hk => hk.2) (.slice A206_3 ((rd_T53 l0_0 x24_1).f3).length c206_3)) (fun _ hk => hk.1)))⟩;have n3_:Aside0 (w21.heap[gb199]? = some (.cells #[.slice (some ad206) l0_0.length c0_0,.int .i64 a0_1] 24 (0,0))):=⟨(by rw [hw];exact (by (repeat refine blk_far ?_ NB199_207.out _);exact BL BK199))⟩;have n4_:Aside0 (w21.heap[gb207]? = some (.cells #[.int .i64 ((rd_T53 l0_0 x24_1).f0),.slice A206_1 ((rd_T53 l0_0 x24_1).f1).length c206_1,.slice A206_2 ((rd_T53 l0_0 x24_1).f2).length c206_2,.slice A206_3 ((rd_T53 l0_0 x24_1).f3).length c206_3] 53 (0,0))):=⟨(by rw [hw];exact (by refine blk_put (cs:=#[.int .i64 ((rd_T53 l0_0 x24_1).f0),.slice A206_1 ((rd_T53 l0_0 x24_1).f1).length c206_1,.slice A206_2 ((rd_T53 l0_0 x24_1).f2).length c206_2,.slice none 0 0]) ?_ 3 _ rfl;refine blk_put (cs:=#[.int .i64 ((rd_T53 l0_0 x24_1).f0),.slice A206_1 ((rd_T53 l0_0 x24_1).f1).length c206_1,.slice none 0 0,.slice none 0 0]) ?_ 2 _ rfl;refine blk_put (cs:=#[.int .i64 ((rd_T53 l0_0 x24_1).f0),.slice none 0 0,.slice none 0 0,.slice none 0 0]) ?_ 1 _ rfl;refine blk_put (cs:=#[.int .i64 0,.slice none 0 0,.slice none 0 0,.slice none 0 0]) ?_ 0 _ rfl;exact BL BK207))⟩;have n5_:Aside0 (Below w.heap.size w w21):=⟨(by rw [hw];exact (BB HB))⟩;clear hw;clear HO_3;clear HO_4;clear HO_5;clear BK199;clear BK207;clear HB;have HO_3:=n0_;have HO_4:=n1_;have HO_5:=n2_;have BK199:=n3_;have BK207:=n4_;have HB:=n5_;clear n0_ n1_ n2_ n3_ n4_ n5_;have hcz22_0:=BC BK207 0 (.int .i64 ((rd_T53 l0_0 x24_1).f0)) rfl;have hcz22_1:=BC BK207 1 (.slice A206_1 ((rd_T53 l0_0 x24_1).f1).length c206_1) rfl;have hcz22_2:=BC BK207 2 (.slice A206_2 ((rd_T53 l0_0 x24_1).f2).length c206_2) rfl;have hcz22_3:=BC BK207 3 (.slice A206_3 ((rd_T53 l0_0 x24_1).f3).length c206_3) rfl;have hfz22_0:=BF BK207 0;have hfz22_1:=BF BK207 1;have hfz22_2:=BF BK207 2;have hfz22_3:=BF BK207 3;have p17:0≤(x24_1:Int):=OD;have q17:(x24_1:Int) < ((x4_1.length:Int):Int):=OD;obtain ⟨go17,co17,eo17,gb17,gl17,cl17,HG17⟩:=Kd.R_form HO_4.out (by omega);(first | cases eo17 | (injection eo17 with ea_ en_ ec_;(first | subst ea_ | (injection ea_ with ea_;subst ea_));subst ec_;clear en_));have GB17:=AM gb17;have GG17:=AM HG17;clear gb17 gl17 HG17;obtain ⟨hx17_0,hf17_0⟩:=Kd.R_celln 0 HO_4.out (x24_1:Int) p17 q17;replace p17:=eq_true p17;replace q17:=eq_true q17;obtain ⟨hy23_,hz23_⟩:=Kd.R_celln 0 HO_4.out (x24_1:Int) (OD) (OD);have HP23:=Kd.R_putg HO_4.out (x24_1:Int) (((rd_T53 l0_0 x24_1).f3).length:Int)) | ((with_reducible refine gate_store (t:=3) (p:=34) rfl ?_);refine store_event (t:=3) (p:=34) (v:=?vo_w24) (w1:=(w21.setCell ⟨go17,(x24_1:Int).toNat,none⟩ (.int .i64 (((rd_T53 l0_0 x24_1).f3).length:Int)))) ?hg ?ho ?hn ?hr ?_;(case ho => rfl);(case hg => rfl);(case hn => rfl);(case hr => first | (go_simp;done) | (go_simp;rfl));intro w24 hw;have hg:w21.grownBy w24 (some go17):=(by rw [hw];exact HP23.2);have hp_:Kd.R (Kd.int .i64) 3 w24 w.heap.size (fun k_ => some k_≠(u5:Value).ownBlock) (.slice (some ⟨go17,0,none⟩) x4_1.length co17) y208:=(by rw [hw,Ny208.out];exact HP23.1);clear HP23;replace HO_3:=AM (Kd.S_after (v:=(.slice (some ⟨go17,0,none⟩) x4_1.length co17)) (v1:=(.slice (some ⟨go17,0,none⟩) x4_1.length co17)) (ok:=(fun k_ => some k_≠(u5:Value).ownBlock)) (by (with_reducible repeat (first | apply Kd.S_alloc | apply Kd.S_drewN | apply Kd.S_drew));exact Kd.S_mono HO_3.out (fun _ hk => ⟨hk.2,hk.1⟩)) hg (.inl rfl));replace HO_5:=AM (Kd.R_after (v:=(.slice (some ⟨go17,0,none⟩) x4_1.length co17)) (v1:=(.slice (some ⟨go17,0,none⟩) x4_1.length co17)) (ok:=(fun _ => True)) (by (with_reducible repeat (first | apply Kd.R_alloc | apply Kd.R_drewN | apply Kd.R_drew));exact Kd.R_mono HO_5.out (fun _ hk => ⟨trivial,hk⟩)) hg (.inl rfl));replace BK199:=AM (blk_grown (g:=gb199) (o:=.cells #[.slice (some ad206) l0_0.length c0_0,.int .i64 a0_1] 24 (0,0)) (BL BK199) hg (Kd.R_ne HO_4.out BK199.out (by decide)));replace BK207:=AM (blk_grown (g:=gb207) (o:=.cells #[.int .i64 ((rd_T53 l0_0 x24_1).f0),.slice A206_1 ((rd_T53 l0_0 x24_1).f1).length c206_1,.slice A206_2 ((rd_T53 l0_0 x24_1).f2).length c206_2,.slice A206_3 ((rd_T53 l0_0 x24_1).f3).length c206_3] 53 (0,0)) (BL BK207) hg (Kd.R_ne HO_4.out BK207.out (by decide)));replace HO_4:=AM (hp_);replace HB:=AM ((by rw [hw];exact below_set (HB.out) GB17.out:Below w.heap.size w w24));clear hg hw hp_;have hcz25_0:=BC BK207 0 (.int .i64 ((rd_T53 l0_0 x24_1).f0)) rfl;have hcz25_1:=BC BK207 1 (.slice A206_1 ((rd_T53 l0_0 x24_1).f1).length c206_1) rfl;have hcz25_2:=BC BK207 2 (.slice A206_2 ((rd_T53 l0_0 x24_1).f2).length c206_2) rfl;have hcz25_3:=BC BK207 3 (.slice A206_3 ((rd_T53 l0_0 x24_1).f3).length c206_3) rfl;have hfz25_0:=BF BK207 0;have hfz25_1:=BF BK207 1;have hfz25_2:=BF BK207 2;have hfz25_3:=BF BK207 3))
          go_loopg [38] k1 (fun kq v38 w' => ∃ (x3_2:List (List Int)) (x38_2:Int),v38 = .int .i64 x38_2∧Aside0 (graph_order.l1 kq x3_2 y208 x5_1 x24_1 l0_0 (l0_0.length:Int) x24_1 ((rd_T53 l0_0 x24_1).f3) (((rd_T53 l0_0 x24_1).f3).length:Int) x38_2 = some r)∧Aside0 (kq≤k1)∧Aside0 (Kd.S (Kd.slice 3 (Kd.int .i64)) 51 w' w.heap.size (fun k_ => some k_≠((.slice (some ⟨go17,0,none⟩) x4_1.length co17):Value).ownBlock∧some k_≠(u5:Value).ownBlock) v201 x3_2)∧Aside0 (Kd.R (Kd.int .i64) 3 w' w.heap.size (fun k_ => some k_≠(u5:Value).ownBlock) (.slice (some ⟨go17,0,none⟩) x4_1.length co17) y208)∧Aside0 (Kd.R (Kd.int .i64) 3 w' w.heap.size (fun k_ => some k_≠((.slice (some ⟨go17,0,none⟩) x4_1.length co17):Value).ownBlock) u5 x5_1)∧Aside0 (w'.heap[gb199]? = some (.cells #[(.slice (some ad206) l0_0.length c0_0),.int .i64 a0_1] 24 (0,0)))∧Aside0 (w'.heap[gb207]? = some (.cells #[.int .i64 ((rd_T53 l0_0 x24_1).f0),(.slice A206_1 ((rd_T53 l0_0 x24_1).f1).length c206_1),(.slice A206_2 ((rd_T53 l0_0 x24_1).f2).length c206_2),(.slice A206_3 ((rd_T53 l0_0 x24_1).f3).length c206_3)] 53 (0,0)))∧Aside0 (Below w.heap.size w w'))
          case atStart => exact ⟨(x3_1),(0),QD,H',⟨Nat.le_refl _⟩,⟨by (with_reducible repeat (first | apply Kd.S_alloc | apply Kd.S_drewN | apply Kd.S_drew));exact Kd.S_mono HO_3.out (fun _ hk => ⟨hk.2,hk.1⟩)⟩,⟨RA HO_4.out⟩,⟨by (with_reducible repeat (first | apply Kd.R_alloc | apply Kd.R_drewN | apply Kd.R_drew));exact Kd.R_mono HO_5.out (fun _ hk => hk.2)⟩,⟨BL BK199⟩,⟨BL BK207⟩,⟨BB HB⟩⟩
          case round =>
           clear H';try clear c1
           try clear p1
           try clear q1
           try clear hx1
           try clear hf1
           try clear c2
           try clear c2b0
           try clear c2b1
           try clear p2
           try clear q2
           try clear hx2
           try clear c3
           try clear c3b0
           try clear c3b1
           try clear c4
           try clear c4b0
           try clear c4b1
           try clear c6
           try clear c13
           try clear c13b0
           try clear c14
           try clear c14b0
           try clear c15
           try clear c15b0
           try clear c16
           try clear c16b0
           try clear p17
           try clear q17
           try clear hx17
           try clear hf17
           try clear c19
           try clear c20
           try clear p20
           try clear q20
           try clear hx20
           try clear hcz12_0
           try clear hcz12_1
           try clear hcz20_0
           try clear hcz20_1
           try clear hcz20_2
           try clear hcz20_3
           try clear hcz22_0
           try clear hcz22_1
           try clear hcz22_2
           try clear hcz22_3
           try clear hcz25_0
           try clear hcz25_1
           try clear hcz25_2
           try clear hcz25_3
           try clear hcz6_0
           try clear hcz6_1
           try clear hcz9_0
           try clear hcz9_1
           try clear hfz12_0
           try clear hfz12_1
           try clear hfz20_0
           try clear hfz20_1
           try clear hfz20_2
           try clear hfz20_3
           try clear hfz22_0
           try clear hfz22_1
           try clear hfz22_2
           try clear hfz22_3
           try clear hfz25_0
           try clear hfz25_1
           try clear hfz25_2
           try clear hfz25_3
           try clear hfz6_0
           try clear hfz6_1
           try clear hfz9_0
           try clear hfz9_1
           try clear hx17_0
           try clear hx206_0
           try clear hx206_1
           try clear hx206_2
           try clear hx206_3
           try clear p17
           try clear p2
           try clear p206
           try clear q17
           try clear q206
           obtain ⟨x3_2,x38_2,rfl,HA,HK2,HO_3,HO_4,HO_5,BK199,BK207,HB⟩:=hrel;have hl4_2:=(Kd.R_reads' HO_4.out).1;rw [hl4_2] at HO_4;(try simp only [hl4_2])
           (try simp only [hl4_2] at BK199)
           (try simp only [hl4_2] at BK207)
           (try simp only [hl4_2] at HO_3)
           (try simp only [hl4_2] at HO_5)
           cases gk with
           | zero => exact absurd HA.out (by simp [graph_order.l1])
           | succ k2 =>
            have H:=HA.out;clear HA;simp only [graph_order.l1] at H;by_cases c26:x38_2 < (((rd_T53 l0_0 x24_1).f3).length:Int)
            ·rw [if_pos c26] at H;have c26b0:decide (x38_2 < (((rd_T53 l0_0 x24_1).f3).length:Int)) = true:=decide_eq_true c26;clear c26;by_cases c27:0≤x38_2
             ·rw [if_pos c27] at H;have c27b0:decide (0≤x38_2) = true:=decide_eq_true c27;clear c27;by_cases c28:x38_2 < (((rd_T53 l0_0 x24_1).f3).length:Int)
              ·rw [if_pos c28] at H;have c28b0:decide (x38_2 < (((rd_T53 l0_0 x24_1).f3).length:Int)) = true:=decide_eq_true c28;clear c28;by_cases c29:0≤(rd ((rd_T53 l0_0 x24_1).f3) x38_2)
               ·rw [if_pos c29] at H;have c29b0:decide (0≤(rd ((rd_T53 l0_0 x24_1).f3) x38_2)) = true:=decide_eq_true c29;clear c29;by_cases c30:(rd ((rd_T53 l0_0 x24_1).f3) x38_2) < (x3_2.length:Int)
                ·rw [if_pos c30] at H;have c30b0:decide ((rd ((rd_T53 l0_0 x24_1).f3) x38_2) < (x3_2.length:Int)) = true:=decide_eq_true c30;clear c30;by_cases c31:(rd_L4 x3_2 (rd ((rd_T53 l0_0 x24_1).f3) x38_2)).length < 17592186044416
                 ·rw [if_pos c31] at H;have LMc31:=AM c31;clear c31;obtain ⟨y211,hy211⟩:∃ y_:List Int,y_ = ((rd_L4 x3_2 (rd ((rd_T53 l0_0 x24_1).f3) x38_2)) ++ [x24_1]):=⟨_,rfl⟩;replace H:(graph_order.l1 k2 (x3_2.set ((rd ((rd_T53 l0_0 x24_1).f3) x38_2):Int).toNat y211) y208 x5_1 x24_1 l0_0 (l0_0.length:Int) x24_1 ((rd_T53 l0_0 x24_1).f3) (((rd_T53 l0_0 x24_1).f3).length:Int) (wrap64 (x38_2+1))) = some r:=QH hy211 H
                  have Ny211:=AM hy211;clear hy211;obtain ⟨y214,hy214⟩:∃ y_:List (List Int),y_ = (x3_2.set ((rd ((rd_T53 l0_0 x24_1).f3) x38_2):Int).toNat y211):=⟨_,rfl⟩;replace H:(graph_order.l1 k2 y214 y208 x5_1 x24_1 l0_0 (l0_0.length:Int) x24_1 ((rd_T53 l0_0 x24_1).f3) (((rd_T53 l0_0 x24_1).f3).length:Int) (wrap64 (x38_2+1))) = some r:=QH hy214 H
                  have Ny214:=AM hy214;clear hy214;have H':=AM H;clear H;have p209:0≤(x38_2:Int):=OD;have q209:x38_2 < (((rd_T53 l0_0 x24_1).f3).length:Int):=OD;obtain ⟨ad209,e209,hx209_0⟩:=Kd.at_int HR206_3.out x38_2 p209 q209;cases e209
                  replace hx209_0:=CL HB hx209_0;replace p209:=eq_true p209;replace q209:=eq_true q209;obtain ⟨Ao33,co33,eo33⟩:=Kd.S_slice HO_3.out;subst eo33;have p210:0≤((rd ((rd_T53 l0_0 x24_1).f3) x38_2):Int):=OD;have q210:(rd ((rd_T53 l0_0 x24_1).f3) x38_2) < (x3_2.length:Int):=OD;obtain ⟨ad210,A210_0,c210_0,e210,hx210_0,hl210_0,hi210_0⟩:=at_L4 (Kd.S_reads' HO_3.out).2.2 (rd ((rd_T53 l0_0 x24_1).f3) x38_2) p210 q210;cases e210
                  obtain ⟨ce210,hce210,hMe210,hcc210⟩:=Kd.S_get HO_3.out [] (rd ((rd_T53 l0_0 x24_1).f3) x38_2) p210 (by first | exact q210 | exact OD | (have e_:=(Kd.S_reads' HO_3.out).1;omega));obtain ⟨ve210_0,rfl,ge210_0⟩:=hMe210;have hv210_0:=hcc210 0 _ rfl;rw [Nat.add_zero,show ((Kd.slice 3 (Kd.int .i64))).sz = 1 from rfl,Nat.mul_one] at hv210_0;replace hv210_0:=Option.some.inj (hv210_0.symm.trans hx210_0);rw [hv210_0] at ge210_0;have HL210_0:=AM (show Kd.R (Kd.int .i64) 3 _ _ _ _ (rd_L4 x3_2 (rd ((rd_T53 l0_0 x24_1).f3) x38_2)) from ge210_0);clear hv210_0 ge210_0;have HX210_0:=AM hx210_0;clear hcc210 hce210;have HR210_0:=AM hi210_0;have HC210_0:=AM hl210_0;clear hi210_0 hl210_0;replace p210:=eq_true p210;replace q210:=eq_true q210;obtain ⟨go34,co34,eo34,gb34,gl34,cl34,HG34⟩:=Kd.S_form HO_3.out (by have h_:((rd ((rd_T53 l0_0 x24_1).f3) x38_2):Int) < ((x3_2.length:Int):Int):=OD;have h2_:0≤((rd ((rd_T53 l0_0 x24_1).f3) x38_2):Int):=(OD);omega);(first | cases eo34 | (injection eo34 with ea_ en_ ec_;(first | subst ea_ | (injection ea_ with ea_;subst ea_));subst ec_;clear en_))
                  have GB34:=AM gb34;have GG34:=AM HG34;clear gb34 gl34 HG34;(first | simp only [add_plain] at hx210_0 | skip)
                  obtain ⟨oki34,ce34,hcl34,hM34,hcc34,_,_,hH34⟩:=Kd.S_elem HO_3.out [] ((rd ((rd_T53 l0_0 x24_1).f3) x38_2):Int) (OD) (by have h_:((rd ((rd_T53 l0_0 x24_1).f3) x38_2):Int) < ((x3_2.length:Int):Int):=OD;first | exact h_ | (have e_:=(Kd.S_reads' HO_3.out).1;omega) | simpa using h_);obtain ⟨ve34_0,rfl,ge34_0⟩:=hM34;have hv34:=hcc34 0 _ rfl;have hX34:=HX210_0.out;(try simp only [add_plain] at hX34)
                  (try simp only [Nat.add_zero] at hv34)
                  (try rw [show ((Kd.slice 3 (Kd.int .i64))).sz = 1 from rfl,Nat.mul_one] at hv34)
                  replace hv34:=Option.some.inj (hv34.symm.trans hX34);subst hv34;clear hX34 hcc34 hcl34;have UU34:=AM (show Kd.R (Kd.int .i64) 3 _ w.heap.size oki34 (.slice A210_0 (rd_L4 x3_2 (rd ((rd_T53 l0_0 x24_1).f3) x38_2)).length c210_0) (rd_L4 x3_2 (rd ((rd_T53 l0_0 x24_1).f3) x38_2)) from ge34_0);have HH34:=AM hH34;have HN34:=AM (Kd.S_reads' HO_3.out).1;clear hH34 ge34_0;go_wp2_with (first | ((with_reducible refine gate_builtin (b:=.append) (xs:=#[.tmp 47,.tmp 49]) rfl ?_);at_builtin;refine Kd.R_append (Kd.int .i64) (w0:=w) w.heap.size rfl (.tmp 47) (.tmp 49) 51 3 (.int .i64 0) 8 rfl Tryd.underlying51 info3 rfl (by decide) (by omega) (.slice A210_0 (rd_L4 x3_2 (rd ((rd_T53 l0_0 x24_1).f3) x38_2)).length c210_0) (rd_L4 x3_2 (rd ((rd_T53 l0_0 x24_1).f3) x38_2)) x24_1 [.int .i64 x24_1] (fun k_ => oki34 k_ ∨ ((fun k_ => some k_≠(.slice (some ⟨go17,0,none⟩) y208.length co17:Value).ownBlock∧some k_≠(u5:Value).ownBlock)) k_∧wr.heap.size≤k_) (fun _ => False) rfl rfl ?aP (fun _ hk => hk.elim) ?aF ?aO ?aB ?aS ?aL ?_;(case aP => exact rfl);(case aB => exact (BB HB));(case aF => exact (fun k_ hk => .inr ⟨⟨Kd.fresh' (Kd.R_lt (RL HO_4)) k_ hk,Kd.fresh' (Kd.R_lt (RL HO_5)) k_ hk⟩,hk⟩));(case aO => exact (by (with_reducible repeat (first | apply Kd.R_alloc | apply Kd.R_drewN | apply Kd.R_drew));exact Kd.R_mono UU34.out (fun _ hk => .inl hk)));(case aS => exact (below_size (BB HB)));(case aL => have:=LMc31.out;omega);intro v212 w35 ho hb hg hat;rw [← Ny211.out] at ho;replace HO_4:=AM (Kd.R_grown2 (RL HO_4) rfl hg (fun k_ e_ => (HL210_0.out.1 k_ e_).1.1));replace HO_5:=AM (Kd.R_grown2 (RL HO_5) rfl hg (fun k_ e_ => (HL210_0.out.1 k_ e_).1.2));replace BK199:=AM (blk_grown (g:=gb199) (o:=.cells #[.slice (some ad206) l0_0.length c0_0,.int .i64 a0_1] 24 (0,0)) (BL BK199) hg (Kd.R_ne HL210_0.out BK199.out (by decide)));replace BK207:=AM (blk_grown (g:=gb207) (o:=.cells #[.int .i64 ((rd_T53 l0_0 x24_1).f0),.slice A206_1 ((rd_T53 l0_0 x24_1).f1).length c206_1,.slice A206_2 ((rd_T53 l0_0 x24_1).f2).length c206_2,.slice (some ad209) ((rd_T53 l0_0 x24_1).f3).length c206_3] 53 (0,0)) (BL BK207) hg (Kd.R_ne HL210_0.out BK207.out (by decide)));replace HB:=AM (hb);replace HH34:=AM (Kd.H_grown (Kd.H_widen (by repeat (first | exact HH34.out | refine Kd.H_alloc ?_ _ | refine Kd.H_drewN ?_ _ | refine Kd.H_drew ?_))) hg (fun k_ e_ => .inl (UU34.out.1 k_ e_)));have HO213:=AM (ho);clear HO_3;clear UU34;clear HL210_0;clear ho hb hg hat;have p32:0≤((rd ((rd_T53 l0_0 x24_1).f3) x38_2):Int):=OD;have q32:((rd ((rd_T53 l0_0 x24_1).f3) x38_2):Int) < ((x3_2.length:Int):Int):=OD;replace p32:=eq_true p32;replace q32:=eq_true q32;obtain ⟨Ao38,co38,eo38⟩:=Kd.R_slice HO213.out;subst eo38;obtain ⟨_,_,hraw36,_,_,hcc36,_⟩:=Kd.H_raw HH34.out (OD) (by have h_:((rd ((rd_T53 l0_0 x24_1).f3) x38_2):Int) < ((x3_2.length:Int):Int):=OD;first | exact h_ | (have e_:=(HN34.out);omega) | simpa using h_);obtain ⟨_,hfr36⟩:=Kd.H_at HH34.out (OD) (by have h_:((rd ((rd_T53 l0_0 x24_1).f3) x38_2):Int) < ((x3_2.length:Int):Int):=OD;first | exact h_ | (have e_:=(HN34.out);omega) | simpa using h_);have hx36_0:=hcc36 0 _ rfl;have hf36_0:=hfr36 0;(try simp only [Nat.add_zero] at hx36_0 hf36_0);(try rw [show ((Kd.slice 3 (Kd.int .i64))).sz = 1 from rfl,Nat.mul_one] at hx36_0);(try rw [show ((Kd.slice 3 (Kd.int .i64))).sz = 1 from rfl,Nat.mul_one] at hf36_0);have HP36:=Kd.S_seg0 HH34.out (OD) (by have h_:((rd ((rd_T53 l0_0 x24_1).f3) x38_2):Int) < ((x3_2.length:Int):Int):=OD;first | exact h_ | (have e_:=(HN34.out);omega) | simpa using h_) (seg:=[.slice Ao38 y211.length co38]) (j:=0) (show 1≤1 from by decide) (x':=y211) (Kd.M_row HO213.out) (fun _ hk => hk);(try simp only [show ((Kd.slice 3 (Kd.int .i64))).sz = 1 from rfl,Nat.mul_one,Nat.add_zero] at HP36);clear hcc36 hfr36) | ((with_reducible refine gate_store (t:=51) (p:=51) rfl ?_);refine store_event (t:=51) (p:=51) (v:=?vo_w37) (w1:=(w35.setCell ⟨go34,((rd ((rd_T53 l0_0 x24_1).f3) x38_2):Int).toNat,none⟩ (.slice Ao38 y211.length co38))) ?hg ?ho ?hn ?hr ?_;(case ho => rfl);(case hg => rfl);(case hn => rfl);(case hr => first | (go_simp;done) | (go_simp;rfl));intro w37 hw;have hg:w35.grownBy w37 (some go34):=(by rw [hw];exact HP36.2);have hp_:Kd.S (Kd.slice 3 (Kd.int .i64)) 51 w37 w.heap.size (fun k_ => some k_≠(.slice (some ⟨go17,0,none⟩) y208.length co17:Value).ownBlock∧some k_≠(u5:Value).ownBlock) (.slice (some ⟨go34,0,none⟩) x3_2.length co33) y214:=(by rw [hw,Ny214.out];exact HP36.1);clear HP36;replace HO_4:=AM (Kd.R_over' (v:=(.slice (some ⟨go34,0,none⟩) x3_2.length co33)) (RL HO_4) (Kd.R_typed hraw36) (by decide) hg);replace HO_5:=AM (Kd.R_over' (v:=(.slice (some ⟨go34,0,none⟩) x3_2.length co33)) (RL HO_5) (Kd.R_typed hraw36) (by decide) hg);replace BK199:=AM (blk_grown (g:=gb199) (o:=.cells #[.slice (some ad206) l0_0.length c0_0,.int .i64 a0_1] 24 (0,0)) (BL BK199) hg (Kd.R_ne hraw36 BK199.out (by decide)));replace BK207:=AM (blk_grown (g:=gb207) (o:=.cells #[.int .i64 ((rd_T53 l0_0 x24_1).f0),.slice A206_1 ((rd_T53 l0_0 x24_1).f1).length c206_1,.slice A206_2 ((rd_T53 l0_0 x24_1).f2).length c206_2,.slice (some ad209) ((rd_T53 l0_0 x24_1).f3).length c206_3] 53 (0,0)) (BL BK207) hg (Kd.R_ne hraw36 BK207.out (by decide)));replace HB:=AM ((by rw [hw];exact below_set HB.out GB34.out:Below w.heap.size w w37));have HO_3:=AM (hp_);clear HO213;clear HH34;clear hg hw hp_ hraw36))
                  (try simp only [← hl4_2])
                  go_roundg k2
                  case measure => have:=HK1.out;have:=HK2.out;omega
                  case rel => exact ⟨(y214),(wrap64 (x38_2+1)),QD,H',⟨by have:=HK1.out;have:=HK2.out;omega⟩,⟨by (try simp only [hl4_2]);(with_reducible repeat (first | apply Kd.S_alloc | apply Kd.S_drewN | apply Kd.S_drew));exact HO_3.out⟩,⟨by (try simp only [hl4_2]);(with_reducible repeat (first | apply Kd.R_alloc | apply Kd.R_drewN | apply Kd.R_drew));exact HO_4.out⟩,⟨by (try simp only [hl4_2]);(with_reducible repeat (first | apply Kd.R_alloc | apply Kd.R_drewN | apply Kd.R_drew));exact HO_5.out⟩,⟨by (try simp only [hl4_2]);exact BL BK199⟩,⟨by (try simp only [hl4_2]);exact BL BK207⟩,⟨BB HB⟩⟩
                 ·rw [if_neg c31] at H;exact absurd H (by simp)
                ·rw [if_neg c30] at H;exact absurd H (by simp)
               ·rw [if_neg c29] at H;exact absurd H (by simp)
              ·rw [if_neg c28] at H;exact absurd H (by simp)
             ·rw [if_neg c27] at H;exact absurd H (by simp)
            ·rw [if_neg c26] at H;have c26b0:decide (x38_2 < (((rd_T53 l0_0 x24_1).f3).length:Int)) = false:=decide_eq_false c26;clear c26;by_cases c39:0≤x24_1
             ·rw [if_pos c39] at H;have c39b0:decide (0≤x24_1) = true:=decide_eq_true c39;clear c39;by_cases c40:x24_1 < (y208.length:Int)
              ·rw [if_pos c40] at H;have c40b0:decide (x24_1 < (y208.length:Int)) = true:=decide_eq_true c40;clear c40;by_cases c41:(rd y208 x24_1) = 0
               ·rw [if_pos c41] at H;have c41b0:((rd y208 x24_1) == 0) = true:=beq_iff_eq.mpr c41;have c41b1:((rd y208 x24_1) != 0) = false:=bne_eq_false_iff_eq.mpr c41;clear c41;by_cases c42:x5_1.length < 17592186044416
                ·rw [if_pos c42] at H;have LMc42:=AM c42;clear c42;obtain ⟨y216,hy216⟩:∃ y_:List Int,y_ = (x5_1 ++ [x24_1]):=⟨_,rfl⟩;replace H:(graph_order.l0 k2 x3_2 y208 y216 l0_0 (l0_0.length:Int) (wrap64 (x24_1+1))) = some r:=QH hy216 H
                 have Ny216:=AM hy216;clear hy216;have H':=AM H;clear H;have p215:0≤(x24_1:Int):=OD;have q215:x24_1 < (y208.length:Int):=OD;obtain ⟨ad215,e215,hx215_0⟩:=Kd.at_int (Kd.R_reads' HO_4.out).2.2 x24_1 p215 q215;obtain rfl:(⟨go17,0,none⟩:Addr) = ad215:=(by injection e215);(first | simp only [add_plain] at hx215_0 | simp only [add_at] at hx215_0 | simp only [Addr.add,Nat.zero_add] at hx215_0 | skip)
                 replace p215:=eq_true p215;replace q215:=eq_true q215;go_wp2_with (first | ((with_reducible refine gate_builtin (b:=.append) (xs:=#[.tmp 58,.tmp 60]) rfl ?_);at_builtin;refine Kd.R_append (Kd.int .i64) (w0:=w) w.heap.size rfl (.tmp 58) (.tmp 60) 51 3 (.int .i64 0) 8 rfl Tryd.underlying51 info3 rfl (by decide) (by omega) u5 x5_1 x24_1 [.int .i64 x24_1] (fun k_ => some k_≠(.slice (some ⟨go17,0,none⟩) y208.length co17:Value).ownBlock) (fun _ => False) rfl rfl ?aP (fun _ hk => hk.elim) ?aF ?aO ?aB ?aS ?aL ?_;(case aP => exact rfl);(case aB => exact (BB HB));(case aF => exact (fun k_ hk => Kd.fresh' (Kd.R_lt (RL HO_4)) k_ hk));(case aO => exact (RL HO_5));(case aS => exact (below_size (BB HB)));(case aL => have:=LMc42.out;omega);intro v217 w43 ho hb hg hat;rw [← Ny216.out] at ho;replace HO_3:=AM (Kd.S_after (ok:=(fun k_ => some k_≠(.slice (some ⟨go17,0,none⟩) y208.length co17:Value).ownBlock)) (SL HO_3) hg hat);replace HO_4:=AM (Kd.R_after (ok:=(fun _ => True)) (by (with_reducible repeat (first | apply Kd.R_alloc | apply Kd.R_drewN | apply Kd.R_drew));exact Kd.R_mono HO_4.out (fun _ hk => ⟨trivial,hk⟩)) hg hat);replace BK199:=AM (blk_grown (g:=gb199) (o:=.cells #[.slice (some ad206) l0_0.length c0_0,.int .i64 a0_1] 24 (0,0)) (BL BK199) hg (Kd.R_ne HO_5.out BK199.out (by decide)));replace BK207:=AM (blk_grown (g:=gb207) (o:=.cells #[.int .i64 ((rd_T53 l0_0 x24_1).f0),.slice A206_1 ((rd_T53 l0_0 x24_1).f1).length c206_1,.slice A206_2 ((rd_T53 l0_0 x24_1).f2).length c206_2,.slice A206_3 ((rd_T53 l0_0 x24_1).f3).length c206_3] 53 (0,0)) (BL BK207) hg (Kd.R_ne HO_5.out BK207.out (by decide)));replace HB:=AM (hb);have HO218:=AM (ho);clear HO_5;clear ho hb hg hat))
                 (try simp only [← hl4_2])
                 go_roundg k2
                 case measure => have:=HK1.out;have:=HK2.out;omega
                 case rel => exact ⟨(x3_2),(y208),(y216),(wrap64 (x24_1+1)),QD,H',⟨by have:=HK1.out;have:=HK2.out;omega⟩,⟨by (try simp only [hl4_2]);(with_reducible repeat (first | apply Kd.S_alloc | apply Kd.S_drewN | apply Kd.S_drew));exact HO_3.out⟩,⟨by (try simp only [hl4_2]);(with_reducible repeat (first | apply Kd.R_alloc | apply Kd.R_drewN | apply Kd.R_drew));exact Kd.R_mono HO_4.out (fun _ hk => hk.2)⟩,⟨by (try simp only [hl4_2]);(with_reducible repeat (first | apply Kd.R_alloc | apply Kd.R_drewN | apply Kd.R_drew));exact HO218.out⟩,⟨by (try simp only [hl4_2]);exact BL BK199⟩,⟨BB HB⟩⟩
                ·rw [if_neg c42] at H;exact absurd H (by simp)
               ·rw [if_neg c41] at H;have c41b0:((rd y208 x24_1) == 0) = false:=beq_eq_false_iff_ne.mpr c41;have c41b1:((rd y208 x24_1) != 0) = true:=bne_iff_ne.mpr c41;have H':=AM H;clear H;have p215:0≤(x24_1:Int):=OD;have q215:x24_1 < (y208.length:Int):=OD;obtain ⟨ad215,e215,hx215_0⟩:=Kd.at_int (Kd.R_reads' HO_4.out).2.2 x24_1 p215 q215;obtain rfl:(⟨go17,0,none⟩:Addr) = ad215:=(by injection e215);(first | simp only [add_plain] at hx215_0 | simp only [add_at] at hx215_0 | simp only [Addr.add,Nat.zero_add] at hx215_0 | skip)
                replace p215:=eq_true p215;replace q215:=eq_true q215;go_wp2
                (try simp only [← hl4_2])
                go_roundg k2
                case measure => have:=HK1.out;have:=HK2.out;omega
                case rel => exact ⟨(x3_2),(y208),(x5_1),(wrap64 (x24_1+1)),QD,H',⟨by have:=HK1.out;have:=HK2.out;omega⟩,⟨by (try simp only [hl4_2]);(with_reducible repeat (first | apply Kd.S_alloc | apply Kd.S_drewN | apply Kd.S_drew));exact HO_3.out⟩,⟨by (try simp only [hl4_2]);(with_reducible repeat (first | apply Kd.R_alloc | apply Kd.R_drewN | apply Kd.R_drew));exact HO_4.out⟩,⟨by (try simp only [hl4_2]);(with_reducible repeat (first | apply Kd.R_alloc | apply Kd.R_drewN | apply Kd.R_drew));exact HO_5.out⟩,⟨by (try simp only [hl4_2]);exact BL BK199⟩,⟨BB HB⟩⟩
              ·rw [if_neg c40] at H;exact absurd H (by simp)
             ·rw [if_neg c39] at H;exact absurd H (by simp)
         ·rw [if_neg c16] at H;exact absurd H (by simp)
        ·rw [if_neg c15] at H;exact absurd H (by simp)
       ·rw [if_neg c14] at H;exact absurd H (by simp)
      ·rw [if_neg c13] at H;have c13b0:decide (x24_1 < (l0_0.length:Int)) = false:=decide_eq_false c13;clear c13;have H':=AM H;clear H;go_wp2
       go_loopg [5,10] k1 (fun kq v5 v10 w' => ∃ (x4_2:List Int) (x5_2:List Int) (x10_2:Int),v10 = .int .i64 x10_2∧Aside0 (graph_order.l2 kq x3_1 x4_2 x5_2 x10_2 = some r)∧Aside0 (kq≤k1)∧Aside0 (Kd.S (Kd.slice 3 (Kd.int .i64)) 51 w' w.heap.size (fun k_ => some k_≠(v204:Value).ownBlock∧some k_≠(v5:Value).ownBlock) v201 x3_1)∧Aside0 (Kd.R (Kd.int .i64) 3 w' w.heap.size (fun k_ => some k_≠(v5:Value).ownBlock) v204 x4_2)∧Aside0 (Kd.R (Kd.int .i64) 3 w' w.heap.size (fun k_ => some k_≠(v204:Value).ownBlock) v5 x5_2)∧Aside0 (w'.heap[gb199]? = some (.cells #[(.slice A0_0 l0_0.length c0_0),.int .i64 a0_1] 24 (0,0)))∧Aside0 (Below w.heap.size w w'))
       case atStart => exact ⟨(x4_1),(x5_1),(0),QD,H',⟨Nat.le_refl _⟩,⟨by (with_reducible repeat (first | apply Kd.S_alloc | apply Kd.S_drewN | apply Kd.S_drew));exact HO_3.out⟩,⟨RA HO_4.out⟩,⟨RA HO_5.out⟩,⟨BL BK199⟩,⟨BB HB⟩⟩
       case round =>
        clear H';try clear c1
        try clear p1
        try clear q1
        try clear hx1
        try clear hf1
        try clear c2
        try clear c2b0
        try clear c2b1
        try clear p2
        try clear q2
        try clear hx2
        try clear c3
        try clear c3b0
        try clear c3b1
        try clear p3
        try clear q3
        try clear hx3
        try clear hf3
        try clear c4
        try clear c4b0
        try clear c4b1
        try clear c6
        try clear p6
        try clear c13
        try clear c13b0
        try clear c14
        try clear c14b0
        try clear c15
        try clear c15b0
        try clear c16
        try clear c16b0
        try clear p17
        try clear q17
        try clear hx17
        try clear hf17
        try clear c19
        try clear c20
        try clear p20
        try clear q20
        try clear hx20
        try clear c21
        try clear p21
        try clear q21
        try clear hx21
        try clear c26
        try clear c26b0
        try clear c27
        try clear c27b0
        try clear c28
        try clear c28b0
        try clear c29
        try clear c29b0
        try clear c30
        try clear c30b0
        try clear c31
        try clear p32
        try clear q32
        try clear c34
        try clear c36
        try clear hx36
        try clear hf36
        try clear c39
        try clear c39b0
        try clear c40
        try clear c40b0
        try clear c41
        try clear c41b0
        try clear c41b1
        try clear c42
        try clear hcz12_0
        try clear hcz12_1
        try clear hcz20_0
        try clear hcz20_1
        try clear hcz20_2
        try clear hcz20_3
        try clear hcz22_0
        try clear hcz22_1
        try clear hcz22_2
        try clear hcz22_3
        try clear hcz25_0
        try clear hcz25_1
        try clear hcz25_2
        try clear hcz25_3
        try clear hcz6_0
        try clear hcz6_1
        try clear hcz9_0
        try clear hcz9_1
        try clear hfz12_0
        try clear hfz12_1
        try clear hfz20_0
        try clear hfz20_1
        try clear hfz20_2
        try clear hfz20_3
        try clear hfz22_0
        try clear hfz22_1
        try clear hfz22_2
        try clear hfz22_3
        try clear hfz25_0
        try clear hfz25_1
        try clear hfz25_2
        try clear hfz25_3
        try clear hfz6_0
        try clear hfz6_1
        try clear hfz9_0
        try clear hfz9_1
        try clear hx17_0
        try clear hx206_0
        try clear hx206_1
        try clear hx206_2
        try clear hx206_3
        try clear hx209_0
        try clear hx210_0
        try clear hx215_0
        try clear hx36_0
        try clear p1
        try clear p17
        try clear p2
        try clear p20
        try clear p206
        try clear p209
        try clear p210
        try clear p215
        try clear p32
        try clear q1
        try clear q17
        try clear q2
        try clear q20
        try clear q206
        try clear q209
        try clear q210
        try clear q215
        try clear q32
        obtain ⟨x4_2,x5_2,x10_2,rfl,HA,HK2,HO_3,HO_4,HO_5,BK199,HB⟩:=hrel;cases gk with
        | zero => exact absurd HA.out (by simp [graph_order.l2])
        | succ k2 =>
         have H:=HA.out;clear HA;simp only [graph_order.l2] at H;by_cases c44:x10_2 < (x5_2.length:Int)
         ·rw [if_pos c44] at H;have c44b0:decide (x10_2 < (x5_2.length:Int)) = true:=decide_eq_true c44;clear c44;by_cases c45:0≤x10_2
          ·rw [if_pos c45] at H;have c45b0:decide (0≤x10_2) = true:=decide_eq_true c45;clear c45;by_cases c46:0≤(rd x5_2 x10_2)
           ·rw [if_pos c46] at H;have c46b0:decide (0≤(rd x5_2 x10_2)) = true:=decide_eq_true c46;clear c46;by_cases c47:(rd x5_2 x10_2) < (x3_1.length:Int)
            ·rw [if_pos c47] at H;have c47b0:decide ((rd x5_2 x10_2) < (x3_1.length:Int)) = true:=decide_eq_true c47;clear c47;have H':=AM H;clear H;obtain ⟨Ao48,co48,eo48⟩:=Kd.R_slice HO_5.out;subst eo48;have p219:0≤(x10_2:Int):=OD;have q219:x10_2 < (x5_2.length:Int):=OD;obtain ⟨ad219,e219,hx219_0⟩:=Kd.at_int (Kd.R_reads' HO_5.out).2.2 x10_2 p219 q219;cases e219
             replace p219:=eq_true p219;replace q219:=eq_true q219;obtain ⟨Ao49,co49,eo49⟩:=Kd.S_slice HO_3.out;subst eo49;have p220:0≤((rd x5_2 x10_2):Int):=OD;have q220:(rd x5_2 x10_2) < (x3_1.length:Int):=OD;obtain ⟨ad220,A220_0,c220_0,e220,hx220_0,hl220_0,hi220_0⟩:=at_L4 (Kd.S_reads' HO_3.out).2.2 (rd x5_2 x10_2) p220 q220;cases e220
             obtain ⟨ce220,hce220,hMe220,hcc220⟩:=Kd.S_get HO_3.out [] (rd x5_2 x10_2) p220 (by first | exact q220 | exact OD | (have e_:=(Kd.S_reads' HO_3.out).1;omega));obtain ⟨ve220_0,rfl,ge220_0⟩:=hMe220;have hv220_0:=hcc220 0 _ rfl;rw [Nat.add_zero,show ((Kd.slice 3 (Kd.int .i64))).sz = 1 from rfl,Nat.mul_one] at hv220_0;replace hv220_0:=Option.some.inj (hv220_0.symm.trans hx220_0);rw [hv220_0] at ge220_0;have HL220_0:=AM (show Kd.R (Kd.int .i64) 3 _ _ _ _ (rd_L4 x3_1 (rd x5_2 x10_2)) from ge220_0);clear hv220_0 ge220_0;have HX220_0:=AM hx220_0;clear hcc220 hce220;have HR220_0:=AM hi220_0;have HC220_0:=AM hl220_0;clear hi220_0 hl220_0;replace p220:=eq_true p220;replace q220:=eq_true q220;go_wp2
             go_loopg [5,77] k2 (fun kq v5 v77 w' => ∃ (x4_3:List Int) (x5_3:List Int) (x77_3:Int),v77 = .int .i64 x77_3∧Aside0 (graph_order.l3 kq x3_1 x4_3 x5_3 x10_2 (rd_L4 x3_1 (rd x5_2 x10_2)) ((rd_L4 x3_1 (rd x5_2 x10_2)).length:Int) x77_3 = some r)∧Aside0 (kq≤k2)∧Aside0 (Kd.S (Kd.slice 3 (Kd.int .i64)) 51 w' w.heap.size (fun k_ => some k_≠(v204:Value).ownBlock∧some k_≠(v5:Value).ownBlock) (.slice (some ad220) x3_1.length co49) x3_1)∧Aside0 (Kd.R (Kd.int .i64) 3 w' w.heap.size (fun k_ => some k_≠(v5:Value).ownBlock) v204 x4_3)∧Aside0 (Kd.R (Kd.int .i64) 3 w' w.heap.size (fun k_ => some k_≠(v204:Value).ownBlock) v5 x5_3)∧Aside0 (w'.heap[gb199]? = some (.cells #[(.slice A0_0 l0_0.length c0_0),.int .i64 a0_1] 24 (0,0)))∧Aside0 (Below w.heap.size w w')∧Aside0 (Kd.R (Kd.int .i64) 3 w' w.heap.size (fun k_ => some k_≠(v204:Value).ownBlock∧some k_≠(v5:Value).ownBlock) (.slice A220_0 (rd_L4 x3_1 (rd x5_2 x10_2)).length c220_0) (rd_L4 x3_1 (rd x5_2 x10_2))))
             case atStart => exact ⟨(x4_2),(x5_2),(0),QD,H',⟨Nat.le_refl _⟩,⟨by (with_reducible repeat (first | apply Kd.S_alloc | apply Kd.S_drewN | apply Kd.S_drew));exact HO_3.out⟩,⟨RA HO_4.out⟩,⟨RA HO_5.out⟩,⟨BL BK199⟩,⟨BB HB⟩,⟨by (with_reducible repeat (first | apply Kd.R_alloc | apply Kd.R_drewN | apply Kd.R_drew));exact Kd.R_mono HL220_0.out (fun _ hk => hk.1)⟩⟩
             case round =>
              clear H';try clear c1
              try clear p1
              try clear q1
              try clear hx1
              try clear hf1
              try clear c2
              try clear c2b0
              try clear c2b1
              try clear p2
              try clear q2
              try clear hx2
              try clear c3
              try clear c3b0
              try clear c3b1
              try clear p3
              try clear q3
              try clear hx3
              try clear hf3
              try clear c4
              try clear c4b0
              try clear c4b1
              try clear c6
              try clear p6
              try clear c13
              try clear c13b0
              try clear c14
              try clear c14b0
              try clear c15
              try clear c15b0
              try clear c16
              try clear c16b0
              try clear p17
              try clear q17
              try clear hx17
              try clear hf17
              try clear c19
              try clear c20
              try clear p20
              try clear q20
              try clear hx20
              try clear c21
              try clear p21
              try clear q21
              try clear hx21
              try clear c22
              try clear p22
              try clear q22
              try clear hx22
              try clear c26
              try clear c26b0
              try clear c27
              try clear c27b0
              try clear c28
              try clear c28b0
              try clear c29
              try clear c29b0
              try clear c30
              try clear c30b0
              try clear c31
              try clear p32
              try clear q32
              try clear c34
              try clear c36
              try clear hx36
              try clear hf36
              try clear c39
              try clear c39b0
              try clear c40
              try clear c40b0
              try clear c41
              try clear c41b0
              try clear c41b1
              try clear c42
              try clear c44
              try clear c44b0
              try clear c45
              try clear c45b0
              try clear c46
              try clear c46b0
              try clear c47
              try clear c47b0
              try clear hcz12_0
              try clear hcz12_1
              try clear hcz20_0
              try clear hcz20_1
              try clear hcz20_2
              try clear hcz20_3
              try clear hcz22_0
              try clear hcz22_1
              try clear hcz22_2
              try clear hcz22_3
              try clear hcz25_0
              try clear hcz25_1
              try clear hcz25_2
              try clear hcz25_3
              try clear hcz6_0
              try clear hcz6_1
              try clear hcz9_0
              try clear hcz9_1
              try clear hfz12_0
              try clear hfz12_1
              try clear hfz20_0
              try clear hfz20_1
              try clear hfz20_2
              try clear hfz20_3
              try clear hfz22_0
              try clear hfz22_1
              try clear hfz22_2
              try clear hfz22_3
              try clear hfz25_0
              try clear hfz25_1
              try clear hfz25_2
              try clear hfz25_3
              try clear hfz6_0
              try clear hfz6_1
              try clear hfz9_0
              try clear hfz9_1
              try clear hx17_0
              try clear hx206_0
              try clear hx206_1
              try clear hx206_2
              try clear hx206_3
              try clear hx209_0
              try clear hx210_0
              try clear hx215_0
              try clear hx219_0
              try clear hx220_0
              try clear hx36_0
              try clear p1
              try clear p17
              try clear p2
              try clear p20
              try clear p206
              try clear p209
              try clear p21
              try clear p210
              try clear p215
              try clear p219
              try clear p220
              try clear p3
              try clear p32
              try clear p6
              try clear q1
              try clear q17
              try clear q2
              try clear q20
              try clear q206
              try clear q209
              try clear q21
              try clear q210
              try clear q215
              try clear q219
              try clear q220
              try clear q3
              try clear q32
              obtain ⟨x4_3,x5_3,x77_3,rfl,HA,HK3,HO_3,HO_4,HO_5,BK199,HB,HLx⟩:=hrel;cases gk with
              | zero => exact absurd HA.out (by simp [graph_order.l3])
              | succ k3 =>
               have H:=HA.out;clear HA;simp only [graph_order.l3] at H;by_cases c50:x77_3 < ((rd_L4 x3_1 (rd x5_2 x10_2)).length:Int)
               ·rw [if_pos c50] at H;have c50b0:decide (x77_3 < ((rd_L4 x3_1 (rd x5_2 x10_2)).length:Int)) = true:=decide_eq_true c50;clear c50;by_cases c51:0≤x77_3
                ·rw [if_pos c51] at H;have c51b0:decide (0≤x77_3) = true:=decide_eq_true c51;clear c51;by_cases c52:x77_3 < ((rd_L4 x3_1 (rd x5_2 x10_2)).length:Int)
                 ·rw [if_pos c52] at H;have c52b0:decide (x77_3 < ((rd_L4 x3_1 (rd x5_2 x10_2)).length:Int)) = true:=decide_eq_true c52;clear c52;by_cases c53:0≤(rd (rd_L4 x3_1 (rd x5_2 x10_2)) x77_3)
                  ·rw [if_pos c53] at H;have c53b0:decide (0≤(rd (rd_L4 x3_1 (rd x5_2 x10_2)) x77_3)) = true:=decide_eq_true c53;clear c53;by_cases c54:(rd (rd_L4 x3_1 (rd x5_2 x10_2)) x77_3) < (x4_3.length:Int)
                   ·rw [if_pos c54] at H;have c54b0:decide ((rd (rd_L4 x3_1 (rd x5_2 x10_2)) x77_3) < (x4_3.length:Int)) = true:=decide_eq_true c54;clear c54;obtain ⟨y223,hy223⟩:∃ y_:List Int,y_ = (x4_3.set ((rd (rd_L4 x3_1 (rd x5_2 x10_2)) x77_3):Int).toNat (wrap64 ((rd x4_3 (rd (rd_L4 x3_1 (rd x5_2 x10_2)) x77_3)) - 1))):=⟨_,rfl⟩;replace H:(if (rd y223 (rd (rd_L4 x3_1 (rd x5_2 x10_2)) x77_3)) = 0 then (if x5_3.length < 17592186044416 then (graph_order.l3 k3 x3_1 y223 (x5_3 ++ [rd (rd_L4 x3_1 (rd x5_2 x10_2)) x77_3]) x10_2 (rd_L4 x3_1 (rd x5_2 x10_2)) ((rd_L4 x3_1 (rd x5_2 x10_2)).length:Int) (wrap64 (x77_3+1))) else (none)) else (graph_order.l3 k3 x3_1 y223 x5_3 x10_2 (rd_L4 x3_1 (rd x5_2 x10_2)) ((rd_L4 x3_1 (rd x5_2 x10_2)).length:Int) (wrap64 (x77_3+1)))) = some r:=QH hy223 H
                    have Ny223:=AM hy223;clear hy223;by_cases c56:(rd y223 (rd (rd_L4 x3_1 (rd x5_2 x10_2)) x77_3)) = 0
                    ·rw [if_pos c56] at H;have c56b0:((rd y223 (rd (rd_L4 x3_1 (rd x5_2 x10_2)) x77_3)) == 0) = true:=beq_iff_eq.mpr c56;have c56b1:((rd y223 (rd (rd_L4 x3_1 (rd x5_2 x10_2)) x77_3)) != 0) = false:=bne_eq_false_iff_eq.mpr c56;clear c56;by_cases c57:x5_3.length < 17592186044416
                     ·rw [if_pos c57] at H;have LMc57:=AM c57;clear c57;obtain ⟨y225,hy225⟩:∃ y_:List Int,y_ = (x5_3 ++ [rd (rd_L4 x3_1 (rd x5_2 x10_2)) x77_3]):=⟨_,rfl⟩;replace H:(graph_order.l3 k3 x3_1 y223 y225 x10_2 (rd_L4 x3_1 (rd x5_2 x10_2)) ((rd_L4 x3_1 (rd x5_2 x10_2)).length:Int) (wrap64 (x77_3+1))) = some r:=QH hy225 H
                      have Ny225:=AM hy225;clear hy225;have H':=AM H;clear H;have p221:0≤(x77_3:Int):=OD;have q221:x77_3 < ((rd_L4 x3_1 (rd x5_2 x10_2)).length:Int):=OD;obtain ⟨ad221,e221,hx221_0⟩:=Kd.at_int (Kd.R_reads' HLx.out).2.2 x77_3 p221 q221;cases e221
                      replace p221:=eq_true p221;replace q221:=eq_true q221;obtain ⟨Ao58,co58,eo58⟩:=Kd.R_slice HO_4.out;subst eo58;have p222:0≤((rd (rd_L4 x3_1 (rd x5_2 x10_2)) x77_3):Int):=OD;have q222:(rd (rd_L4 x3_1 (rd x5_2 x10_2)) x77_3) < (x4_3.length:Int):=OD;obtain ⟨ad222,e222,hx222_0⟩:=Kd.at_int (Kd.R_reads' HO_4.out).2.2 (rd (rd_L4 x3_1 (rd x5_2 x10_2)) x77_3) p222 q222;cases e222
                      replace p222:=eq_true p222;replace q222:=eq_true q222;have p55:0≤((rd (rd_L4 x3_1 (rd x5_2 x10_2)) x77_3):Int):=OD;have q55:((rd (rd_L4 x3_1 (rd x5_2 x10_2)) x77_3):Int) < ((x4_3.length:Int):Int):=OD;obtain ⟨go55,co55,eo55,gb55,gl55,cl55,HG55⟩:=Kd.R_form HO_4.out (by omega);(first | cases eo55 | (injection eo55 with ea_ en_ ec_;(first | subst ea_ | (injection ea_ with ea_;subst ea_));subst ec_;clear en_))
                      have GB55:=AM gb55;have GG55:=AM HG55;clear gb55 gl55 HG55;(first | simp only [add_plain] at hx222_0 | skip)
                      obtain ⟨hx55_0,hf55_0⟩:=Kd.R_celln 0 HO_4.out ((rd (rd_L4 x3_1 (rd x5_2 x10_2)) x77_3):Int) p55 q55;replace p55:=eq_true p55;replace q55:=eq_true q55;have HP59:=Kd.R_putg HO_4.out ((rd (rd_L4 x3_1 (rd x5_2 x10_2)) x77_3):Int) (wrap64 ((rd x4_3 (rd (rd_L4 x3_1 (rd x5_2 x10_2)) x77_3)) - 1));go_wp2_with (first | ((with_reducible refine gate_store (t:=3) (p:=86) rfl ?_);refine store_event (t:=3) (p:=86) (v:=?vo_w60) (w1:=(wr.setCell ⟨go55,((rd (rd_L4 x3_1 (rd x5_2 x10_2)) x77_3):Int).toNat,none⟩ (.int .i64 (wrap64 ((rd x4_3 (rd (rd_L4 x3_1 (rd x5_2 x10_2)) x77_3)) - 1))))) ?hg ?ho ?hn ?hr ?_;(case ho => rfl);(case hg => rfl);(case hn => rfl);(case hr => first | (go_simp;done) | (go_simp;rfl));intro w60 hw;have hg:wr.grownBy w60 (some go55):=(by rw [hw];exact HP59.2);have hp_:Kd.R (Kd.int .i64) 3 w60 w.heap.size (fun k_ => some k_≠(u5:Value).ownBlock) (.slice (some ⟨go55,0,none⟩) x4_3.length co58) y223:=(by rw [hw,Ny223.out];exact HP59.1);clear HP59;have nx_:=AM (Kd.R_after (v:=(.slice (some ⟨go55,0,none⟩) x4_3.length co58)) (v1:=(.slice (some ⟨go55,0,none⟩) x4_3.length co58)) (ok:=(fun k_ => some k_≠(u5:Value).ownBlock)) (by (with_reducible repeat (first | apply Kd.R_alloc | apply Kd.R_drewN | apply Kd.R_drew));exact Kd.R_mono HLx.out (fun _ hk => ⟨hk.2,hk.1⟩)) hg (.inl rfl));replace HO_3:=AM (Kd.S_after (v:=(.slice (some ⟨go55,0,none⟩) x4_3.length co58)) (v1:=(.slice (some ⟨go55,0,none⟩) x4_3.length co58)) (ok:=(fun k_ => some k_≠(u5:Value).ownBlock)) (by (with_reducible repeat (first | apply Kd.S_alloc | apply Kd.S_drewN | apply Kd.S_drew));exact Kd.S_mono HO_3.out (fun _ hk => ⟨hk.2,hk.1⟩)) hg (.inl rfl));replace HO_5:=AM (Kd.R_after (v:=(.slice (some ⟨go55,0,none⟩) x4_3.length co58)) (v1:=(.slice (some ⟨go55,0,none⟩) x4_3.length co58)) (ok:=(fun _ => True)) (by (with_reducible repeat (first | apply Kd.R_alloc | apply Kd.R_drewN | apply Kd.R_drew));exact Kd.R_mono HO_5.out (fun _ hk => ⟨trivial,hk⟩)) hg (.inl rfl));replace BK199:=AM (blk_grown (g:=gb199) (o:=.cells #[.slice A0_0 l0_0.length c0_0,.int .i64 a0_1] 24 (0,0)) (BL BK199) hg (Kd.R_ne HO_4.out BK199.out (by decide)));replace HO_4:=AM (hp_);replace HB:=AM ((by rw [hw];exact below_set (HB.out) GB55.out:Below w.heap.size w w60));clear HLx;have HLx:=nx_;clear nx_;clear hg hw hp_;have p224:0≤((rd (rd_L4 x3_1 (rd x5_2 x10_2)) x77_3):Int):=OD;have q224:(rd (rd_L4 x3_1 (rd x5_2 x10_2)) x77_3) < (y223.length:Int):=(by have h_:((rd (rd_L4 x3_1 (rd x5_2 x10_2)) x77_3):Int) < ((x4_3.length:Int):Int):=OD;first | (have e_:=(Kd.R_reads' HO_4.out).1;omega) | simpa only [Ny223.out,List.length_set] using h_);have ql224:(((rd (rd_L4 x3_1 (rd x5_2 x10_2)) x77_3):Int) < ((x4_3.length:Int):Int)) = True:=eq_true (OD);obtain ⟨ad224,e224,hx224_0⟩:=Kd.at_int (Kd.R_reads' HO_4.out).2.2 (rd (rd_L4 x3_1 (rd x5_2 x10_2)) x77_3) p224 q224;obtain rfl:(⟨go55,0,none⟩:Addr) = ad224:=(by injection e224);(first | simp only [add_plain] at hx224_0 | simp only [add_at] at hx224_0 | simp only [Addr.add,Nat.zero_add] at hx224_0 | skip);replace p224:=eq_true p224;replace q224:=eq_true q224) | ((with_reducible refine gate_builtin (b:=.append) (xs:=#[.tmp 92,.tmp 94]) rfl ?_);at_builtin;refine Kd.R_append (Kd.int .i64) (w0:=w) w.heap.size rfl (.tmp 92) (.tmp 94) 51 3 (.int .i64 0) 8 rfl Tryd.underlying51 info3 rfl (by decide) (by omega) u5 x5_3 (rd (rd_L4 x3_1 (rd x5_2 x10_2)) x77_3) [.int .i64 (rd (rd_L4 x3_1 (rd x5_2 x10_2)) x77_3)] (fun k_ => some k_≠(.slice (some ⟨go55,0,none⟩) x4_3.length co58:Value).ownBlock) (fun _ => False) rfl rfl ?aP (fun _ hk => hk.elim) ?aF ?aO ?aB ?aS ?aL ?_;(case aP => exact rfl);(case aB => exact (BB HB));(case aF => exact (fun k_ hk => Kd.fresh' (Kd.R_lt (RL HO_4)) k_ hk));(case aO => exact (by (with_reducible repeat (first | apply Kd.R_alloc | apply Kd.R_drewN | apply Kd.R_drew));exact Kd.R_mono HO_5.out (fun _ hk => hk.2)));(case aS => exact (below_size (BB HB)));(case aL => have:=LMc57.out;omega);intro v226 w61 ho hb hg hat;rw [← Ny225.out] at ho;have nx_:=AM (Kd.R_after (ok:=(fun k_ => some k_≠(.slice (some ⟨go55,0,none⟩) x4_3.length co58:Value).ownBlock)) (by (with_reducible repeat (first | apply Kd.R_alloc | apply Kd.R_drewN | apply Kd.R_drew));exact Kd.R_mono HLx.out (fun _ hk => ⟨hk.2,hk.1⟩)) hg hat);replace HO_3:=AM (Kd.S_after (ok:=(fun k_ => some k_≠(.slice (some ⟨go55,0,none⟩) x4_3.length co58:Value).ownBlock)) (by (with_reducible repeat (first | apply Kd.S_alloc | apply Kd.S_drewN | apply Kd.S_drew));exact Kd.S_mono HO_3.out (fun _ hk => ⟨hk.2,hk.1⟩)) hg hat);replace HO_4:=AM (Kd.R_after (ok:=(fun _ => True)) (by (with_reducible repeat (first | apply Kd.R_alloc | apply Kd.R_drewN | apply Kd.R_drew));exact Kd.R_mono HO_4.out (fun _ hk => ⟨trivial,hk⟩)) hg hat);replace BK199:=AM (blk_grown (g:=gb199) (o:=.cells #[.slice A0_0 l0_0.length c0_0,.int .i64 a0_1] 24 (0,0)) (BL BK199) hg (Kd.R_ne HO_5.out BK199.out (by decide)));replace HB:=AM (hb);have HO227:=AM (ho);clear HO_5;clear HLx;have HLx:=nx_;clear nx_;clear ho hb hg hat))
                      go_roundg k3
                      case measure => have:=HK1.out;have:=HK2.out;have:=HK3.out;omega
                      case rel => exact ⟨(y223),(y225),(wrap64 (x77_3+1)),QD,H',⟨by have:=HK1.out;have:=HK2.out;have:=HK3.out;omega⟩,⟨by (with_reducible repeat (first | apply Kd.S_alloc | apply Kd.S_drewN | apply Kd.S_drew));exact HO_3.out⟩,⟨by (with_reducible repeat (first | apply Kd.R_alloc | apply Kd.R_drewN | apply Kd.R_drew));exact Kd.R_mono HO_4.out (fun _ hk => hk.2)⟩,⟨RA HO227.out⟩,⟨BL BK199⟩,⟨BB HB⟩,⟨by (with_reducible repeat (first | apply Kd.R_alloc | apply Kd.R_drewN | apply Kd.R_drew));exact HLx.out⟩⟩
                     ·rw [if_neg c57] at H;exact absurd H (by simp)
                    ·rw [if_neg c56] at H;have c56b0:((rd y223 (rd (rd_L4 x3_1 (rd x5_2 x10_2)) x77_3)) == 0) = false:=beq_eq_false_iff_ne.mpr c56;have c56b1:((rd y223 (rd (rd_L4 x3_1 (rd x5_2 x10_2)) x77_3)) != 0) = true:=bne_iff_ne.mpr c56;have H':=AM H;clear H;have p221:0≤(x77_3:Int):=OD;have q221:x77_3 < ((rd_L4 x3_1 (rd x5_2 x10_2)).length:Int):=OD;obtain ⟨ad221,e221,hx221_0⟩:=Kd.at_int (Kd.R_reads' HLx.out).2.2 x77_3 p221 q221;cases e221
                     replace p221:=eq_true p221;replace q221:=eq_true q221;obtain ⟨Ao62,co62,eo62⟩:=Kd.R_slice HO_4.out;subst eo62;have p222:0≤((rd (rd_L4 x3_1 (rd x5_2 x10_2)) x77_3):Int):=OD;have q222:(rd (rd_L4 x3_1 (rd x5_2 x10_2)) x77_3) < (x4_3.length:Int):=OD;obtain ⟨ad222,e222,hx222_0⟩:=Kd.at_int (Kd.R_reads' HO_4.out).2.2 (rd (rd_L4 x3_1 (rd x5_2 x10_2)) x77_3) p222 q222;cases e222
                     replace p222:=eq_true p222;replace q222:=eq_true q222;have p55:0≤((rd (rd_L4 x3_1 (rd x5_2 x10_2)) x77_3):Int):=OD;have q55:((rd (rd_L4 x3_1 (rd x5_2 x10_2)) x77_3):Int) < ((x4_3.length:Int):Int):=OD;obtain ⟨go55,co55,eo55,gb55,gl55,cl55,HG55⟩:=Kd.R_form HO_4.out (by omega);(first | cases eo55 | (injection eo55 with ea_ en_ ec_;(first | subst ea_ | (injection ea_ with ea_;subst ea_));subst ec_;clear en_))
                     have GB55:=AM gb55;have GG55:=AM HG55;clear gb55 gl55 HG55;(first | simp only [add_plain] at hx222_0 | skip)
                     obtain ⟨hx55_0,hf55_0⟩:=Kd.R_celln 0 HO_4.out ((rd (rd_L4 x3_1 (rd x5_2 x10_2)) x77_3):Int) p55 q55;replace p55:=eq_true p55;replace q55:=eq_true q55;have HP63:=Kd.R_putg HO_4.out ((rd (rd_L4 x3_1 (rd x5_2 x10_2)) x77_3):Int) (wrap64 ((rd x4_3 (rd (rd_L4 x3_1 (rd x5_2 x10_2)) x77_3)) - 1));go_wp2_with (first | ((with_reducible refine gate_store (t:=3) (p:=86) rfl ?_);refine store_event (t:=3) (p:=86) (v:=?vo_w64) (w1:=(wr.setCell ⟨go55,((rd (rd_L4 x3_1 (rd x5_2 x10_2)) x77_3):Int).toNat,none⟩ (.int .i64 (wrap64 ((rd x4_3 (rd (rd_L4 x3_1 (rd x5_2 x10_2)) x77_3)) - 1))))) ?hg ?ho ?hn ?hr ?_;(case ho => rfl);(case hg => rfl);(case hn => rfl);(case hr => first | (go_simp;done) | (go_simp;rfl));intro w64 hw;have hg:wr.grownBy w64 (some go55):=(by rw [hw];exact HP63.2);have hp_:Kd.R (Kd.int .i64) 3 w64 w.heap.size (fun k_ => some k_≠(u5:Value).ownBlock) (.slice (some ⟨go55,0,none⟩) x4_3.length co62) y223:=(by rw [hw,Ny223.out];exact HP63.1);clear HP63;have nx_:=AM (Kd.R_after (v:=(.slice (some ⟨go55,0,none⟩) x4_3.length co62)) (v1:=(.slice (some ⟨go55,0,none⟩) x4_3.length co62)) (ok:=(fun k_ => some k_≠(u5:Value).ownBlock)) (by (with_reducible repeat (first | apply Kd.R_alloc | apply Kd.R_drewN | apply Kd.R_drew));exact Kd.R_mono HLx.out (fun _ hk => ⟨hk.2,hk.1⟩)) hg (.inl rfl));replace HO_3:=AM (Kd.S_after (v:=(.slice (some ⟨go55,0,none⟩) x4_3.length co62)) (v1:=(.slice (some ⟨go55,0,none⟩) x4_3.length co62)) (ok:=(fun k_ => some k_≠(u5:Value).ownBlock)) (by (with_reducible repeat (first | apply Kd.S_alloc | apply Kd.S_drewN | apply Kd.S_drew));exact Kd.S_mono HO_3.out (fun _ hk => ⟨hk.2,hk.1⟩)) hg (.inl rfl));replace HO_5:=AM (Kd.R_after (v:=(.slice (some ⟨go55,0,none⟩) x4_3.length co62)) (v1:=(.slice (some ⟨go55,0,none⟩) x4_3.length co62)) (ok:=(fun _ => True)) (by (with_reducible repeat (first | apply Kd.R_alloc | apply Kd.R_drewN | apply Kd.R_drew));exact Kd.R_mono HO_5.out (fun _ hk => ⟨trivial,hk⟩)) hg (.inl rfl));replace BK199:=AM (blk_grown (g:=gb199) (o:=.cells #[.slice A0_0 l0_0.length c0_0,.int .i64 a0_1] 24 (0,0)) (BL BK199) hg (Kd.R_ne HO_4.out BK199.out (by decide)));replace HO_4:=AM (hp_);replace HB:=AM ((by rw [hw];exact below_set (HB.out) GB55.out:Below w.heap.size w w64));clear HLx;have HLx:=nx_;clear nx_;clear hg hw hp_;have p224:0≤((rd (rd_L4 x3_1 (rd x5_2 x10_2)) x77_3):Int):=OD;have q224:(rd (rd_L4 x3_1 (rd x5_2 x10_2)) x77_3) < (y223.length:Int):=(by have h_:((rd (rd_L4 x3_1 (rd x5_2 x10_2)) x77_3):Int) < ((x4_3.length:Int):Int):=OD;first | (have e_:=(Kd.R_reads' HO_4.out).1;omega) | simpa only [Ny223.out,List.length_set] using h_);have ql224:(((rd (rd_L4 x3_1 (rd x5_2 x10_2)) x77_3):Int) < ((x4_3.length:Int):Int)) = True:=eq_true (OD);obtain ⟨ad224,e224,hx224_0⟩:=Kd.at_int (Kd.R_reads' HO_4.out).2.2 (rd (rd_L4 x3_1 (rd x5_2 x10_2)) x77_3) p224 q224;obtain rfl:(⟨go55,0,none⟩:Addr) = ad224:=(by injection e224);(first | simp only [add_plain] at hx224_0 | simp only [add_at] at hx224_0 | simp only [Addr.add,Nat.zero_add] at hx224_0 | skip);replace p224:=eq_true p224;replace q224:=eq_true q224))
                     go_roundg k3
                     case measure => have:=HK1.out;have:=HK2.out;have:=HK3.out;omega
                     case rel => exact ⟨(y223),(x5_3),(wrap64 (x77_3+1)),QD,H',⟨by have:=HK1.out;have:=HK2.out;have:=HK3.out;omega⟩,⟨by (with_reducible repeat (first | apply Kd.S_alloc | apply Kd.S_drewN | apply Kd.S_drew));exact Kd.S_mono HO_3.out (fun _ hk => ⟨hk.2,hk.1⟩)⟩,⟨RA HO_4.out⟩,⟨by (with_reducible repeat (first | apply Kd.R_alloc | apply Kd.R_drewN | apply Kd.R_drew));exact Kd.R_mono HO_5.out (fun _ hk => hk.2)⟩,⟨BL BK199⟩,⟨BB HB⟩,⟨by (with_reducible repeat (first | apply Kd.R_alloc | apply Kd.R_drewN | apply Kd.R_drew));exact Kd.R_mono HLx.out (fun _ hk => ⟨hk.2,hk.1⟩)⟩⟩
                   ·rw [if_neg c54] at H;exact absurd H (by simp)
                  ·rw [if_neg c53] at H;exact absurd H (by simp)
                 ·rw [if_neg c52] at H;exact absurd H (by simp)
                ·rw [if_neg c51] at H;exact absurd H (by simp)
               ·rw [if_neg c50] at H;have c50b0:decide (x77_3 < ((rd_L4 x3_1 (rd x5_2 x10_2)).length:Int)) = false:=decide_eq_false c50;clear c50;have H':=AM H;clear H;go_wp2
                go_roundg k3
                case measure => have:=HK1.out;have:=HK2.out;have:=HK3.out;omega
                case rel => exact ⟨(x4_3),(x5_3),(wrap64 (x10_2+1)),QD,H',⟨by have:=HK1.out;have:=HK2.out;have:=HK3.out;omega⟩,⟨by (with_reducible repeat (first | apply Kd.S_alloc | apply Kd.S_drewN | apply Kd.S_drew));exact HO_3.out⟩,⟨RA HO_4.out⟩,⟨RA HO_5.out⟩,⟨BL BK199⟩,⟨BB HB⟩⟩
            ·rw [if_neg c47] at H;exact absurd H (by simp)
           ·rw [if_neg c46] at H;exact absurd H (by simp)
          ·rw [if_neg c45] at H;exact absurd H (by simp)
         ·rw [if_neg c44] at H;have c44b0:decide (x10_2 < (x5_2.length:Int)) = false:=decide_eq_false c44;clear c44;obtain rfl:=Option.some.inj H;obtain ⟨Ao65,co65,eo65⟩:=Kd.R_slice HO_5.out;subst eo65;go_wp2
          go_ret;exact ⟨_,by first | rfl | (simp [errW_none,errW_some] <;> rfl) | (simp [*,errW_none,errW_some] <;> rfl),by (with_reducible repeat (first | apply Kd.R_alloc | apply Kd.R_drewN | apply Kd.R_drew));exact Kd.R_mono HO_5.out (fun _ hk => trivial),BB HB⟩
   ·rw [if_neg c4] at H;exact absurd H (by simp)
  ·rw [if_neg c3] at H;exact absurd H (by simp)
 ·rw [if_neg c2] at H;exact absurd H (by simp)
end Go.Proofs.YtcphcaiiofeflaaDoor.GO
