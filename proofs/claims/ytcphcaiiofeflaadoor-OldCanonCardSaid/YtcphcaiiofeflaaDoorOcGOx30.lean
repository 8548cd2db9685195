
import Derived.Test.YtcphcaiiofeflaaDoorOcGOx0
namespace Go.Proofs.YtcphcaiiofeflaaDoor.GO
open Go.RowKit Go.Proofs.YtcphcaiiofeflaaDoorW.PrintWords Go.Proofs.YtcphcaiiofeflaaDoorW.PrintLast Go.Proofs.YtcphcaiiofeflaaDoorW.PrintMore
attribute [local go_sem] max2_int min2_int max_two min_two max_three min_three max_four min_four
set_option maxHeartbeats 8000000
set_option maxRecDepth 100000
set_option linter.unusedVariables false
set_option linter.unusedSimpArgs false
mutual
def r10_meet.l0:Nat→Int→List Int→Int→List (S53)→Int→Option (List Int)
 | 0,_,_,_,_,_ => none
 | k+1,x1,x2,x7,x498000,x498001 => if x7 < (x2.length:Int) then (if 0≤x7 then (if (rd x2 x7) = x1 then (some x2) else (r10_meet.l0 k x1 x2 (wrap64 (x7+1)) x498000 x498001)) else (none)) else (r10_meet.l1 k x1 x2 0 x498000 x498001)
def r10_meet.l1:Nat→Int→List Int→Int→List (S53)→Int→Option (List Int)
 | 0,_,_,_,_,_ => none
 | k+1,x1,x2,x8,x498000,x498001 => if 0≤x1 then (if x1 < (x498000.length:Int) then (if x8 < (((rd_T53 x498000 x1).f3).length:Int) then (if 0≤x8 then ((r10_meet.f k x498000 x498001 (rd ((rd_T53 x498000 x1).f3) x8) x2).bind fun t502 => (r10_meet.l1 k x1 t502 (wrap64 (x8+1)) x498000 x498001)) else (none)) else ((some (([]:List Int):List Int)).bind fun y505 => (if y505.length+x2.length < 17592186044416 then ((some (y505 ++ x2:List Int)).bind fun y508 => (if y508.length < 17592186044416 then (some (y508 ++ [x1])) else (none))) else (none)))) else (none)) else (none)
def r10_meet.f:Nat→List (S53)→Int→Int→List Int→Option (List Int)
 | 0,_,_,_,_ => none
 | k+1,l0_0,a0_1,a1,l2 => r10_meet.l0 k a1 l2 0 l0_0 a0_1
end
def r10_meet.T9:Bool × List (List Nat × List Nat):=(true,[([],[]),([],[]),([1],[1]),([],[]),([2,3],[2,3]),([4],[4]),([5],[5]),([],[]),([6,7],[6,7]),([8],[8]),([],[]),([0,9,10],[0,9,10]),([11,11,0,1,2,3,4,5,6,7,8,9,10,11],[10,11])])
def r10_meet.B9:List Nat:=[0,0,2,0,14,30,62,0,254,510,0,2047,4095]
theorem r10_meet.tab9:rtab .any (opsOf Tryd.f83 9) = r10_meet.T9:=by kernel_rfl
theorem r10_meet.bits9:waitsOk r10_meet.T9.2 r10_meet.B9 = true:=by kernel_rfl
theorem r10_meet.calls (k:Nat):∀ (A0_0:Option Addr) (c0_0:Nat) (l0_0:List (S53)) (a0_1:Int) (a1:Int) (P2_:Nat→Prop) (A2:Option Addr) (c2:Nat) (l2:List Int) (r:List Int) (w:World) (hr0_0:Kd.C k53 w A0_0 l0_0.length l0_0) (hc0_0:l0_0.length≤c0_0) (hs2:Kd.V (Kd.int .i64) 3 w w.heap.size (fun k_ => P2_ k_) (.slice A2 l2.length c2) l2) (h:r10_meet.f k l0_0 a0_1 a1 l2 = some r),
  Calls Tryd.prog 83 #[.agg #[.slice A0_0 l0_0.length c0_0,.int .i64 a0_1],.int .i64 a1,.slice A2 l2.length c2] w fun e w' => ∃ v0_:Value,e = .returned (v0_)∧Kd.V (Kd.int .i64) 3 w' w.heap.size (fun k_ => (P2_ k_ ∨ w.heap.size≤k_)) v0_ r∧Below w.heap.size w w':=by
 induction k using Nat.strongRecOn with
 | _ k ih =>
 intro A0_0 c0_0 l0_0 a0_1 a1 P2_ A2 c2 l2 r w hr0_0 hc0_0 hs2 h;cases k with
 | zero => exact absurd h (by simp [r10_meet.f])
 | succ k =>
 simp only [r10_meet.f] at h;have hu24:=Tryd.underlying24;have HR0_0:=AM hr0_0;have HC0_0:=AM hc0_0;clear hr0_0 hc0_0;have HO2:=AM (show Kd.V (Kd.int .i64) 3 w w.heap.size (fun k_ => (P2_ k_ ∨ w.heap.size≤k_)) (.slice A2 l2.length c2) l2 from Kd.V_mono hs2 (fun k_ hk => .inl hk));have HB:=AM (Below.refl w.heap.size w);have H:(r10_meet.l0 k a1 l2 0 l0_0 a0_1) = some r:=h;clear h;have H':=AM H;clear H;go_enter Tryd.func83,Tryd.ntmps83;go_wp2_with (first | ((with_reducible refine gate_dst (N:=3) rfl ?_);refine boxE 3 #[.slice A0_0 l0_0.length c0_0,.int .i64 a0_1] 24 ?_;intro gb497 hg w4 hbox hb;replace HO2:=AM (Kd.V_below (Kd.V_elderB (by (with_reducible repeat (first | apply Kd.V_alloc | apply Kd.V_drewN | apply Kd.V_drew));exact HO2.out) gb497 (Nat.le_of_eq hg.symm)) hb);have BK497:=AM (hbox);have GW497:=GW HB hg;have GE497:=GW HB hg;replace HB:=BS HB hb;clear hb hbox hg))
 go_loopg [7] k (fun kq v7 w' => ∃ (x7_1:Int),v7 = .int .i64 x7_1∧Aside0 (r10_meet.l0 kq a1 l2 x7_1 l0_0 a0_1 = some r)∧Aside0 (kq≤k)∧Aside0 (Kd.V (Kd.int .i64) 3 w' w.heap.size (fun k_ => (P2_ k_ ∨ w.heap.size≤k_)∧k_≠gb497) (.slice A2 l2.length c2) l2)∧Aside0 (w'.heap[gb497]? = some (.cells #[(.slice A0_0 l0_0.length c0_0),.int .i64 a0_1] 24 (0,0)))∧Aside0 (Below w.heap.size w w'))
 case atStart => exact ⟨(0),QD,H',⟨Nat.le_refl _⟩,⟨by (with_reducible repeat (first | apply Kd.V_alloc | apply Kd.V_drewN | apply Kd.V_drew));exact HO2.out⟩,⟨BL BK497⟩,⟨BB HB⟩⟩
 case round =>
  clear H';try clear c2
  try clear p2
  obtain ⟨x7_1,rfl,HA,HK1,HO_2,BK497,HB⟩:=hrel;cases gk with
  | zero => exact absurd HA.out (by simp [r10_meet.l0])
  | succ k1 =>
   have H:=HA.out;clear HA;simp only [r10_meet.l0] at H;by_cases c5:x7_1 < (l2.length:Int)
   ·rw [if_pos c5] at H;have c5b0:decide (x7_1 < (l2.length:Int)) = true:=decide_eq_true c5;clear c5;by_cases c6:0≤x7_1
    ·rw [if_pos c6] at H;have c6b0:decide (0≤x7_1) = true:=decide_eq_true c6;clear c6;by_cases c7:(rd l2 x7_1) = a1
     ·rw [if_pos c7] at H;have c7b0:((rd l2 x7_1) == a1) = true:=beq_iff_eq.mpr c7;have c7b1:((rd l2 x7_1) != a1) = false:=bne_eq_false_iff_eq.mpr c7;clear c7;obtain rfl:=Option.some.inj H;have p498:0≤(x7_1:Int):=OD;have q498:x7_1 < (l2.length:Int):=OD;obtain ⟨ad498,e498,hx498_0⟩:=Kd.at_int (Kd.V_reads' HO_2.out).2.2 x7_1 p498 q498;cases e498
      replace p498:=eq_true p498;replace q498:=eq_true q498;go_wp2
      go_ret;exact ⟨_,by first | rfl | (simp [errW_none,errW_some] <;> rfl) | (simp [*,errW_none,errW_some] <;> rfl),by (with_reducible repeat (first | apply Kd.V_alloc | apply Kd.V_drewN | apply Kd.V_drew));exact Kd.V_mono HO_2.out (fun _ hk => hk.1),BB HB⟩
     ·rw [if_neg c7] at H;have c7b0:((rd l2 x7_1) == a1) = false:=beq_eq_false_iff_ne.mpr c7;have c7b1:((rd l2 x7_1) != a1) = true:=bne_iff_ne.mpr c7;have H':=AM H;clear H;have p498:0≤(x7_1:Int):=OD;have q498:x7_1 < (l2.length:Int):=OD;obtain ⟨ad498,e498,hx498_0⟩:=Kd.at_int (Kd.V_reads' HO_2.out).2.2 x7_1 p498 q498;cases e498
      replace p498:=eq_true p498;replace q498:=eq_true q498;go_wp2
      go_roundg k1
      case measure => have:=HK1.out;omega
      case rel => exact ⟨(wrap64 (x7_1+1)),QD,H',⟨by have:=HK1.out;omega⟩,⟨by (with_reducible repeat (first | apply Kd.V_alloc | apply Kd.V_drewN | apply Kd.V_drew));exact HO_2.out⟩,⟨BL BK497⟩,⟨BB HB⟩⟩
    ·rw [if_neg c6] at H;exact absurd H (by simp)
   ·rw [if_neg c5] at H;have c5b0:decide (x7_1 < (l2.length:Int)) = false:=decide_eq_false c5;clear c5;have H':=AM H;clear H;go_wp2
    go_loopg [2,8] k1 (fun kq v2 v8 w' => ∃ (x2_2:List Int) (x8_2:Int),v8 = .int .i64 x8_2∧Aside0 (r10_meet.l1 kq a1 x2_2 x8_2 l0_0 a0_1 = some r)∧Aside0 (kq≤k1)∧Aside0 (Kd.V (Kd.int .i64) 3 w' w.heap.size (fun k_ => (P2_ k_ ∨ w.heap.size≤k_)∧k_≠gb497) v2 x2_2)∧Aside0 (w'.heap[gb497]? = some (.cells #[(.slice A0_0 l0_0.length c0_0),.int .i64 a0_1] 24 (0,0)))∧Aside0 (Below w.heap.size w w'))
    case atStart => exact ⟨(l2),(0),QD,H',⟨Nat.le_refl _⟩,⟨by (with_reducible repeat (first | apply Kd.V_alloc | apply Kd.V_drewN | apply Kd.V_drew));exact HO_2.out⟩,⟨BL BK497⟩,⟨BB HB⟩⟩
    case round =>
     clear H';try clear c2
     try clear p2
     try clear p4
     try clear q4
     try clear hx4
     try clear c5
     try clear c5b0
     try clear c6
     try clear c6b0
     try clear p6
     try clear c7
     try clear c7b0
     try clear c7b1
     try clear hx498_0
     try clear p2
     try clear p498
     try clear q498
     obtain ⟨x2_2,x8_2,rfl,HA,HK2,HO_2,BK497,HB⟩:=hrel;cases gk with
     | zero => exact absurd HA.out (by simp [r10_meet.l1])
     | succ k2 =>
      have H:=HA.out;clear HA;simp only [r10_meet.l1] at H;by_cases c8:0≤a1
      ·rw [if_pos c8] at H;have c8b0:decide (0≤a1) = true:=decide_eq_true c8;clear c8;by_cases c9:a1 < (l0_0.length:Int)
       ·rw [if_pos c9] at H;have c9b0:decide (a1 < (l0_0.length:Int)) = true:=decide_eq_true c9;clear c9;by_cases c10:x8_2 < (((rd_T53 l0_0 a1).f3).length:Int)
        ·rw [if_pos c10] at H;have c10b0:decide (x8_2 < (((rd_T53 l0_0 a1).f3).length:Int)) = true:=decide_eq_true c10;clear c10;by_cases c11:0≤x8_2
         ·rw [if_pos c11] at H;have c11b0:decide (0≤x8_2) = true:=decide_eq_true c11;clear c11;replace H:=Option.bind_eq_some_iff.mp H;obtain ⟨t502,A120,H⟩:=H;replace H:(r10_meet.l1 k2 a1 t502 (wrap64 (x8_2+1)) l0_0 a0_1) = some r:=H;have A12:=AM A120;clear A120;have H':=AM H;clear H;have hcz13_0:=BC BK497 0 (.slice A0_0 l0_0.length c0_0) rfl;have hcz13_1:=BC BK497 1 (.int .i64 a0_1) rfl;have hfz13_0:=BF BK497 0;have hfz13_1:=BF BK497 1;have p499:0≤(a1:Int):=OD;have q499:a1 < (l0_0.length:Int):=OD;obtain ⟨ad499,A499_1,c499_1,A499_2,c499_2,A499_3,c499_3,e499,hx499_0,hx499_1,hx499_2,hx499_3,hl499_1,hi499_1,hl499_2,hi499_2,hl499_3,hi499_3⟩:=at_T53 HR0_0.out a1 p499 q499;cases e499
          replace hx499_0:=CL HB hx499_0;replace hx499_1:=CL HB hx499_1;replace hx499_2:=CL HB hx499_2;replace hx499_3:=CL HB hx499_3;have HR499_1:=AM hi499_1;have HC499_1:=AM hl499_1;clear hi499_1 hl499_1;have HR499_2:=AM hi499_2;have HC499_2:=AM hl499_2;clear hi499_2 hl499_2;have HR499_3:=AM hi499_3;have HC499_3:=AM hl499_3;clear hi499_3 hl499_3;replace p499:=eq_true p499;replace q499:=eq_true q499;try go_wp2
          replace HO_2:=AM (Kd.V_drew HO_2.out);replace BK497:=AM (blk_drew BK497.out);replace HB:=AM (below_drew1 HB.out);have p500:0≤(a1:Int):=OD;have q500:a1 < (l0_0.length:Int):=OD;obtain ⟨ad500,A500_1,c500_1,A500_2,c500_2,A500_3,c500_3,e500,hx500_0,hx500_1,hx500_2,hx500_3,hl500_1,hi500_1,hl500_2,hi500_2,hl500_3,hi500_3⟩:=at_T53 HR0_0.out a1 p500 q500;have hw500_3:=hx500_3;have hw500_2:=hx500_2;have hw500_1:=hx500_1;have hw500_0:=hx500_0;obtain rfl:ad499 = ad500:=(by injection e500);replace hx500_0:=CL HB hx500_0;replace hx500_1:=CL HB hx500_1;replace hx500_2:=CL HB hx500_2;replace hx500_3:=CL HB hx500_3;have HR500_1:=AM hi500_1;have HC500_1:=AM hl500_1;clear hi500_1 hl500_1;have HR500_2:=AM hi500_2;have HC500_2:=AM hl500_2;clear hi500_2 hl500_2;have HR500_3:=AM hi500_3;have HC500_3:=AM hl500_3;clear hi500_3 hl500_3;replace p500:=eq_true p500;replace q500:=eq_true q500;have p501:0≤(x8_2:Int):=OD;have q501:x8_2 < (((rd_T53 l0_0 a1).f3).length:Int):=OD;obtain ⟨ad501,e501,hx501_0⟩:=Kd.at_int HR500_3.out x8_2 p501 q501;have hw501_0:=hx501_0;cases e501
          replace hx501_0:=CL HB hx501_0;replace p501:=eq_true p501;replace q501:=eq_true q501;obtain ⟨Ao15,co15,eo15⟩:=Kd.V_slice HO_2.out;(first | subst eo15 | (injection eo15 with f1_ f2_ f3_;have f4_:=f1_.symm;have f5_:=f3_.symm;clear f1_ f2_ f3_;subst f4_;subst f5_))
          refine start_ (n:=13) (S:=fun w' => w'.cell? ⟨gb497,0,none⟩ = some (.slice (some ad499) l0_0.length c0_0)∧w'.cell? ⟨gb497,1,none⟩ = some (.int .i64 a0_1)∧w'.cell? (ad499.add ((a1).toNat * 4)) = some (.int .i64 ((rd_T53 l0_0 a1).f0))∧w'.cell? ⟨(ad499.add ((a1).toNat * 4)).block,(ad499.add ((a1).toNat * 4)).off+1,none⟩ = some (.slice A500_1 ((rd_T53 l0_0 a1).f1).length c500_1)∧w'.cell? ⟨(ad499.add ((a1).toNat * 4)).block,(ad499.add ((a1).toNat * 4)).off+2,none⟩ = some (.slice A500_2 ((rd_T53 l0_0 a1).f2).length c500_2)∧w'.cell? ⟨(ad499.add ((a1).toNat * 4)).block,(ad499.add ((a1).toNat * 4)).off+3,none⟩ = some (.slice (some ad501) ((rd_T53 l0_0 a1).f3).length c500_3)∧w'.cell? (ad501.add (x8_2).toNat) = some (.int .i64 (rd ((rd_T53 l0_0 a1).f3) x8_2))) (ds:=[]) #[false,false,false,false,false,false,false,false,false,false,false,false,false] (by kernel_rfl) rfl rfl ⟨(blk_cell BK497.out 0).trans rfl,(blk_cell BK497.out 1).trans rfl,((HB.out.cell (World.block_lt_of_cell? w _ hw500_0)).trans hw500_0),((HB.out.cell (World.block_lt_of_cell? w _ hw500_1)).trans hw500_1),((HB.out.cell (World.block_lt_of_cell? w _ hw500_2)).trans hw500_2),((HB.out.cell (World.block_lt_of_cell? w _ hw500_3)).trans hw500_3),((HB.out.cell (World.block_lt_of_cell? w _ hw501_0)).trans hw501_0)⟩ (fun hHeld => ?_);refine with_tabW r10_meet.tab9 r10_meet.bits9 (fun HT_ HW_ => ?_);generalize wr.drew = w14 at HO_2 BK497 HB HR500_1 HR500_2 HR500_3 hx500_0 hx500_1 hx500_2 hx500_3 hx501_0 hHeld ⊢;refine pureA HT_ (i:=1) (N:=some 34) #[false,true,false,false,false,false,false,false,false,false,false,false,false] ?_;refine pureA HT_ (i:=3) (N:=some 36) #[false,true,false,true,false,false,false,false,false,false,false,false,false] ?_;refine pureA HT_ (i:=7) (N:=some 40) #[false,true,false,true,false,false,false,true,false,false,false,false,false] ?_;refine pureA HT_ (i:=10) (N:=some 43) #[false,true,false,true,false,false,false,true,false,false,true,false,false] ?_;refine takeB_ (i:=0) (N:=some 33) (hi:=rfl) (hN:=rfl) (hc:=take_ofW HT_.out HW_.out (by kernel_rfl)) #[true,true,false,true,false,false,false,true,false,false,true,false,false] hHeld (by rintro w' ⟨s0,s1,s2,s3,s4,s5,s6⟩;go_simp;with_reducible rfl) ?_;refine takeB_ (i:=2) (N:=some 35) (hi:=rfl) (hN:=rfl) (hc:=take_ofW HT_.out HW_.out (by kernel_rfl)) #[true,true,true,true,false,false,false,true,false,false,true,false,false] hHeld (by rintro w' ⟨s0,s1,s2,s3,s4,s5,s6⟩;go_simp;with_reducible rfl) ?_;refine pureA HT_ (i:=4) (N:=some 37) #[true,true,true,true,true,false,false,true,false,false,true,false,false] ?_;refine pureA HT_ (i:=5) (N:=some 38) #[true,true,true,true,true,true,false,true,false,false,true,false,false] ?_;refine takeB_ (i:=6) (N:=some 39) (hi:=rfl) (hN:=rfl) (hc:=take_ofW HT_.out HW_.out (by kernel_rfl)) #[true,true,true,true,true,true,true,true,false,false,true,false,false] hHeld (by rintro w' ⟨s0,s1,s2,s3,s4,s5,s6⟩;go_simp;with_reducible rfl) ?_;refine pureA HT_ (i:=8) (N:=some 41) #[true,true,true,true,true,true,true,true,true,false,true,false,false] ?_;refine takeB_ (i:=9) (N:=some 42) (hi:=rfl) (hN:=rfl) (hc:=take_ofW HT_.out HW_.out (by kernel_rfl)) #[true,true,true,true,true,true,true,true,true,true,true,false,false] hHeld (by rintro w' ⟨s0,s1,s2,s3,s4,s5,s6⟩;go_simp;with_reducible rfl) ?_;refine one_ (i:=11) (N:=some 44) #[true,true,true,true,true,true,true,true,true,true,true,true,false] rfl rfl (one_of HT_.out (by kernel_rfl)) (by decide) (fun K hK => ?_);refine goesN Tryd.func83 #[.agg #[.slice (some ad499) l0_0.length c0_0,.int .i64 a0_1],.int .i64 (rd ((rd_T53 l0_0 a1).f3) x8_2),.slice Ao15 x2_2.length co15] ?_;with_reducible refine (ih k2 (by have:=HK1.out;have:=HK2.out;omega) _ _ l0_0 a0_1 (rd ((rd_T53 l0_0 a1).f3) x8_2) (fun k_ => ((P2_ k_ ∨ w.heap.size≤k_)∧k_≠gb497)) _ _ x2_2 t502 _ ?side1 ?side2 ?side3 A12.out).mono ?_
          (case side1 => exact Kd.C_below HR0_0.out (BB HB))
          (case side2 => exact HC0_0.out)
          (case side3 => exact HO_2.out)
          rintro e w16 ⟨v503,rfl,ho0,hb⟩;refine ⟨_,rfl,?_⟩;replace HO_2:=AM (Kd.V_below (by (with_reducible repeat (first | apply Kd.V_alloc | apply Kd.V_drewN | apply Kd.V_drew));exact HO_2.out) hb);have HO504:=AM (Kd.V_lower (Kd.V_mono (ok':=fun k_ => (P2_ k_ ∨ w.heap.size≤k_)∧k_≠gb497) ho0 (fun k_ hk_ => ⟨Or.elim hk_ (fun hs_ => hs_.1) (fun hn_ => (.inr (Nat.le_trans (below_size (BB HB)) hn_))),Or.elim hk_ (fun hs_ => hs_.2) (fun hn_ => (Kd.freshB (g:=gb497) (o:=.cells #[.slice (some ad499) l0_0.length c0_0,.int .i64 a0_1] 24 (0,0)) (BL BK497) k_ hn_))⟩)) (below_size (BB HB)));replace BK497:=BE BK497 hb;replace HB:=BS HB hb;(try clear hb)
          (try clear hb2)
          (try clear hk)
          (try clear hi)
          (try clear ho0)
          refine hK.out _ _ ⟨(blk_cell BK497.out 0).trans rfl,(blk_cell BK497.out 1).trans rfl,((HB.out.cell (World.block_lt_of_cell? w _ hw500_0)).trans hw500_0),((HB.out.cell (World.block_lt_of_cell? w _ hw500_1)).trans hw500_1),((HB.out.cell (World.block_lt_of_cell? w _ hw500_2)).trans hw500_2),((HB.out.cell (World.block_lt_of_cell? w _ hw500_3)).trans hw500_3),((HB.out.cell (World.block_lt_of_cell? w _ hw501_0)).trans hw501_0)⟩ (fun hHeld => ?_);clear hK K;refine norm_ (a':=?_) ?_ ?_
          rotate_left
          ·show Act.put _ (some 44) _ = _
           simp only [Act.put,List.setIfInBounds_toArray,List.set_cons_zero,List.set_cons_succ,i64_w,i32_w];rfl
          refine pureA HT_ (i:=12) (N:=some 2) #[true,true,true,true,true,true,true,true,true,true,true,true,true] ?_;refine done_ (done_of HT_.out (by kernel_rfl)) ?_;try go_wp2
          go_roundg k2
          case measure => have:=HK1.out;have:=HK2.out;omega
          case rel => exact ⟨(t502),(wrap64 (x8_2+1)),QD,H',⟨by have:=HK1.out;have:=HK2.out;omega⟩,⟨by (with_reducible repeat (first | apply Kd.V_alloc | apply Kd.V_drewN | apply Kd.V_drew));exact HO504.out⟩,⟨BL BK497⟩,⟨BB HB⟩⟩
         ·rw [if_neg c11] at H;exact absurd H (by simp)
        ·rw [if_neg c10] at H;have c10b0:decide (x8_2 < (((rd_T53 l0_0 a1).f3).length:Int)) = false:=decide_eq_false c10;clear c10;obtain ⟨y505,hy505⟩:∃ y_:List Int,y_ = (([]:List Int)):=⟨_,rfl⟩;replace H:(if y505.length+x2_2.length < 17592186044416 then ((some (y505 ++ x2_2:List Int)).bind fun y508 => (if y508.length < 17592186044416 then (some (y508 ++ [a1])) else (none))) else (none)) = some r:=QH hy505 H
         have Ny505:=AM hy505;clear hy505;by_cases c17:y505.length+x2_2.length < 17592186044416
         ·rw [if_pos c17] at H;have LMc17:=AM c17;clear c17;obtain ⟨y508,hy508⟩:∃ y_:List Int,y_ = (y505 ++ x2_2):=⟨_,rfl⟩;replace H:(if y508.length < 17592186044416 then (some (y508 ++ [a1])) else (none)) = some r:=QH hy508 H
          have Ny508:=AM hy508;clear hy508;by_cases c18:y508.length < 17592186044416
          ·rw [if_pos c18] at H;have LMc18:=AM c18;clear c18;obtain ⟨y511,hy511⟩:∃ y_:List Int,y_ = (y508 ++ [a1]):=⟨_,rfl⟩;replace H:(some y511) = some r:=QH hy511 H
           have Ny511:=AM hy511;clear hy511;obtain rfl:=Option.some.inj H;have hcz19_0:=BC BK497 0 (.slice A0_0 l0_0.length c0_0) rfl;have hcz19_1:=BC BK497 1 (.int .i64 a0_1) rfl;have hfz19_0:=BF BK497 0;have hfz19_1:=BF BK497 1;have p499:0≤(a1:Int):=OD;have q499:a1 < (l0_0.length:Int):=OD;obtain ⟨ad499,A499_1,c499_1,A499_2,c499_2,A499_3,c499_3,e499,hx499_0,hx499_1,hx499_2,hx499_3,hl499_1,hi499_1,hl499_2,hi499_2,hl499_3,hi499_3⟩:=at_T53 HR0_0.out a1 p499 q499;cases e499
           replace hx499_0:=CL HB hx499_0;replace hx499_1:=CL HB hx499_1;replace hx499_2:=CL HB hx499_2;replace hx499_3:=CL HB hx499_3;have HR499_1:=AM hi499_1;have HC499_1:=AM hl499_1;clear hi499_1 hl499_1;have HR499_2:=AM hi499_2;have HC499_2:=AM hl499_2;clear hi499_2 hl499_2;have HR499_3:=AM hi499_3;have HC499_3:=AM hl499_3;clear hi499_3 hl499_3;replace p499:=eq_true p499;replace q499:=eq_true q499;go_wp2_with (first | ((with_reducible refine gate_dst (N:=45) rfl ?_);refine Kd.R_lit (Kd.int .i64) _ 3 ?hg (N:=45) ?hd (xs:=([]:List Int)) (inner:=[]) (ok:=fun _ => True) (okp:=fun _ => True) ?hr ?hp (fun _ hk => hk) trivial (Below.refl _ _) (Nat.le_refl _) (by simp) ?_;(case hd => rfl);(case hg => rfl);(case hr => first | (go_simp;done) | (go_simp;rfl));(case hp => exact (Reps.none _ _));intro v506 w20 ho21 hb hg_ hnew_;clear hg_ hnew_;(first | rw [← Ny505.out] at ho21 | (simp only [Int.reduceToNat] at ho21;rw [← Ny505.out] at ho21));replace HO_2:=AM (Kd.V_elder' (by (with_reducible repeat (first | apply Kd.V_alloc | apply Kd.V_drewN | apply Kd.V_drew));exact HO_2.out) (Kd.R_base ho21) hb);have HO507:=AM (Kd.R_lower (Kd.R_newM (M:=fun k_ => (w.heap.size≤k_)) ho21 (below_size (BB HB)) (fun k_ h_ => h_)) (below_size (BB HB)));replace BK497:=BE BK497 hb;replace HB:=BS HB hb;clear hb ho21;obtain ⟨Ao23,co23,eo23⟩:=Kd.V_slice HO_2.out;subst eo23) | ((with_reducible refine gate_builtin (b:=.append) (xs:=#[.tmp 45,.tmp 46]) rfl ?_);at_builtin;refine Kd.R_append_rows (Kd.int .i64) (w0:=w) w.heap.size rfl (.tmp 45) (.tmp 46) 51 3 (.int .i64 0) 8 rfl Tryd.underlying51 info3 rfl (by decide) (by omega) v506 y505 x2_2 _ _ _ (fun k_ => (w.heap.size≤k_)) (fun _ => False) rfl rfl ?aO ?aR (fun _ _ h => h) (fun _ h => h.elim) ?aF ?aB ?aS ?aL ?_;(case aR => repeat (first | exact (Kd.V_reads' HO_2.out).2.2 | (with_reducible refine Kd.C_alloc ?_ _) | (with_reducible refine Kd.C_drewN ?_ _) | (with_reducible refine Kd.C_drew ?_)));(case aB => exact (BB HB));(case aF => exact (fun k_ hk => (Nat.le_trans (below_size (BB HB)) hk)));(case aO => exact (by (with_reducible repeat (first | apply Kd.R_alloc | apply Kd.R_drewN | apply Kd.R_drew));exact Kd.R_mono HO507.out (fun _ hk => hk.1)));(case aS => exact (below_size (BB HB)));(case aL => have:=LMc17.out;omega);intro v509 w22 ho hb hg hat;rw [← Ny508.out] at ho;replace HO_2:=AM (Kd.V_afterv (ok:=(fun k_ => (P2_ k_ ∨ w.heap.size≤k_)∧k_≠gb497)) (by (with_reducible repeat (first | apply Kd.V_alloc | apply Kd.V_drewN | apply Kd.V_drew));exact HO_2.out) hg hat);replace BK497:=AM (blk_grown (g:=gb497) (o:=.cells #[.slice (some ad499) l0_0.length c0_0,.int .i64 a0_1] 24 (0,0)) (BL BK497) hg (Kd.R_ne HO507.out BK497.out (by decide)));replace HB:=AM (hb);have HO510:=AM (ho);clear HO507;clear ho hb hg hat) | ((with_reducible refine gate_builtin (b:=.append) (xs:=#[.tmp 47,.tmp 49]) rfl ?_);at_builtin;refine Kd.R_append (Kd.int .i64) (w0:=w) w.heap.size rfl (.tmp 47) (.tmp 49) 51 3 (.int .i64 0) 8 rfl Tryd.underlying51 info3 rfl (by decide) (by omega) v509 y508 a1 [.int .i64 a1] (fun k_ => (w.heap.size≤k_)) (fun _ => False) rfl rfl ?aP (fun _ hk => hk.elim) ?aF ?aO ?aB ?aS ?aL ?_;(case aP => exact rfl);(case aB => exact (BB HB));(case aF => exact (fun k_ hk => (Nat.le_trans (below_size (BB HB)) hk)));(case aO => exact (RL HO510));(case aS => exact (below_size (BB HB)));(case aL => have:=LMc18.out;omega);intro v512 w24 ho hb hg hat;rw [← Ny511.out] at ho;replace HO_2:=AM (Kd.V_afterv (ok:=(fun k_ => (P2_ k_ ∨ w.heap.size≤k_)∧k_≠gb497)) (by (with_reducible repeat (first | apply Kd.V_alloc | apply Kd.V_drewN | apply Kd.V_drew));exact HO_2.out) hg hat);replace BK497:=AM (blk_grown (g:=gb497) (o:=.cells #[.slice (some ad499) l0_0.length c0_0,.int .i64 a0_1] 24 (0,0)) (BL BK497) hg (Kd.R_ne HO510.out BK497.out (by decide)));replace HB:=AM (hb);have HO513:=AM (ho);clear HO510;clear ho hb hg hat))
           go_ret;exact ⟨_,by first | rfl | (simp [errW_none,errW_some] <;> rfl) | (simp [*,errW_none,errW_some] <;> rfl),Kd.V_mono (Kd.R_V (RL HO513)) (fun k_ hk => by first | exact ⟨(.inr (hk.1)),hk.2⟩ | exact (.inr (hk))),BB HB⟩
          ·rw [if_neg c18] at H;exact absurd H (by simp)
         ·rw [if_neg c17] at H;exact absurd H (by simp)
       ·rw [if_neg c9] at H;exact absurd H (by simp)
      ·rw [if_neg c8] at H;exact absurd H (by simp)
def r10_Order.f (k:Nat) (l0_0:List (S53)) (a0_1:Int):Option (List Int):=(r10_meet.f k l0_0 a0_1 a0_1 ([]:List Int)).bind fun t515 => (some t515)
theorem r10_Order.calls (k:Nat) (A0_0:Option Addr) (c0_0:Nat) (l0_0:List (S53)) (a0_1:Int) (r:List Int) (w:World) (hr0_0:Kd.C k53 w A0_0 l0_0.length l0_0) (hc0_0:l0_0.length≤c0_0) (h:r10_Order.f k l0_0 a0_1 = some r) :
  Calls Tryd.prog 64 #[.agg #[.slice A0_0 l0_0.length c0_0,.int .i64 a0_1]] w fun e w' => ∃ v0_:Value,e = .returned (v0_)∧Kd.V (Kd.int .i64) 3 w' w.heap.size (fun k_ => (w.heap.size≤k_)) v0_ r∧Below w.heap.size w w':=by
 have hu24:=Tryd.underlying24;have HR0_0:=AM hr0_0;have HC0_0:=AM hc0_0;clear hr0_0 hc0_0;have HB:=AM (Below.refl w.heap.size w);have H:((r10_meet.f k l0_0 a0_1 a0_1 ([]:List Int)).bind fun t515 => (some t515)) = some r:=h;clear h;replace H:=Option.bind_eq_some_iff.mp H;obtain ⟨t515,A20,H⟩:=H;replace H:(some t515) = some r:=H;have A2:=AM A20;clear A20;obtain rfl:=Option.some.inj H;go_enter Tryd.func64,Tryd.ntmps64;go_wp2_with (first | ((with_reducible refine gate_dst (N:=1) rfl ?_);refine boxE 1 #[.slice A0_0 l0_0.length c0_0,.int .i64 a0_1] 24 ?_;intro gb514 hg w3 hbox hb;have BK514:=AM (hbox);have GW514:=GW HB hg;have GE514:=GW HB hg;replace HB:=BS HB hb;clear hb hbox hg;have hcz4_0:=BC BK514 0 (.slice A0_0 l0_0.length c0_0) rfl;have hcz4_1:=BC BK514 1 (.int .i64 a0_1) rfl;have hfz4_0:=BF BK514 0;have hfz4_1:=BF BK514 1) | ((with_reducible refine gate_callee (f:=83) rfl ?_);refine goesM_ (some 6) rfl rfl Tryd.func83 #[.agg #[.slice A0_0 l0_0.length c0_0,.int .i64 a0_1],.int .i64 a0_1,.slice none 0 0] rfl ?_;(refine (r10_meet.calls k _ _ l0_0 a0_1 a0_1 (fun k_ => False) _ _ ([]:List Int) t515 _ ?side1 ?side2 ?side3 A2.out).mono ?_);(case side1 => exact Kd.C_below HR0_0.out (BB HB));(case side2 => exact HC0_0.out);(case side3 => exact Kd.V_nil _ _ _ _ _);rintro e w5 ⟨v516,rfl,ho0,hb⟩;refine ⟨_,rfl,?_⟩;have HO517:=AM (Kd.V_lower (Kd.V_mono (ok':=fun k_ => (w.heap.size≤k_)∧k_≠gb514) ho0 (fun k_ hk_ => ⟨Or.elim hk_ (fun hs_ => (hs_).elim) (fun hn_ => (Nat.le_trans (below_size (BB HB)) hn_)),Or.elim hk_ (fun hs_ => (hs_).elim) (fun hn_ => (Kd.freshB (g:=gb514) (o:=.cells #[.slice A0_0 l0_0.length c0_0,.int .i64 a0_1] 24 (0,0)) (BL BK514) k_ hn_))⟩)) (below_size (BB HB)));replace BK514:=BE BK514 hb;replace HB:=BS HB hb;(try clear hb);(try clear hb2);(try clear hk);(try clear hi);(try clear ho0)))
 go_ret;exact ⟨_,by first | rfl | (simp [errW_none,errW_some] <;> rfl) | (simp [*,errW_none,errW_some] <;> rfl),by (with_reducible repeat (first | apply Kd.V_alloc | apply Kd.V_drewN | apply Kd.V_drew));exact Kd.V_mono HO517.out (fun _ hk => hk.1),BB HB⟩
def r10_Find.l0:Nat→List Int→Int→Int→Option (Int)
 | 0,_,_,_ => none
 | k+1,x0,x1,x5 => if x5 < (x0.length:Int) then (if 0≤x5 then (if (rd x0 x5) = x1 then (some x5) else (r10_Find.l0 k x0 x1 (wrap64 (x5+1)))) else (none)) else (some (-1))
def r10_Find.f (k:Nat) (l0:List Int) (a1:Int):Option (Int):=r10_Find.l0 k l0 a1 0
theorem r10_Find.calls (k:Nat) (A0:Option Addr) (c0:Nat) (l0:List Int) (a1:Int) (r:Int) (w:World) (hr0:Kd.C (Kd.int .i64) w A0 l0.length l0) (hc0:l0.length≤c0) (h:r10_Find.f k l0 a1 = some r) :
  Calls Tryd.prog 65 #[.slice A0 l0.length c0,.int .i64 a1] w fun e w' => e = .returned (.int .i64 r)∧Drawn0 w w':=by
 have HR0:=AM hr0;have HC0:=AM hc0;clear hr0 hc0;have H:(r10_Find.l0 k l0 a1 0) = some r:=h;clear h;have H':=AM H;clear H;go_enter Tryd.func65,Tryd.ntmps65;go_wp2
 go_loopg [5] k (fun kq v5 w' => ∃ (x5_1:Int),v5 = .int .i64 x5_1∧Aside0 (r10_Find.l0 kq l0 a1 x5_1 = some r)∧Aside0 (kq≤k)∧Drawn0 w w')
 case atStart => exact ⟨(0),QD,H',⟨Nat.le_refl _⟩,DZ⟩
 case round =>
  clear H';try clear p2
  obtain ⟨x5_1,rfl,HA,HK1,⟨m1,rfl⟩⟩:=hrel;cases gk with
  | zero => exact absurd HA.out (by simp [r10_Find.l0])
  | succ k1 =>
   have H:=HA.out;clear HA;simp only [r10_Find.l0] at H;by_cases c3:x5_1 < (l0.length:Int)
   ·rw [if_pos c3] at H;have c3b0:decide (x5_1 < (l0.length:Int)) = true:=decide_eq_true c3;clear c3;by_cases c4:0≤x5_1
    ·rw [if_pos c4] at H;have c4b0:decide (0≤x5_1) = true:=decide_eq_true c4;clear c4;by_cases c5:(rd l0 x5_1) = a1
     ·rw [if_pos c5] at H;have c5b0:((rd l0 x5_1) == a1) = true:=beq_iff_eq.mpr c5;have c5b1:((rd l0 x5_1) != a1) = false:=bne_eq_false_iff_eq.mpr c5;clear c5;obtain rfl:=Option.some.inj H;have p518:0≤(x5_1:Int):=OD;have q518:x5_1 < (l0.length:Int):=OD;obtain ⟨ad518,e518,hx518_0⟩:=Kd.at_int HR0.out x5_1 p518 q518;cases e518
      replace p518:=eq_true p518;replace q518:=eq_true q518;go_wp2
      go_ret;exact ⟨QD,DZ⟩
     ·rw [if_neg c5] at H;have c5b0:((rd l0 x5_1) == a1) = false:=beq_eq_false_iff_ne.mpr c5;have c5b1:((rd l0 x5_1) != a1) = true:=bne_iff_ne.mpr c5;have H':=AM H;clear H;have p518:0≤(x5_1:Int):=OD;have q518:x5_1 < (l0.length:Int):=OD;obtain ⟨ad518,e518,hx518_0⟩:=Kd.at_int HR0.out x5_1 p518 q518;cases e518
      replace p518:=eq_true p518;replace q518:=eq_true q518;go_wp2
      go_roundg k1
      case measure => have:=HK1.out;omega
      case rel => exact ⟨(wrap64 (x5_1+1)),QD,H',⟨by have:=HK1.out;omega⟩,DZ⟩
    ·rw [if_neg c4] at H;exact absurd H (by simp)
   ·rw [if_neg c3] at H;have c3b0:decide (x5_1 < (l0.length:Int)) = false:=decide_eq_false c3;clear c3;obtain rfl:=Option.some.inj H;go_wp2
    go_ret;exact ⟨QD,DZ⟩
end Go.Proofs.YtcphcaiiofeflaaDoor.GO
