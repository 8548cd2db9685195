
import Derived.Test.YtcphcaiiofeflaaDoorOcGOx0
import Derived.Test.YtcphcaiiofeflaaDoorOcGOx28
namespace Go.Proofs.YtcphcaiiofeflaaDoor.GO
open Go.RowKit Go.Proofs.YtcphcaiiofeflaaDoorW.PrintWords Go.Proofs.YtcphcaiiofeflaaDoorW.PrintLast Go.Proofs.YtcphcaiiofeflaaDoorW.PrintMore
attribute [local go_sem] max2_int min2_int max_two min_two max_three min_three max_four min_four
set_option linter.unusedVariables false
set_option linter.unusedSimpArgs false
mutual
def r09_Same.j0:Nat→Bool→List (S53)→Int→List (S53)→Int→Option (Bool)
 | 0,_,_,_,_,_ => none
 | k+1,x19,x493000,x493001,x494000,x494001 => if x19 = true then (some false) else (r09_Same.l0 k 0 x493000 x493001 x494000 x494001)
def r09_Same.l0:Nat→Int→List (S53)→Int→List (S53)→Int→Option (Bool)
 | 0,_,_,_,_,_ => none
 | k+1,x5,x493000,x493001,x494000,x494001 => if x5 < (x493000.length:Int) then (if 0≤x5 then (if x5 < (x494000.length:Int) then ((r08_Same.f k ((rd_T53 x493000 x5).f0) ((rd_T53 x493000 x5).f1) ((rd_T53 x493000 x5).f2) ((rd_T53 x493000 x5).f3) ((rd_T53 x494000 x5).f0) ((rd_T53 x494000 x5).f1) ((rd_T53 x494000 x5).f2) ((rd_T53 x494000 x5).f3)).bind fun t496 => (if t496 = true then (r09_Same.l0 k (wrap64 (x5+1)) x493000 x493001 x494000 x494001) else (some false))) else (none)) else (none)) else (some true)
end
def r09_Same.f (k:Nat) (l0_0:List (S53)) (a0_1:Int) (l1_0:List (S53)) (a1_1:Int):Option (Bool):=if a0_1 = a1_1 then (r09_Same.j0 k ((l0_0.length:Int) != (l1_0.length:Int)) l0_0 a0_1 l1_0 a1_1) else (r09_Same.j0 k true l0_0 a0_1 l1_0 a1_1)
def r09_Same.T6:Bool × List (List Nat × List Nat):=(true,[([],[]),([0],[0]),([],[]),([1,2],[1,2]),([3],[3]),([],[]),([5],[5]),([],[]),([6,7],[6,7]),([8],[8]),([4,9],[4,9]),([10],[10])])
def r09_Same.B6:List Nat:=[0,1,0,7,15,0,32,0,224,480,1023,2047]
theorem r09_Same.tab6:rtab .any (opsOf Tryd.f36 6) = r09_Same.T6:=by kernel_rfl
theorem r09_Same.bits6:waitsOk r09_Same.T6.2 r09_Same.B6 = true:=by kernel_rfl
set_option maxHeartbeats 8000000 in
set_option maxRecDepth 100000 in
theorem r09_Same.calls (k:Nat) (A0_0:Option Addr) (c0_0:Nat) (l0_0:List (S53)) (a0_1:Int) (A1_0:Option Addr) (c1_0:Nat) (l1_0:List (S53)) (a1_1:Int) (r:Bool) (w:World) (hr0_0:Kd.C k53 w A0_0 l0_0.length l0_0) (hc0_0:l0_0.length≤c0_0) (hr1_0:Kd.C k53 w A1_0 l1_0.length l1_0) (hc1_0:l1_0.length≤c1_0) (h:r09_Same.f k l0_0 a0_1 l1_0 a1_1 = some r) :
  Calls Tryd.prog 36 #[.agg #[.slice A0_0 l0_0.length c0_0,.int .i64 a0_1],.agg #[.slice A1_0 l1_0.length c1_0,.int .i64 a1_1]] w fun e w' => e = .returned (.bool r)∧Below w.heap.size w w':=by
 have hu24:=Tryd.underlying24;have hu53:=Tryd.underlying53;have HR0_0:=AM hr0_0;have HC0_0:=AM hc0_0;clear hr0_0 hc0_0;have HR1_0:=AM hr1_0;have HC1_0:=AM hc1_0;clear hr1_0 hc1_0;have HB:=AM (Below.refl w.heap.size w);have H:(if a0_1 = a1_1 then (r09_Same.j0 k ((l0_0.length:Int) != (l1_0.length:Int)) l0_0 a0_1 l1_0 a1_1) else (r09_Same.j0 k true l0_0 a0_1 l1_0 a1_1)) = some r:=h;clear h;have HC3:=AM H;clear H;go_enter Tryd.func36,Tryd.ntmps36;go_upto_region 1 with (first | ((with_reducible refine gate_dst (N:=2) rfl ?_);refine boxE 2 #[.slice A0_0 l0_0.length c0_0,.int .i64 a0_1] 24 ?_;intro gb492 hg w4 hbox hb;have BK492:=AM (hbox);have GW492:=GW HB hg;have GE492:=GW HB hg;replace HB:=BS HB hb;clear hb hbox hg) | ((with_reducible refine gate_dst (N:=3) rfl ?_);refine boxE 3 #[.slice A1_0 l1_0.length c1_0,.int .i64 a1_1] 24 ?_;intro gb493 hg w5 hbox hb;have BK493:=AM (hbox);have GW493:=GW HB hg;have GE493:=GW HB hg;replace HB:=BS HB hb;have NB492_493:=NL BK492 hg;have NB493_492:=NG BK492 hg;replace BK492:=BE BK492 hb;clear hb hbox hg))
 (try simp only [Act.put,List.setIfInBounds_toArray,List.set_cons_zero,List.set_cons_succ])
 go_cut [19] (fun v19 wc => ∃ (kq:Nat) (x19_2:Bool),v19 = .bool x19_2∧Aside0 (r09_Same.j0 kq x19_2 l0_0 a0_1 l1_0 a1_1 = some r)∧Aside0 (kq≤k)∧Aside0 (wc.heap[gb492]? = some (.cells #[(.slice A0_0 l0_0.length c0_0),.int .i64 a0_1] 24 (0,0)))∧Aside0 (wc.heap[gb493]? = some (.cells #[(.slice A1_0 l1_0.length c1_0),.int .i64 a1_1] 24 (0,0)))∧Aside0 (Below w.heap.size w wc))
 case first =>
  have H:=HC3.out;clear HC3;by_cases c6:a0_1 = a1_1
  ·rw [if_pos c6] at H;have c6b0:(a0_1 == a1_1) = true:=beq_iff_eq.mpr c6;have c6b1:(a0_1 != a1_1) = false:=bne_eq_false_iff_eq.mpr c6;clear c6;(first | rw [c6b0] | (simp only [i64_w,i32_w];rw [c6b0]) | skip)
   have H':=AM H;clear H;have hnb7:=NB492_493.out;have hnc7:=NB493_492.out;have hcz8_0:=BC BK492 0 (.slice A0_0 l0_0.length c0_0) rfl;have hcz8_1:=BC BK492 1 (.int .i64 a0_1) rfl;have hfz8_0:=BF BK492 0;have hfz8_1:=BF BK492 1;have hcz9_0:=BC BK493 0 (.slice A1_0 l1_0.length c1_0) rfl;have hcz9_1:=BC BK493 1 (.int .i64 a1_1) rfl;have hfz9_0:=BF BK493 0;have hfz9_1:=BF BK493 1;go_wp2
   go_meet
   case rel => exact ⟨_,(((l0_0.length:Int) != (l1_0.length:Int))),QD,H',⟨by first | omega | exact Nat.le_refl _⟩,⟨BL BK492⟩,⟨BL BK493⟩,⟨BB HB⟩⟩
  ·rw [if_neg c6] at H;have c6b0:(a0_1 == a1_1) = false:=beq_eq_false_iff_ne.mpr c6;have c6b1:(a0_1 != a1_1) = true:=bne_iff_ne.mpr c6;(first | rw [c6b0] | (simp only [i64_w,i32_w];rw [c6b0]) | skip)
   have H':=AM H;clear H;have hnb10:=NB492_493.out;have hnc10:=NB493_492.out;have hcz11_0:=BC BK492 0 (.slice A0_0 l0_0.length c0_0) rfl;have hcz11_1:=BC BK492 1 (.int .i64 a0_1) rfl;have hfz11_0:=BF BK492 0;have hfz11_1:=BF BK492 1;have hcz12_0:=BC BK493 0 (.slice A1_0 l1_0.length c1_0) rfl;have hcz12_1:=BC BK493 1 (.int .i64 a1_1) rfl;have hfz12_0:=BF BK493 0;have hfz12_1:=BF BK493 1;go_wp2
   go_meet
   case rel => exact ⟨_,(true),QD,H',⟨by first | omega | exact Nat.le_refl _⟩,⟨BL BK492⟩,⟨BL BK493⟩,⟨BB HB⟩⟩
 case rest =>
  clear HC3;try clear c1
  try clear p2
  try clear c3
  try clear c6
  try clear c6b0
  try clear c6b1
  try clear c7
  try clear c10
  try clear hcz11_0
  try clear hcz11_1
  try clear hcz12_0
  try clear hcz12_1
  try clear hcz8_0
  try clear hcz8_1
  try clear hcz9_0
  try clear hcz9_1
  try clear hfz11_0
  try clear hfz11_1
  try clear hfz12_0
  try clear hfz12_1
  try clear hfz8_0
  try clear hfz8_1
  try clear hfz9_0
  try clear hfz9_1
  obtain ⟨kq,x19_2,rfl,HA,HJ2,BK492,BK493,HB⟩:=hcut;cases kq with
  | zero => exact absurd HA.out (by simp [r09_Same.j0])
  | succ kj2 =>
   have H:=HA.out;clear HA;simp only [r09_Same.j0] at H;by_cases c13:x19_2 = true
   ·subst c13;have H1:(some false) = some r:=by rw [if_pos rfl] at H;exact H
    clear H;have H:=H1;clear H1;obtain rfl:=Option.some.inj H;go_wp2
    go_ret;exact RT (BB HB)
   ·replace c13:=Bool.eq_false_iff.mpr c13;subst c13;have H1:(r09_Same.l0 kj2 0 l0_0 a0_1 l1_0 a1_1) = some r:=by rw [if_neg (show ¬ (false = true) by decide)] at H;exact H
    clear H;have H:=H1;clear H1;have H':=AM H;clear H;go_wp2
    go_loopg [5] kj2 (fun kq v5 w' => ∃ (x5_2:Int),v5 = .int .i64 x5_2∧Aside0 (r09_Same.l0 kq x5_2 l0_0 a0_1 l1_0 a1_1 = some r)∧Aside0 (kq≤kj2)∧Aside0 (w'.heap[gb492]? = some (.cells #[(.slice A0_0 l0_0.length c0_0),.int .i64 a0_1] 24 (0,0)))∧Aside0 (w'.heap[gb493]? = some (.cells #[(.slice A1_0 l1_0.length c1_0),.int .i64 a1_1] 24 (0,0)))∧Aside0 (Below w.heap.size w w'))
    case atStart => exact ⟨(0),QD,H',⟨Nat.le_refl _⟩,⟨BL BK492⟩,⟨BL BK493⟩,⟨BB HB⟩⟩
    case round =>
     clear H';try clear c1
     try clear p2
     try clear c3
     try clear c6
     try clear c6b0
     try clear c6b1
     try clear c7
     try clear c10
     try clear c13
     try clear hcz11_0
     try clear hcz11_1
     try clear hcz12_0
     try clear hcz12_1
     try clear hcz8_0
     try clear hcz8_1
     try clear hcz9_0
     try clear hcz9_1
     try clear hfz11_0
     try clear hfz11_1
     try clear hfz12_0
     try clear hfz12_1
     try clear hfz8_0
     try clear hfz8_1
     try clear hfz9_0
     try clear hfz9_1
     try clear p2
     obtain ⟨x5_2,rfl,HA,HK2,BK492,BK493,HB⟩:=hrel;cases gk with
     | zero => exact absurd HA.out (by simp [r09_Same.l0])
     | succ k2 =>
      have H:=HA.out;clear HA;simp only [r09_Same.l0] at H;by_cases c14:x5_2 < (l0_0.length:Int)
      ·rw [if_pos c14] at H;have c14b0:decide (x5_2 < (l0_0.length:Int)) = true:=decide_eq_true c14;clear c14;by_cases c15:0≤x5_2
       ·rw [if_pos c15] at H;have c15b0:decide (0≤x5_2) = true:=decide_eq_true c15;clear c15;by_cases c16:x5_2 < (l1_0.length:Int)
        ·rw [if_pos c16] at H;have c16b0:decide (x5_2 < (l1_0.length:Int)) = true:=decide_eq_true c16;clear c16;replace H:=Option.bind_eq_some_iff.mp H;obtain ⟨t496,A170,H⟩:=H;replace H:(if t496 = true then (r09_Same.l0 k2 (wrap64 (x5_2+1)) l0_0 a0_1 l1_0 a1_1) else (some false)) = some r:=H;have A17:=AM A170;clear A170;by_cases c18:t496 = true
         ·subst c18;have H1:(r09_Same.l0 k2 (wrap64 (x5_2+1)) l0_0 a0_1 l1_0 a1_1) = some r:=by rw [if_pos rfl] at H;exact H
          clear H;have H:=H1;clear H1;have H':=AM H;clear H;have hnb19:=NB492_493.out;have hnc19:=NB493_492.out;have hcz20_0:=BC BK492 0 (.slice A0_0 l0_0.length c0_0) rfl;have hcz20_1:=BC BK492 1 (.int .i64 a0_1) rfl;have hfz20_0:=BF BK492 0;have hfz20_1:=BF BK492 1;try go_wp2
          replace BK492:=AM (blk_drew BK492.out);replace BK493:=AM (blk_drew BK493.out);replace HB:=AM (below_drew1 HB.out);have p494:0≤(x5_2:Int):=OD;have q494:x5_2 < (l0_0.length:Int):=OD;obtain ⟨ad494,A494_1,c494_1,A494_2,c494_2,A494_3,c494_3,e494,hx494_0,hx494_1,hx494_2,hx494_3,hl494_1,hi494_1,hl494_2,hi494_2,hl494_3,hi494_3⟩:=at_T53 HR0_0.out x5_2 p494 q494;have hw494_3:=hx494_3;have hw494_2:=hx494_2;have hw494_1:=hx494_1;have hw494_0:=hx494_0;cases e494
          replace hx494_0:=CL HB hx494_0;replace hx494_1:=CL HB hx494_1;replace hx494_2:=CL HB hx494_2;replace hx494_3:=CL HB hx494_3;have HR494_1:=AM hi494_1;have HC494_1:=AM hl494_1;clear hi494_1 hl494_1;have HR494_2:=AM hi494_2;have HC494_2:=AM hl494_2;clear hi494_2 hl494_2;have HR494_3:=AM hi494_3;have HC494_3:=AM hl494_3;clear hi494_3 hl494_3;replace p494:=eq_true p494;replace q494:=eq_true q494;have p495:0≤(x5_2:Int):=OD;have q495:x5_2 < (l1_0.length:Int):=OD;obtain ⟨ad495,A495_1,c495_1,A495_2,c495_2,A495_3,c495_3,e495,hx495_0,hx495_1,hx495_2,hx495_3,hl495_1,hi495_1,hl495_2,hi495_2,hl495_3,hi495_3⟩:=at_T53 HR1_0.out x5_2 p495 q495;have hw495_3:=hx495_3;have hw495_2:=hx495_2;have hw495_1:=hx495_1;have hw495_0:=hx495_0;cases e495
          replace hx495_0:=CL HB hx495_0;replace hx495_1:=CL HB hx495_1;replace hx495_2:=CL HB hx495_2;replace hx495_3:=CL HB hx495_3;have HR495_1:=AM hi495_1;have HC495_1:=AM hl495_1;clear hi495_1 hl495_1;have HR495_2:=AM hi495_2;have HC495_2:=AM hl495_2;clear hi495_2 hl495_2;have HR495_3:=AM hi495_3;have HC495_3:=AM hl495_3;clear hi495_3 hl495_3;replace p495:=eq_true p495;replace q495:=eq_true q495;refine start_ (n:=12) (S:=fun w' => w'.cell? ⟨gb492,0,none⟩ = some (.slice (some ad494) l0_0.length c0_0)∧w'.cell? ⟨gb492,1,none⟩ = some (.int .i64 a0_1)∧w'.cell? ⟨gb493,0,none⟩ = some (.slice (some ad495) l1_0.length c1_0)∧w'.cell? ⟨gb493,1,none⟩ = some (.int .i64 a1_1)∧w'.cell? (ad494.add ((x5_2).toNat * 4)) = some (.int .i64 ((rd_T53 l0_0 x5_2).f0))∧w'.cell? ⟨(ad494.add ((x5_2).toNat * 4)).block,(ad494.add ((x5_2).toNat * 4)).off+1,none⟩ = some (.slice A494_1 ((rd_T53 l0_0 x5_2).f1).length c494_1)∧w'.cell? ⟨(ad494.add ((x5_2).toNat * 4)).block,(ad494.add ((x5_2).toNat * 4)).off+2,none⟩ = some (.slice A494_2 ((rd_T53 l0_0 x5_2).f2).length c494_2)∧w'.cell? ⟨(ad494.add ((x5_2).toNat * 4)).block,(ad494.add ((x5_2).toNat * 4)).off+3,none⟩ = some (.slice A494_3 ((rd_T53 l0_0 x5_2).f3).length c494_3)∧w'.cell? (ad495.add ((x5_2).toNat * 4)) = some (.int .i64 ((rd_T53 l1_0 x5_2).f0))∧w'.cell? ⟨(ad495.add ((x5_2).toNat * 4)).block,(ad495.add ((x5_2).toNat * 4)).off+1,none⟩ = some (.slice A495_1 ((rd_T53 l1_0 x5_2).f1).length c495_1)∧w'.cell? ⟨(ad495.add ((x5_2).toNat * 4)).block,(ad495.add ((x5_2).toNat * 4)).off+2,none⟩ = some (.slice A495_2 ((rd_T53 l1_0 x5_2).f2).length c495_2)∧w'.cell? ⟨(ad495.add ((x5_2).toNat * 4)).block,(ad495.add ((x5_2).toNat * 4)).off+3,none⟩ = some (.slice A495_3 ((rd_T53 l1_0 x5_2).f3).length c495_3)) (ds:=[]) #[false,false,false,false,false,false,false,false,false,false,false,false] (by kernel_rfl) rfl rfl ⟨(blk_cell BK492.out 0).trans rfl,(blk_cell BK492.out 1).trans rfl,(blk_cell BK493.out 0).trans rfl,(blk_cell BK493.out 1).trans rfl,((HB.out.cell (World.block_lt_of_cell? w _ hw494_0)).trans hw494_0),((HB.out.cell (World.block_lt_of_cell? w _ hw494_1)).trans hw494_1),((HB.out.cell (World.block_lt_of_cell? w _ hw494_2)).trans hw494_2),((HB.out.cell (World.block_lt_of_cell? w _ hw494_3)).trans hw494_3),((HB.out.cell (World.block_lt_of_cell? w _ hw495_0)).trans hw495_0),((HB.out.cell (World.block_lt_of_cell? w _ hw495_1)).trans hw495_1),((HB.out.cell (World.block_lt_of_cell? w _ hw495_2)).trans hw495_2),((HB.out.cell (World.block_lt_of_cell? w _ hw495_3)).trans hw495_3)⟩ (fun hHeld => ?_);refine with_tabW r09_Same.tab6 r09_Same.bits6 (fun HT_ HW_ => ?_);generalize wr.drew = w21 at BK492 BK493 HB HR494_1 HR494_2 HR494_3 HR495_1 HR495_2 HR495_3 hx494_0 hx494_1 hx494_2 hx494_3 hx495_0 hx495_1 hx495_2 hx495_3 hHeld ⊢;refine pureA HT_ (i:=0) (N:=some 27) #[true,false,false,false,false,false,false,false,false,false,false,false] ?_;refine pureA HT_ (i:=2) (N:=some 29) #[true,false,true,false,false,false,false,false,false,false,false,false] ?_;refine pureA HT_ (i:=5) (N:=some 32) #[true,false,true,false,false,true,false,false,false,false,false,false] ?_;refine pureA HT_ (i:=7) (N:=some 34) #[true,false,true,false,false,true,false,true,false,false,false,false] ?_;refine takeB_ (i:=1) (N:=some 28) (hi:=rfl) (hN:=rfl) (hc:=take_ofW HT_.out HW_.out (by kernel_rfl)) #[true,true,true,false,false,true,false,true,false,false,false,false] hHeld (by rintro w' ⟨s0,s1,s2,s3,s4,s5,s6,s7,s8,s9,s10,s11⟩;go_simp;with_reducible rfl) ?_;refine pureA HT_ (i:=3) (N:=some 30) #[true,true,true,true,false,true,false,true,false,false,false,false] ?_;refine takeB_ (i:=4) (N:=some 31) (hi:=rfl) (hN:=rfl) (hc:=take_ofW HT_.out HW_.out (by kernel_rfl)) #[true,true,true,true,true,true,false,true,false,false,false,false] hHeld (by rintro w' ⟨s0,s1,s2,s3,s4,s5,s6,s7,s8,s9,s10,s11⟩;go_simp;with_reducible rfl) ?_;refine takeB_ (i:=6) (N:=some 33) (hi:=rfl) (hN:=rfl) (hc:=take_ofW HT_.out HW_.out (by kernel_rfl)) #[true,true,true,true,true,true,true,true,false,false,false,false] hHeld (by rintro w' ⟨s0,s1,s2,s3,s4,s5,s6,s7,s8,s9,s10,s11⟩;go_simp;with_reducible rfl) ?_;refine pureA HT_ (i:=8) (N:=some 35) #[true,true,true,true,true,true,true,true,true,false,false,false] ?_;refine takeB_ (i:=9) (N:=some 36) (hi:=rfl) (hN:=rfl) (hc:=take_ofW HT_.out HW_.out (by kernel_rfl)) #[true,true,true,true,true,true,true,true,true,true,false,false] hHeld (by rintro w' ⟨s0,s1,s2,s3,s4,s5,s6,s7,s8,s9,s10,s11⟩;go_simp;with_reducible rfl) ?_;refine one_ (i:=10) (N:=some 37) #[true,true,true,true,true,true,true,true,true,true,true,false] rfl rfl (one_of HT_.out (by kernel_rfl)) (by decide) (fun K hK => ?_);refine goesN Tryd.func62 #[.agg #[.int .i64 ((rd_T53 l0_0 x5_2).f0),.slice A494_1 ((rd_T53 l0_0 x5_2).f1).length c494_1,.slice A494_2 ((rd_T53 l0_0 x5_2).f2).length c494_2,.slice A494_3 ((rd_T53 l0_0 x5_2).f3).length c494_3],.agg #[.int .i64 ((rd_T53 l1_0 x5_2).f0),.slice A495_1 ((rd_T53 l1_0 x5_2).f1).length c495_1,.slice A495_2 ((rd_T53 l1_0 x5_2).f2).length c495_2,.slice A495_3 ((rd_T53 l1_0 x5_2).f3).length c495_3]] ?_;with_reducible refine (r08_Same.calls k2 ((rd_T53 l0_0 x5_2).f0) _ _ ((rd_T53 l0_0 x5_2).f1) _ _ ((rd_T53 l0_0 x5_2).f2) _ _ ((rd_T53 l0_0 x5_2).f3) ((rd_T53 l1_0 x5_2).f0) _ _ ((rd_T53 l1_0 x5_2).f1) _ _ ((rd_T53 l1_0 x5_2).f2) _ _ ((rd_T53 l1_0 x5_2).f3) true _ ?side1 ?side2 ?side3 ?side4 ?side5 ?side6 ?side7 ?side8 ?side9 ?side10 ?side11 ?side12 A17.out).mono ?_
          (case side1 => exact Kd.C_below HR494_1.out (BB HB))
          (case side2 => exact HC494_1.out)
          (case side3 => exact Kd.C_below HR494_2.out (BB HB))
          (case side4 => exact HC494_2.out)
          (case side5 => exact Kd.C_below HR494_3.out (BB HB))
          (case side6 => exact HC494_3.out)
          (case side7 => exact Kd.C_below HR495_1.out (BB HB))
          (case side8 => exact HC495_1.out)
          (case side9 => exact Kd.C_below HR495_2.out (BB HB))
          (case side10 => exact HC495_2.out)
          (case side11 => exact Kd.C_below HR495_3.out (BB HB))
          (case side12 => exact HC495_3.out)
          rintro e w22 ⟨rfl,hb⟩;refine ⟨_,rfl,?_⟩;replace BK492:=BE BK492 hb;replace BK493:=BE BK493 hb;replace HB:=BS HB hb;(try clear hb)
          (try clear hb2)
          (try clear hk)
          (try clear hi)
          refine hK.out _ _ ⟨(blk_cell BK492.out 0).trans rfl,(blk_cell BK492.out 1).trans rfl,(blk_cell BK493.out 0).trans rfl,(blk_cell BK493.out 1).trans rfl,((HB.out.cell (World.block_lt_of_cell? w _ hw494_0)).trans hw494_0),((HB.out.cell (World.block_lt_of_cell? w _ hw494_1)).trans hw494_1),((HB.out.cell (World.block_lt_of_cell? w _ hw494_2)).trans hw494_2),((HB.out.cell (World.block_lt_of_cell? w _ hw494_3)).trans hw494_3),((HB.out.cell (World.block_lt_of_cell? w _ hw495_0)).trans hw495_0),((HB.out.cell (World.block_lt_of_cell? w _ hw495_1)).trans hw495_1),((HB.out.cell (World.block_lt_of_cell? w _ hw495_2)).trans hw495_2),((HB.out.cell (World.block_lt_of_cell? w _ hw495_3)).trans hw495_3)⟩ (fun hHeld => ?_);clear hK K;refine norm_ (a':=?_) ?_ ?_
          rotate_left
          ·show Act.put _ (some 37) _ = _
           simp only [Act.put,List.setIfInBounds_toArray,List.set_cons_zero,List.set_cons_succ,i64_w,i32_w];rfl
          refine pureA HT_ (i:=11) (N:=some 38) #[true,true,true,true,true,true,true,true,true,true,true,true] ?_;refine done_ (done_of HT_.out (by kernel_rfl)) ?_;try go_wp2
          go_roundg k2
          case measure => have:=HJ2.out;have:=HK2.out;omega
          case rel => exact ⟨(wrap64 (x5_2+1)),QD,H',⟨by have:=HJ2.out;have:=HK2.out;omega⟩,⟨BL BK492⟩,⟨BL BK493⟩,⟨BB HB⟩⟩
         ·replace c18:=Bool.eq_false_iff.mpr c18;subst c18;have H1:(some false) = some r:=by rw [if_neg (show ¬ (false = true) by decide)] at H;exact H
          clear H;have H:=H1;clear H1;obtain rfl:=Option.some.inj H;have hnb23:=NB492_493.out;have hnc23:=NB493_492.out;have hcz24_0:=BC BK492 0 (.slice A0_0 l0_0.length c0_0) rfl;have hcz24_1:=BC BK492 1 (.int .i64 a0_1) rfl;have hfz24_0:=BF BK492 0;have hfz24_1:=BF BK492 1;try go_wp2
          replace BK492:=AM (blk_drew BK492.out);replace BK493:=AM (blk_drew BK493.out);replace HB:=AM (below_drew1 HB.out);have p494:0≤(x5_2:Int):=OD;have q494:x5_2 < (l0_0.length:Int):=OD;obtain ⟨ad494,A494_1,c494_1,A494_2,c494_2,A494_3,c494_3,e494,hx494_0,hx494_1,hx494_2,hx494_3,hl494_1,hi494_1,hl494_2,hi494_2,hl494_3,hi494_3⟩:=at_T53 HR0_0.out x5_2 p494 q494;have hw494_3:=hx494_3;have hw494_2:=hx494_2;have hw494_1:=hx494_1;have hw494_0:=hx494_0;cases e494
          replace hx494_0:=CL HB hx494_0;replace hx494_1:=CL HB hx494_1;replace hx494_2:=CL HB hx494_2;replace hx494_3:=CL HB hx494_3;have HR494_1:=AM hi494_1;have HC494_1:=AM hl494_1;clear hi494_1 hl494_1;have HR494_2:=AM hi494_2;have HC494_2:=AM hl494_2;clear hi494_2 hl494_2;have HR494_3:=AM hi494_3;have HC494_3:=AM hl494_3;clear hi494_3 hl494_3;replace p494:=eq_true p494;replace q494:=eq_true q494;have p495:0≤(x5_2:Int):=OD;have q495:x5_2 < (l1_0.length:Int):=OD;obtain ⟨ad495,A495_1,c495_1,A495_2,c495_2,A495_3,c495_3,e495,hx495_0,hx495_1,hx495_2,hx495_3,hl495_1,hi495_1,hl495_2,hi495_2,hl495_3,hi495_3⟩:=at_T53 HR1_0.out x5_2 p495 q495;have hw495_3:=hx495_3;have hw495_2:=hx495_2;have hw495_1:=hx495_1;have hw495_0:=hx495_0;cases e495
          replace hx495_0:=CL HB hx495_0;replace hx495_1:=CL HB hx495_1;replace hx495_2:=CL HB hx495_2;replace hx495_3:=CL HB hx495_3;have HR495_1:=AM hi495_1;have HC495_1:=AM hl495_1;clear hi495_1 hl495_1;have HR495_2:=AM hi495_2;have HC495_2:=AM hl495_2;clear hi495_2 hl495_2;have HR495_3:=AM hi495_3;have HC495_3:=AM hl495_3;clear hi495_3 hl495_3;replace p495:=eq_true p495;replace q495:=eq_true q495;refine start_ (n:=12) (S:=fun w' => w'.cell? ⟨gb492,0,none⟩ = some (.slice (some ad494) l0_0.length c0_0)∧w'.cell? ⟨gb492,1,none⟩ = some (.int .i64 a0_1)∧w'.cell? ⟨gb493,0,none⟩ = some (.slice (some ad495) l1_0.length c1_0)∧w'.cell? ⟨gb493,1,none⟩ = some (.int .i64 a1_1)∧w'.cell? (ad494.add ((x5_2).toNat * 4)) = some (.int .i64 ((rd_T53 l0_0 x5_2).f0))∧w'.cell? ⟨(ad494.add ((x5_2).toNat * 4)).block,(ad494.add ((x5_2).toNat * 4)).off+1,none⟩ = some (.slice A494_1 ((rd_T53 l0_0 x5_2).f1).length c494_1)∧w'.cell? ⟨(ad494.add ((x5_2).toNat * 4)).block,(ad494.add ((x5_2).toNat * 4)).off+2,none⟩ = some (.slice A494_2 ((rd_T53 l0_0 x5_2).f2).length c494_2)∧w'.cell? ⟨(ad494.add ((x5_2).toNat * 4)).block,(ad494.add ((x5_2).toNat * 4)).off+3,none⟩ = some (.slice A494_3 ((rd_T53 l0_0 x5_2).f3).length c494_3)∧w'.cell? (ad495.add ((x5_2).toNat * 4)) = some (.int .i64 ((rd_T53 l1_0 x5_2).f0))∧w'.cell? ⟨(ad495.add ((x5_2).toNat * 4)).block,(ad495.add ((x5_2).toNat * 4)).off+1,none⟩ = some (.slice A495_1 ((rd_T53 l1_0 x5_2).f1).length c495_1)∧w'.cell? ⟨(ad495.add ((x5_2).toNat * 4)).block,(ad495.add ((x5_2).toNat * 4)).off+2,none⟩ = some (.slice A495_2 ((rd_T53 l1_0 x5_2).f2).length c495_2)∧w'.cell? ⟨(ad495.add ((x5_2).toNat * 4)).block,(ad495.add ((x5_2).toNat * 4)).off+3,none⟩ = some (.slice A495_3 ((rd_T53 l1_0 x5_2).f3).length c495_3)) (ds:=[]) #[false,false,false,false,false,false,false,false,false,false,false,false] (by kernel_rfl) rfl rfl ⟨(blk_cell BK492.out 0).trans rfl,(blk_cell BK492.out 1).trans rfl,(blk_cell BK493.out 0).trans rfl,(blk_cell BK493.out 1).trans rfl,((HB.out.cell (World.block_lt_of_cell? w _ hw494_0)).trans hw494_0),((HB.out.cell (World.block_lt_of_cell? w _ hw494_1)).trans hw494_1),((HB.out.cell (World.block_lt_of_cell? w _ hw494_2)).trans hw494_2),((HB.out.cell (World.block_lt_of_cell? w _ hw494_3)).trans hw494_3),((HB.out.cell (World.block_lt_of_cell? w _ hw495_0)).trans hw495_0),((HB.out.cell (World.block_lt_of_cell? w _ hw495_1)).trans hw495_1),((HB.out.cell (World.block_lt_of_cell? w _ hw495_2)).trans hw495_2),((HB.out.cell (World.block_lt_of_cell? w _ hw495_3)).trans hw495_3)⟩ (fun hHeld => ?_);refine with_tabW r09_Same.tab6 r09_Same.bits6 (fun HT_ HW_ => ?_);generalize wr.drew = w25 at BK492 BK493 HB HR494_1 HR494_2 HR494_3 HR495_1 HR495_2 HR495_3 hx494_0 hx494_1 hx494_2 hx494_3 hx495_0 hx495_1 hx495_2 hx495_3 hHeld ⊢;refine pureA HT_ (i:=0) (N:=some 27) #[true,false,false,false,false,false,false,false,false,false,false,false] ?_;refine pureA HT_ (i:=2) (N:=some 29) #[true,false,true,false,false,false,false,false,false,false,false,false] ?_;refine pureA HT_ (i:=5) (N:=some 32) #[true,false,true,false,false,true,false,false,false,false,false,false] ?_;refine pureA HT_ (i:=7) (N:=some 34) #[true,false,true,false,false,true,false,true,false,false,false,false] ?_;refine takeB_ (i:=1) (N:=some 28) (hi:=rfl) (hN:=rfl) (hc:=take_ofW HT_.out HW_.out (by kernel_rfl)) #[true,true,true,false,false,true,false,true,false,false,false,false] hHeld (by rintro w' ⟨s0,s1,s2,s3,s4,s5,s6,s7,s8,s9,s10,s11⟩;go_simp;with_reducible rfl) ?_;refine pureA HT_ (i:=3) (N:=some 30) #[true,true,true,true,false,true,false,true,false,false,false,false] ?_;refine takeB_ (i:=4) (N:=some 31) (hi:=rfl) (hN:=rfl) (hc:=take_ofW HT_.out HW_.out (by kernel_rfl)) #[true,true,true,true,true,true,false,true,false,false,false,false] hHeld (by rintro w' ⟨s0,s1,s2,s3,s4,s5,s6,s7,s8,s9,s10,s11⟩;go_simp;with_reducible rfl) ?_;refine takeB_ (i:=6) (N:=some 33) (hi:=rfl) (hN:=rfl) (hc:=take_ofW HT_.out HW_.out (by kernel_rfl)) #[true,true,true,true,true,true,true,true,false,false,false,false] hHeld (by rintro w' ⟨s0,s1,s2,s3,s4,s5,s6,s7,s8,s9,s10,s11⟩;go_simp;with_reducible rfl) ?_;refine pureA HT_ (i:=8) (N:=some 35) #[true,true,true,true,true,true,true,true,true,false,false,false] ?_;refine takeB_ (i:=9) (N:=some 36) (hi:=rfl) (hN:=rfl) (hc:=take_ofW HT_.out HW_.out (by kernel_rfl)) #[true,true,true,true,true,true,true,true,true,true,false,false] hHeld (by rintro w' ⟨s0,s1,s2,s3,s4,s5,s6,s7,s8,s9,s10,s11⟩;go_simp;with_reducible rfl) ?_;refine one_ (i:=10) (N:=some 37) #[true,true,true,true,true,true,true,true,true,true,true,false] rfl rfl (one_of HT_.out (by kernel_rfl)) (by decide) (fun K hK => ?_);refine goesN Tryd.func62 #[.agg #[.int .i64 ((rd_T53 l0_0 x5_2).f0),.slice A494_1 ((rd_T53 l0_0 x5_2).f1).length c494_1,.slice A494_2 ((rd_T53 l0_0 x5_2).f2).length c494_2,.slice A494_3 ((rd_T53 l0_0 x5_2).f3).length c494_3],.agg #[.int .i64 ((rd_T53 l1_0 x5_2).f0),.slice A495_1 ((rd_T53 l1_0 x5_2).f1).length c495_1,.slice A495_2 ((rd_T53 l1_0 x5_2).f2).length c495_2,.slice A495_3 ((rd_T53 l1_0 x5_2).f3).length c495_3]] ?_;with_reducible refine (r08_Same.calls k2 ((rd_T53 l0_0 x5_2).f0) _ _ ((rd_T53 l0_0 x5_2).f1) _ _ ((rd_T53 l0_0 x5_2).f2) _ _ ((rd_T53 l0_0 x5_2).f3) ((rd_T53 l1_0 x5_2).f0) _ _ ((rd_T53 l1_0 x5_2).f1) _ _ ((rd_T53 l1_0 x5_2).f2) _ _ ((rd_T53 l1_0 x5_2).f3) false _ ?side1 ?side2 ?side3 ?side4 ?side5 ?side6 ?side7 ?side8 ?side9 ?side10 ?side11 ?side12 A17.out).mono ?_
          (case side1 => exact Kd.C_below HR494_1.out (BB HB))
          (case side2 => exact HC494_1.out)
          (case side3 => exact Kd.C_below HR494_2.out (BB HB))
          (case side4 => exact HC494_2.out)
          (case side5 => exact Kd.C_below HR494_3.out (BB HB))
          (case side6 => exact HC494_3.out)
          (case side7 => exact Kd.C_below HR495_1.out (BB HB))
          (case side8 => exact HC495_1.out)
          (case side9 => exact Kd.C_below HR495_2.out (BB HB))
          (case side10 => exact HC495_2.out)
          (case side11 => exact Kd.C_below HR495_3.out (BB HB))
          (case side12 => exact HC495_3.out)
          rintro e w26 ⟨rfl,hb⟩;refine ⟨_,rfl,?_⟩;replace BK492:=BE BK492 hb;replace BK493:=BE BK493 hb;replace HB:=BS HB hb;(try clear hb)
          (try clear hb2)
          (try clear hk)
          (try clear hi)
          refine hK.out _ _ ⟨(blk_cell BK492.out 0).trans rfl,(blk_cell BK492.out 1).trans rfl,(blk_cell BK493.out 0).trans rfl,(blk_cell BK493.out 1).trans rfl,((HB.out.cell (World.block_lt_of_cell? w _ hw494_0)).trans hw494_0),((HB.out.cell (World.block_lt_of_cell? w _ hw494_1)).trans hw494_1),((HB.out.cell (World.block_lt_of_cell? w _ hw494_2)).trans hw494_2),((HB.out.cell (World.block_lt_of_cell? w _ hw494_3)).trans hw494_3),((HB.out.cell (World.block_lt_of_cell? w _ hw495_0)).trans hw495_0),((HB.out.cell (World.block_lt_of_cell? w _ hw495_1)).trans hw495_1),((HB.out.cell (World.block_lt_of_cell? w _ hw495_2)).trans hw495_2),((HB.out.cell (World.block_lt_of_cell? w _ hw495_3)).trans hw495_3)⟩ (fun hHeld => ?_);clear hK K;refine norm_ (a':=?_) ?_ ?_
          rotate_left
          ·show Act.put _ (some 37) _ = _
           simp only [Act.put,List.setIfInBounds_toArray,List.set_cons_zero,List.set_cons_succ,i64_w,i32_w];rfl
          refine pureA HT_ (i:=11) (N:=some 38) #[true,true,true,true,true,true,true,true,true,true,true,true] ?_;refine done_ (done_of HT_.out (by kernel_rfl)) ?_;try go_wp2
          go_ret;exact RT (BB HB)
        ·rw [if_neg c16] at H;exact absurd H (by simp)
       ·rw [if_neg c15] at H;exact absurd H (by simp)
      ·rw [if_neg c14] at H;have c14b0:decide (x5_2 < (l0_0.length:Int)) = false:=decide_eq_false c14;clear c14;obtain rfl:=Option.some.inj H;have hnb27:=NB492_493.out;have hnc27:=NB493_492.out;have hcz28_0:=BC BK492 0 (.slice A0_0 l0_0.length c0_0) rfl;have hcz28_1:=BC BK492 1 (.int .i64 a0_1) rfl;have hfz28_0:=BF BK492 0;have hfz28_1:=BF BK492 1;go_wp2
       go_ret;exact RT (BB HB)
end Go.Proofs.YtcphcaiiofeflaaDoor.GO
