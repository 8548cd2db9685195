
import Derived.Test.YtcphcaiiofeflaaDoorOvGOx0
import Derived.Test.YtcphcaiiofeflaaDoorOvGOx21
namespace Go.Proofs.YtcphcaiiofeflaaDoor.GO
open Go.RowKit Go.Proofs.YtcphcaiiofeflaaDoorW.PrintWords Go.Proofs.YtcphcaiiofeflaaDoorW.PrintLast Go.Proofs.YtcphcaiiofeflaaDoorW.PrintMore
attribute [local go_sem] max2_int min2_int max_two min_two max_three min_three max_four min_four
set_option maxHeartbeats 8000000
set_option maxRecDepth 100000
set_option linter.unusedVariables false
set_option linter.unusedSimpArgs false
mutual
def r12_Texts.l0:Nat→List ByteArray→Int→List (S53)→Int→Option (List ByteArray)
 | 0,_,_,_,_ => none
 | k+1,x3,x4,x381000,x381001 => if x4 < (x381000.length:Int) then (r12_Texts.l1 k x3 x4 0 x381000 x381001) else (some x3)
def r12_Texts.l1:Nat→List ByteArray→Int→Int→List (S53)→Int→Option (List ByteArray)
 | 0,_,_,_,_,_ => none
 | k+1,x3,x4,x5,x381000,x381001 => if 0≤x4 then (if x4 < (x381000.length:Int) then (if x5 < (((rd_T53 x381000 x4).f2).length:Int) then (if 0≤x5 then ((r06_Intern.f k x3 (rdOf ByteArray.empty ((rd_T53 x381000 x4).f2) x5)).bind fun bt387 => (r12_Texts.l1 k bt387.1 x4 (wrap64 (x5+1)) x381000 x381001)) else (none)) else (r12_Texts.l0 k x3 (wrap64 (x4+1)) x381000 x381001)) else (none)) else (none)
end
def r12_Texts.f (k:Nat) (l0_0:List (S53)) (a0_1:Int):Option (List ByteArray):=r12_Texts.l0 k (([]:List ByteArray)) 0 l0_0 a0_1
theorem r12_Texts.calls (k:Nat) (A0_0:Option Addr) (c0_0:Nat) (l0_0:List (S53)) (a0_1:Int) (r:List ByteArray) (w:World) (hr0_0:Kd.C k53 w A0_0 l0_0.length l0_0) (hc0_0:l0_0.length≤c0_0) (h:r12_Texts.f k l0_0 a0_1 = some r) :
  Calls Tryd.prog 50 #[.agg #[.slice A0_0 l0_0.length c0_0,.int .i64 a0_1]] w fun e w' => ∃ v0_:Value,e = .returned (v0_)∧Kd.R Kd.string 9 w' w.heap.size (fun _ => True) v0_ r∧Below w.heap.size w w':=by
 have hu24:=Tryd.underlying24;have HR0_0:=AM hr0_0;have HC0_0:=AM hc0_0;clear hr0_0 hc0_0;have HB:=AM (Below.refl w.heap.size w);have H:(r12_Texts.l0 k (([]:List ByteArray)) 0 l0_0 a0_1) = some r:=h;clear h;obtain ⟨y381,hy381⟩:∃ y_:List ByteArray,y_ = (([]:List ByteArray)):=⟨_,rfl⟩;replace H:(r12_Texts.l0 k y381 0 l0_0 a0_1) = some r:=QH hy381 H
 have Ny381:=AM hy381;clear hy381;have H':=AM H;clear H;go_enter Tryd.func50,Tryd.ntmps50;go_wp2_with (first | ((with_reducible refine gate_dst (N:=1) rfl ?_);refine boxE 1 #[.slice A0_0 l0_0.length c0_0,.int .i64 a0_1] 24 ?_;intro gb380 hg w2 hbox hb;have BK380:=AM (hbox);have GW380:=GW HB hg;have GE380:=GW HB hg;replace HB:=BS HB hb;clear hb hbox hg) | ((with_reducible refine gate_dst (N:=6) rfl ?_);refine Kd.R_lit Kd.string _ 9 ?hg (N:=6) ?hd (xs:=([]:List ByteArray)) (inner:=[]) (ok:=fun _ => True) (okp:=fun _ => True) ?hr ?hp (fun _ hk => hk) trivial (Below.refl _ _) (Nat.le_refl _) (by simp) ?_;(case hd => rfl);(case hg => rfl);(case hr => first | (go_simp;done) | (go_simp;rfl));(case hp => exact (Reps.none _ _));intro v382 w3 ho4 hb hg_ hnew_;clear hg_ hnew_;(first | rw [← Ny381.out] at ho4 | (simp only [Int.reduceToNat] at ho4;rw [← Ny381.out] at ho4));have HO383:=AM (Kd.R_lower ho4 (below_size (BB HB)));replace BK380:=BE BK380 hb;replace HB:=BS HB hb;clear hb ho4))
 go_loopg [3,4] k (fun kq v3 v4 w' => ∃ (x3_1:List ByteArray) (x4_1:Int),v4 = .int .i64 x4_1∧Aside0 (r12_Texts.l0 kq x3_1 x4_1 l0_0 a0_1 = some r)∧Aside0 (kq≤k)∧Aside0 (Kd.R Kd.string 9 w' w.heap.size (fun _ => True) v3 x3_1)∧Aside0 (w'.heap[gb380]? = some (.cells #[(.slice A0_0 l0_0.length c0_0),.int .i64 a0_1] 24 (0,0)))∧Aside0 (Below w.heap.size w w'))
 case atStart => exact ⟨(y381),(0),QD,H',⟨Nat.le_refl _⟩,⟨RA HO383.out⟩,⟨BL BK380⟩,⟨BB HB⟩⟩
 case round =>
  clear H';try clear p2
  obtain ⟨x3_1,x4_1,rfl,HA,HK1,HO_3,BK380,HB⟩:=hrel;cases gk with
  | zero => exact absurd HA.out (by simp [r12_Texts.l0])
  | succ k1 =>
   have H:=HA.out;clear HA;simp only [r12_Texts.l0] at H;by_cases c5:x4_1 < (l0_0.length:Int)
   ·rw [if_pos c5] at H;have c5b0:decide (x4_1 < (l0_0.length:Int)) = true:=decide_eq_true c5;clear c5;have H':=AM H;clear H;have hcz6_0:=BC BK380 0 (.slice A0_0 l0_0.length c0_0) rfl;have hcz6_1:=BC BK380 1 (.int .i64 a0_1) rfl;have hfz6_0:=BF BK380 0;have hfz6_1:=BF BK380 1;go_wp2
    go_loopg [3,5] k1 (fun kq v3 v5 w' => ∃ (x3_2:List ByteArray) (x5_2:Int),v5 = .int .i64 x5_2∧Aside0 (r12_Texts.l1 kq x3_2 x4_1 x5_2 l0_0 a0_1 = some r)∧Aside0 (kq≤k1)∧Aside0 (Kd.R Kd.string 9 w' w.heap.size (fun _ => True) v3 x3_2)∧Aside0 (w'.heap[gb380]? = some (.cells #[(.slice A0_0 l0_0.length c0_0),.int .i64 a0_1] 24 (0,0)))∧Aside0 (Below w.heap.size w w'))
    case atStart => exact ⟨(x3_1),(0),QD,H',⟨Nat.le_refl _⟩,⟨RA HO_3.out⟩,⟨BL BK380⟩,⟨BB HB⟩⟩
    case round =>
     clear H';try clear p2
     try clear c5
     try clear c5b0
     try clear hcz6_0
     try clear hcz6_1
     try clear hfz6_0
     try clear hfz6_1
     try clear p2
     obtain ⟨x3_2,x5_2,rfl,HA,HK2,HO_3,BK380,HB⟩:=hrel;cases gk with
     | zero => exact absurd HA.out (by simp [r12_Texts.l1])
     | succ k2 =>
      have H:=HA.out;clear HA;simp only [r12_Texts.l1] at H;by_cases c7:0≤x4_1
      ·rw [if_pos c7] at H;have c7b0:decide (0≤x4_1) = true:=decide_eq_true c7;clear c7;by_cases c8:x4_1 < (l0_0.length:Int)
       ·rw [if_pos c8] at H;have c8b0:decide (x4_1 < (l0_0.length:Int)) = true:=decide_eq_true c8;clear c8;by_cases c9:x5_2 < (((rd_T53 l0_0 x4_1).f2).length:Int)
        ·rw [if_pos c9] at H;have c9b0:decide (x5_2 < (((rd_T53 l0_0 x4_1).f2).length:Int)) = true:=decide_eq_true c9;clear c9;by_cases c10:0≤x5_2
         ·rw [if_pos c10] at H;have c10b0:decide (0≤x5_2) = true:=decide_eq_true c10;clear c10;replace H:=Option.bind_eq_some_iff.mp H;obtain ⟨⟨t387,t390⟩,A110,H⟩:=H;replace H:(r12_Texts.l1 k2 t387 x4_1 (wrap64 (x5_2+1)) l0_0 a0_1) = some r:=H;have A11:=AM A110;clear A110;have H':=AM H;clear H;have hcz12_0:=BC BK380 0 (.slice A0_0 l0_0.length c0_0) rfl;have hcz12_1:=BC BK380 1 (.int .i64 a0_1) rfl;have hfz12_0:=BF BK380 0;have hfz12_1:=BF BK380 1;have p384:0≤(x4_1:Int):=OD;have q384:x4_1 < (l0_0.length:Int):=OD;obtain ⟨ad384,A384_1,c384_1,A384_2,c384_2,A384_3,c384_3,e384,hx384_0,hx384_1,hx384_2,hx384_3,hl384_1,hi384_1,hl384_2,hi384_2,hl384_3,hi384_3⟩:=at_T53 HR0_0.out x4_1 p384 q384;cases e384
          replace hx384_0:=CL HB hx384_0;replace hx384_1:=CL HB hx384_1;replace hx384_2:=CL HB hx384_2;replace hx384_3:=CL HB hx384_3;have HR384_1:=AM hi384_1;have HC384_1:=AM hl384_1;clear hi384_1 hl384_1;have HR384_2:=AM hi384_2;have HC384_2:=AM hl384_2;clear hi384_2 hl384_2;have HR384_3:=AM hi384_3;have HC384_3:=AM hl384_3;clear hi384_3 hl384_3;replace p384:=eq_true p384;replace q384:=eq_true q384;have p385:0≤(x4_1:Int):=OD;have q385:x4_1 < (l0_0.length:Int):=OD;obtain ⟨ad385,A385_1,c385_1,A385_2,c385_2,A385_3,c385_3,e385,hx385_0,hx385_1,hx385_2,hx385_3,hl385_1,hi385_1,hl385_2,hi385_2,hl385_3,hi385_3⟩:=at_T53 HR0_0.out x4_1 p385 q385;obtain rfl:ad384 = ad385:=(by injection e385);replace hx385_0:=CL HB hx385_0;replace hx385_1:=CL HB hx385_1;replace hx385_2:=CL HB hx385_2;replace hx385_3:=CL HB hx385_3;have HR385_1:=AM hi385_1;have HC385_1:=AM hl385_1;clear hi385_1 hl385_1;have HR385_2:=AM hi385_2;have HC385_2:=AM hl385_2;clear hi385_2 hl385_2;have HR385_3:=AM hi385_3;have HC385_3:=AM hl385_3;clear hi385_3 hl385_3;replace p385:=eq_true p385;replace q385:=eq_true q385;have ea_:=Option.some.inj (hx384_1.symm.trans hx385_1);injection ea_ with ea_ en_ ec_
          subst ea_;subst ec_;clear en_;have ea_:=Option.some.inj (hx384_2.symm.trans hx385_2);injection ea_ with ea_ en_ ec_
          subst ea_;subst ec_;clear en_;have ea_:=Option.some.inj (hx384_3.symm.trans hx385_3);injection ea_ with ea_ en_ ec_
          subst ea_;subst ec_;clear en_;have p386:0≤(x5_2:Int):=OD;have q386:x5_2 < (((rd_T53 l0_0 x4_1).f2).length:Int):=OD;obtain ⟨ad386,e386,hx386_0⟩:=Kd.at_string HR385_2.out x5_2 p386 q386;cases e386
          replace hx386_0:=CL HB hx386_0;replace p386:=eq_true p386;replace q386:=eq_true q386;obtain ⟨Ao13,co13,eo13⟩:=Kd.R_slice HO_3.out;subst eo13;go_wp2_with (first | ((with_reducible refine gate_callee (f:=78) rfl ?_);refine goesM_ (some 36) rfl rfl Tryd.func78 #[.slice Ao13 x3_2.length co13,.string (rdOf ByteArray.empty ((rd_T53 l0_0 x4_1).f2) x5_2)] rfl ?_;(with_reducible refine (r06_Intern.calls k2 (fun k_ => some k_ = (.slice Ao13 x3_2.length co13:Value).ownBlock) (.slice Ao13 x3_2.length co13) x3_2 (rdOf ByteArray.empty ((rd_T53 l0_0 x4_1).f2) x5_2) t387 t390 w _ ?side1 ?side2 A11.out).mono ?_);(case side1 => repeat (first | (with_reducible first | exact HB.out | apply below_alloc | apply pw_below_drewN | apply below_drew1 | refine below_set ?_ GE380.out) | exact HB.out));(case side2 => exact Kd.R_tight rfl HO_3.out);rintro e w14 ⟨v388,rfl,ho0,hb,hkp⟩;refine ⟨_,rfl,?_⟩;replace BK380:=AM (blk_kept (BL BK380) hkp (fun hs_ => (fun e_ => (Kd.R_ne HO_3.out BK380.out (by decide)) e_) hs_));have HO389:=AM (Kd.R_mono (ok':=fun k_ => True) ho0 (fun k_ hk_ => trivial));replace HB:=AM (hb);clear HO_3;(try clear hb);(try clear hkp);(try clear ho0)))
          go_roundg k2
          case measure => have:=HK1.out;have:=HK2.out;omega
          case rel => exact ⟨(t387),(wrap64 (x5_2+1)),QD,H',⟨by have:=HK1.out;have:=HK2.out;omega⟩,⟨RA HO389.out⟩,⟨BL BK380⟩,⟨BB HB⟩⟩
         ·rw [if_neg c10] at H;exact absurd H (by simp)
        ·rw [if_neg c9] at H;have c9b0:decide (x5_2 < (((rd_T53 l0_0 x4_1).f2).length:Int)) = false:=decide_eq_false c9;clear c9;have H':=AM H;clear H;have hcz15_0:=BC BK380 0 (.slice A0_0 l0_0.length c0_0) rfl;have hcz15_1:=BC BK380 1 (.int .i64 a0_1) rfl;have hfz15_0:=BF BK380 0;have hfz15_1:=BF BK380 1;have p384:0≤(x4_1:Int):=OD;have q384:x4_1 < (l0_0.length:Int):=OD;obtain ⟨ad384,A384_1,c384_1,A384_2,c384_2,A384_3,c384_3,e384,hx384_0,hx384_1,hx384_2,hx384_3,hl384_1,hi384_1,hl384_2,hi384_2,hl384_3,hi384_3⟩:=at_T53 HR0_0.out x4_1 p384 q384;cases e384
         replace hx384_0:=CL HB hx384_0;replace hx384_1:=CL HB hx384_1;replace hx384_2:=CL HB hx384_2;replace hx384_3:=CL HB hx384_3;have HR384_1:=AM hi384_1;have HC384_1:=AM hl384_1;clear hi384_1 hl384_1;have HR384_2:=AM hi384_2;have HC384_2:=AM hl384_2;clear hi384_2 hl384_2;have HR384_3:=AM hi384_3;have HC384_3:=AM hl384_3;clear hi384_3 hl384_3;replace p384:=eq_true p384;replace q384:=eq_true q384;go_wp2
         go_roundg k2
         case measure => have:=HK1.out;have:=HK2.out;omega
         case rel => exact ⟨(x3_2),(wrap64 (x4_1+1)),QD,H',⟨by have:=HK1.out;have:=HK2.out;omega⟩,⟨RA HO_3.out⟩,⟨BL BK380⟩,⟨BB HB⟩⟩
       ·rw [if_neg c8] at H;exact absurd H (by simp)
      ·rw [if_neg c7] at H;exact absurd H (by simp)
   ·rw [if_neg c5] at H;have c5b0:decide (x4_1 < (l0_0.length:Int)) = false:=decide_eq_false c5;clear c5;obtain rfl:=Option.some.inj H;have hcz16_0:=BC BK380 0 (.slice A0_0 l0_0.length c0_0) rfl;have hcz16_1:=BC BK380 1 (.int .i64 a0_1) rfl;have hfz16_0:=BF BK380 0;have hfz16_1:=BF BK380 1;go_wp2
    go_ret;exact ⟨_,by first | rfl | (simp [errW_none,errW_some] <;> rfl) | (simp [*,errW_none,errW_some] <;> rfl),RA HO_3.out,BB HB⟩
mutual
def r09_Depths.l0:Nat→List Int→Int→List (S53)→Int→Option (List Int)
 | 0,_,_,_,_ => none
 | k+1,x3,x4,x392000,x392001 => if x4≤(x392000.length:Int) then (r09_Depths.l1 k x3 x4 0 x392000 x392001) else (some x3)
def r09_Depths.l1:Nat→List Int→Int→Int→List (S53)→Int→Option (List Int)
 | 0,_,_,_,_,_ => none
 | k+1,x3,x4,x5,x392000,x392001 => if x5 < (x392000.length:Int) then (r09_Depths.l2 k x3 x4 x5 0 0 x392000 x392001) else (r09_Depths.l0 k x3 (wrap64 (x4+1)) x392000 x392001)
def r09_Depths.l2:Nat→List Int→Int→Int→Int→Int→List (S53)→Int→Option (List Int)
 | 0,_,_,_,_,_,_,_ => none
 | k+1,x3,x4,x5,x6,x7,x392000,x392001 => if 0≤x5 then (if x5 < (x392000.length:Int) then (if x7 < (((rd_T53 x392000 x5).f3).length:Int) then (if 0≤x7 then (if 0≤(rd ((rd_T53 x392000 x5).f3) x7) then (if (rd ((rd_T53 x392000 x5).f3) x7) < (x3.length:Int) then (if (rd x3 (rd ((rd_T53 x392000 x5).f3) x7)) > x6 then (r09_Depths.l2 k x3 x4 x5 (rd x3 (rd ((rd_T53 x392000 x5).f3) x7)) (wrap64 (x7+1)) x392000 x392001) else (r09_Depths.l2 k x3 x4 x5 x6 (wrap64 (x7+1)) x392000 x392001)) else (none)) else (none)) else (none)) else (if x5 < (x3.length:Int) then (if (wrap64 (x6+1)) > (rd x3 x5) then (r09_Depths.l1 k (x3.set (x5:Int).toNat (wrap64 (x6+1))) x4 (wrap64 (x5+1)) x392000 x392001) else (r09_Depths.l1 k x3 x4 (wrap64 (x5+1)) x392000 x392001)) else (none))) else (none)) else (none)
end
def r09_Depths.f (k:Nat) (l0_0:List (S53)) (a0_1:Int):Option (List Int):=if 0≤(l0_0.length:Int) then (if ((l0_0.length:Int):Int).toNat≤35184372088832 then (r09_Depths.l0 k (List.replicate ((l0_0.length:Int):Int).toNat 0) 0 l0_0 a0_1) else (none)) else (none)
theorem r09_Depths.calls (k:Nat) (A0_0:Option Addr) (c0_0:Nat) (l0_0:List (S53)) (a0_1:Int) (r:List Int) (w:World) (hr0_0:Kd.C k53 w A0_0 l0_0.length l0_0) (hc0_0:l0_0.length≤c0_0) (h:r09_Depths.f k l0_0 a0_1 = some r) :
  Calls Tryd.prog 51 #[.agg #[.slice A0_0 l0_0.length c0_0,.int .i64 a0_1]] w fun e w' => ∃ v0_:Value,e = .returned (v0_)∧Kd.R (Kd.int .i64) 3 w' w.heap.size (fun _ => True) v0_ r∧Below w.heap.size w w':=by
 have hu24:=Tryd.underlying24;have HR0_0:=AM hr0_0;have HC0_0:=AM hc0_0;clear hr0_0 hc0_0;have HB:=AM (Below.refl w.heap.size w);have H:(if 0≤(l0_0.length:Int) then (if ((l0_0.length:Int):Int).toNat≤35184372088832 then (r09_Depths.l0 k (List.replicate ((l0_0.length:Int):Int).toNat 0) 0 l0_0 a0_1) else (none)) else (none)) = some r:=h;clear h;by_cases c2:0≤(l0_0.length:Int)
 ·rw [if_pos c2] at H;have c2b0:=eq_true c2;have c2b1:decide (0≤(l0_0.length:Int)) = true:=decide_eq_true c2;clear c2;by_cases c3:((l0_0.length:Int):Int).toNat≤35184372088832
  ·rw [if_pos c3] at H;have c3b0:=eq_true c3;have c3b1:decide (((l0_0.length:Int):Int).toNat≤35184372088832) = true:=decide_eq_true c3;clear c3;obtain ⟨y392,hy392⟩:∃ y_:List Int,y_ = (List.replicate ((l0_0.length:Int):Int).toNat 0):=⟨_,rfl⟩;replace H:(r09_Depths.l0 k y392 0 l0_0 a0_1) = some r:=QH hy392 H
   have Ny392:=AM hy392;clear hy392;have H':=AM H;clear H;go_enter Tryd.func51,Tryd.ntmps51;go_wp2_with (first | ((with_reducible refine gate_dst (N:=1) rfl ?_);refine boxE 1 #[.slice A0_0 l0_0.length c0_0,.int .i64 a0_1] 24 ?_;intro gb391 hg w4 hbox hb;have BK391:=AM (hbox);have GW391:=GW HB hg;have GE391:=GW HB hg;replace HB:=BS HB hb;clear hb hbox hg;have hcz5_0:=BC BK391 0 (.slice A0_0 l0_0.length c0_0) rfl;have hcz5_1:=BC BK391 1 (.int .i64 a0_1) rfl;have hfz5_0:=BF BK391 0;have hfz5_1:=BF BK391 1) | ((with_reducible refine gate_dst (N:=11) rfl ?_);refine Kd.R_make (Kd.int .i64) _ 3 rfl (N:=11) rfl 51 _ _ rfl (l0_0.length:Int) rfl rfl Tryd.underlying51 (.int .i64 0) 8 info3 rfl (by decide) (by omega) 0 (ok:=fun _ => True) (okp:=fun _ => True) rfl (fun _ hk => hk) trivial (OD) (Nat.le_trans (Nat.mul_le_mul_right _ (OD:(l0_0.length:Int).toNat≤35184372088832)) (by omega)) (Below.refl _ _) (Nat.le_refl _) ?_;intro v393 w6 ho7 hb hg_ hnew_;clear hg_ hnew_;(first | rw [← Ny392.out] at ho7 | (simp only [Int.reduceToNat] at ho7;rw [← Ny392.out] at ho7));have HO394:=AM (Kd.R_lower ho7 (below_size (BB HB)));replace BK391:=BE BK391 hb;replace HB:=BS HB hb;clear hb ho7))
   go_loopg [4] k (fun kq v4 w' => ∃ (x3_1:List Int) (x4_1:Int),v4 = .int .i64 x4_1∧Aside0 (r09_Depths.l0 kq x3_1 x4_1 l0_0 a0_1 = some r)∧Aside0 (kq≤k)∧Aside0 (Kd.R (Kd.int .i64) 3 w' w.heap.size (fun _ => True) v393 x3_1)∧Aside0 (w'.heap[gb391]? = some (.cells #[(.slice A0_0 l0_0.length c0_0),.int .i64 a0_1] 24 (0,0)))∧Aside0 (Below w.heap.size w w'))
   case atStart => exact ⟨(y392),(0),QD,H',⟨Nat.le_refl _⟩,⟨RA HO394.out⟩,⟨BL BK391⟩,⟨BB HB⟩⟩
   case round =>
    clear H';try clear c2
    try clear c2b0
    try clear c2b1
    try clear p2
    try clear c3
    try clear c3b0
    try clear c3b1
    try clear c5
    try clear hcz5_0
    try clear hcz5_1
    try clear hfz5_0
    try clear hfz5_1
    obtain ⟨x3_1,x4_1,rfl,HA,HK1,HO_3,BK391,HB⟩:=hrel;cases gk with
    | zero => exact absurd HA.out (by simp [r09_Depths.l0])
    | succ k1 =>
     have H:=HA.out;clear HA;simp only [r09_Depths.l0] at H;by_cases c8:x4_1≤(l0_0.length:Int)
     ·rw [if_pos c8] at H;have c8b0:decide (x4_1≤(l0_0.length:Int)) = true:=decide_eq_true c8;clear c8;have H':=AM H;clear H;have hcz9_0:=BC BK391 0 (.slice A0_0 l0_0.length c0_0) rfl;have hcz9_1:=BC BK391 1 (.int .i64 a0_1) rfl;have hfz9_0:=BF BK391 0;have hfz9_1:=BF BK391 1;go_wp2
      go_loopg [5] k1 (fun kq v5 w' => ∃ (x3_2:List Int) (x5_2:Int),v5 = .int .i64 x5_2∧Aside0 (r09_Depths.l1 kq x3_2 x4_1 x5_2 l0_0 a0_1 = some r)∧Aside0 (kq≤k1)∧Aside0 (Kd.R (Kd.int .i64) 3 w' w.heap.size (fun _ => True) v393 x3_2)∧Aside0 (w'.heap[gb391]? = some (.cells #[(.slice A0_0 l0_0.length c0_0),.int .i64 a0_1] 24 (0,0)))∧Aside0 (Below w.heap.size w w'))
      case atStart => exact ⟨(x3_1),(0),QD,H',⟨Nat.le_refl _⟩,⟨RA HO_3.out⟩,⟨BL BK391⟩,⟨BB HB⟩⟩
      case round =>
       clear H';try clear c2
       try clear c2b0
       try clear c2b1
       try clear p2
       try clear c3
       try clear c3b0
       try clear c3b1
       try clear c5
       try clear c8
       try clear c8b0
       try clear hcz5_0
       try clear hcz5_1
       try clear hcz9_0
       try clear hcz9_1
       try clear hfz5_0
       try clear hfz5_1
       try clear hfz9_0
       try clear hfz9_1
       try clear p2
       obtain ⟨x3_2,x5_2,rfl,HA,HK2,HO_3,BK391,HB⟩:=hrel;cases gk with
       | zero => exact absurd HA.out (by simp [r09_Depths.l1])
       | succ k2 =>
        have H:=HA.out;clear HA;simp only [r09_Depths.l1] at H;by_cases c10:x5_2 < (l0_0.length:Int)
        ·rw [if_pos c10] at H;have c10b0:decide (x5_2 < (l0_0.length:Int)) = true:=decide_eq_true c10;clear c10;have H':=AM H;clear H;have hcz11_0:=BC BK391 0 (.slice A0_0 l0_0.length c0_0) rfl;have hcz11_1:=BC BK391 1 (.int .i64 a0_1) rfl;have hfz11_0:=BF BK391 0;have hfz11_1:=BF BK391 1;go_wp2
         go_loopg [6,7] k2 (fun kq v6 v7 w' => ∃ (x6_3:Int) (x7_3:Int),v6 = .int .i64 x6_3∧v7 = .int .i64 x7_3∧Aside0 (r09_Depths.l2 kq x3_2 x4_1 x5_2 x6_3 x7_3 l0_0 a0_1 = some r)∧Aside0 (kq≤k2)∧Aside0 (Kd.R (Kd.int .i64) 3 w' w.heap.size (fun _ => True) v393 x3_2)∧Aside0 (w'.heap[gb391]? = some (.cells #[(.slice A0_0 l0_0.length c0_0),.int .i64 a0_1] 24 (0,0)))∧Aside0 (Below w.heap.size w w'))
         case atStart => exact ⟨(0),(0),QD,QD,H',⟨Nat.le_refl _⟩,⟨RA HO_3.out⟩,⟨BL BK391⟩,⟨BB HB⟩⟩
         case round =>
          clear H';try clear c1
          try clear c2
          try clear c2b0
          try clear c2b1
          try clear p2
          try clear c3
          try clear c3b0
          try clear c3b1
          try clear c5
          try clear c8
          try clear c8b0
          try clear c10
          try clear c10b0
          try clear hcz11_0
          try clear hcz11_1
          try clear hcz5_0
          try clear hcz5_1
          try clear hcz9_0
          try clear hcz9_1
          try clear hfz11_0
          try clear hfz11_1
          try clear hfz5_0
          try clear hfz5_1
          try clear hfz9_0
          try clear hfz9_1
          try clear p2
          obtain ⟨x6_3,x7_3,rfl,rfl,HA,HK3,HO_3,BK391,HB⟩:=hrel;cases gk with
          | zero => exact absurd HA.out (by simp [r09_Depths.l2])
          | succ k3 =>
           have H:=HA.out;clear HA;simp only [r09_Depths.l2] at H;by_cases c12:0≤x5_2
           ·rw [if_pos c12] at H;have c12b0:decide (0≤x5_2) = true:=decide_eq_true c12;clear c12;by_cases c13:x5_2 < (l0_0.length:Int)
            ·rw [if_pos c13] at H;have c13b0:decide (x5_2 < (l0_0.length:Int)) = true:=decide_eq_true c13;clear c13;by_cases c14:x7_3 < (((rd_T53 l0_0 x5_2).f3).length:Int)
             ·rw [if_pos c14] at H;have c14b0:decide (x7_3 < (((rd_T53 l0_0 x5_2).f3).length:Int)) = true:=decide_eq_true c14;clear c14;by_cases c15:0≤x7_3
              ·rw [if_pos c15] at H;have c15b0:decide (0≤x7_3) = true:=decide_eq_true c15;clear c15;by_cases c16:0≤(rd ((rd_T53 l0_0 x5_2).f3) x7_3)
               ·rw [if_pos c16] at H;have c16b0:decide (0≤(rd ((rd_T53 l0_0 x5_2).f3) x7_3)) = true:=decide_eq_true c16;clear c16;by_cases c17:(rd ((rd_T53 l0_0 x5_2).f3) x7_3) < (x3_2.length:Int)
                ·rw [if_pos c17] at H;have c17b0:decide ((rd ((rd_T53 l0_0 x5_2).f3) x7_3) < (x3_2.length:Int)) = true:=decide_eq_true c17;clear c17;by_cases c18:(rd x3_2 (rd ((rd_T53 l0_0 x5_2).f3) x7_3)) > x6_3
                 ·rw [if_pos c18] at H;have c18b0:decide (x6_3 < (rd x3_2 (rd ((rd_T53 l0_0 x5_2).f3) x7_3))) = true:=decide_eq_true c18;clear c18;have H':=AM H;clear H;have hcz19_0:=BC BK391 0 (.slice A0_0 l0_0.length c0_0) rfl;have hcz19_1:=BC BK391 1 (.int .i64 a0_1) rfl;have hfz19_0:=BF BK391 0;have hfz19_1:=BF BK391 1;have p395:0≤(x5_2:Int):=OD;have q395:x5_2 < (l0_0.length:Int):=OD;obtain ⟨ad395,A395_1,c395_1,A395_2,c395_2,A395_3,c395_3,e395,hx395_0,hx395_1,hx395_2,hx395_3,hl395_1,hi395_1,hl395_2,hi395_2,hl395_3,hi395_3⟩:=at_T53 HR0_0.out x5_2 p395 q395;cases e395
                  replace hx395_0:=CL HB hx395_0;replace hx395_1:=CL HB hx395_1;replace hx395_2:=CL HB hx395_2;replace hx395_3:=CL HB hx395_3;have HR395_1:=AM hi395_1;have HC395_1:=AM hl395_1;clear hi395_1 hl395_1;have HR395_2:=AM hi395_2;have HC395_2:=AM hl395_2;clear hi395_2 hl395_2;have HR395_3:=AM hi395_3;have HC395_3:=AM hl395_3;clear hi395_3 hl395_3;replace p395:=eq_true p395;replace q395:=eq_true q395;have p396:0≤(x5_2:Int):=OD;have q396:x5_2 < (l0_0.length:Int):=OD;obtain ⟨ad396,A396_1,c396_1,A396_2,c396_2,A396_3,c396_3,e396,hx396_0,hx396_1,hx396_2,hx396_3,hl396_1,hi396_1,hl396_2,hi396_2,hl396_3,hi396_3⟩:=at_T53 HR0_0.out x5_2 p396 q396;obtain rfl:ad395 = ad396:=(by injection e396);replace hx396_0:=CL HB hx396_0;replace hx396_1:=CL HB hx396_1;replace hx396_2:=CL HB hx396_2;replace hx396_3:=CL HB hx396_3;have HR396_1:=AM hi396_1;have HC396_1:=AM hl396_1;clear hi396_1 hl396_1;have HR396_2:=AM hi396_2;have HC396_2:=AM hl396_2;clear hi396_2 hl396_2;have HR396_3:=AM hi396_3;have HC396_3:=AM hl396_3;clear hi396_3 hl396_3;replace p396:=eq_true p396;replace q396:=eq_true q396;have ea_:=Option.some.inj (hx395_1.symm.trans hx396_1);injection ea_ with ea_ en_ ec_
                  subst ea_;subst ec_;clear en_;have ea_:=Option.some.inj (hx395_2.symm.trans hx396_2);injection ea_ with ea_ en_ ec_
                  subst ea_;subst ec_;clear en_;have ea_:=Option.some.inj (hx395_3.symm.trans hx396_3);injection ea_ with ea_ en_ ec_
                  subst ea_;subst ec_;clear en_;have p397:0≤(x7_3:Int):=OD;have q397:x7_3 < (((rd_T53 l0_0 x5_2).f3).length:Int):=OD;obtain ⟨ad397,e397,hx397_0⟩:=Kd.at_int HR396_3.out x7_3 p397 q397;cases e397
                  replace hx397_0:=CL HB hx397_0;replace p397:=eq_true p397;replace q397:=eq_true q397;obtain ⟨Ao20,co20,eo20⟩:=Kd.R_slice HO_3.out;subst eo20;have p398:0≤((rd ((rd_T53 l0_0 x5_2).f3) x7_3):Int):=OD;have q398:(rd ((rd_T53 l0_0 x5_2).f3) x7_3) < (x3_2.length:Int):=OD;obtain ⟨ad398,e398,hx398_0⟩:=Kd.at_int (Kd.R_reads' HO_3.out).2.2 (rd ((rd_T53 l0_0 x5_2).f3) x7_3) p398 q398;cases e398
                  replace p398:=eq_true p398;replace q398:=eq_true q398;have p399:0≤(x5_2:Int):=OD;have q399:x5_2 < (l0_0.length:Int):=OD;obtain ⟨ad399,A399_1,c399_1,A399_2,c399_2,A399_3,c399_3,e399,hx399_0,hx399_1,hx399_2,hx399_3,hl399_1,hi399_1,hl399_2,hi399_2,hl399_3,hi399_3⟩:=at_T53 HR0_0.out x5_2 p399 q399;obtain rfl:ad395 = ad399:=(by injection e399);replace hx399_0:=CL HB hx399_0;replace hx399_1:=CL HB hx399_1;replace hx399_2:=CL HB hx399_2;replace hx399_3:=CL HB hx399_3;have HR399_1:=AM hi399_1;have HC399_1:=AM hl399_1;clear hi399_1 hl399_1;have HR399_2:=AM hi399_2;have HC399_2:=AM hl399_2;clear hi399_2 hl399_2;have HR399_3:=AM hi399_3;have HC399_3:=AM hl399_3;clear hi399_3 hl399_3;replace p399:=eq_true p399;replace q399:=eq_true q399;have ea_:=Option.some.inj (hx395_1.symm.trans hx399_1);injection ea_ with ea_ en_ ec_
                  subst ea_;subst ec_;clear en_;have ea_:=Option.some.inj (hx395_2.symm.trans hx399_2);injection ea_ with ea_ en_ ec_
                  subst ea_;subst ec_;clear en_;have ea_:=Option.some.inj (hx395_3.symm.trans hx399_3);injection ea_ with ea_ en_ ec_
                  subst ea_;subst ec_;clear en_;have p400:0≤(x7_3:Int):=OD;have q400:x7_3 < (((rd_T53 l0_0 x5_2).f3).length:Int):=OD;obtain ⟨ad400,e400,hx400_0⟩:=Kd.at_int HR399_3.out x7_3 p400 q400;cases e400
                  replace hx400_0:=CL HB hx400_0;replace p400:=eq_true p400;replace q400:=eq_true q400;have p401:0≤((rd ((rd_T53 l0_0 x5_2).f3) x7_3):Int):=OD;have q401:(rd ((rd_T53 l0_0 x5_2).f3) x7_3) < (x3_2.length:Int):=OD;obtain ⟨ad401,e401,hx401_0⟩:=Kd.at_int (Kd.R_reads' HO_3.out).2.2 (rd ((rd_T53 l0_0 x5_2).f3) x7_3) p401 q401;obtain rfl:ad398 = ad401:=(by injection e401);replace p401:=eq_true p401;replace q401:=eq_true q401;go_wp2
                  go_roundg k3
                  case measure => have:=HK1.out;have:=HK2.out;have:=HK3.out;omega
                  case rel => exact ⟨(rd x3_2 (rd ((rd_T53 l0_0 x5_2).f3) x7_3)),(wrap64 (x7_3+1)),QD,QD,H',⟨by have:=HK1.out;have:=HK2.out;have:=HK3.out;omega⟩,⟨RA HO_3.out⟩,⟨BL BK391⟩,⟨BB HB⟩⟩
                 ·rw [if_neg c18] at H;have c18b0:decide (x6_3 < (rd x3_2 (rd ((rd_T53 l0_0 x5_2).f3) x7_3))) = false:=decide_eq_false c18;clear c18;have H':=AM H;clear H;have hcz21_0:=BC BK391 0 (.slice A0_0 l0_0.length c0_0) rfl;have hcz21_1:=BC BK391 1 (.int .i64 a0_1) rfl;have hfz21_0:=BF BK391 0;have hfz21_1:=BF BK391 1;have p395:0≤(x5_2:Int):=OD;have q395:x5_2 < (l0_0.length:Int):=OD;obtain ⟨ad395,A395_1,c395_1,A395_2,c395_2,A395_3,c395_3,e395,hx395_0,hx395_1,hx395_2,hx395_3,hl395_1,hi395_1,hl395_2,hi395_2,hl395_3,hi395_3⟩:=at_T53 HR0_0.out x5_2 p395 q395;cases e395
                  replace hx395_0:=CL HB hx395_0;replace hx395_1:=CL HB hx395_1;replace hx395_2:=CL HB hx395_2;replace hx395_3:=CL HB hx395_3;have HR395_1:=AM hi395_1;have HC395_1:=AM hl395_1;clear hi395_1 hl395_1;have HR395_2:=AM hi395_2;have HC395_2:=AM hl395_2;clear hi395_2 hl395_2;have HR395_3:=AM hi395_3;have HC395_3:=AM hl395_3;clear hi395_3 hl395_3;replace p395:=eq_true p395;replace q395:=eq_true q395;have p396:0≤(x5_2:Int):=OD;have q396:x5_2 < (l0_0.length:Int):=OD;obtain ⟨ad396,A396_1,c396_1,A396_2,c396_2,A396_3,c396_3,e396,hx396_0,hx396_1,hx396_2,hx396_3,hl396_1,hi396_1,hl396_2,hi396_2,hl396_3,hi396_3⟩:=at_T53 HR0_0.out x5_2 p396 q396;obtain rfl:ad395 = ad396:=(by injection e396);replace hx396_0:=CL HB hx396_0;replace hx396_1:=CL HB hx396_1;replace hx396_2:=CL HB hx396_2;replace hx396_3:=CL HB hx396_3;have HR396_1:=AM hi396_1;have HC396_1:=AM hl396_1;clear hi396_1 hl396_1;have HR396_2:=AM hi396_2;have HC396_2:=AM hl396_2;clear hi396_2 hl396_2;have HR396_3:=AM hi396_3;have HC396_3:=AM hl396_3;clear hi396_3 hl396_3;replace p396:=eq_true p396;replace q396:=eq_true q396;have ea_:=Option.some.inj (hx395_1.symm.trans hx396_1);injection ea_ with ea_ en_ ec_
                  subst ea_;subst ec_;clear en_;have ea_:=Option.some.inj (hx395_2.symm.trans hx396_2);injection ea_ with ea_ en_ ec_
                  subst ea_;subst ec_;clear en_;have ea_:=Option.some.inj (hx395_3.symm.trans hx396_3);injection ea_ with ea_ en_ ec_
                  subst ea_;subst ec_;clear en_;have p397:0≤(x7_3:Int):=OD;have q397:x7_3 < (((rd_T53 l0_0 x5_2).f3).length:Int):=OD;obtain ⟨ad397,e397,hx397_0⟩:=Kd.at_int HR396_3.out x7_3 p397 q397;cases e397
                  replace hx397_0:=CL HB hx397_0;replace p397:=eq_true p397;replace q397:=eq_true q397;obtain ⟨Ao22,co22,eo22⟩:=Kd.R_slice HO_3.out;subst eo22;have p398:0≤((rd ((rd_T53 l0_0 x5_2).f3) x7_3):Int):=OD;have q398:(rd ((rd_T53 l0_0 x5_2).f3) x7_3) < (x3_2.length:Int):=OD;obtain ⟨ad398,e398,hx398_0⟩:=Kd.at_int (Kd.R_reads' HO_3.out).2.2 (rd ((rd_T53 l0_0 x5_2).f3) x7_3) p398 q398;cases e398
                  replace p398:=eq_true p398;replace q398:=eq_true q398;go_wp2
                  go_roundg k3
                  case measure => have:=HK1.out;have:=HK2.out;have:=HK3.out;omega
                  case rel => exact ⟨(x6_3),(wrap64 (x7_3+1)),QD,QD,H',⟨by have:=HK1.out;have:=HK2.out;have:=HK3.out;omega⟩,⟨RA HO_3.out⟩,⟨BL BK391⟩,⟨BB HB⟩⟩
                ·rw [if_neg c17] at H;exact absurd H (by simp)
               ·rw [if_neg c16] at H;exact absurd H (by simp)
              ·rw [if_neg c15] at H;exact absurd H (by simp)
             ·rw [if_neg c14] at H;have c14b0:decide (x7_3 < (((rd_T53 l0_0 x5_2).f3).length:Int)) = false:=decide_eq_false c14;clear c14;by_cases c23:x5_2 < (x3_2.length:Int)
              ·rw [if_pos c23] at H;have c23b0:decide (x5_2 < (x3_2.length:Int)) = true:=decide_eq_true c23;clear c23;by_cases c24:(wrap64 (x6_3+1)) > (rd x3_2 x5_2)
               ·rw [if_pos c24] at H;have c24b0:decide ((rd x3_2 x5_2) < (wrap64 (x6_3+1))) = true:=decide_eq_true c24;clear c24;obtain ⟨y403,hy403⟩:∃ y_:List Int,y_ = (x3_2.set (x5_2:Int).toNat (wrap64 (x6_3+1))):=⟨_,rfl⟩;replace H:(r09_Depths.l1 k3 y403 x4_1 (wrap64 (x5_2+1)) l0_0 a0_1) = some r:=QH hy403 H
                have Ny403:=AM hy403;clear hy403;have H':=AM H;clear H;have hcz26_0:=BC BK391 0 (.slice A0_0 l0_0.length c0_0) rfl;have hcz26_1:=BC BK391 1 (.int .i64 a0_1) rfl;have hfz26_0:=BF BK391 0;have hfz26_1:=BF BK391 1;have p395:0≤(x5_2:Int):=OD;have q395:x5_2 < (l0_0.length:Int):=OD;obtain ⟨ad395,A395_1,c395_1,A395_2,c395_2,A395_3,c395_3,e395,hx395_0,hx395_1,hx395_2,hx395_3,hl395_1,hi395_1,hl395_2,hi395_2,hl395_3,hi395_3⟩:=at_T53 HR0_0.out x5_2 p395 q395;cases e395
                replace hx395_0:=CL HB hx395_0;replace hx395_1:=CL HB hx395_1;replace hx395_2:=CL HB hx395_2;replace hx395_3:=CL HB hx395_3;have HR395_1:=AM hi395_1;have HC395_1:=AM hl395_1;clear hi395_1 hl395_1;have HR395_2:=AM hi395_2;have HC395_2:=AM hl395_2;clear hi395_2 hl395_2;have HR395_3:=AM hi395_3;have HC395_3:=AM hl395_3;clear hi395_3 hl395_3;replace p395:=eq_true p395;replace q395:=eq_true q395;obtain ⟨Ao27,co27,eo27⟩:=Kd.R_slice HO_3.out;subst eo27;have p402:0≤(x5_2:Int):=OD;have q402:x5_2 < (x3_2.length:Int):=OD;obtain ⟨ad402,e402,hx402_0⟩:=Kd.at_int (Kd.R_reads' HO_3.out).2.2 x5_2 p402 q402;cases e402
                replace p402:=eq_true p402;replace q402:=eq_true q402;have p25:0≤(x5_2:Int):=OD;have q25:(x5_2:Int) < ((x3_2.length:Int):Int):=OD;obtain ⟨go25,co25,eo25,gb25,gl25,cl25,HG25⟩:=Kd.R_form HO_3.out (by omega);(first | cases eo25 | (injection eo25 with ea_ en_ ec_;(first | subst ea_ | (injection ea_ with ea_;subst ea_));subst ec_;clear en_))
                have GB25:=AM gb25;have GG25:=AM HG25;clear gb25 gl25 HG25;(first | simp only [add_plain] at hx402_0 | skip)
                obtain ⟨hx25_0,hf25_0⟩:=Kd.R_celln 0 HO_3.out (x5_2:Int) p25 q25;replace p25:=eq_true p25;replace q25:=eq_true q25;have HP28:=Kd.R_putg HO_3.out (x5_2:Int) (wrap64 (x6_3+1));go_wp2_with (first | ((with_reducible refine gate_store (t:=3) (p:=74) rfl ?_);refine store_event (t:=3) (p:=74) (v:=?vo_w29) (w1:=(wr.setCell ⟨go25,(x5_2:Int).toNat,none⟩ (.int .i64 (wrap64 (x6_3+1))))) ?hg ?ho ?hn ?hr ?_;(case ho => rfl);(case hg => rfl);(case hn => rfl);(case hr => first | (go_simp;done) | (go_simp;rfl));intro w29 hw;have hg:wr.grownBy w29 (some go25):=(by rw [hw];exact HP28.2);have hp_:Kd.R (Kd.int .i64) 3 w29 w.heap.size (fun _ => True) (.slice (some ⟨go25,0,none⟩) x3_2.length co27) y403:=(by rw [hw,Ny403.out];exact HP28.1);clear HP28;replace BK391:=AM (blk_grown (g:=gb391) (o:=.cells #[.slice (some ad395) l0_0.length c0_0,.int .i64 a0_1] 24 (0,0)) (BL BK391) hg (Kd.R_ne HO_3.out BK391.out (by decide)));replace HO_3:=AM (hp_);replace HB:=AM ((by rw [hw];exact below_set (HB.out) GB25.out:Below w.heap.size w w29));clear hg hw hp_))
                go_roundg k3
                case measure => have:=HK1.out;have:=HK2.out;have:=HK3.out;omega
                case rel => exact ⟨(y403),(wrap64 (x5_2+1)),QD,H',⟨by have:=HK1.out;have:=HK2.out;have:=HK3.out;omega⟩,⟨RA HO_3.out⟩,⟨BL BK391⟩,⟨BB HB⟩⟩
               ·rw [if_neg c24] at H;have c24b0:decide ((rd x3_2 x5_2) < (wrap64 (x6_3+1))) = false:=decide_eq_false c24;clear c24;have H':=AM H;clear H;have hcz30_0:=BC BK391 0 (.slice A0_0 l0_0.length c0_0) rfl;have hcz30_1:=BC BK391 1 (.int .i64 a0_1) rfl;have hfz30_0:=BF BK391 0;have hfz30_1:=BF BK391 1;have p395:0≤(x5_2:Int):=OD;have q395:x5_2 < (l0_0.length:Int):=OD;obtain ⟨ad395,A395_1,c395_1,A395_2,c395_2,A395_3,c395_3,e395,hx395_0,hx395_1,hx395_2,hx395_3,hl395_1,hi395_1,hl395_2,hi395_2,hl395_3,hi395_3⟩:=at_T53 HR0_0.out x5_2 p395 q395;cases e395
                replace hx395_0:=CL HB hx395_0;replace hx395_1:=CL HB hx395_1;replace hx395_2:=CL HB hx395_2;replace hx395_3:=CL HB hx395_3;have HR395_1:=AM hi395_1;have HC395_1:=AM hl395_1;clear hi395_1 hl395_1;have HR395_2:=AM hi395_2;have HC395_2:=AM hl395_2;clear hi395_2 hl395_2;have HR395_3:=AM hi395_3;have HC395_3:=AM hl395_3;clear hi395_3 hl395_3;replace p395:=eq_true p395;replace q395:=eq_true q395;obtain ⟨Ao31,co31,eo31⟩:=Kd.R_slice HO_3.out;subst eo31;have p402:0≤(x5_2:Int):=OD;have q402:x5_2 < (x3_2.length:Int):=OD;obtain ⟨ad402,e402,hx402_0⟩:=Kd.at_int (Kd.R_reads' HO_3.out).2.2 x5_2 p402 q402;cases e402
                replace p402:=eq_true p402;replace q402:=eq_true q402;go_wp2
                go_roundg k3
                case measure => have:=HK1.out;have:=HK2.out;have:=HK3.out;omega
                case rel => exact ⟨(x3_2),(wrap64 (x5_2+1)),QD,H',⟨by have:=HK1.out;have:=HK2.out;have:=HK3.out;omega⟩,⟨RA HO_3.out⟩,⟨BL BK391⟩,⟨BB HB⟩⟩
              ·rw [if_neg c23] at H;exact absurd H (by simp)
            ·rw [if_neg c13] at H;exact absurd H (by simp)
           ·rw [if_neg c12] at H;exact absurd H (by simp)
        ·rw [if_neg c10] at H;have c10b0:decide (x5_2 < (l0_0.length:Int)) = false:=decide_eq_false c10;clear c10;have H':=AM H;clear H;have hcz32_0:=BC BK391 0 (.slice A0_0 l0_0.length c0_0) rfl;have hcz32_1:=BC BK391 1 (.int .i64 a0_1) rfl;have hfz32_0:=BF BK391 0;have hfz32_1:=BF BK391 1;go_wp2
         go_roundg k2
         case measure => have:=HK1.out;have:=HK2.out;omega
         case rel => exact ⟨(x3_2),(wrap64 (x4_1+1)),QD,H',⟨by have:=HK1.out;have:=HK2.out;omega⟩,⟨RA HO_3.out⟩,⟨BL BK391⟩,⟨BB HB⟩⟩
     ·rw [if_neg c8] at H;have c8b0:decide (x4_1≤(l0_0.length:Int)) = false:=decide_eq_false c8;clear c8;obtain rfl:=Option.some.inj H;have hcz33_0:=BC BK391 0 (.slice A0_0 l0_0.length c0_0) rfl;have hcz33_1:=BC BK391 1 (.int .i64 a0_1) rfl;have hfz33_0:=BF BK391 0;have hfz33_1:=BF BK391 1;go_wp2
      go_ret;exact ⟨_,by first | rfl | (simp [errW_none,errW_some] <;> rfl) | (simp [*,errW_none,errW_some] <;> rfl),RA HO_3.out,BB HB⟩
  ·rw [if_neg c3] at H;exact absurd H (by simp)
 ·rw [if_neg c2] at H;exact absurd H (by simp)
end Go.Proofs.YtcphcaiiofeflaaDoor.GO
