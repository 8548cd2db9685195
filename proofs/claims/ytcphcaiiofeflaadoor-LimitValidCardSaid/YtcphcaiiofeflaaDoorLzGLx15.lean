
import Derived.Test.YtcphcaiiofeflaaDoorLzGLx0
import Derived.Test.YtcphcaiiofeflaaDoorLzGLx14
namespace Go.Proofs.YtcphcaiiofeflaaDoor.GL
open Go.RowKit Go.Proofs.YtcphcaiiofeflaaDoorW.PrintWords Go.Proofs.YtcphcaiiofeflaaDoorW.PrintLast Go.Proofs.YtcphcaiiofeflaaDoorW.PrintMore
attribute [local go_sem] max2_int min2_int max_two min_two max_three min_three max_four min_four
set_option linter.unusedVariables false
set_option linter.unusedSimpArgs false
mutual
def r12_Texts.l0:Nat→List ByteArray→Int→List (S53)→Int→Option (List ByteArray)
 | 0,_,_,_,_ => none
 | k+1,x3,x4,x311000,x311001 => if x4 < (x311000.length:Int) then (r12_Texts.l1 k x3 x4 0 x311000 x311001) else (some x3)
def r12_Texts.l1:Nat→List ByteArray→Int→Int→List (S53)→Int→Option (List ByteArray)
 | 0,_,_,_,_,_ => none
 | k+1,x3,x4,x5,x311000,x311001 => if 0≤x4 then (if x4 < (x311000.length:Int) then (if x5 < (((rd_T53 x311000 x4).f2).length:Int) then (if 0≤x5 then ((r06_Intern.f k x3 (rdOf ByteArray.empty ((rd_T53 x311000 x4).f2) x5)).bind fun bt317 => (r12_Texts.l1 k bt317.1 x4 (wrap64 (x5+1)) x311000 x311001)) else (none)) else (r12_Texts.l0 k x3 (wrap64 (x4+1)) x311000 x311001)) else (none)) else (none)
end
def r12_Texts.f (k:Nat) (l0_0:List (S53)) (a0_1:Int):Option (List ByteArray):=r12_Texts.l0 k (([]:List ByteArray)) 0 l0_0 a0_1
set_option maxHeartbeats 8000000 in
set_option maxRecDepth 100000 in
theorem r12_Texts.calls (k:Nat) (A0_0:Option Addr) (c0_0:Nat) (l0_0:List (S53)) (a0_1:Int) (r:List ByteArray) (w:World) (hr0_0:Kd.C k53 w A0_0 l0_0.length l0_0) (hc0_0:l0_0.length≤c0_0) (h:r12_Texts.f k l0_0 a0_1 = some r) :
  Calls Tryd.prog 50 #[.agg #[.slice A0_0 l0_0.length c0_0,.int .i64 a0_1]] w fun e w' => ∃ v0_:Value,e = .returned (v0_)∧Kd.R Kd.string 9 w' w.heap.size (fun _ => True) v0_ r∧Below w.heap.size w w':=by
 have hu24:=Tryd.underlying24;have HR0_0:=AM hr0_0;have HC0_0:=AM hc0_0;clear hr0_0 hc0_0;have HB:=AM (Below.refl w.heap.size w);have H:(r12_Texts.l0 k (([]:List ByteArray)) 0 l0_0 a0_1) = some r:=h;clear h;obtain ⟨y311,hy311⟩:∃ y_:List ByteArray,y_ = (([]:List ByteArray)):=⟨_,rfl⟩;replace H:(r12_Texts.l0 k y311 0 l0_0 a0_1) = some r:=by first | (rw [hy311];with_reducible exact H) | (have H2_:=(Option.bind_some _ _).symm.trans H;rw [hy311];with_reducible exact H2_) | (have H2_:=(Option.bind_some _ _).symm.trans H;with_reducible exact H2_) | with_reducible exact H | (rw [hy311];exact H) | exact H
 have Ny311:=AM hy311;clear hy311;have H':=AM H;clear H;go_enter Tryd.func50,Tryd.ntmps50;go_wp2_with (first | ((with_reducible refine gate_dst (N:=1) rfl ?_);refine box_event ?hg (N:=1) ?hd (cs:=#[.slice A0_0 l0_0.length c0_0,.int .i64 a0_1]) (t:=24) ?hr ?_;(case hd => rfl);(case hg => rfl);(case hr => first | (go_simp;done) | (go_simp;rfl));intro gb310 hg w2 hbox hb;have BK310:=AM (hbox);have GW310:=GW HB hg;have GE310:=GW HB hg;replace HB:=BS HB hb;clear hb hbox hg) | ((with_reducible refine gate_dst (N:=6) rfl ?_);refine Kd.R_lit Kd.string _ 9 ?hg (N:=6) ?hd (xs:=([]:List ByteArray)) (inner:=[]) (ok:=fun _ => True) (okp:=fun _ => True) ?hr ?hp (fun _ hk => hk) trivial (Below.refl _ _) (Nat.le_refl _) (by simp) ?_;(case hd => rfl);(case hg => rfl);(case hr => first | (go_simp;done) | (go_simp;rfl));(case hp => exact (Reps.none _ _));intro v312 w3 ho4 hb hg_ hnew_;clear hg_ hnew_;(first | rw [← Ny311.out] at ho4 | (simp only [Int.reduceToNat] at ho4;rw [← Ny311.out] at ho4));have HO313:=AM (Kd.R_lower ho4 (below_size (BB HB)));replace BK310:=BE BK310 hb;replace HB:=BS HB hb;clear hb ho4))
 go_loopg [3,4] k (fun kq v3 v4 w' => ∃ (x3_1:List ByteArray) (x4_1:Int),v4 = .int .i64 x4_1∧Aside0 (r12_Texts.l0 kq x3_1 x4_1 l0_0 a0_1 = some r)∧Aside0 (kq≤k)∧Aside0 (Kd.R Kd.string 9 w' w.heap.size (fun _ => True) v3 x3_1)∧Aside0 (w'.heap[gb310]? = some (.cells #[(.slice A0_0 l0_0.length c0_0),.int .i64 a0_1] 24 (0,0)))∧Aside0 (Below w.heap.size w w'))
 case atStart => exact ⟨(y311),(0),(by first | rfl | (simp;done) | (simp [*];done)),H',⟨Nat.le_refl _⟩,⟨by (with_reducible repeat (first | apply Kd.R_alloc | apply Kd.R_drewN | apply Kd.R_drew));exact HO313.out⟩,⟨BL BK310⟩,⟨BB HB⟩⟩
 case round =>
  clear H';try clear p2
  obtain ⟨x3_1,x4_1,rfl,HA,HK1,HO_3,BK310,HB⟩:=hrel;cases gk with
  | zero => exact absurd HA.out (by simp [r12_Texts.l0])
  | succ k1 =>
   have H:=HA.out;clear HA;simp only [r12_Texts.l0] at H;by_cases c5:x4_1 < (l0_0.length:Int)
   ·rw [if_pos c5] at H;have c5b0:decide (x4_1 < (l0_0.length:Int)) = true:=decide_eq_true c5;clear c5;have H':=AM H;clear H;have hcz6_0:=BC BK310 0 (.slice A0_0 l0_0.length c0_0) rfl;have hcz6_1:=BC BK310 1 (.int .i64 a0_1) rfl;have hfz6_0:=BF BK310 0;have hfz6_1:=BF BK310 1;go_wp2
    go_loopg [3,5] k1 (fun kq v3 v5 w' => ∃ (x3_2:List ByteArray) (x5_2:Int),v5 = .int .i64 x5_2∧Aside0 (r12_Texts.l1 kq x3_2 x4_1 x5_2 l0_0 a0_1 = some r)∧Aside0 (kq≤k1)∧Aside0 (Kd.R Kd.string 9 w' w.heap.size (fun _ => True) v3 x3_2)∧Aside0 (w'.heap[gb310]? = some (.cells #[(.slice A0_0 l0_0.length c0_0),.int .i64 a0_1] 24 (0,0)))∧Aside0 (Below w.heap.size w w'))
    case atStart => exact ⟨(x3_1),(0),(by first | rfl | (simp;done) | (simp [*];done)),H',⟨Nat.le_refl _⟩,⟨by (with_reducible repeat (first | apply Kd.R_alloc | apply Kd.R_drewN | apply Kd.R_drew));exact HO_3.out⟩,⟨BL BK310⟩,⟨BB HB⟩⟩
    case round =>
     clear H';try clear p2
     try clear c5
     try clear c5b0
     try clear hcz6_0
     try clear hcz6_1
     try clear hfz6_0
     try clear hfz6_1
     try clear p2
     obtain ⟨x3_2,x5_2,rfl,HA,HK2,HO_3,BK310,HB⟩:=hrel;cases gk with
     | zero => exact absurd HA.out (by simp [r12_Texts.l1])
     | succ k2 =>
      have H:=HA.out;clear HA;simp only [r12_Texts.l1] at H;by_cases c7:0≤x4_1
      ·rw [if_pos c7] at H;have c7b0:decide (0≤x4_1) = true:=decide_eq_true c7;clear c7;by_cases c8:x4_1 < (l0_0.length:Int)
       ·rw [if_pos c8] at H;have c8b0:decide (x4_1 < (l0_0.length:Int)) = true:=decide_eq_true c8;clear c8;by_cases c9:x5_2 < (((rd_T53 l0_0 x4_1).f2).length:Int)
        ·rw [if_pos c9] at H;have c9b0:decide (x5_2 < (((rd_T53 l0_0 x4_1).f2).length:Int)) = true:=decide_eq_true c9;clear c9;by_cases c10:0≤x5_2
         ·rw [if_pos c10] at H;have c10b0:decide (0≤x5_2) = true:=decide_eq_true c10;clear c10;replace H:=Option.bind_eq_some_iff.mp H;obtain ⟨⟨t317,t320⟩,A110,H⟩:=H;replace H:(r12_Texts.l1 k2 t317 x4_1 (wrap64 (x5_2+1)) l0_0 a0_1) = some r:=H;have A11:=AM A110;clear A110;have H':=AM H;clear H;have hcz12_0:=BC BK310 0 (.slice A0_0 l0_0.length c0_0) rfl;have hcz12_1:=BC BK310 1 (.int .i64 a0_1) rfl;have hfz12_0:=BF BK310 0;have hfz12_1:=BF BK310 1;have p314:0≤(x4_1:Int):=OD;have q314:x4_1 < (l0_0.length:Int):=OD;obtain ⟨ad314,A314_1,c314_1,A314_2,c314_2,A314_3,c314_3,e314,hx314_0,hx314_1,hx314_2,hx314_3,hl314_1,hi314_1,hl314_2,hi314_2,hl314_3,hi314_3⟩:=at_T53 HR0_0.out x4_1 p314 q314;cases e314
          replace hx314_0:=CL HB hx314_0;replace hx314_1:=CL HB hx314_1;replace hx314_2:=CL HB hx314_2;replace hx314_3:=CL HB hx314_3;have HR314_1:=AM hi314_1;have HC314_1:=AM hl314_1;clear hi314_1 hl314_1;have HR314_2:=AM hi314_2;have HC314_2:=AM hl314_2;clear hi314_2 hl314_2;have HR314_3:=AM hi314_3;have HC314_3:=AM hl314_3;clear hi314_3 hl314_3;replace p314:=eq_true p314;replace q314:=eq_true q314;have p315:0≤(x4_1:Int):=OD;have q315:x4_1 < (l0_0.length:Int):=OD;obtain ⟨ad315,A315_1,c315_1,A315_2,c315_2,A315_3,c315_3,e315,hx315_0,hx315_1,hx315_2,hx315_3,hl315_1,hi315_1,hl315_2,hi315_2,hl315_3,hi315_3⟩:=at_T53 HR0_0.out x4_1 p315 q315;obtain rfl:ad314 = ad315:=(by injection e315);replace hx315_0:=CL HB hx315_0;replace hx315_1:=CL HB hx315_1;replace hx315_2:=CL HB hx315_2;replace hx315_3:=CL HB hx315_3;have HR315_1:=AM hi315_1;have HC315_1:=AM hl315_1;clear hi315_1 hl315_1;have HR315_2:=AM hi315_2;have HC315_2:=AM hl315_2;clear hi315_2 hl315_2;have HR315_3:=AM hi315_3;have HC315_3:=AM hl315_3;clear hi315_3 hl315_3;replace p315:=eq_true p315;replace q315:=eq_true q315;have ea_:=Option.some.inj (hx314_1.symm.trans hx315_1);injection ea_ with ea_ en_ ec_
          subst ea_;subst ec_;clear en_;have ea_:=Option.some.inj (hx314_2.symm.trans hx315_2);injection ea_ with ea_ en_ ec_
          subst ea_;subst ec_;clear en_;have ea_:=Option.some.inj (hx314_3.symm.trans hx315_3);injection ea_ with ea_ en_ ec_
          subst ea_;subst ec_;clear en_;have p316:0≤(x5_2:Int):=OD;have q316:x5_2 < (((rd_T53 l0_0 x4_1).f2).length:Int):=OD;obtain ⟨ad316,e316,hx316_0⟩:=Kd.at_string HR315_2.out x5_2 p316 q316;cases e316
          replace hx316_0:=CL HB hx316_0;replace p316:=eq_true p316;replace q316:=eq_true q316;obtain ⟨Ao13,co13,eo13⟩:=Kd.R_slice HO_3.out;subst eo13;go_wp2_with (first | ((with_reducible refine gate_callee (f:=78) rfl ?_);refine goesM_ (some 36) rfl rfl Tryd.func78 #[.slice Ao13 x3_2.length co13,.string (rdOf ByteArray.empty ((rd_T53 l0_0 x4_1).f2) x5_2)] rfl ?_;(with_reducible refine (r06_Intern.calls k2 (fun k_ => some k_ = (.slice Ao13 x3_2.length co13:Value).ownBlock) (.slice Ao13 x3_2.length co13) x3_2 (rdOf ByteArray.empty ((rd_T53 l0_0 x4_1).f2) x5_2) t317 t320 w _ ?side1 ?side2 A11.out).mono ?_);(case side1 => repeat (first | (with_reducible first | exact HB.out | apply below_alloc | apply pw_below_drewN | apply below_drew1 | refine below_set ?_ GE310.out) | exact HB.out));(case side2 => exact Kd.R_tight rfl HO_3.out);rintro e w14 ⟨v318,rfl,ho0,hb,hkp⟩;refine ⟨_,rfl,?_⟩;replace BK310:=AM (blk_kept (BL BK310) hkp (fun hs_ => (fun e_ => (Kd.R_ne HO_3.out BK310.out (by decide)) e_) hs_));have HO319:=AM (Kd.R_mono (ok':=fun k_ => True) ho0 (fun k_ hk_ => trivial));replace HB:=AM (hb);clear HO_3;(try clear hb);(try clear hkp);(try clear ho0)))
          go_roundg k2
          case measure => have:=HK1.out;have:=HK2.out;omega
          case rel => exact ⟨(t317),(wrap64 (x5_2+1)),(by first | rfl | (simp;done) | (simp [*];done)),H',⟨by have:=HK1.out;have:=HK2.out;omega⟩,⟨by (with_reducible repeat (first | apply Kd.R_alloc | apply Kd.R_drewN | apply Kd.R_drew));exact HO319.out⟩,⟨BL BK310⟩,⟨BB HB⟩⟩
         ·rw [if_neg c10] at H;exact absurd H (by simp)
        ·rw [if_neg c9] at H;have c9b0:decide (x5_2 < (((rd_T53 l0_0 x4_1).f2).length:Int)) = false:=decide_eq_false c9;clear c9;have H':=AM H;clear H;have hcz15_0:=BC BK310 0 (.slice A0_0 l0_0.length c0_0) rfl;have hcz15_1:=BC BK310 1 (.int .i64 a0_1) rfl;have hfz15_0:=BF BK310 0;have hfz15_1:=BF BK310 1;have p314:0≤(x4_1:Int):=OD;have q314:x4_1 < (l0_0.length:Int):=OD;obtain ⟨ad314,A314_1,c314_1,A314_2,c314_2,A314_3,c314_3,e314,hx314_0,hx314_1,hx314_2,hx314_3,hl314_1,hi314_1,hl314_2,hi314_2,hl314_3,hi314_3⟩:=at_T53 HR0_0.out x4_1 p314 q314;cases e314
         replace hx314_0:=CL HB hx314_0;replace hx314_1:=CL HB hx314_1;replace hx314_2:=CL HB hx314_2;replace hx314_3:=CL HB hx314_3;have HR314_1:=AM hi314_1;have HC314_1:=AM hl314_1;clear hi314_1 hl314_1;have HR314_2:=AM hi314_2;have HC314_2:=AM hl314_2;clear hi314_2 hl314_2;have HR314_3:=AM hi314_3;have HC314_3:=AM hl314_3;clear hi314_3 hl314_3;replace p314:=eq_true p314;replace q314:=eq_true q314;go_wp2
         go_roundg k2
         case measure => have:=HK1.out;have:=HK2.out;omega
         case rel => exact ⟨(x3_2),(wrap64 (x4_1+1)),(by first | rfl | (simp;done) | (simp [*];done)),H',⟨by have:=HK1.out;have:=HK2.out;omega⟩,⟨by (with_reducible repeat (first | apply Kd.R_alloc | apply Kd.R_drewN | apply Kd.R_drew));exact HO_3.out⟩,⟨BL BK310⟩,⟨BB HB⟩⟩
       ·rw [if_neg c8] at H;exact absurd H (by simp)
      ·rw [if_neg c7] at H;exact absurd H (by simp)
   ·rw [if_neg c5] at H;have c5b0:decide (x4_1 < (l0_0.length:Int)) = false:=decide_eq_false c5;clear c5;obtain rfl:=Option.some.inj H;have hcz16_0:=BC BK310 0 (.slice A0_0 l0_0.length c0_0) rfl;have hcz16_1:=BC BK310 1 (.int .i64 a0_1) rfl;have hfz16_0:=BF BK310 0;have hfz16_1:=BF BK310 1;go_wp2
    go_ret;exact ⟨_,by first | rfl | (simp [errW_none,errW_some] <;> rfl) | (simp [*,errW_none,errW_some] <;> rfl),by (with_reducible repeat (first | apply Kd.R_alloc | apply Kd.R_drewN | apply Kd.R_drew));exact HO_3.out,BB HB⟩
mutual
def r09_Depths.l0:Nat→List Int→Int→List (S53)→Int→Option (List Int)
 | 0,_,_,_,_ => none
 | k+1,x3,x4,x322000,x322001 => if x4≤(x322000.length:Int) then (r09_Depths.l1 k x3 x4 0 x322000 x322001) else (some x3)
def r09_Depths.l1:Nat→List Int→Int→Int→List (S53)→Int→Option (List Int)
 | 0,_,_,_,_,_ => none
 | k+1,x3,x4,x5,x322000,x322001 => if x5 < (x322000.length:Int) then (r09_Depths.l2 k x3 x4 x5 0 0 x322000 x322001) else (r09_Depths.l0 k x3 (wrap64 (x4+1)) x322000 x322001)
def r09_Depths.l2:Nat→List Int→Int→Int→Int→Int→List (S53)→Int→Option (List Int)
 | 0,_,_,_,_,_,_,_ => none
 | k+1,x3,x4,x5,x6,x7,x322000,x322001 => if 0≤x5 then (if x5 < (x322000.length:Int) then (if x7 < (((rd_T53 x322000 x5).f3).length:Int) then (if 0≤x7 then (if 0≤(rd ((rd_T53 x322000 x5).f3) x7) then (if (rd ((rd_T53 x322000 x5).f3) x7) < (x3.length:Int) then (if (rd x3 (rd ((rd_T53 x322000 x5).f3) x7)) > x6 then (r09_Depths.l2 k x3 x4 x5 (rd x3 (rd ((rd_T53 x322000 x5).f3) x7)) (wrap64 (x7+1)) x322000 x322001) else (r09_Depths.l2 k x3 x4 x5 x6 (wrap64 (x7+1)) x322000 x322001)) else (none)) else (none)) else (none)) else (if x5 < (x3.length:Int) then (if (wrap64 (x6+1)) > (rd x3 x5) then (r09_Depths.l1 k (x3.set (x5:Int).toNat (wrap64 (x6+1))) x4 (wrap64 (x5+1)) x322000 x322001) else (r09_Depths.l1 k x3 x4 (wrap64 (x5+1)) x322000 x322001)) else (none))) else (none)) else (none)
end
def r09_Depths.f (k:Nat) (l0_0:List (S53)) (a0_1:Int):Option (List Int):=if 0≤(l0_0.length:Int) then (if ((l0_0.length:Int):Int).toNat≤35184372088832 then (r09_Depths.l0 k (List.replicate ((l0_0.length:Int):Int).toNat 0) 0 l0_0 a0_1) else (none)) else (none)
set_option maxHeartbeats 8000000 in
set_option maxRecDepth 100000 in
theorem r09_Depths.calls (k:Nat) (A0_0:Option Addr) (c0_0:Nat) (l0_0:List (S53)) (a0_1:Int) (r:List Int) (w:World) (hr0_0:Kd.C k53 w A0_0 l0_0.length l0_0) (hc0_0:l0_0.length≤c0_0) (h:r09_Depths.f k l0_0 a0_1 = some r) :
  Calls Tryd.prog 51 #[.agg #[.slice A0_0 l0_0.length c0_0,.int .i64 a0_1]] w fun e w' => ∃ v0_:Value,e = .returned (v0_)∧Kd.R (Kd.int .i64) 3 w' w.heap.size (fun _ => True) v0_ r∧Below w.heap.size w w':=by
 have hu24:=Tryd.underlying24;have HR0_0:=AM hr0_0;have HC0_0:=AM hc0_0;clear hr0_0 hc0_0;have HB:=AM (Below.refl w.heap.size w);have H:(if 0≤(l0_0.length:Int) then (if ((l0_0.length:Int):Int).toNat≤35184372088832 then (r09_Depths.l0 k (List.replicate ((l0_0.length:Int):Int).toNat 0) 0 l0_0 a0_1) else (none)) else (none)) = some r:=h;clear h;by_cases c2:0≤(l0_0.length:Int)
 ·rw [if_pos c2] at H;have c2b0:=eq_true c2;have c2b1:decide (0≤(l0_0.length:Int)) = true:=decide_eq_true c2;clear c2;by_cases c3:((l0_0.length:Int):Int).toNat≤35184372088832
  ·rw [if_pos c3] at H;have c3b0:=eq_true c3;have c3b1:decide (((l0_0.length:Int):Int).toNat≤35184372088832) = true:=decide_eq_true c3;clear c3;obtain ⟨y322,hy322⟩:∃ y_:List Int,y_ = (List.replicate ((l0_0.length:Int):Int).toNat 0):=⟨_,rfl⟩;replace H:(r09_Depths.l0 k y322 0 l0_0 a0_1) = some r:=by first | (rw [hy322];with_reducible exact H) | (have H2_:=(Option.bind_some _ _).symm.trans H;rw [hy322];with_reducible exact H2_) | (have H2_:=(Option.bind_some _ _).symm.trans H;with_reducible exact H2_) | with_reducible exact H | (rw [hy322];exact H) | exact H
   have Ny322:=AM hy322;clear hy322;have H':=AM H;clear H;go_enter Tryd.func51,Tryd.ntmps51;go_wp2_with (first | ((with_reducible refine gate_dst (N:=1) rfl ?_);refine box_event ?hg (N:=1) ?hd (cs:=#[.slice A0_0 l0_0.length c0_0,.int .i64 a0_1]) (t:=24) ?hr ?_;(case hd => rfl);(case hg => rfl);(case hr => first | (go_simp;done) | (go_simp;rfl));intro gb321 hg w4 hbox hb;have BK321:=AM (hbox);have GW321:=GW HB hg;have GE321:=GW HB hg;replace HB:=BS HB hb;clear hb hbox hg;have hcz5_0:=BC BK321 0 (.slice A0_0 l0_0.length c0_0) rfl;have hcz5_1:=BC BK321 1 (.int .i64 a0_1) rfl;have hfz5_0:=BF BK321 0;have hfz5_1:=BF BK321 1) | ((with_reducible refine gate_dst (N:=11) rfl ?_);refine Kd.R_make (Kd.int .i64) _ 3 rfl (N:=11) rfl 51 _ _ rfl (l0_0.length:Int) rfl rfl Tryd.underlying51 (.int .i64 0) 8 info3 rfl (by decide) (by omega) 0 (ok:=fun _ => True) (okp:=fun _ => True) rfl (fun _ hk => hk) trivial (OD) (Nat.le_trans (Nat.mul_le_mul_right _ (OD:(l0_0.length:Int).toNat≤35184372088832)) (by omega)) (Below.refl _ _) (Nat.le_refl _) ?_;intro v323 w6 ho7 hb hg_ hnew_;clear hg_ hnew_;(first | rw [← Ny322.out] at ho7 | (simp only [Int.reduceToNat] at ho7;rw [← Ny322.out] at ho7));have HO324:=AM (Kd.R_lower ho7 (below_size (BB HB)));replace BK321:=BE BK321 hb;replace HB:=BS HB hb;clear hb ho7))
   go_loopg [4] k (fun kq v4 w' => ∃ (x3_1:List Int) (x4_1:Int),v4 = .int .i64 x4_1∧Aside0 (r09_Depths.l0 kq x3_1 x4_1 l0_0 a0_1 = some r)∧Aside0 (kq≤k)∧Aside0 (Kd.R (Kd.int .i64) 3 w' w.heap.size (fun _ => True) v323 x3_1)∧Aside0 (w'.heap[gb321]? = some (.cells #[(.slice A0_0 l0_0.length c0_0),.int .i64 a0_1] 24 (0,0)))∧Aside0 (Below w.heap.size w w'))
   case atStart => exact ⟨(y322),(0),(by first | rfl | (simp;done) | (simp [*];done)),H',⟨Nat.le_refl _⟩,⟨by (with_reducible repeat (first | apply Kd.R_alloc | apply Kd.R_drewN | apply Kd.R_drew));exact HO324.out⟩,⟨BL BK321⟩,⟨BB HB⟩⟩
   case round =>
    clear H';try clear c2
    try clear c2b0
    try clear c2b1
    try clear p2
    try clear c3
    try clear c3b0
    try clear c3b1
    try clear c5
    try clear hcz5_0
    try clear hcz5_1
    try clear hfz5_0
    try clear hfz5_1
    obtain ⟨x3_1,x4_1,rfl,HA,HK1,HO_3,BK321,HB⟩:=hrel;cases gk with
    | zero => exact absurd HA.out (by simp [r09_Depths.l0])
    | succ k1 =>
     have H:=HA.out;clear HA;simp only [r09_Depths.l0] at H;by_cases c8:x4_1≤(l0_0.length:Int)
     ·rw [if_pos c8] at H;have c8b0:decide (x4_1≤(l0_0.length:Int)) = true:=decide_eq_true c8;clear c8;have H':=AM H;clear H;have hcz9_0:=BC BK321 0 (.slice A0_0 l0_0.length c0_0) rfl;have hcz9_1:=BC BK321 1 (.int .i64 a0_1) rfl;have hfz9_0:=BF BK321 0;have hfz9_1:=BF BK321 1;go_wp2
      go_loopg [5] k1 (fun kq v5 w' => ∃ (x3_2:List Int) (x5_2:Int),v5 = .int .i64 x5_2∧Aside0 (r09_Depths.l1 kq x3_2 x4_1 x5_2 l0_0 a0_1 = some r)∧Aside0 (kq≤k1)∧Aside0 (Kd.R (Kd.int .i64) 3 w' w.heap.size (fun _ => True) v323 x3_2)∧Aside0 (w'.heap[gb321]? = some (.cells #[(.slice A0_0 l0_0.length c0_0),.int .i64 a0_1] 24 (0,0)))∧Aside0 (Below w.heap.size w w'))
      case atStart => exact ⟨(x3_1),(0),(by first | rfl | (simp;done) | (simp [*];done)),H',⟨Nat.le_refl _⟩,⟨by (with_reducible repeat (first | apply Kd.R_alloc | apply Kd.R_drewN | apply Kd.R_drew));exact HO_3.out⟩,⟨BL BK321⟩,⟨BB HB⟩⟩
      case round =>
       clear H';try clear c2
       try clear c2b0
       try clear c2b1
       try clear p2
       try clear c3
       try clear c3b0
       try clear c3b1
       try clear c5
       try clear c8
       try clear c8b0
       try clear hcz5_0
       try clear hcz5_1
       try clear hcz9_0
       try clear hcz9_1
       try clear hfz5_0
       try clear hfz5_1
       try clear hfz9_0
       try clear hfz9_1
       try clear p2
       obtain ⟨x3_2,x5_2,rfl,HA,HK2,HO_3,BK321,HB⟩:=hrel;cases gk with
       | zero => exact absurd HA.out (by simp [r09_Depths.l1])
       | succ k2 =>
        have H:=HA.out;clear HA;simp only [r09_Depths.l1] at H;by_cases c10:x5_2 < (l0_0.length:Int)
        ·rw [if_pos c10] at H;have c10b0:decide (x5_2 < (l0_0.length:Int)) = true:=decide_eq_true c10;clear c10;have H':=AM H;clear H;have hcz11_0:=BC BK321 0 (.slice A0_0 l0_0.length c0_0) rfl;have hcz11_1:=BC BK321 1 (.int .i64 a0_1) rfl;have hfz11_0:=BF BK321 0;have hfz11_1:=BF BK321 1;go_wp2
         go_loopg [6,7] k2 (fun kq v6 v7 w' => ∃ (x6_3:Int) (x7_3:Int),v6 = .int .i64 x6_3∧v7 = .int .i64 x7_3∧Aside0 (r09_Depths.l2 kq x3_2 x4_1 x5_2 x6_3 x7_3 l0_0 a0_1 = some r)∧Aside0 (kq≤k2)∧Aside0 (Kd.R (Kd.int .i64) 3 w' w.heap.size (fun _ => True) v323 x3_2)∧Aside0 (w'.heap[gb321]? = some (.cells #[(.slice A0_0 l0_0.length c0_0),.int .i64 a0_1] 24 (0,0)))∧Aside0 (Below w.heap.size w w'))
         case atStart => exact ⟨(0),(0),(by first | rfl | (simp;done) | (simp [*];done)),(by first | rfl | (simp;done) | (simp [*];done)),H',⟨Nat.le_refl _⟩,⟨by (with_reducible repeat (first | apply Kd.R_alloc | apply Kd.R_drewN | apply Kd.R_drew));exact HO_3.out⟩,⟨BL BK321⟩,⟨BB HB⟩⟩
         case round =>
          clear H';try clear c1
          try clear c2
          try clear c2b0
          try clear c2b1
          try clear p2
          try clear c3
          try clear c3b0
          try clear c3b1
          try clear c5
          try clear c8
          try clear c8b0
          try clear c10
          try clear c10b0
          try clear hcz11_0
          try clear hcz11_1
          try clear hcz5_0
          try clear hcz5_1
          try clear hcz9_0
          try clear hcz9_1
          try clear hfz11_0
          try clear hfz11_1
          try clear hfz5_0
          try clear hfz5_1
          try clear hfz9_0
          try clear hfz9_1
          try clear p2
          obtain ⟨x6_3,x7_3,rfl,rfl,HA,HK3,HO_3,BK321,HB⟩:=hrel;cases gk with
          | zero => exact absurd HA.out (by simp [r09_Depths.l2])
          | succ k3 =>
           have H:=HA.out;clear HA;simp only [r09_Depths.l2] at H;by_cases c12:0≤x5_2
           ·rw [if_pos c12] at H;have c12b0:decide (0≤x5_2) = true:=decide_eq_true c12;clear c12;by_cases c13:x5_2 < (l0_0.length:Int)
            ·rw [if_pos c13] at H;have c13b0:decide (x5_2 < (l0_0.length:Int)) = true:=decide_eq_true c13;clear c13;by_cases c14:x7_3 < (((rd_T53 l0_0 x5_2).f3).length:Int)
             ·rw [if_pos c14] at H;have c14b0:decide (x7_3 < (((rd_T53 l0_0 x5_2).f3).length:Int)) = true:=decide_eq_true c14;clear c14;by_cases c15:0≤x7_3
              ·rw [if_pos c15] at H;have c15b0:decide (0≤x7_3) = true:=decide_eq_true c15;clear c15;by_cases c16:0≤(rd ((rd_T53 l0_0 x5_2).f3) x7_3)
               ·rw [if_pos c16] at H;have c16b0:decide (0≤(rd ((rd_T53 l0_0 x5_2).f3) x7_3)) = true:=decide_eq_true c16;clear c16;by_cases c17:(rd ((rd_T53 l0_0 x5_2).f3) x7_3) < (x3_2.length:Int)
                ·rw [if_pos c17] at H;have c17b0:decide ((rd ((rd_T53 l0_0 x5_2).f3) x7_3) < (x3_2.length:Int)) = true:=decide_eq_true c17;clear c17;by_cases c18:(rd x3_2 (rd ((rd_T53 l0_0 x5_2).f3) x7_3)) > x6_3
                 ·rw [if_pos c18] at H;have c18b0:decide (x6_3 < (rd x3_2 (rd ((rd_T53 l0_0 x5_2).f3) x7_3))) = true:=decide_eq_true c18;clear c18;have H':=AM H;clear H;have hcz19_0:=BC BK321 0 (.slice A0_0 l0_0.length c0_0) rfl;have hcz19_1:=BC BK321 1 (.int .i64 a0_1) rfl;have hfz19_0:=BF BK321 0;have hfz19_1:=BF BK321 1;have p325:0≤(x5_2:Int):=OD;have q325:x5_2 < (l0_0.length:Int):=OD;obtain ⟨ad325,A325_1,c325_1,A325_2,c325_2,A325_3,c325_3,e325,hx325_0,hx325_1,hx325_2,hx325_3,hl325_1,hi325_1,hl325_2,hi325_2,hl325_3,hi325_3⟩:=at_T53 HR0_0.out x5_2 p325 q325;cases e325
                  replace hx325_0:=CL HB hx325_0;replace hx325_1:=CL HB hx325_1;replace hx325_2:=CL HB hx325_2;replace hx325_3:=CL HB hx325_3;have HR325_1:=AM hi325_1;have HC325_1:=AM hl325_1;clear hi325_1 hl325_1;have HR325_2:=AM hi325_2;have HC325_2:=AM hl325_2;clear hi325_2 hl325_2;have HR325_3:=AM hi325_3;have HC325_3:=AM hl325_3;clear hi325_3 hl325_3;replace p325:=eq_true p325;replace q325:=eq_true q325;have p326:0≤(x5_2:Int):=OD;have q326:x5_2 < (l0_0.length:Int):=OD;obtain ⟨ad326,A326_1,c326_1,A326_2,c326_2,A326_3,c326_3,e326,hx326_0,hx326_1,hx326_2,hx326_3,hl326_1,hi326_1,hl326_2,hi326_2,hl326_3,hi326_3⟩:=at_T53 HR0_0.out x5_2 p326 q326;obtain rfl:ad325 = ad326:=(by injection e326);replace hx326_0:=CL HB hx326_0;replace hx326_1:=CL HB hx326_1;replace hx326_2:=CL HB hx326_2;replace hx326_3:=CL HB hx326_3;have HR326_1:=AM hi326_1;have HC326_1:=AM hl326_1;clear hi326_1 hl326_1;have HR326_2:=AM hi326_2;have HC326_2:=AM hl326_2;clear hi326_2 hl326_2;have HR326_3:=AM hi326_3;have HC326_3:=AM hl326_3;clear hi326_3 hl326_3;replace p326:=eq_true p326;replace q326:=eq_true q326;have ea_:=Option.some.inj (hx325_1.symm.trans hx326_1);injection ea_ with ea_ en_ ec_
                  subst ea_;subst ec_;clear en_;have ea_:=Option.some.inj (hx325_2.symm.trans hx326_2);injection ea_ with ea_ en_ ec_
                  subst ea_;subst ec_;clear en_;have ea_:=Option.some.inj (hx325_3.symm.trans hx326_3);injection ea_ with ea_ en_ ec_
                  subst ea_;subst ec_;clear en_;have p327:0≤(x7_3:Int):=OD;have q327:x7_3 < (((rd_T53 l0_0 x5_2).f3).length:Int):=OD;obtain ⟨ad327,e327,hx327_0⟩:=Kd.at_int HR326_3.out x7_3 p327 q327;cases e327
                  replace hx327_0:=CL HB hx327_0;replace p327:=eq_true p327;replace q327:=eq_true q327;obtain ⟨Ao20,co20,eo20⟩:=Kd.R_slice HO_3.out;subst eo20;have p328:0≤((rd ((rd_T53 l0_0 x5_2).f3) x7_3):Int):=OD;have q328:(rd ((rd_T53 l0_0 x5_2).f3) x7_3) < (x3_2.length:Int):=OD;obtain ⟨ad328,e328,hx328_0⟩:=Kd.at_int (Kd.R_reads' HO_3.out).2.2 (rd ((rd_T53 l0_0 x5_2).f3) x7_3) p328 q328;cases e328
                  replace p328:=eq_true p328;replace q328:=eq_true q328;have p329:0≤(x5_2:Int):=OD;have q329:x5_2 < (l0_0.length:Int):=OD;obtain ⟨ad329,A329_1,c329_1,A329_2,c329_2,A329_3,c329_3,e329,hx329_0,hx329_1,hx329_2,hx329_3,hl329_1,hi329_1,hl329_2,hi329_2,hl329_3,hi329_3⟩:=at_T53 HR0_0.out x5_2 p329 q329;obtain rfl:ad325 = ad329:=(by injection e329);replace hx329_0:=CL HB hx329_0;replace hx329_1:=CL HB hx329_1;replace hx329_2:=CL HB hx329_2;replace hx329_3:=CL HB hx329_3;have HR329_1:=AM hi329_1;have HC329_1:=AM hl329_1;clear hi329_1 hl329_1;have HR329_2:=AM hi329_2;have HC329_2:=AM hl329_2;clear hi329_2 hl329_2;have HR329_3:=AM hi329_3;have HC329_3:=AM hl329_3;clear hi329_3 hl329_3;replace p329:=eq_true p329;replace q329:=eq_true q329;have ea_:=Option.some.inj (hx325_1.symm.trans hx329_1);injection ea_ with ea_ en_ ec_
                  subst ea_;subst ec_;clear en_;have ea_:=Option.some.inj (hx325_2.symm.trans hx329_2);injection ea_ with ea_ en_ ec_
                  subst ea_;subst ec_;clear en_;have ea_:=Option.some.inj (hx325_3.symm.trans hx329_3);injection ea_ with ea_ en_ ec_
                  subst ea_;subst ec_;clear en_;have p330:0≤(x7_3:Int):=OD;have q330:x7_3 < (((rd_T53 l0_0 x5_2).f3).length:Int):=OD;obtain ⟨ad330,e330,hx330_0⟩:=Kd.at_int HR329_3.out x7_3 p330 q330;cases e330
                  replace hx330_0:=CL HB hx330_0;replace p330:=eq_true p330;replace q330:=eq_true q330;have p331:0≤((rd ((rd_T53 l0_0 x5_2).f3) x7_3):Int):=OD;have q331:(rd ((rd_T53 l0_0 x5_2).f3) x7_3) < (x3_2.length:Int):=OD;obtain ⟨ad331,e331,hx331_0⟩:=Kd.at_int (Kd.R_reads' HO_3.out).2.2 (rd ((rd_T53 l0_0 x5_2).f3) x7_3) p331 q331;obtain rfl:ad328 = ad331:=(by injection e331);replace p331:=eq_true p331;replace q331:=eq_true q331;go_wp2
                  go_roundg k3
                  case measure => have:=HK1.out;have:=HK2.out;have:=HK3.out;omega
                  case rel => exact ⟨(rd x3_2 (rd ((rd_T53 l0_0 x5_2).f3) x7_3)),(wrap64 (x7_3+1)),(by first | rfl | (simp;done) | (simp [*];done)),(by first | rfl | (simp;done) | (simp [*];done)),H',⟨by have:=HK1.out;have:=HK2.out;have:=HK3.out;omega⟩,⟨by (with_reducible repeat (first | apply Kd.R_alloc | apply Kd.R_drewN | apply Kd.R_drew));exact HO_3.out⟩,⟨BL BK321⟩,⟨BB HB⟩⟩
                 ·rw [if_neg c18] at H;have c18b0:decide (x6_3 < (rd x3_2 (rd ((rd_T53 l0_0 x5_2).f3) x7_3))) = false:=decide_eq_false c18;clear c18;have H':=AM H;clear H;have hcz21_0:=BC BK321 0 (.slice A0_0 l0_0.length c0_0) rfl;have hcz21_1:=BC BK321 1 (.int .i64 a0_1) rfl;have hfz21_0:=BF BK321 0;have hfz21_1:=BF BK321 1;have p325:0≤(x5_2:Int):=OD;have q325:x5_2 < (l0_0.length:Int):=OD;obtain ⟨ad325,A325_1,c325_1,A325_2,c325_2,A325_3,c325_3,e325,hx325_0,hx325_1,hx325_2,hx325_3,hl325_1,hi325_1,hl325_2,hi325_2,hl325_3,hi325_3⟩:=at_T53 HR0_0.out x5_2 p325 q325;cases e325
                  replace hx325_0:=CL HB hx325_0;replace hx325_1:=CL HB hx325_1;replace hx325_2:=CL HB hx325_2;replace hx325_3:=CL HB hx325_3;have HR325_1:=AM hi325_1;have HC325_1:=AM hl325_1;clear hi325_1 hl325_1;have HR325_2:=AM hi325_2;have HC325_2:=AM hl325_2;clear hi325_2 hl325_2;have HR325_3:=AM hi325_3;have HC325_3:=AM hl325_3;clear hi325_3 hl325_3;replace p325:=eq_true p325;replace q325:=eq_true q325;have p326:0≤(x5_2:Int):=OD;have q326:x5_2 < (l0_0.length:Int):=OD;obtain ⟨ad326,A326_1,c326_1,A326_2,c326_2,A326_3,c326_3,e326,hx326_0,hx326_1,hx326_2,hx326_3,hl326_1,hi326_1,hl326_2,hi326_2,hl326_3,hi326_3⟩:=at_T53 HR0_0.out x5_2 p326 q326;obtain rfl:ad325 = ad326:=(by injection e326);replace hx326_0:=CL HB hx326_0;replace hx326_1:=CL HB hx326_1;replace hx326_2:=CL HB hx326_2;replace hx326_3:=CL HB hx326_3;have HR326_1:=AM hi326_1;have HC326_1:=AM hl326_1;clear hi326_1 hl326_1;have HR326_2:=AM hi326_2;have HC326_2:=AM hl326_2;clear hi326_2 hl326_2;have HR326_3:=AM hi326_3;have HC326_3:=AM hl326_3;clear hi326_3 hl326_3;replace p326:=eq_true p326;replace q326:=eq_true q326;have ea_:=Option.some.inj (hx325_1.symm.trans hx326_1);injection ea_ with ea_ en_ ec_
                  subst ea_;subst ec_;clear en_;have ea_:=Option.some.inj (hx325_2.symm.trans hx326_2);injection ea_ with ea_ en_ ec_
                  subst ea_;subst ec_;clear en_;have ea_:=Option.some.inj (hx325_3.symm.trans hx326_3);injection ea_ with ea_ en_ ec_
                  subst ea_;subst ec_;clear en_;have p327:0≤(x7_3:Int):=OD;have q327:x7_3 < (((rd_T53 l0_0 x5_2).f3).length:Int):=OD;obtain ⟨ad327,e327,hx327_0⟩:=Kd.at_int HR326_3.out x7_3 p327 q327;cases e327
                  replace hx327_0:=CL HB hx327_0;replace p327:=eq_true p327;replace q327:=eq_true q327;obtain ⟨Ao22,co22,eo22⟩:=Kd.R_slice HO_3.out;subst eo22;have p328:0≤((rd ((rd_T53 l0_0 x5_2).f3) x7_3):Int):=OD;have q328:(rd ((rd_T53 l0_0 x5_2).f3) x7_3) < (x3_2.length:Int):=OD;obtain ⟨ad328,e328,hx328_0⟩:=Kd.at_int (Kd.R_reads' HO_3.out).2.2 (rd ((rd_T53 l0_0 x5_2).f3) x7_3) p328 q328;cases e328
                  replace p328:=eq_true p328;replace q328:=eq_true q328;go_wp2
                  go_roundg k3
                  case measure => have:=HK1.out;have:=HK2.out;have:=HK3.out;omega
                  case rel => exact ⟨(x6_3),(wrap64 (x7_3+1)),(by first | rfl | (simp;done) | (simp [*];done)),(by first | rfl | (simp;done) | (simp [*];done)),H',⟨by have:=HK1.out;have:=HK2.out;have:=HK3.out;omega⟩,⟨by (with_reducible repeat (first | apply Kd.R_alloc | apply Kd.R_drewN | apply Kd.R_drew));exact HO_3.out⟩,⟨BL BK321⟩,⟨BB HB⟩⟩
                ·rw [if_neg c17] at H;exact absurd H (by simp)
               ·rw [if_neg c16] at H;exact absurd H (by simp)
              ·rw [if_neg c15] at H;exact absurd H (by simp)
             ·rw [if_neg c14] at H;have c14b0:decide (x7_3 < (((rd_T53 l0_0 x5_2).f3).length:Int)) = false:=decide_eq_false c14;clear c14;by_cases c23:x5_2 < (x3_2.length:Int)
              ·rw [if_pos c23] at H;have c23b0:decide (x5_2 < (x3_2.length:Int)) = true:=decide_eq_true c23;clear c23;by_cases c24:(wrap64 (x6_3+1)) > (rd x3_2 x5_2)
               ·rw [if_pos c24] at H;have c24b0:decide ((rd x3_2 x5_2) < (wrap64 (x6_3+1))) = true:=decide_eq_true c24;clear c24;obtain ⟨y333,hy333⟩:∃ y_:List Int,y_ = (x3_2.set (x5_2:Int).toNat (wrap64 (x6_3+1))):=⟨_,rfl⟩;replace H:(r09_Depths.l1 k3 y333 x4_1 (wrap64 (x5_2+1)) l0_0 a0_1) = some r:=by first | (rw [hy333];with_reducible exact H) | (have H2_:=(Option.bind_some _ _).symm.trans H;rw [hy333];with_reducible exact H2_) | (have H2_:=(Option.bind_some _ _).symm.trans H;with_reducible exact H2_) | with_reducible exact H | (rw [hy333];exact H) | exact H
                have Ny333:=AM hy333;clear hy333;have H':=AM H;clear H;have hcz26_0:=BC BK321 0 (.slice A0_0 l0_0.length c0_0) rfl;have hcz26_1:=BC BK321 1 (.int .i64 a0_1) rfl;have hfz26_0:=BF BK321 0;have hfz26_1:=BF BK321 1;have p325:0≤(x5_2:Int):=OD;have q325:x5_2 < (l0_0.length:Int):=OD;obtain ⟨ad325,A325_1,c325_1,A325_2,c325_2,A325_3,c325_3,e325,hx325_0,hx325_1,hx325_2,hx325_3,hl325_1,hi325_1,hl325_2,hi325_2,hl325_3,hi325_3⟩:=at_T53 HR0_0.out x5_2 p325 q325;cases e325
                replace hx325_0:=CL HB hx325_0;replace hx325_1:=CL HB hx325_1;replace hx325_2:=CL HB hx325_2;replace hx325_3:=CL HB hx325_3;have HR325_1:=AM hi325_1;have HC325_1:=AM hl325_1;clear hi325_1 hl325_1;have HR325_2:=AM hi325_2;have HC325_2:=AM hl325_2;clear hi325_2 hl325_2;have HR325_3:=AM hi325_3;have HC325_3:=AM hl325_3;clear hi325_3 hl325_3;replace p325:=eq_true p325;replace q325:=eq_true q325;obtain ⟨Ao27,co27,eo27⟩:=Kd.R_slice HO_3.out;subst eo27;have p332:0≤(x5_2:Int):=OD;have q332:x5_2 < (x3_2.length:Int):=OD;obtain ⟨ad332,e332,hx332_0⟩:=Kd.at_int (Kd.R_reads' HO_3.out).2.2 x5_2 p332 q332;cases e332
                replace p332:=eq_true p332;replace q332:=eq_true q332;have p25:0≤(x5_2:Int):=OD;have q25:(x5_2:Int) < ((x3_2.length:Int):Int):=OD;obtain ⟨go25,co25,eo25,gb25,gl25,cl25,HG25⟩:=Kd.R_form HO_3.out (by omega);(first | cases eo25 | (injection eo25 with ea_ en_ ec_;(first | subst ea_ | (injection ea_ with ea_;subst ea_));subst ec_;clear en_))
                have GB25:=AM gb25;have GG25:=AM HG25;clear gb25 gl25 HG25;(first | simp only [add_plain] at hx332_0 | skip)
                obtain ⟨hx25_0,hf25_0⟩:=Kd.R_celln 0 HO_3.out (x5_2:Int) p25 q25;replace p25:=eq_true p25;replace q25:=eq_true q25;have HP28:=Kd.R_putg HO_3.out (x5_2:Int) (wrap64 (x6_3+1));go_wp2_with (first | ((with_reducible refine gate_store (t:=3) (p:=74) rfl ?_);refine store_event (t:=3) (p:=74) (v:=?vo_w29) (w1:=(wr.setCell ⟨go25,(x5_2:Int).toNat,none⟩ (.int .i64 (wrap64 (x6_3+1))))) ?hg ?ho ?hn ?hr ?_;(case ho => rfl);(case hg => rfl);(case hn => rfl);(case hr => first | (go_simp;done) | (go_simp;rfl));intro w29 hw;have hg:wr.grownBy w29 (some go25):=(by rw [hw];exact HP28.2);have hp_:Kd.R (Kd.int .i64) 3 w29 w.heap.size (fun _ => True) (.slice (some ⟨go25,0,none⟩) x3_2.length co27) y333:=(by rw [hw,Ny333.out];exact HP28.1);clear HP28;replace BK321:=AM (blk_grown (g:=gb321) (o:=.cells #[.slice (some ad325) l0_0.length c0_0,.int .i64 a0_1] 24 (0,0)) (BL BK321) hg (Kd.R_ne HO_3.out BK321.out (by decide)));replace HO_3:=AM (hp_);replace HB:=AM ((by rw [hw];exact below_set (HB.out) GB25.out:Below w.heap.size w w29));clear hg hw hp_))
                go_roundg k3
                case measure => have:=HK1.out;have:=HK2.out;have:=HK3.out;omega
                case rel => exact ⟨(y333),(wrap64 (x5_2+1)),(by first | rfl | (simp;done) | (simp [*];done)),H',⟨by have:=HK1.out;have:=HK2.out;have:=HK3.out;omega⟩,⟨by (with_reducible repeat (first | apply Kd.R_alloc | apply Kd.R_drewN | apply Kd.R_drew));exact HO_3.out⟩,⟨BL BK321⟩,⟨BB HB⟩⟩
               ·rw [if_neg c24] at H;have c24b0:decide ((rd x3_2 x5_2) < (wrap64 (x6_3+1))) = false:=decide_eq_false c24;clear c24;have H':=AM H;clear H;have hcz30_0:=BC BK321 0 (.slice A0_0 l0_0.length c0_0) rfl;have hcz30_1:=BC BK321 1 (.int .i64 a0_1) rfl;have hfz30_0:=BF BK321 0;have hfz30_1:=BF BK321 1;have p325:0≤(x5_2:Int):=OD;have q325:x5_2 < (l0_0.length:Int):=OD;obtain ⟨ad325,A325_1,c325_1,A325_2,c325_2,A325_3,c325_3,e325,hx325_0,hx325_1,hx325_2,hx325_3,hl325_1,hi325_1,hl325_2,hi325_2,hl325_3,hi325_3⟩:=at_T53 HR0_0.out x5_2 p325 q325;cases e325
                replace hx325_0:=CL HB hx325_0;replace hx325_1:=CL HB hx325_1;replace hx325_2:=CL HB hx325_2;replace hx325_3:=CL HB hx325_3;have HR325_1:=AM hi325_1;have HC325_1:=AM hl325_1;clear hi325_1 hl325_1;have HR325_2:=AM hi325_2;have HC325_2:=AM hl325_2;clear hi325_2 hl325_2;have HR325_3:=AM hi325_3;have HC325_3:=AM hl325_3;clear hi325_3 hl325_3;replace p325:=eq_true p325;replace q325:=eq_true q325;obtain ⟨Ao31,co31,eo31⟩:=Kd.R_slice HO_3.out;subst eo31;have p332:0≤(x5_2:Int):=OD;have q332:x5_2 < (x3_2.length:Int):=OD;obtain ⟨ad332,e332,hx332_0⟩:=Kd.at_int (Kd.R_reads' HO_3.out).2.2 x5_2 p332 q332;cases e332
                replace p332:=eq_true p332;replace q332:=eq_true q332;go_wp2
                go_roundg k3
                case measure => have:=HK1.out;have:=HK2.out;have:=HK3.out;omega
                case rel => exact ⟨(x3_2),(wrap64 (x5_2+1)),(by first | rfl | (simp;done) | (simp [*];done)),H',⟨by have:=HK1.out;have:=HK2.out;have:=HK3.out;omega⟩,⟨by (with_reducible repeat (first | apply Kd.R_alloc | apply Kd.R_drewN | apply Kd.R_drew));exact HO_3.out⟩,⟨BL BK321⟩,⟨BB HB⟩⟩
              ·rw [if_neg c23] at H;exact absurd H (by simp)
            ·rw [if_neg c13] at H;exact absurd H (by simp)
           ·rw [if_neg c12] at H;exact absurd H (by simp)
        ·rw [if_neg c10] at H;have c10b0:decide (x5_2 < (l0_0.length:Int)) = false:=decide_eq_false c10;clear c10;have H':=AM H;clear H;have hcz32_0:=BC BK321 0 (.slice A0_0 l0_0.length c0_0) rfl;have hcz32_1:=BC BK321 1 (.int .i64 a0_1) rfl;have hfz32_0:=BF BK321 0;have hfz32_1:=BF BK321 1;go_wp2
         go_roundg k2
         case measure => have:=HK1.out;have:=HK2.out;omega
         case rel => exact ⟨(x3_2),(wrap64 (x4_1+1)),(by first | rfl | (simp;done) | (simp [*];done)),H',⟨by have:=HK1.out;have:=HK2.out;omega⟩,⟨by (with_reducible repeat (first | apply Kd.R_alloc | apply Kd.R_drewN | apply Kd.R_drew));exact HO_3.out⟩,⟨BL BK321⟩,⟨BB HB⟩⟩
     ·rw [if_neg c8] at H;have c8b0:decide (x4_1≤(l0_0.length:Int)) = false:=decide_eq_false c8;clear c8;obtain rfl:=Option.some.inj H;have hcz33_0:=BC BK321 0 (.slice A0_0 l0_0.length c0_0) rfl;have hcz33_1:=BC BK321 1 (.int .i64 a0_1) rfl;have hfz33_0:=BF BK321 0;have hfz33_1:=BF BK321 1;go_wp2
      go_ret;exact ⟨_,by first | rfl | (simp [errW_none,errW_some] <;> rfl) | (simp [*,errW_none,errW_some] <;> rfl),by (with_reducible repeat (first | apply Kd.R_alloc | apply Kd.R_drewN | apply Kd.R_drew));exact HO_3.out,BB HB⟩
  ·rw [if_neg c3] at H;exact absurd H (by simp)
 ·rw [if_neg c2] at H;exact absurd H (by simp)
end Go.Proofs.YtcphcaiiofeflaaDoor.GL
