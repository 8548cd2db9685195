
import Derived.Test.YtcphcaiiofeflaaDoorOvGOx0
import Derived.Test.YtcphcaiiofeflaaDoorOvGOx4
import Derived.Test.YtcphcaiiofeflaaDoorOvGOx6
namespace Go.Proofs.YtcphcaiiofeflaaDoor.GO
open Go.RowKit Go.Proofs.YtcphcaiiofeflaaDoorW.PrintWords Go.Proofs.YtcphcaiiofeflaaDoorW.PrintLast Go.Proofs.YtcphcaiiofeflaaDoorW.PrintMore
attribute [local go_sem] max2_int min2_int max_two min_two max_three min_three max_four min_four
set_option maxHeartbeats 8000000
set_option maxRecDepth 100000
set_option linter.unusedVariables false
set_option linter.unusedSimpArgs false
def r05_Read.l0:Nat→ByteArray→List Int→Int→Option (List Int × Int)
 | 0,_,_,_ => none
 | k+1,x0,x4,x5 => if x5 < (x0.size:Int) then ((r05_At.f k x0 x5).bind fun bt171 => (if bt171.2 = 0 then (some (x4,x5)) else (if x4.length < 35184372088832 then (r05_Read.l0 k x0 (x4 ++ [bt171.1]) (wrap64 (x5+bt171.2))) else (none)))) else (some (x4,x5))
def r05_Read.f (k:Nat) (a0:ByteArray):Option (List Int × Int):=r05_Read.l0 k a0 (([]:List Int)) 0
theorem r05_Read.calls (k:Nat) (a0:ByteArray) (r1:List Int) (r2:Int) (w:World) (h:r05_Read.f k a0 = some (r1,r2)) :
  Calls Tryd.prog 92 #[.string a0] w fun e w' => ∃ v0_:Value,e = .returned (.tuple #[v0_,.int .i64 r2])∧Kd.R (Kd.int .i32) 21 w' w.heap.size (fun _ => True) v0_ r1∧Below w.heap.size w w':=by
 have HB:=AM (Below.refl w.heap.size w);have H:(r05_Read.l0 k a0 (([]:List Int)) 0) = some (r1,r2):=h;clear h;obtain ⟨y168,hy168⟩:∃ y_:List Int,y_ = (([]:List Int)):=⟨_,rfl⟩;replace H:(r05_Read.l0 k a0 y168 0) = some (r1,r2):=QH hy168 H
 have Ny168:=AM hy168;clear hy168;have H':=AM H;clear H;go_enter Tryd.func92,Tryd.ntmps92;go_wp2_with (first | ((with_reducible refine gate_dst (N:=8) rfl ?_);refine Kd.R_lit (Kd.int .i32) _ 21 ?hg (N:=8) ?hd (xs:=([]:List Int)) (inner:=[]) (ok:=fun _ => True) (okp:=fun _ => True) ?hr ?hp (fun _ hk => hk) trivial (Below.refl _ _) (Nat.le_refl _) (by simp) ?_;(case hd => rfl);(case hg => rfl);(case hr => first | (go_simp;done) | (go_simp;rfl));(case hp => exact (Reps.none _ _));intro v169 w2 ho3 hb hg_ hnew_;clear hg_ hnew_;(first | rw [← Ny168.out] at ho3 | (simp only [Int.reduceToNat] at ho3;rw [← Ny168.out] at ho3));have HO170:=AM (Kd.R_lower ho3 (below_size (BB HB)));replace HB:=BS HB hb;clear hb ho3))
 go_loopg [4,5] k (fun kq v4 v5 w' => ∃ (x4_1:List Int) (x5_1:Int),v5 = .int .i64 x5_1∧Aside0 (r05_Read.l0 kq a0 x4_1 x5_1 = some (r1,r2))∧Aside0 (kq≤k)∧Aside0 (Kd.R (Kd.int .i32) 21 w' w.heap.size (fun _ => True) v4 x4_1)∧Aside0 (Below w.heap.size w w'))
 case atStart => exact ⟨(y168),(0),QD,H',⟨Nat.le_refl _⟩,⟨RA HO170.out⟩,⟨BB HB⟩⟩
 case round =>
  clear H';try clear p2
  obtain ⟨x4_1,x5_1,rfl,HA,HK1,HO_4,HB⟩:=hrel;cases gk with
  | zero => exact absurd HA.out (by simp [r05_Read.l0])
  | succ k1 =>
   have H:=HA.out;clear HA;simp only [r05_Read.l0] at H;by_cases c4:x5_1 < (a0.size:Int)
   ·rw [if_pos c4] at H;have c4b0:decide (x5_1 < (a0.size:Int)) = true:=decide_eq_true c4;clear c4;replace H:=Option.bind_eq_some_iff.mp H;obtain ⟨⟨t171,t172⟩,A50,H⟩:=H;replace H:(if t172 = 0 then (some (x4_1,x5_1)) else (if x4_1.length < 35184372088832 then (r05_Read.l0 k1 a0 (x4_1 ++ [t171]) (wrap64 (x5_1+t172))) else (none))) = some (r1,r2):=H;have A5:=AM A50;clear A50;by_cases c6:t172 = 0
    ·rw [if_pos c6] at H;have c6b0:(t172 == 0) = true:=beq_iff_eq.mpr c6;have c6b1:(t172 != 0) = false:=bne_eq_false_iff_eq.mpr c6;clear c6;simp only [Option.some.injEq,Prod.mk.injEq] at H;obtain ⟨rfl,rfl⟩:=H;go_wp2_with (first | ((with_reducible refine gate_callee (f:=98) rfl ?_);refine goesM_ (some 16) rfl rfl Tryd.func98 #[.string a0,.int .i64 x5_1] rfl ?_;(with_reducible refine (r05_At.calls k1 a0 x5_1 t171 t172 _ A5.out).mono ?_);rintro e w7 ⟨rfl,hb⟩;refine ⟨_,rfl,?_⟩;replace HO_4:=AM (Kd.R_below (RL HO_4) hb);replace HB:=BS HB hb;(try clear hb);(try clear hb2);(try clear hk);(try clear hi)))
     go_ret2
     exact ⟨_,by first | rfl | (simp [errW_none,errW_some] <;> rfl) | (simp [*,errW_none,errW_some] <;> rfl),RA HO_4.out,BB HB⟩
    ·rw [if_neg c6] at H;have c6b0:(t172 == 0) = false:=beq_eq_false_iff_ne.mpr c6;have c6b1:(t172 != 0) = true:=bne_iff_ne.mpr c6;by_cases c8:x4_1.length < 35184372088832
     ·rw [if_pos c8] at H;have LMc8:=AM c8;clear c8;obtain ⟨y173,hy173⟩:∃ y_:List Int,y_ = (x4_1 ++ [t171]):=⟨_,rfl⟩;replace H:(r05_Read.l0 k1 a0 y173 (wrap64 (x5_1+t172))) = some (r1,r2):=QH hy173 H
      have Ny173:=AM hy173;clear hy173;have H':=AM H;clear H;go_wp2_with (first | ((with_reducible refine gate_callee (f:=98) rfl ?_);refine goesM_ (some 16) rfl rfl Tryd.func98 #[.string a0,.int .i64 x5_1] rfl ?_;(with_reducible refine (r05_At.calls k1 a0 x5_1 t171 t172 _ A5.out).mono ?_);rintro e w9 ⟨rfl,hb⟩;refine ⟨_,rfl,?_⟩;replace HO_4:=AM (Kd.R_below (RL HO_4) hb);replace HB:=BS HB hb;(try clear hb);(try clear hb2);(try clear hk);(try clear hi)) | ((with_reducible refine gate_builtin (b:=.append) (xs:=#[.tmp 23,.tmp 25]) rfl ?_);at_builtin;refine Kd.R_append (Kd.int .i32) (w0:=w) w.heap.size rfl (.tmp 23) (.tmp 25) 103 21 (.int .i32 0) 4 rfl Tryd.underlying103 info21 rfl (by decide) (by omega) u4 x4_1 t171 [.int .i32 t171] (fun _ => True) (fun _ => False) rfl rfl ?aP (fun _ hk => hk.elim) ?aF ?aO ?aB ?aS ?aL ?_;(case aP => exact rfl);(case aB => exact (BB HB));(case aF => exact (fun _ _ => trivial));(case aO => exact (RL HO_4));(case aS => exact (below_size (BB HB)));(case aL => have:=LMc8.out;omega);intro v174 w10 ho hb hg hat;rw [← Ny173.out] at ho;replace HB:=AM (hb);have HO175:=AM (ho);clear HO_4;clear ho hb hg hat))
      go_roundg k1
      case measure => have:=HK1.out;omega
      case rel => exact ⟨(y173),(wrap64 (x5_1+t172)),QD,H',⟨by have:=HK1.out;omega⟩,⟨RA HO175.out⟩,⟨BB HB⟩⟩
     ·rw [if_neg c8] at H;exact absurd H (by simp)
   ·rw [if_neg c4] at H;have c4b0:decide (x5_1 < (a0.size:Int)) = false:=decide_eq_false c4;clear c4;simp only [Option.some.injEq,Prod.mk.injEq] at H;obtain ⟨rfl,rfl⟩:=H;go_wp2
    go_ret2
    exact ⟨_,by first | rfl | (simp [errW_none,errW_some] <;> rfl) | (simp [*,errW_none,errW_some] <;> rfl),RA HO_4.out,BB HB⟩
def r05_Right.f (k:Nat) (a0:ByteArray):Option (Bool):=(r05_Read.f k a0).bind fun bt176 => (some (bt176.2 == (a0.size:Int)))
theorem r05_Right.calls (k:Nat) (a0:ByteArray) (r:Bool) (w:World) (h:r05_Right.f k a0 = some r) :
  Calls Tryd.prog 77 #[.string a0] w fun e w' => e = .returned (.bool r)∧Below w.heap.size w w':=by
 have HB:=AM (Below.refl w.heap.size w);have H:((r05_Read.f k a0).bind fun bt176 => (some (bt176.2 == (a0.size:Int)))) = some r:=h;clear h;replace H:=Option.bind_eq_some_iff.mp H;obtain ⟨⟨t176,t177⟩,A20,H⟩:=H;replace H:(some (t177 == (a0.size:Int))) = some r:=H;have A2:=AM A20;clear A20;obtain rfl:=Option.some.inj H;go_enter Tryd.func77,Tryd.ntmps77;go_wp2_with (first | ((with_reducible refine gate_callee (f:=92) rfl ?_);refine goesM_ (some 7) rfl rfl Tryd.func92 #[.string a0] rfl ?_;(with_reducible refine (r05_Read.calls k a0 t176 t177 _ A2.out).mono ?_);rintro e w3 ⟨v178,rfl,ho0,hb⟩;refine ⟨_,rfl,?_⟩;have HO179:=AM (Kd.R_lower ho0 (below_size (BB HB)));replace HB:=BS HB hb;(try clear hb);(try clear hb2);(try clear hk);(try clear hi);(try clear ho0)))
 go_ret;exact RT (BB HB)
mutual
def r08_Check.l0:Nat→Int→Int→List Int→List ByteArray→List Int→List Int→Int→Int→Int→Option (Int)
 | 0,_,_,_,_,_,_,_,_,_ => none
 | k+1,x5,x181000,x181001,x181002,x181003,x182000,x182001,x182002,x182003 => if x5 < (x181001.length:Int) then (if 0≤x5 then (if x5 < (x182000.length:Int) then ((r07_In.f (rd x182000 x5) (rd x181001 x5)).bind fun t184 => (if t184 = true then (r08_Check.l0 k (wrap64 (x5+1)) x181000 x181001 x181002 x181003 x182000 x182001 x182002 x182003) else (some 10))) else (none)) else (none)) else (if (x181002.length:Int) = x182001 then (r08_Check.l1 k 0 x181000 x181001 x181002 x181003 x182000 x182001 x182002 x182003) else (some 11))
def r08_Check.l1:Nat→Int→Int→List Int→List ByteArray→List Int→List Int→Int→Int→Int→Option (Int)
 | 0,_,_,_,_,_,_,_,_,_ => none
 | k+1,x6,x181000,x181001,x181002,x181003,x182000,x182001,x182002,x182003 => if x6 < (x181002.length:Int) then (if 0≤x6 then ((r05_Right.f k (rdOf ByteArray.empty x181002 x6)).bind fun t186 => (if t186 = true then (r08_Check.l1 k (wrap64 (x6+1)) x181000 x181001 x181002 x181003 x182000 x182001 x182002 x182003) else (some 11))) else (none)) else (if (x181003.length:Int) < x182002 then (some 12) else (if x182003 ≥ 0 then (if (x181003.length:Int) > x182003 then (some 12) else (some 0)) else (some 0)))
end
def r08_Check.f (k:Nat) (a0_0:Int) (l0_1:List Int) (l0_2:List ByteArray) (l0_3:List Int) (l1_0:List Int) (a1_1:Int) (a1_2:Int) (a1_3:Int):Option (Int):=if (l0_1.length:Int) = (l1_0.length:Int) then (r08_Check.l0 k 0 a0_0 l0_1 l0_2 l0_3 l1_0 a1_1 a1_2 a1_3) else (some 10)
theorem r08_Check.calls (k:Nat) (a0_0:Int) (A0_1:Option Addr) (c0_1:Nat) (l0_1:List Int) (A0_2:Option Addr) (c0_2:Nat) (l0_2:List ByteArray) (A0_3:Option Addr) (c0_3:Nat) (l0_3:List Int) (A1_0:Option Addr) (c1_0:Nat) (l1_0:List Int) (a1_1:Int) (a1_2:Int) (a1_3:Int) (r:Int) (w:World) (hr0_1:Kd.C (Kd.int .i64) w A0_1 l0_1.length l0_1) (hc0_1:l0_1.length≤c0_1) (hr0_2:Kd.C Kd.string w A0_2 l0_2.length l0_2) (hc0_2:l0_2.length≤c0_2) (hr0_3:Kd.C (Kd.int .i64) w A0_3 l0_3.length l0_3) (hc0_3:l0_3.length≤c0_3) (hr1_0:Kd.C (Kd.int .i64) w A1_0 l1_0.length l1_0) (hc1_0:l1_0.length≤c1_0) (h:r08_Check.f k a0_0 l0_1 l0_2 l0_3 l1_0 a1_1 a1_2 a1_3 = some r) :
  Calls Tryd.prog 47 #[.agg #[.int .i64 a0_0,.slice A0_1 l0_1.length c0_1,.slice A0_2 l0_2.length c0_2,.slice A0_3 l0_3.length c0_3],.agg #[.slice A1_0 l1_0.length c1_0,.int .i64 a1_1,.int .i64 a1_2,.int .i64 a1_3]] w fun e w' => e = .returned (.int .i64 r)∧Below w.heap.size w w':=by
 have hu53:=Tryd.underlying53;have hu57:=Tryd.underlying57;have HR0_1:=AM hr0_1;have HC0_1:=AM hc0_1;clear hr0_1 hc0_1;have HR0_2:=AM hr0_2;have HC0_2:=AM hc0_2;clear hr0_2 hc0_2;have HR0_3:=AM hr0_3;have HC0_3:=AM hc0_3;clear hr0_3 hc0_3;have HR1_0:=AM hr1_0;have HC1_0:=AM hc1_0;clear hr1_0 hc1_0;have HB:=AM (Below.refl w.heap.size w);have H:(if (l0_1.length:Int) = (l1_0.length:Int) then (r08_Check.l0 k 0 a0_0 l0_1 l0_2 l0_3 l1_0 a1_1 a1_2 a1_3) else (some 10)) = some r:=h;clear h;by_cases c3:(l0_1.length:Int) = (l1_0.length:Int)
 ·rw [if_pos c3] at H;have c3b0:((l0_1.length:Int) == (l1_0.length:Int)) = true:=beq_iff_eq.mpr c3;have c3b1:((l0_1.length:Int) != (l1_0.length:Int)) = false:=bne_eq_false_iff_eq.mpr c3;have c3b2:(l0_1.length == l1_0.length) = true:=by first | simpa using c3 | (simp at c3 ⊢;omega)
  clear c3;have H':=AM H;clear H;go_enter Tryd.func47,Tryd.ntmps47;go_wp2_with (first | ((with_reducible refine gate_dst (N:=2) rfl ?_);refine boxE 2 #[.int .i64 a0_0,.slice A0_1 l0_1.length c0_1,.slice A0_2 l0_2.length c0_2,.slice A0_3 l0_3.length c0_3] 53 ?_;intro gb180 hg w4 hbox hb;have BK180:=AM (hbox);have GW180:=GW HB hg;have GE180:=GW HB hg;replace HB:=BS HB hb;clear hb hbox hg) | ((with_reducible refine gate_dst (N:=3) rfl ?_);refine boxE 3 #[.slice A1_0 l1_0.length c1_0,.int .i64 a1_1,.int .i64 a1_2,.int .i64 a1_3] 57 ?_;intro gb181 hg w5 hbox hb;have BK181:=AM (hbox);have GW181:=GW HB hg;have GE181:=GW HB hg;replace HB:=BS HB hb;have NB180_181:=NL BK180 hg;have NB181_180:=NG BK180 hg;replace BK180:=BE BK180 hb;clear hb hbox hg;have hnb6:=NB180_181.out;have hnc6:=NB181_180.out;have hcz7_0:=BC BK180 0 (.int .i64 a0_0) rfl;have hcz7_1:=BC BK180 1 (.slice A0_1 l0_1.length c0_1) rfl;have hcz7_2:=BC BK180 2 (.slice A0_2 l0_2.length c0_2) rfl;have hcz7_3:=BC BK180 3 (.slice A0_3 l0_3.length c0_3) rfl;have hfz7_0:=BF BK180 0;have hfz7_1:=BF BK180 1;have hfz7_2:=BF BK180 2;have hfz7_3:=BF BK180 3;have hcz8_0:=BC BK181 0 (.slice A1_0 l1_0.length c1_0) rfl;have hcz8_1:=BC BK181 1 (.int .i64 a1_1) rfl;have hcz8_2:=BC BK181 2 (.int .i64 a1_2) rfl;have hcz8_3:=BC BK181 3 (.int .i64 a1_3) rfl;have hfz8_0:=BF BK181 0;have hfz8_1:=BF BK181 1;have hfz8_2:=BF BK181 2;have hfz8_3:=BF BK181 3))
  repeat (go_quiet (first | ((with_reducible refine gate_dst (N:=2) rfl ?_);refine boxE 2 #[.int .i64 a0_0,.slice A0_1 l0_1.length c0_1,.slice A0_2 l0_2.length c0_2,.slice A0_3 l0_3.length c0_3] 53 ?_;intro gb180 hg w4 hbox hb;have BK180:=AM (hbox);have GW180:=GW HB hg;have GE180:=GW HB hg;replace HB:=BS HB hb;clear hb hbox hg) | ((with_reducible refine gate_dst (N:=3) rfl ?_);refine boxE 3 #[.slice A1_0 l1_0.length c1_0,.int .i64 a1_1,.int .i64 a1_2,.int .i64 a1_3] 57 ?_;intro gb181 hg w5 hbox hb;have BK181:=AM (hbox);have GW181:=GW HB hg;have GE181:=GW HB hg;replace HB:=BS HB hb;have NB180_181:=NL BK180 hg;have NB181_180:=NG BK180 hg;replace BK180:=BE BK180 hb;clear hb hbox hg;have hnb6:=NB180_181.out;have hnc6:=NB181_180.out;have hcz7_0:=BC BK180 0 (.int .i64 a0_0) rfl;have hcz7_1:=BC BK180 1 (.slice A0_1 l0_1.length c0_1) rfl;have hcz7_2:=BC BK180 2 (.slice A0_2 l0_2.length c0_2) rfl;have hcz7_3:=BC BK180 3 (.slice A0_3 l0_3.length c0_3) rfl;have hfz7_0:=BF BK180 0;have hfz7_1:=BF BK180 1;have hfz7_2:=BF BK180 2;have hfz7_3:=BF BK180 3;have hcz8_0:=BC BK181 0 (.slice A1_0 l1_0.length c1_0) rfl;have hcz8_1:=BC BK181 1 (.int .i64 a1_1) rfl;have hcz8_2:=BC BK181 2 (.int .i64 a1_2) rfl;have hcz8_3:=BC BK181 3 (.int .i64 a1_3) rfl;have hfz8_0:=BF BK181 0;have hfz8_1:=BF BK181 1;have hfz8_2:=BF BK181 2;have hfz8_3:=BF BK181 3));try go_wp2_with (first | ((with_reducible refine gate_dst (N:=2) rfl ?_);refine boxE 2 #[.int .i64 a0_0,.slice A0_1 l0_1.length c0_1,.slice A0_2 l0_2.length c0_2,.slice A0_3 l0_3.length c0_3] 53 ?_;intro gb180 hg w4 hbox hb;have BK180:=AM (hbox);have GW180:=GW HB hg;have GE180:=GW HB hg;replace HB:=BS HB hb;clear hb hbox hg) | ((with_reducible refine gate_dst (N:=3) rfl ?_);refine boxE 3 #[.slice A1_0 l1_0.length c1_0,.int .i64 a1_1,.int .i64 a1_2,.int .i64 a1_3] 57 ?_;intro gb181 hg w5 hbox hb;have BK181:=AM (hbox);have GW181:=GW HB hg;have GE181:=GW HB hg;replace HB:=BS HB hb;have NB180_181:=NL BK180 hg;have NB181_180:=NG BK180 hg;replace BK180:=BE BK180 hb;clear hb hbox hg;have hnb6:=NB180_181.out;have hnc6:=NB181_180.out;have hcz7_0:=BC BK180 0 (.int .i64 a0_0) rfl;have hcz7_1:=BC BK180 1 (.slice A0_1 l0_1.length c0_1) rfl;have hcz7_2:=BC BK180 2 (.slice A0_2 l0_2.length c0_2) rfl;have hcz7_3:=BC BK180 3 (.slice A0_3 l0_3.length c0_3) rfl;have hfz7_0:=BF BK180 0;have hfz7_1:=BF BK180 1;have hfz7_2:=BF BK180 2;have hfz7_3:=BF BK180 3;have hcz8_0:=BC BK181 0 (.slice A1_0 l1_0.length c1_0) rfl;have hcz8_1:=BC BK181 1 (.int .i64 a1_1) rfl;have hcz8_2:=BC BK181 2 (.int .i64 a1_2) rfl;have hcz8_3:=BC BK181 3 (.int .i64 a1_3) rfl;have hfz8_0:=BF BK181 0;have hfz8_1:=BF BK181 1;have hfz8_2:=BF BK181 2;have hfz8_3:=BF BK181 3)))
  go_loopg [5] k (fun kq v5 w' => ∃ (x5_1:Int),v5 = .int .i64 x5_1∧Aside0 (r08_Check.l0 kq x5_1 a0_0 l0_1 l0_2 l0_3 l1_0 a1_1 a1_2 a1_3 = some r)∧Aside0 (kq≤k)∧Aside0 (w'.heap[gb180]? = some (.cells #[.int .i64 a0_0,(.slice A0_1 l0_1.length c0_1),(.slice A0_2 l0_2.length c0_2),(.slice A0_3 l0_3.length c0_3)] 53 (0,0)))∧Aside0 (w'.heap[gb181]? = some (.cells #[(.slice A1_0 l1_0.length c1_0),.int .i64 a1_1,.int .i64 a1_2,.int .i64 a1_3] 57 (0,0)))∧Aside0 (Below w.heap.size w w'))
  case atStart => exact ⟨(0),QD,H',⟨Nat.le_refl _⟩,⟨BL BK180⟩,⟨BL BK181⟩,⟨BB HB⟩⟩
  case round =>
   clear H';try clear c1
   try clear p2
   try clear c3
   try clear c3b0
   try clear c3b1
   try clear c3b2
   try clear c4
   try clear c6
   try clear hcz7_0
   try clear hcz7_1
   try clear hcz7_2
   try clear hcz7_3
   try clear hcz8_0
   try clear hcz8_1
   try clear hcz8_2
   try clear hcz8_3
   try clear hfz7_0
   try clear hfz7_1
   try clear hfz7_2
   try clear hfz7_3
   try clear hfz8_0
   try clear hfz8_1
   try clear hfz8_2
   try clear hfz8_3
   obtain ⟨x5_1,rfl,HA,HK1,BK180,BK181,HB⟩:=hrel;cases gk with
   | zero => exact absurd HA.out (by simp [r08_Check.l0])
   | succ k1 =>
    have H:=HA.out;clear HA;simp only [r08_Check.l0] at H;by_cases c9:x5_1 < (l0_1.length:Int)
    ·rw [if_pos c9] at H;have c9b0:decide (x5_1 < (l0_1.length:Int)) = true:=decide_eq_true c9;clear c9;by_cases c10:0≤x5_1
     ·rw [if_pos c10] at H;have c10b0:decide (0≤x5_1) = true:=decide_eq_true c10;clear c10;by_cases c11:x5_1 < (l1_0.length:Int)
      ·rw [if_pos c11] at H;have c11b0:decide (x5_1 < (l1_0.length:Int)) = true:=decide_eq_true c11;clear c11;replace H:=Option.bind_eq_some_iff.mp H;obtain ⟨t184,A120,H⟩:=H;replace H:(if t184 = true then (r08_Check.l0 k1 (wrap64 (x5_1+1)) a0_0 l0_1 l0_2 l0_3 l1_0 a1_1 a1_2 a1_3) else (some 10)) = some r:=H;have A12:=AM A120;clear A120;by_cases c13:t184 = true
       ·subst c13;have H1:(r08_Check.l0 k1 (wrap64 (x5_1+1)) a0_0 l0_1 l0_2 l0_3 l1_0 a1_1 a1_2 a1_3) = some r:=by rw [if_pos rfl] at H;exact H
        clear H;have H:=H1;clear H1;have H':=AM H;clear H;have hnb14:=NB180_181.out;have hnc14:=NB181_180.out;have hcz15_0:=BC BK180 0 (.int .i64 a0_0) rfl;have hcz15_1:=BC BK180 1 (.slice A0_1 l0_1.length c0_1) rfl;have hcz15_2:=BC BK180 2 (.slice A0_2 l0_2.length c0_2) rfl;have hcz15_3:=BC BK180 3 (.slice A0_3 l0_3.length c0_3) rfl;have hfz15_0:=BF BK180 0;have hfz15_1:=BF BK180 1;have hfz15_2:=BF BK180 2;have hfz15_3:=BF BK180 3;have hcz16_0:=BC BK181 0 (.slice A1_0 l1_0.length c1_0) rfl;have hcz16_1:=BC BK181 1 (.int .i64 a1_1) rfl;have hcz16_2:=BC BK181 2 (.int .i64 a1_2) rfl;have hcz16_3:=BC BK181 3 (.int .i64 a1_3) rfl;have hfz16_0:=BF BK181 0;have hfz16_1:=BF BK181 1;have hfz16_2:=BF BK181 2;have hfz16_3:=BF BK181 3;have p182:0≤(x5_1:Int):=OD;have q182:x5_1 < (l1_0.length:Int):=OD;obtain ⟨ad182,e182,hx182_0⟩:=Kd.at_int HR1_0.out x5_1 p182 q182;cases e182
        replace hx182_0:=CL HB hx182_0;replace p182:=eq_true p182;replace q182:=eq_true q182;have p183:0≤(x5_1:Int):=OD;have q183:x5_1 < (l0_1.length:Int):=OD;obtain ⟨ad183,e183,hx183_0⟩:=Kd.at_int HR0_1.out x5_1 p183 q183;cases e183
        replace hx183_0:=CL HB hx183_0;replace p183:=eq_true p183;replace q183:=eq_true q183;go_wp2_with (first | (go_at_call 76;(with_reducible refine (r07_In.calls (rd l1_0 x5_1) (rd l0_1 x5_1) true _ A12.out).mono ?_);rintro e w' ⟨rfl,⟨nd,rfl⟩⟩;(try first | exact ⟨rfl,_,World.drewN_drewN _ _ _⟩ | exact ⟨rfl,_,Eq.trans (World.drewN_drewN _ _ _) (congrArg (World.drewN _) (Nat.add_assoc _ _ _))⟩)))
        repeat (go_quiet (first | (go_at_call 76;(with_reducible refine (r07_In.calls (rd l1_0 x5_1) (rd l0_1 x5_1) true _ A12.out).mono ?_);rintro e w' ⟨rfl,⟨nd,rfl⟩⟩;(try first | exact ⟨rfl,_,World.drewN_drewN _ _ _⟩ | exact ⟨rfl,_,Eq.trans (World.drewN_drewN _ _ _) (congrArg (World.drewN _) (Nat.add_assoc _ _ _))⟩)));try go_wp2_with (first | (go_at_call 76;(with_reducible refine (r07_In.calls (rd l1_0 x5_1) (rd l0_1 x5_1) true _ A12.out).mono ?_);rintro e w' ⟨rfl,⟨nd,rfl⟩⟩;(try first | exact ⟨rfl,_,World.drewN_drewN _ _ _⟩ | exact ⟨rfl,_,Eq.trans (World.drewN_drewN _ _ _) (congrArg (World.drewN _) (Nat.add_assoc _ _ _))⟩))))
        go_roundg k1
        case measure => have:=HK1.out;omega
        case rel => exact ⟨(wrap64 (x5_1+1)),QD,H',⟨by have:=HK1.out;omega⟩,⟨BL BK180⟩,⟨BL BK181⟩,⟨BB HB⟩⟩
       ·replace c13:=Bool.eq_false_iff.mpr c13;subst c13;have H1:(some 10) = some r:=by rw [if_neg (show ¬ (false = true) by decide)] at H;exact H
        clear H;have H:=H1;clear H1;obtain rfl:=Option.some.inj H;have hnb17:=NB180_181.out;have hnc17:=NB181_180.out;have hcz18_0:=BC BK180 0 (.int .i64 a0_0) rfl;have hcz18_1:=BC BK180 1 (.slice A0_1 l0_1.length c0_1) rfl;have hcz18_2:=BC BK180 2 (.slice A0_2 l0_2.length c0_2) rfl;have hcz18_3:=BC BK180 3 (.slice A0_3 l0_3.length c0_3) rfl;have hfz18_0:=BF BK180 0;have hfz18_1:=BF BK180 1;have hfz18_2:=BF BK180 2;have hfz18_3:=BF BK180 3;have hcz19_0:=BC BK181 0 (.slice A1_0 l1_0.length c1_0) rfl;have hcz19_1:=BC BK181 1 (.int .i64 a1_1) rfl;have hcz19_2:=BC BK181 2 (.int .i64 a1_2) rfl;have hcz19_3:=BC BK181 3 (.int .i64 a1_3) rfl;have hfz19_0:=BF BK181 0;have hfz19_1:=BF BK181 1;have hfz19_2:=BF BK181 2;have hfz19_3:=BF BK181 3;have p182:0≤(x5_1:Int):=OD;have q182:x5_1 < (l1_0.length:Int):=OD;obtain ⟨ad182,e182,hx182_0⟩:=Kd.at_int HR1_0.out x5_1 p182 q182;cases e182
        replace hx182_0:=CL HB hx182_0;replace p182:=eq_true p182;replace q182:=eq_true q182;have p183:0≤(x5_1:Int):=OD;have q183:x5_1 < (l0_1.length:Int):=OD;obtain ⟨ad183,e183,hx183_0⟩:=Kd.at_int HR0_1.out x5_1 p183 q183;cases e183
        replace hx183_0:=CL HB hx183_0;replace p183:=eq_true p183;replace q183:=eq_true q183;go_wp2_with (first | (go_at_call 76;(with_reducible refine (r07_In.calls (rd l1_0 x5_1) (rd l0_1 x5_1) false _ A12.out).mono ?_);rintro e w' ⟨rfl,⟨nd,rfl⟩⟩;(try first | exact ⟨rfl,_,World.drewN_drewN _ _ _⟩ | exact ⟨rfl,_,Eq.trans (World.drewN_drewN _ _ _) (congrArg (World.drewN _) (Nat.add_assoc _ _ _))⟩)))
        repeat (go_quiet (first | (go_at_call 76;(with_reducible refine (r07_In.calls (rd l1_0 x5_1) (rd l0_1 x5_1) false _ A12.out).mono ?_);rintro e w' ⟨rfl,⟨nd,rfl⟩⟩;(try first | exact ⟨rfl,_,World.drewN_drewN _ _ _⟩ | exact ⟨rfl,_,Eq.trans (World.drewN_drewN _ _ _) (congrArg (World.drewN _) (Nat.add_assoc _ _ _))⟩)));try go_wp2_with (first | (go_at_call 76;(with_reducible refine (r07_In.calls (rd l1_0 x5_1) (rd l0_1 x5_1) false _ A12.out).mono ?_);rintro e w' ⟨rfl,⟨nd,rfl⟩⟩;(try first | exact ⟨rfl,_,World.drewN_drewN _ _ _⟩ | exact ⟨rfl,_,Eq.trans (World.drewN_drewN _ _ _) (congrArg (World.drewN _) (Nat.add_assoc _ _ _))⟩))))
        go_ret;exact RT (BB HB)
      ·rw [if_neg c11] at H;exact absurd H (by simp)
     ·rw [if_neg c10] at H;exact absurd H (by simp)
    ·rw [if_neg c9] at H;have c9b0:decide (x5_1 < (l0_1.length:Int)) = false:=decide_eq_false c9;clear c9;by_cases c20:(l0_2.length:Int) = a1_1
     ·rw [if_pos c20] at H;have c20b0:((l0_2.length:Int) == a1_1) = true:=beq_iff_eq.mpr c20;have c20b1:((l0_2.length:Int) != a1_1) = false:=bne_eq_false_iff_eq.mpr c20;clear c20;have H':=AM H;clear H;have hnb21:=NB180_181.out;have hnc21:=NB181_180.out;have hcz22_0:=BC BK180 0 (.int .i64 a0_0) rfl;have hcz22_1:=BC BK180 1 (.slice A0_1 l0_1.length c0_1) rfl;have hcz22_2:=BC BK180 2 (.slice A0_2 l0_2.length c0_2) rfl;have hcz22_3:=BC BK180 3 (.slice A0_3 l0_3.length c0_3) rfl;have hfz22_0:=BF BK180 0;have hfz22_1:=BF BK180 1;have hfz22_2:=BF BK180 2;have hfz22_3:=BF BK180 3;have hcz23_0:=BC BK181 0 (.slice A1_0 l1_0.length c1_0) rfl;have hcz23_1:=BC BK181 1 (.int .i64 a1_1) rfl;have hcz23_2:=BC BK181 2 (.int .i64 a1_2) rfl;have hcz23_3:=BC BK181 3 (.int .i64 a1_3) rfl;have hfz23_0:=BF BK181 0;have hfz23_1:=BF BK181 1;have hfz23_2:=BF BK181 2;have hfz23_3:=BF BK181 3;go_wp2
      repeat (go_quiet (fail);try go_wp2)
      go_loopg [6] k1 (fun kq v6 w' => ∃ (x6_2:Int),v6 = .int .i64 x6_2∧Aside0 (r08_Check.l1 kq x6_2 a0_0 l0_1 l0_2 l0_3 l1_0 a1_1 a1_2 a1_3 = some r)∧Aside0 (kq≤k1)∧Aside0 (w'.heap[gb180]? = some (.cells #[.int .i64 a0_0,(.slice A0_1 l0_1.length c0_1),(.slice A0_2 l0_2.length c0_2),(.slice A0_3 l0_3.length c0_3)] 53 (0,0)))∧Aside0 (w'.heap[gb181]? = some (.cells #[(.slice A1_0 l1_0.length c1_0),.int .i64 a1_1,.int .i64 a1_2,.int .i64 a1_3] 57 (0,0)))∧Aside0 (Below w.heap.size w w'))
      case atStart => exact ⟨(0),QD,H',⟨Nat.le_refl _⟩,⟨BL BK180⟩,⟨BL BK181⟩,⟨BB HB⟩⟩
      case round =>
       clear H';try clear c1
       try clear p1
       try clear q1
       try clear hx1
       try clear c2
       try clear p2
       try clear c3
       try clear c3b0
       try clear c3b1
       try clear c3b2
       try clear c4
       try clear c6
       try clear p6
       try clear c9
       try clear c9b0
       try clear c10
       try clear c10b0
       try clear c11
       try clear c11b0
       try clear c13
       try clear c14
       try clear c17
       try clear p18
       try clear q18
       try clear hx18
       try clear c20
       try clear c20b0
       try clear c20b1
       try clear c21
       try clear hcz15_0
       try clear hcz15_1
       try clear hcz15_2
       try clear hcz15_3
       try clear hcz16_0
       try clear hcz16_1
       try clear hcz16_2
       try clear hcz16_3
       try clear hcz18_0
       try clear hcz18_1
       try clear hcz18_2
       try clear hcz18_3
       try clear hcz19_0
       try clear hcz19_1
       try clear hcz19_2
       try clear hcz19_3
       try clear hcz22_0
       try clear hcz22_1
       try clear hcz22_2
       try clear hcz22_3
       try clear hcz23_0
       try clear hcz23_1
       try clear hcz23_2
       try clear hcz23_3
       try clear hcz7_0
       try clear hcz7_1
       try clear hcz7_2
       try clear hcz7_3
       try clear hcz8_0
       try clear hcz8_1
       try clear hcz8_2
       try clear hcz8_3
       try clear hfz15_0
       try clear hfz15_1
       try clear hfz15_2
       try clear hfz15_3
       try clear hfz16_0
       try clear hfz16_1
       try clear hfz16_2
       try clear hfz16_3
       try clear hfz18_0
       try clear hfz18_1
       try clear hfz18_2
       try clear hfz18_3
       try clear hfz19_0
       try clear hfz19_1
       try clear hfz19_2
       try clear hfz19_3
       try clear hfz22_0
       try clear hfz22_1
       try clear hfz22_2
       try clear hfz22_3
       try clear hfz23_0
       try clear hfz23_1
       try clear hfz23_2
       try clear hfz23_3
       try clear hfz7_0
       try clear hfz7_1
       try clear hfz7_2
       try clear hfz7_3
       try clear hfz8_0
       try clear hfz8_1
       try clear hfz8_2
       try clear hfz8_3
       try clear hx182_0
       try clear hx183_0
       try clear p182
       try clear p183
       try clear p2
       try clear q182
       try clear q183
       obtain ⟨x6_2,rfl,HA,HK2,BK180,BK181,HB⟩:=hrel;cases gk with
       | zero => exact absurd HA.out (by simp [r08_Check.l1])
       | succ k2 =>
        have H:=HA.out;clear HA;simp only [r08_Check.l1] at H;by_cases c24:x6_2 < (l0_2.length:Int)
        ·rw [if_pos c24] at H;have c24b0:decide (x6_2 < (l0_2.length:Int)) = true:=decide_eq_true c24;clear c24;by_cases c25:0≤x6_2
         ·rw [if_pos c25] at H;have c25b0:decide (0≤x6_2) = true:=decide_eq_true c25;clear c25;replace H:=Option.bind_eq_some_iff.mp H;obtain ⟨t186,A260,H⟩:=H;replace H:(if t186 = true then (r08_Check.l1 k2 (wrap64 (x6_2+1)) a0_0 l0_1 l0_2 l0_3 l1_0 a1_1 a1_2 a1_3) else (some 11)) = some r:=H;have A26:=AM A260;clear A260;by_cases c27:t186 = true
          ·subst c27;have H1:(r08_Check.l1 k2 (wrap64 (x6_2+1)) a0_0 l0_1 l0_2 l0_3 l1_0 a1_1 a1_2 a1_3) = some r:=by rw [if_pos rfl] at H;exact H
           clear H;have H:=H1;clear H1;have H':=AM H;clear H;have hnb28:=NB180_181.out;have hnc28:=NB181_180.out;have hcz29_0:=BC BK180 0 (.int .i64 a0_0) rfl;have hcz29_1:=BC BK180 1 (.slice A0_1 l0_1.length c0_1) rfl;have hcz29_2:=BC BK180 2 (.slice A0_2 l0_2.length c0_2) rfl;have hcz29_3:=BC BK180 3 (.slice A0_3 l0_3.length c0_3) rfl;have hfz29_0:=BF BK180 0;have hfz29_1:=BF BK180 1;have hfz29_2:=BF BK180 2;have hfz29_3:=BF BK180 3;have p185:0≤(x6_2:Int):=OD;have q185:x6_2 < (l0_2.length:Int):=OD;obtain ⟨ad185,e185,hx185_0⟩:=Kd.at_string HR0_2.out x6_2 p185 q185;cases e185
           replace hx185_0:=CL HB hx185_0;replace p185:=eq_true p185;replace q185:=eq_true q185;go_wp2_with (first | (go_at_call 77;(with_reducible refine (r05_Right.calls k2 (rdOf ByteArray.empty l0_2 x6_2) true _ A26.out).mono ?_);rintro e w30 ⟨rfl,hb⟩;replace BK180:=BE BK180 hb;replace BK181:=BE BK181 hb;replace HB:=BS HB hb;(try clear hb);(try clear hb2);(try clear hk);(try clear hi)))
           repeat (go_quiet (first | (go_at_call 77;(with_reducible refine (r05_Right.calls k2 (rdOf ByteArray.empty l0_2 x6_2) true _ A26.out).mono ?_);rintro e w30 ⟨rfl,hb⟩;replace BK180:=BE BK180 hb;replace BK181:=BE BK181 hb;replace HB:=BS HB hb;(try clear hb);(try clear hb2);(try clear hk);(try clear hi)));try go_wp2_with (first | (go_at_call 77;(with_reducible refine (r05_Right.calls k2 (rdOf ByteArray.empty l0_2 x6_2) true _ A26.out).mono ?_);rintro e w30 ⟨rfl,hb⟩;replace BK180:=BE BK180 hb;replace BK181:=BE BK181 hb;replace HB:=BS HB hb;(try clear hb);(try clear hb2);(try clear hk);(try clear hi))))
           go_roundg k2
           case measure => have:=HK1.out;have:=HK2.out;omega
           case rel => exact ⟨(wrap64 (x6_2+1)),QD,H',⟨by have:=HK1.out;have:=HK2.out;omega⟩,⟨BL BK180⟩,⟨BL BK181⟩,⟨BB HB⟩⟩
          ·replace c27:=Bool.eq_false_iff.mpr c27;subst c27;have H1:(some 11) = some r:=by rw [if_neg (show ¬ (false = true) by decide)] at H;exact H
           clear H;have H:=H1;clear H1;obtain rfl:=Option.some.inj H;have hnb31:=NB180_181.out;have hnc31:=NB181_180.out;have hcz32_0:=BC BK180 0 (.int .i64 a0_0) rfl;have hcz32_1:=BC BK180 1 (.slice A0_1 l0_1.length c0_1) rfl;have hcz32_2:=BC BK180 2 (.slice A0_2 l0_2.length c0_2) rfl;have hcz32_3:=BC BK180 3 (.slice A0_3 l0_3.length c0_3) rfl;have hfz32_0:=BF BK180 0;have hfz32_1:=BF BK180 1;have hfz32_2:=BF BK180 2;have hfz32_3:=BF BK180 3;have p185:0≤(x6_2:Int):=OD;have q185:x6_2 < (l0_2.length:Int):=OD;obtain ⟨ad185,e185,hx185_0⟩:=Kd.at_string HR0_2.out x6_2 p185 q185;cases e185
           replace hx185_0:=CL HB hx185_0;replace p185:=eq_true p185;replace q185:=eq_true q185;go_wp2_with (first | (go_at_call 77;(with_reducible refine (r05_Right.calls k2 (rdOf ByteArray.empty l0_2 x6_2) false _ A26.out).mono ?_);rintro e w33 ⟨rfl,hb⟩;replace BK180:=BE BK180 hb;replace BK181:=BE BK181 hb;replace HB:=BS HB hb;(try clear hb);(try clear hb2);(try clear hk);(try clear hi)))
           repeat (go_quiet (first | (go_at_call 77;(with_reducible refine (r05_Right.calls k2 (rdOf ByteArray.empty l0_2 x6_2) false _ A26.out).mono ?_);rintro e w33 ⟨rfl,hb⟩;replace BK180:=BE BK180 hb;replace BK181:=BE BK181 hb;replace HB:=BS HB hb;(try clear hb);(try clear hb2);(try clear hk);(try clear hi)));try go_wp2_with (first | (go_at_call 77;(with_reducible refine (r05_Right.calls k2 (rdOf ByteArray.empty l0_2 x6_2) false _ A26.out).mono ?_);rintro e w33 ⟨rfl,hb⟩;replace BK180:=BE BK180 hb;replace BK181:=BE BK181 hb;replace HB:=BS HB hb;(try clear hb);(try clear hb2);(try clear hk);(try clear hi))))
           go_ret;exact RT (BB HB)
         ·rw [if_neg c25] at H;exact absurd H (by simp)
        ·rw [if_neg c24] at H;have c24b0:decide (x6_2 < (l0_2.length:Int)) = false:=decide_eq_false c24;clear c24;by_cases c34:(l0_3.length:Int) < a1_2
         ·rw [if_pos c34] at H;have c34b0:decide ((l0_3.length:Int) < a1_2) = true:=decide_eq_true c34;clear c34;obtain rfl:=Option.some.inj H;have hnb35:=NB180_181.out;have hnc35:=NB181_180.out;have hcz36_0:=BC BK180 0 (.int .i64 a0_0) rfl;have hcz36_1:=BC BK180 1 (.slice A0_1 l0_1.length c0_1) rfl;have hcz36_2:=BC BK180 2 (.slice A0_2 l0_2.length c0_2) rfl;have hcz36_3:=BC BK180 3 (.slice A0_3 l0_3.length c0_3) rfl;have hfz36_0:=BF BK180 0;have hfz36_1:=BF BK180 1;have hfz36_2:=BF BK180 2;have hfz36_3:=BF BK180 3;have hcz37_0:=BC BK181 0 (.slice A1_0 l1_0.length c1_0) rfl;have hcz37_1:=BC BK181 1 (.int .i64 a1_1) rfl;have hcz37_2:=BC BK181 2 (.int .i64 a1_2) rfl;have hcz37_3:=BC BK181 3 (.int .i64 a1_3) rfl;have hfz37_0:=BF BK181 0;have hfz37_1:=BF BK181 1;have hfz37_2:=BF BK181 2;have hfz37_3:=BF BK181 3;go_wp2
          repeat (go_quiet (fail);try go_wp2)
          go_ret;exact RT (BB HB)
         ·rw [if_neg c34] at H;have c34b0:decide ((l0_3.length:Int) < a1_2) = false:=decide_eq_false c34;clear c34;by_cases c38:a1_3 ≥ 0
          ·rw [if_pos c38] at H;have c38b0:decide (0≤a1_3) = true:=decide_eq_true c38;clear c38;by_cases c39:(l0_3.length:Int) > a1_3
           ·rw [if_pos c39] at H;have c39b0:decide (a1_3 < (l0_3.length:Int)) = true:=decide_eq_true c39;clear c39;obtain rfl:=Option.some.inj H;have hnb40:=NB180_181.out;have hnc40:=NB181_180.out;have hcz41_0:=BC BK180 0 (.int .i64 a0_0) rfl;have hcz41_1:=BC BK180 1 (.slice A0_1 l0_1.length c0_1) rfl;have hcz41_2:=BC BK180 2 (.slice A0_2 l0_2.length c0_2) rfl;have hcz41_3:=BC BK180 3 (.slice A0_3 l0_3.length c0_3) rfl;have hfz41_0:=BF BK180 0;have hfz41_1:=BF BK180 1;have hfz41_2:=BF BK180 2;have hfz41_3:=BF BK180 3;have hcz42_0:=BC BK181 0 (.slice A1_0 l1_0.length c1_0) rfl;have hcz42_1:=BC BK181 1 (.int .i64 a1_1) rfl;have hcz42_2:=BC BK181 2 (.int .i64 a1_2) rfl;have hcz42_3:=BC BK181 3 (.int .i64 a1_3) rfl;have hfz42_0:=BF BK181 0;have hfz42_1:=BF BK181 1;have hfz42_2:=BF BK181 2;have hfz42_3:=BF BK181 3;go_wp2
            repeat (go_quiet (fail);try go_wp2)
            go_ret;exact RT (BB HB)
           ·rw [if_neg c39] at H;have c39b0:decide (a1_3 < (l0_3.length:Int)) = false:=decide_eq_false c39;clear c39;obtain rfl:=Option.some.inj H;have hnb43:=NB180_181.out;have hnc43:=NB181_180.out;have hcz44_0:=BC BK180 0 (.int .i64 a0_0) rfl;have hcz44_1:=BC BK180 1 (.slice A0_1 l0_1.length c0_1) rfl;have hcz44_2:=BC BK180 2 (.slice A0_2 l0_2.length c0_2) rfl;have hcz44_3:=BC BK180 3 (.slice A0_3 l0_3.length c0_3) rfl;have hfz44_0:=BF BK180 0;have hfz44_1:=BF BK180 1;have hfz44_2:=BF BK180 2;have hfz44_3:=BF BK180 3;have hcz45_0:=BC BK181 0 (.slice A1_0 l1_0.length c1_0) rfl;have hcz45_1:=BC BK181 1 (.int .i64 a1_1) rfl;have hcz45_2:=BC BK181 2 (.int .i64 a1_2) rfl;have hcz45_3:=BC BK181 3 (.int .i64 a1_3) rfl;have hfz45_0:=BF BK181 0;have hfz45_1:=BF BK181 1;have hfz45_2:=BF BK181 2;have hfz45_3:=BF BK181 3;go_wp2
            repeat (go_quiet (fail);try go_wp2)
            go_ret;exact RT (BB HB)
          ·rw [if_neg c38] at H;have c38b0:decide (0≤a1_3) = false:=decide_eq_false c38;clear c38;obtain rfl:=Option.some.inj H;have hnb46:=NB180_181.out;have hnc46:=NB181_180.out;have hcz47_0:=BC BK180 0 (.int .i64 a0_0) rfl;have hcz47_1:=BC BK180 1 (.slice A0_1 l0_1.length c0_1) rfl;have hcz47_2:=BC BK180 2 (.slice A0_2 l0_2.length c0_2) rfl;have hcz47_3:=BC BK180 3 (.slice A0_3 l0_3.length c0_3) rfl;have hfz47_0:=BF BK180 0;have hfz47_1:=BF BK180 1;have hfz47_2:=BF BK180 2;have hfz47_3:=BF BK180 3;have hcz48_0:=BC BK181 0 (.slice A1_0 l1_0.length c1_0) rfl;have hcz48_1:=BC BK181 1 (.int .i64 a1_1) rfl;have hcz48_2:=BC BK181 2 (.int .i64 a1_2) rfl;have hcz48_3:=BC BK181 3 (.int .i64 a1_3) rfl;have hfz48_0:=BF BK181 0;have hfz48_1:=BF BK181 1;have hfz48_2:=BF BK181 2;have hfz48_3:=BF BK181 3;go_wp2
           repeat (go_quiet (fail);try go_wp2)
           go_ret;exact RT (BB HB)
     ·rw [if_neg c20] at H;have c20b0:((l0_2.length:Int) == a1_1) = false:=beq_eq_false_iff_ne.mpr c20;have c20b1:((l0_2.length:Int) != a1_1) = true:=bne_iff_ne.mpr c20;obtain rfl:=Option.some.inj H;have hnb49:=NB180_181.out;have hnc49:=NB181_180.out;have hcz50_0:=BC BK180 0 (.int .i64 a0_0) rfl;have hcz50_1:=BC BK180 1 (.slice A0_1 l0_1.length c0_1) rfl;have hcz50_2:=BC BK180 2 (.slice A0_2 l0_2.length c0_2) rfl;have hcz50_3:=BC BK180 3 (.slice A0_3 l0_3.length c0_3) rfl;have hfz50_0:=BF BK180 0;have hfz50_1:=BF BK180 1;have hfz50_2:=BF BK180 2;have hfz50_3:=BF BK180 3;have hcz51_0:=BC BK181 0 (.slice A1_0 l1_0.length c1_0) rfl;have hcz51_1:=BC BK181 1 (.int .i64 a1_1) rfl;have hcz51_2:=BC BK181 2 (.int .i64 a1_2) rfl;have hcz51_3:=BC BK181 3 (.int .i64 a1_3) rfl;have hfz51_0:=BF BK181 0;have hfz51_1:=BF BK181 1;have hfz51_2:=BF BK181 2;have hfz51_3:=BF BK181 3;go_wp2
      repeat (go_quiet (fail);try go_wp2)
      go_ret;exact RT (BB HB)
 ·rw [if_neg c3] at H;have c3b0:((l0_1.length:Int) == (l1_0.length:Int)) = false:=beq_eq_false_iff_ne.mpr c3;have c3b1:((l0_1.length:Int) != (l1_0.length:Int)) = true:=bne_iff_ne.mpr c3;have c3b2:(l0_1.length == l1_0.length) = false:=by first | simpa using c3 | (simp at c3 ⊢;omega)
  obtain rfl:=Option.some.inj H;go_enter Tryd.func47,Tryd.ntmps47;go_wp2_with (first | ((with_reducible refine gate_dst (N:=2) rfl ?_);refine boxE 2 #[.int .i64 a0_0,.slice A0_1 l0_1.length c0_1,.slice A0_2 l0_2.length c0_2,.slice A0_3 l0_3.length c0_3] 53 ?_;intro gb180 hg w52 hbox hb;have BK180:=AM (hbox);have GW180:=GW HB hg;have GE180:=GW HB hg;replace HB:=BS HB hb;clear hb hbox hg) | ((with_reducible refine gate_dst (N:=3) rfl ?_);refine boxE 3 #[.slice A1_0 l1_0.length c1_0,.int .i64 a1_1,.int .i64 a1_2,.int .i64 a1_3] 57 ?_;intro gb181 hg w53 hbox hb;have BK181:=AM (hbox);have GW181:=GW HB hg;have GE181:=GW HB hg;replace HB:=BS HB hb;have NB180_181:=NL BK180 hg;have NB181_180:=NG BK180 hg;replace BK180:=BE BK180 hb;clear hb hbox hg;have hnb54:=NB180_181.out;have hnc54:=NB181_180.out;have hcz55_0:=BC BK180 0 (.int .i64 a0_0) rfl;have hcz55_1:=BC BK180 1 (.slice A0_1 l0_1.length c0_1) rfl;have hcz55_2:=BC BK180 2 (.slice A0_2 l0_2.length c0_2) rfl;have hcz55_3:=BC BK180 3 (.slice A0_3 l0_3.length c0_3) rfl;have hfz55_0:=BF BK180 0;have hfz55_1:=BF BK180 1;have hfz55_2:=BF BK180 2;have hfz55_3:=BF BK180 3;have hcz56_0:=BC BK181 0 (.slice A1_0 l1_0.length c1_0) rfl;have hcz56_1:=BC BK181 1 (.int .i64 a1_1) rfl;have hcz56_2:=BC BK181 2 (.int .i64 a1_2) rfl;have hcz56_3:=BC BK181 3 (.int .i64 a1_3) rfl;have hfz56_0:=BF BK181 0;have hfz56_1:=BF BK181 1;have hfz56_2:=BF BK181 2;have hfz56_3:=BF BK181 3))
  repeat (go_quiet (first | ((with_reducible refine gate_dst (N:=2) rfl ?_);refine boxE 2 #[.int .i64 a0_0,.slice A0_1 l0_1.length c0_1,.slice A0_2 l0_2.length c0_2,.slice A0_3 l0_3.length c0_3] 53 ?_;intro gb180 hg w52 hbox hb;have BK180:=AM (hbox);have GW180:=GW HB hg;have GE180:=GW HB hg;replace HB:=BS HB hb;clear hb hbox hg) | ((with_reducible refine gate_dst (N:=3) rfl ?_);refine boxE 3 #[.slice A1_0 l1_0.length c1_0,.int .i64 a1_1,.int .i64 a1_2,.int .i64 a1_3] 57 ?_;intro gb181 hg w53 hbox hb;have BK181:=AM (hbox);have GW181:=GW HB hg;have GE181:=GW HB hg;replace HB:=BS HB hb;have NB180_181:=NL BK180 hg;have NB181_180:=NG BK180 hg;replace BK180:=BE BK180 hb;clear hb hbox hg;have hnb54:=NB180_181.out;have hnc54:=NB181_180.out;have hcz55_0:=BC BK180 0 (.int .i64 a0_0) rfl;have hcz55_1:=BC BK180 1 (.slice A0_1 l0_1.length c0_1) rfl;have hcz55_2:=BC BK180 2 (.slice A0_2 l0_2.length c0_2) rfl;have hcz55_3:=BC BK180 3 (.slice A0_3 l0_3.length c0_3) rfl;have hfz55_0:=BF BK180 0;have hfz55_1:=BF BK180 1;have hfz55_2:=BF BK180 2;have hfz55_3:=BF BK180 3;have hcz56_0:=BC BK181 0 (.slice A1_0 l1_0.length c1_0) rfl;have hcz56_1:=BC BK181 1 (.int .i64 a1_1) rfl;have hcz56_2:=BC BK181 2 (.int .i64 a1_2) rfl;have hcz56_3:=BC BK181 3 (.int .i64 a1_3) rfl;have hfz56_0:=BF BK181 0;have hfz56_1:=BF BK181 1;have hfz56_2:=BF BK181 2;have hfz56_3:=BF BK181 3));try go_wp2_with (first | ((with_reducible refine gate_dst (N:=2) rfl ?_);refine boxE 2 #[.int .i64 a0_0,.slice A0_1 l0_1.length c0_1,.slice A0_2 l0_2.length c0_2,.slice A0_3 l0_3.length c0_3] 53 ?_;intro gb180 hg w52 hbox hb;have BK180:=AM (hbox);have GW180:=GW HB hg;have GE180:=GW HB hg;replace HB:=BS HB hb;clear hb hbox hg) | ((with_reducible refine gate_dst (N:=3) rfl ?_);refine boxE 3 #[.slice A1_0 l1_0.length c1_0,.int .i64 a1_1,.int .i64 a1_2,.int .i64 a1_3] 57 ?_;intro gb181 hg w53 hbox hb;have BK181:=AM (hbox);have GW181:=GW HB hg;have GE181:=GW HB hg;replace HB:=BS HB hb;have NB180_181:=NL BK180 hg;have NB181_180:=NG BK180 hg;replace BK180:=BE BK180 hb;clear hb hbox hg;have hnb54:=NB180_181.out;have hnc54:=NB181_180.out;have hcz55_0:=BC BK180 0 (.int .i64 a0_0) rfl;have hcz55_1:=BC BK180 1 (.slice A0_1 l0_1.length c0_1) rfl;have hcz55_2:=BC BK180 2 (.slice A0_2 l0_2.length c0_2) rfl;have hcz55_3:=BC BK180 3 (.slice A0_3 l0_3.length c0_3) rfl;have hfz55_0:=BF BK180 0;have hfz55_1:=BF BK180 1;have hfz55_2:=BF BK180 2;have hfz55_3:=BF BK180 3;have hcz56_0:=BC BK181 0 (.slice A1_0 l1_0.length c1_0) rfl;have hcz56_1:=BC BK181 1 (.int .i64 a1_1) rfl;have hcz56_2:=BC BK181 2 (.int .i64 a1_2) rfl;have hcz56_3:=BC BK181 3 (.int .i64 a1_3) rfl;have hfz56_0:=BF BK181 0;have hfz56_1:=BF BK181 1;have hfz56_2:=BF BK181 2;have hfz56_3:=BF BK181 3)))
  go_ret;exact RT (BB HB)
end Go.Proofs.YtcphcaiiofeflaaDoor.GO
