
import Derived.Test.YtoigkneoaemcfaaDoorNoM2
import Derived.Test.YtoigkneoaemcfaaDoorNoGNx1
import Derived.Test.YtoigkneoaemcfaaDoorNoGNx4
import Derived.Test.YtoigkneoaemcfaaDoorNoM4
import Derived.Test.YtoigkneoaemcfaaDoorNoGNx11
namespace Go.Proofs.YtoigkneoaemcfaaDoor.GN
open Go.RowKit Go.Proofs.YtoigkneoaemcfaaDoorW.PrintWords Go.Proofs.YtoigkneoaemcfaaDoorW.PrintLast Go.Proofs.YtoigkneoaemcfaaDoorW.PrintMore
attribute [local go_sem] max2_int min2_int max_two min_two max_three min_three max_four min_four
set_option maxHeartbeats 8000000
set_option maxRecDepth 100000
set_option linter.unusedVariables false
set_option linter.unusedSimpArgs false
def limit_Valid.f (k:Nat) (l0_0:List (S40)) (a0_1:Int) (a1_0:Int) (a1_1:Int) (a1_2:Int) (a1_3:Int) (a1_4:Int):Option (Int × Int):=(limit_Right.f a1_0 a1_1 a1_2 a1_3 a1_4).bind fun t249 => (if t249 = true then ((limit_Typed.f k l0_0 a0_1).bind fun bt250 => (if bt250.1 = 0 then ((graph_Check.f k l0_0 a0_1).bind fun bt252 => (if bt252.1 = 0 then ((limit_Measure.f k l0_0 a0_1).bind fun bt254 => ((limit_Within.f bt254.1 bt254.2.1 bt254.2.2.1 bt254.2.2.2.1 bt254.2.2.2.2 a1_0 a1_1 a1_2 a1_3 a1_4).bind fun t259 => (if t259 = true then (some (0,0)) else (some (19,(-1)))))) else (some (bt252.1,bt252.2)))) else (some (bt250.1,bt250.2)))) else (some (1,(-1))))
def r06_Great.l0:Nat→List ByteArray→Int→Option (Bool)
 | 0,_,_ => none
 | k+1,x0,x3 => if x3 < (x0.length:Int) then (if 0≤x3 then (if ((rdOf ByteArray.empty x0 x3).size:Int) > 500 then (some true) else (r06_Great.l0 k x0 (wrap64 (x3+1)))) else (none)) else (some false)
def r06_Great.f (k:Nat) (l0:List ByteArray):Option (Bool):=if (l0.length:Int) > 200 then (some true) else (r06_Great.l0 k l0 0)
theorem r06_Great.calls (k:Nat) (A0:Option Addr) (c0:Nat) (l0:List ByteArray) (r:Bool) (w:World) (hr0:Kd.C Kd.string w A0 l0.length l0) (hc0:l0.length≤c0) (h:r06_Great.f k l0 = some r) :
  Calls Tryd.prog 45 #[.slice A0 l0.length c0] w fun e w' => e = .returned (.bool r)∧Drawn0 w w':=by
 have HR0:=AM hr0;have HC0:=AM hc0;clear hr0 hc0;have H:(if (l0.length:Int) > 200 then (some true) else (r06_Great.l0 k l0 0)) = some r:=h;clear h;by_cases c2:(l0.length:Int) > 200
 ·rw [if_pos c2] at H;have c2b0:decide (200 < (l0.length:Int)) = true:=decide_eq_true c2;have c2b1:decide (200 < l0.length) = true:=decide_eq_true (by omega);clear c2;obtain rfl:=Option.some.inj H;go_enter Tryd.func45,Tryd.ntmps45;go_wp2
  go_ret;exact ⟨QD,DZ⟩
 ·rw [if_neg c2] at H;have c2b0:decide (200 < (l0.length:Int)) = false:=decide_eq_false c2;have c2b1:decide (200 < l0.length) = false:=decide_eq_false (by omega);clear c2;have H':=AM H;clear H;go_enter Tryd.func45,Tryd.ntmps45;go_wp2
  go_loopg [3] k (fun kq v3 w' => ∃ (x3_1:Int),v3 = .int .i64 x3_1∧Aside0 (r06_Great.l0 kq l0 x3_1 = some r)∧Aside0 (kq≤k)∧Drawn0 w w')
  case atStart => exact ⟨(0),QD,H',⟨Nat.le_refl _⟩,DZ⟩
  case round =>
   clear H';try clear c2
   try clear c2b0
   try clear c2b1
   try clear p2
   obtain ⟨x3_1,rfl,HA,HK1,⟨m1,rfl⟩⟩:=hrel;cases gk with
   | zero => exact absurd HA.out (by simp [r06_Great.l0])
   | succ k1 =>
    have H:=HA.out;clear HA;simp only [r06_Great.l0] at H;by_cases c3:x3_1 < (l0.length:Int)
    ·rw [if_pos c3] at H;have c3b0:decide (x3_1 < (l0.length:Int)) = true:=decide_eq_true c3;clear c3;by_cases c4:0≤x3_1
     ·rw [if_pos c4] at H;have c4b0:decide (0≤x3_1) = true:=decide_eq_true c4;clear c4;by_cases c5:((rdOf ByteArray.empty l0 x3_1).size:Int) > 500
      ·rw [if_pos c5] at H;have c5b0:decide (500 < ((rdOf ByteArray.empty l0 x3_1).size:Int)) = true:=decide_eq_true c5;have c5b1:decide (500 < (rdOf ByteArray.empty l0 x3_1).size) = true:=decide_eq_true (by omega);clear c5;obtain rfl:=Option.some.inj H;have p261:0≤(x3_1:Int):=OD;have q261:x3_1 < (l0.length:Int):=OD;obtain ⟨ad261,e261,hx261_0⟩:=Kd.at_string HR0.out x3_1 p261 q261;cases e261
       replace p261:=eq_true p261;replace q261:=eq_true q261;go_wp2
       go_ret;exact ⟨QD,DZ⟩
      ·rw [if_neg c5] at H;have c5b0:decide (500 < ((rdOf ByteArray.empty l0 x3_1).size:Int)) = false:=decide_eq_false c5;have c5b1:decide (500 < (rdOf ByteArray.empty l0 x3_1).size) = false:=decide_eq_false (by omega);clear c5;have H':=AM H;clear H;have p261:0≤(x3_1:Int):=OD;have q261:x3_1 < (l0.length:Int):=OD;obtain ⟨ad261,e261,hx261_0⟩:=Kd.at_string HR0.out x3_1 p261 q261;cases e261
       replace p261:=eq_true p261;replace q261:=eq_true q261;go_wp2
       go_roundg k1
       case measure => have:=HK1.out;omega
       case rel => exact ⟨(wrap64 (x3_1+1)),QD,H',⟨by have:=HK1.out;omega⟩,DZ⟩
     ·rw [if_neg c4] at H;exact absurd H (by simp)
    ·rw [if_neg c3] at H;have c3b0:decide (x3_1 < (l0.length:Int)) = false:=decide_eq_false c3;clear c3;obtain rfl:=Option.some.inj H;go_wp2
     go_ret;exact ⟨QD,DZ⟩
def r06_Find.l0:Nat→List ByteArray→ByteArray→Int→Option (Int)
 | 0,_,_,_ => none
 | k+1,x0,x1,x5 => if x5 < (x0.length:Int) then (if 0≤x5 then (if (rdOf ByteArray.empty x0 x5).toList = x1.toList then (some x5) else (r06_Find.l0 k x0 x1 (wrap64 (x5+1)))) else (none)) else (some (-1))
def r06_Find.f (k:Nat) (l0:List ByteArray) (a1:ByteArray):Option (Int):=r06_Find.l0 k l0 a1 0
theorem r06_Find.calls (k:Nat) (A0:Option Addr) (c0:Nat) (l0:List ByteArray) (a1:ByteArray) (r:Int) (w:World) (hr0:Kd.C Kd.string w A0 l0.length l0) (hc0:l0.length≤c0) (h:r06_Find.f k l0 a1 = some r) :
  Calls Tryd.prog 77 #[.slice A0 l0.length c0,.string a1] w fun e w' => e = .returned (.int .i64 r)∧Drawn0 w w':=by
 have HR0:=AM hr0;have HC0:=AM hc0;clear hr0 hc0;have H:(r06_Find.l0 k l0 a1 0) = some r:=h;clear h;have H':=AM H;clear H;go_enter Tryd.func77,Tryd.ntmps77;go_wp2
 go_loopg [5] k (fun kq v5 w' => ∃ (x5_1:Int),v5 = .int .i64 x5_1∧Aside0 (r06_Find.l0 kq l0 a1 x5_1 = some r)∧Aside0 (kq≤k)∧Drawn0 w w')
 case atStart => exact ⟨(0),QD,H',⟨Nat.le_refl _⟩,DZ⟩
 case round =>
  clear H';try clear p2
  obtain ⟨x5_1,rfl,HA,HK1,⟨m1,rfl⟩⟩:=hrel;cases gk with
  | zero => exact absurd HA.out (by simp [r06_Find.l0])
  | succ k1 =>
   have H:=HA.out;clear HA;simp only [r06_Find.l0] at H;by_cases c3:x5_1 < (l0.length:Int)
   ·rw [if_pos c3] at H;have c3b0:decide (x5_1 < (l0.length:Int)) = true:=decide_eq_true c3;clear c3;by_cases c4:0≤x5_1
    ·rw [if_pos c4] at H;have c4b0:decide (0≤x5_1) = true:=decide_eq_true c4;clear c4;by_cases c5:(rdOf ByteArray.empty l0 x5_1).toList = a1.toList
     ·rw [if_pos c5] at H;have c5b0:((rdOf ByteArray.empty l0 x5_1).toList == a1.toList) = true:=beq_iff_eq.mpr c5;have c5b1:((rdOf ByteArray.empty l0 x5_1).toList != a1.toList) = false:=bne_eq_false_iff_eq.mpr c5;clear c5;obtain rfl:=Option.some.inj H;have p262:0≤(x5_1:Int):=OD;have q262:x5_1 < (l0.length:Int):=OD;obtain ⟨ad262,e262,hx262_0⟩:=Kd.at_string HR0.out x5_1 p262 q262;cases e262
      replace p262:=eq_true p262;replace q262:=eq_true q262;go_wp2
      go_ret;exact ⟨QD,DZ⟩
     ·rw [if_neg c5] at H;have c5b0:((rdOf ByteArray.empty l0 x5_1).toList == a1.toList) = false:=beq_eq_false_iff_ne.mpr c5;have c5b1:((rdOf ByteArray.empty l0 x5_1).toList != a1.toList) = true:=bne_iff_ne.mpr c5;have H':=AM H;clear H;have p262:0≤(x5_1:Int):=OD;have q262:x5_1 < (l0.length:Int):=OD;obtain ⟨ad262,e262,hx262_0⟩:=Kd.at_string HR0.out x5_1 p262 q262;cases e262
      replace p262:=eq_true p262;replace q262:=eq_true q262;go_wp2
      go_roundg k1
      case measure => have:=HK1.out;omega
      case rel => exact ⟨(wrap64 (x5_1+1)),QD,H',⟨by have:=HK1.out;omega⟩,DZ⟩
    ·rw [if_neg c4] at H;exact absurd H (by simp)
   ·rw [if_neg c3] at H;have c3b0:decide (x5_1 < (l0.length:Int)) = false:=decide_eq_false c3;clear c3;obtain rfl:=Option.some.inj H;go_wp2
    go_ret;exact ⟨QD,DZ⟩
def r06_Intern.f (k:Nat) (l0:List ByteArray) (a1:ByteArray):Option (List ByteArray × Int):=(r06_Find.f k l0 a1).bind fun t263 => (if t263 ≥ 0 then (some (l0,t263)) else ((some (([]:List ByteArray):List ByteArray)).bind fun y264 => (if y264.length+l0.length < 8796093022208 then ((some (y264 ++ l0:List ByteArray)).bind fun y267 => (if y267.length < 8796093022208 then (some ((y267 ++ [a1]),(l0.length:Int))) else (none))) else (none))))
theorem r06_Intern.calls (k:Nat) (P0_:Nat→Prop) (u9000_:Value) (l0:List ByteArray) (a1:ByteArray) (r1:List ByteArray) (r2:Int) (w0 w:World) (hB:Below w0.heap.size w0 w) (ho0:Kd.R Kd.string 9 w w0.heap.size P0_ u9000_ l0) (h:r06_Intern.f k l0 a1 = some (r1,r2)) :
  Calls Tryd.prog 47 #[u9000_,.string a1] w fun e w' => ∃ v0_:Value,e = .returned (.tuple #[v0_,.int .i64 r2])∧Kd.R Kd.string 9 w' w0.heap.size (fun k_ => (P0_ k_ ∨ w.heap.size≤k_)) v0_ r1∧Below w0.heap.size w0 w'∧Kept w w' (fun k_ => P0_ k_):=by
 have HO0:=AM (show Kd.R Kd.string 9 w w0.heap.size (fun k_ => (P0_ k_ ∨ w.heap.size≤k_)) u9000_ l0 from Kd.R_mono ho0 (fun k_ hk => (.inl hk)));have HK:=AM (Kept.refl w (fun k_ => P0_ k_));have HW0:=AM hB.size;have HB:=AM hB;clear hB;have H:((r06_Find.f k l0 a1).bind fun t263 => (if t263 ≥ 0 then (some (l0,t263)) else ((some (([]:List ByteArray):List ByteArray)).bind fun y264 => (if y264.length+l0.length < 8796093022208 then ((some (y264 ++ l0:List ByteArray)).bind fun y267 => (if y267.length < 8796093022208 then (some ((y267 ++ [a1]),(l0.length:Int))) else (none))) else (none))))) = some (r1,r2):=h;clear h;replace H:=Option.bind_eq_some_iff.mp H;obtain ⟨t263,A30,H⟩:=H;replace H:(if t263 ≥ 0 then (some (l0,t263)) else ((some (([]:List ByteArray):List ByteArray)).bind fun y264 => (if y264.length+l0.length < 8796093022208 then ((some (y264 ++ l0:List ByteArray)).bind fun y267 => (if y267.length < 8796093022208 then (some ((y267 ++ [a1]),(l0.length:Int))) else (none))) else (none)))) = some (r1,r2):=H;have A3:=AM A30;clear A30;by_cases c4:t263 ≥ 0
 ·rw [if_pos c4] at H;have c4b0:decide (0≤t263) = true:=decide_eq_true c4;clear c4;simp only [Option.some.injEq,Prod.mk.injEq] at H;obtain ⟨rfl,rfl⟩:=H;obtain ⟨Ao5,co5,eo5⟩:=Kd.R_slice HO0.out;subst eo5;go_enter Tryd.func47,Tryd.ntmps47;go_wp2_with (first | ((with_reducible refine gate_callee (f:=77) rfl ?_);refine goesM_ (some 9) rfl rfl Tryd.func77 #[.slice Ao5 l0.length co5,.string a1] rfl ?_;(with_reducible refine (r06_Find.calls k _ _ l0 a1 t263 _ ?side1 ?side2 A3.out).mono ?_);(case side1 => exact CR HO0);(case side2 => exact (Kd.R_reads' HO0.out).2.1);rintro e w' ⟨rfl,⟨nd,rfl⟩⟩;refine ⟨_,rfl,?_⟩))
  go_ret2
  exact ⟨_,by first | rfl | (simp [errW_none,errW_some] <;> rfl) | (simp [*,errW_none,errW_some] <;> rfl),RA HO0.out,BB HB,by repeat (first | (with_reducible first | exact HK.out | apply Kept.alloc | apply Kept.drewN | apply Kept.drew) | exact HK.out)⟩
 ·rw [if_neg c4] at H;have c4b0:decide (0≤t263) = false:=decide_eq_false c4;clear c4;obtain ⟨y264,hy264⟩:∃ y_:List ByteArray,y_ = (([]:List ByteArray)):=⟨_,rfl⟩;replace H:(if y264.length+l0.length < 8796093022208 then ((some (y264 ++ l0:List ByteArray)).bind fun y267 => (if y267.length < 8796093022208 then (some ((y267 ++ [a1]),(l0.length:Int))) else (none))) else (none)) = some (r1,r2):=QH hy264 H
  have Ny264:=AM hy264;clear hy264;by_cases c6:y264.length+l0.length < 8796093022208
  ·rw [if_pos c6] at H;have LMc6:=AM c6;clear c6;obtain ⟨y267,hy267⟩:∃ y_:List ByteArray,y_ = (y264 ++ l0):=⟨_,rfl⟩;replace H:(if y267.length < 8796093022208 then (some ((y267 ++ [a1]),(l0.length:Int))) else (none)) = some (r1,r2):=QH hy267 H
   have Ny267:=AM hy267;clear hy267;by_cases c7:y267.length < 8796093022208
   ·rw [if_pos c7] at H;have LMc7:=AM c7;clear c7;obtain ⟨y270,hy270⟩:∃ y_:List ByteArray,y_ = (y267 ++ [a1]):=⟨_,rfl⟩;replace H:(some (y270,(l0.length:Int))) = some (r1,r2):=QH hy270 H
    have Ny270:=AM hy270;clear hy270;simp only [Option.some.injEq,Prod.mk.injEq] at H;obtain ⟨rfl,rfl⟩:=H;obtain ⟨Ao8,co8,eo8⟩:=Kd.R_slice HO0.out;subst eo8;go_enter Tryd.func47,Tryd.ntmps47;go_wp2_with (first | ((with_reducible refine gate_callee (f:=77) rfl ?_);refine goesM_ (some 9) rfl rfl Tryd.func77 #[.slice Ao8 l0.length co8,.string a1] rfl ?_;(with_reducible refine (r06_Find.calls k _ _ l0 a1 t263 _ ?side1 ?side2 A3.out).mono ?_);(case side1 => exact CR HO0);(case side2 => exact (Kd.R_reads' HO0.out).2.1);rintro e w' ⟨rfl,⟨nd,rfl⟩⟩;refine ⟨_,rfl,?_⟩) | ((with_reducible refine gate_dst (N:=14) rfl ?_);refine Kd.R_lit Kd.string _ 9 ?hg (N:=14) ?hd (xs:=([]:List ByteArray)) (inner:=[]) (ok:=fun _ => True) (okp:=fun _ => True) ?hr ?hp (fun _ hk => hk) trivial (Below.refl _ _) (Nat.le_refl _) (by simp) ?_;(case hd => rfl);(case hg => rfl);(case hr => first | (go_simp;done) | (go_simp;rfl));(case hp => exact (Reps.none _ _));intro v265 w9 ho10 hb hg_ hnew_;clear hg_ hnew_;(first | rw [← Ny264.out] at ho10 | (simp only [Int.reduceToNat] at ho10;rw [← Ny264.out] at ho10));have HO266:=AM (Kd.R_lower (Kd.R_new' (Kd.R_newM (M:=fun k_ => (P0_ k_ ∨ w.heap.size≤k_)) ho10 (by first | exact HK.out.1 | exact (show Kept w _ (fun k_ => P0_ k_) from by repeat (first | (with_reducible first | exact HK.out | apply Kept.alloc | apply Kept.drewN | apply Kept.drew) | exact HK.out)).1) (fun k_ h_ => .inr h_)) (Kd.R_lt (RL HO0))) (below_size (BB HB)));replace HO0:=AM (Kd.R_elder' (RL HO0) (Kd.R_base ho10) hb);replace HK:=AM (Kept.below (S:=(fun k_ => P0_ k_)) (by repeat (first | (with_reducible first | exact HK.out | apply Kept.alloc | apply Kept.drewN | apply Kept.drew) | exact HK.out)) hb);replace HB:=BS HB hb;clear hb ho10) | ((with_reducible refine gate_builtin (b:=.append) (xs:=#[.tmp 14,.tmp 15]) rfl ?_);at_builtin;refine Kd.R_append_rows Kd.string (w0:=w0) w0.heap.size rfl (.tmp 14) (.tmp 15) 37 9 (.string ⟨#[]⟩) 16 rfl Tryd.underlying37 info9 rfl (by decide) (by omega) v265 y264 l0 _ _ _ (fun k_ => (P0_ k_ ∨ w.heap.size≤k_)∧some k_≠(.slice Ao8 l0.length co8:Value).ownBlock) (fun _ => False) rfl rfl ?aO ?aR (fun _ _ h => h) (fun _ h => h.elim) ?aF ?aB ?aS ?aL ?_;(case aR => repeat (first | exact (Kd.R_reads' HO0.out).2.2 | (with_reducible refine Kd.C_alloc ?_ _) | (with_reducible refine Kd.C_drewN ?_ _) | (with_reducible refine Kd.C_drew ?_)));(case aB => exact (BB HB));(case aF => exact (fun k_ hk => ⟨(.inr (Nat.le_trans (by first | exact HK.out.1 | exact (show Kept w _ (fun k_ => P0_ k_) from by repeat (first | (with_reducible first | exact HK.out | apply Kept.alloc | apply Kept.drewN | apply Kept.drew) | exact HK.out)).1) hk)),Kd.fresh' (Kd.R_lt (RL HO0)) k_ hk⟩));(case aO => exact (by (with_reducible repeat (first | apply Kd.R_alloc | apply Kd.R_drewN | apply Kd.R_drew));exact Kd.R_mono HO266.out (fun _ hk => ⟨hk.1.1,hk.2⟩)));(case aS => exact (below_size (BB HB)));(case aL => have:=LMc6.out;omega);intro v268 w11 ho hb hg hat;rw [← Ny267.out] at ho;replace HO0:=AM (Kd.R_after (ok:=(fun k_ => (P0_ k_ ∨ w.heap.size≤k_))) (RL HO0) hg hat);replace HB:=AM (hb);replace HK:=AM (Kept.of_grown (S:=(fun k_ => P0_ k_)) hg (by repeat (first | (with_reducible first | exact HK.out | apply Kept.alloc | apply Kept.drewN | apply Kept.drew) | exact HK.out)) (fun k_ e_ => (HO266.out.1 k_ e_).1.1));have HO269:=AM (ho);clear HO266;clear ho hb hg hat) | ((with_reducible refine gate_builtin (b:=.append) (xs:=#[.tmp 16,.tmp 18]) rfl ?_);at_builtin;refine Kd.R_append Kd.string (w0:=w0) w0.heap.size rfl (.tmp 16) (.tmp 18) 37 9 (.string ⟨#[]⟩) 16 rfl Tryd.underlying37 info9 rfl (by decide) (by omega) v268 y267 a1 [.string a1] (fun k_ => (P0_ k_ ∨ w.heap.size≤k_)∧some k_≠(.slice Ao8 l0.length co8:Value).ownBlock) (fun _ => False) rfl rfl ?aP (fun _ hk => hk.elim) ?aF ?aO ?aB ?aS ?aL ?_;(case aP => exact rfl);(case aB => exact (BB HB));(case aF => exact (fun k_ hk => ⟨(.inr (Nat.le_trans (by first | exact HK.out.1 | exact (show Kept w _ (fun k_ => P0_ k_) from by repeat (first | (with_reducible first | exact HK.out | apply Kept.alloc | apply Kept.drewN | apply Kept.drew) | exact HK.out)).1) hk)),Kd.fresh' (Kd.R_lt (RL HO0)) k_ hk⟩));(case aO => exact (RL HO269));(case aS => exact (below_size (BB HB)));(case aL => have:=LMc7.out;omega);intro v271 w12 ho hb hg hat;rw [← Ny270.out] at ho;replace HO0:=AM (Kd.R_after (ok:=(fun k_ => (P0_ k_ ∨ w.heap.size≤k_))) (RL HO0) hg hat);replace HB:=AM (hb);replace HK:=AM (Kept.of_grown (S:=(fun k_ => P0_ k_)) hg (by repeat (first | (with_reducible first | exact HK.out | apply Kept.alloc | apply Kept.drewN | apply Kept.drew) | exact HK.out)) (fun k_ e_ => (HO269.out.1 k_ e_).1));have HO272:=AM (ho);clear HO269;clear ho hb hg hat))
    go_ret2
    exact ⟨_,by first | rfl | (simp [errW_none,errW_some] <;> rfl) | (simp [*,errW_none,errW_some] <;> rfl),by (with_reducible repeat (first | apply Kd.R_alloc | apply Kd.R_drewN | apply Kd.R_drew));exact Kd.R_mono HO272.out (fun _ hk => hk.1),BB HB,by repeat (first | (with_reducible first | exact HK.out | apply Kept.alloc | apply Kept.drewN | apply Kept.drew) | exact HK.out)⟩
   ·rw [if_neg c7] at H;exact absurd H (by simp)
  ·rw [if_neg c6] at H;exact absurd H (by simp)
end Go.Proofs.YtoigkneoaemcfaaDoor.GN
