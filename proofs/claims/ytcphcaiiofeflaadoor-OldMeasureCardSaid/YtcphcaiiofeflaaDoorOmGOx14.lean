
import Derived.Test.YtcphcaiiofeflaaDoorOmGOx0
import Derived.Test.YtcphcaiiofeflaaDoorOmGOx10
import Derived.Test.YtcphcaiiofeflaaDoorOmGOx12
import Derived.Test.YtcphcaiiofeflaaDoorOmGOx13
namespace Go.Proofs.YtcphcaiiofeflaaDoor.GO
open Go.RowKit Go.Proofs.YtcphcaiiofeflaaDoorW.PrintWords Go.Proofs.YtcphcaiiofeflaaDoorW.PrintLast Go.Proofs.YtcphcaiiofeflaaDoorW.PrintMore
attribute [local go_sem] max2_int min2_int max_two min_two max_three min_three max_four min_four
set_option maxHeartbeats 8000000
set_option maxRecDepth 100000
set_option linter.unusedVariables false
set_option linter.unusedSimpArgs false
section
open Go.Lib
def old_Typed.l0:Nat→List (S53)→Int→Int→Option (Int × Int)
 | 0,_,_,_ => none
 | k+1,x10,x11,x12 => if x12 < x11 then (if 0≤x12 then (if x12 < (x10.length:Int) then ((schema_Old.f ((rd_T53 x10 x12).f0)).bind fun bt115 => (if bt115.2.2.2.2 = true then ((field_Check.f k ((rd_T53 x10 x12).f0) ((rd_T53 x10 x12).f1) ((rd_T53 x10 x12).f2) ((rd_T53 x10 x12).f3) bt115.1 bt115.2.1 bt115.2.2.1 bt115.2.2.2.1).bind fun t123 => (if t123 = 0 then (old_Typed.l0 k x10 x11 (wrap64 (x12+1))) else (some (t123,x12)))) else (some (9,x12)))) else (none)) else (none)) else (some (0,0))
def old_Typed.f (k:Nat) (l0_0:List (S53)) (a0_1:Int):Option (Int × Int):=if l0_0.length≤1000000000 then old_Typed.l0 k l0_0 (l0_0.length:Int) 0 else none
theorem old_short {k:Nat} {l:List (S53)} {a:Int} {r:Int × Int} (h:old_Typed.f k l a = some r):l.length≤1000000000:=by
 unfold old_Typed.f at h
 split at h
 ·assumption
 ·cases h
theorem oversion_calls (k:Nat) (A0:Option Addr) (c0:Nat) (l0:List (S53)) (a1 r1 r2:Int) (w:World) (ht:∀ w',Below w.heap.size w w'→Go.Lib.Utf8Tabs 0 1 w') (hr0:Kd.C k53 w A0 l0.length l0) (hc0:l0.length≤c0) (hlen:l0.length≤1000000000) (h:old_Typed.f k l0 a1 = some (r1,r2)) :
  Calls Tryd.prog 58 #[.agg #[.func (.func 57) #[] #[]],.agg #[.slice A0 l0.length c0,.int .i64 a1]] w fun e w' => e = .returned (.tuple #[.int .i64 r1,.int .i64 r2])∧Below w.heap.size w w':=by
 have HT:=Lib.hid ht;have HR:=Lib.hid hr0;have H:=Lib.hid (show old_Typed.l0 k l0 (l0.length:Int) 0 = some (r1,r2) from by unfold old_Typed.f at h;rw [if_pos hlen] at h;exact h);clear ht hr0 h;go_enter Tryd.func58,Tryd.ntmps58;go_upto_region 1 with (fail)
 have hv2:=blk_alloc (heap_alloc_new w (.cells #[.func (.func 57) #[] #[]] 73)) (.cells #[.slice A0 l0.length c0,.int .i64 a1] 24);have hs2:=heap_alloc_new (w.alloc (.cells #[.func (.func 57) #[] #[]] 73)) (.cells #[.slice A0 l0.length c0,.int .i64 a1] 24);have hb2:Below w.heap.size w ((w.alloc (.cells #[.func (.func 57) #[] #[]] 73)).alloc (.cells #[.slice A0 l0.length c0,.int .i64 a1] 24)):=((Below.refl _ w).alloc (Nat.le_refl _) _).alloc (by simp) _;rw [show (w.alloc (.cells #[.func (.func 57) #[] #[]] 73)).heap.size = w.heap.size+1 by simp] at hs2;generalize (w.alloc (.cells #[.func (.func 57) #[] #[]] 73)).alloc (.cells #[.slice A0 l0.length c0,.int .i64 a1] 24) = w2 at *;have HV:=Lib.hid hv2;have HB2:=Lib.hid hb2;have q0:w2.cell? ⟨w.heap.size+1,0,none⟩ = some (.slice A0 l0.length c0):=(blk_cell hs2 0).trans rfl;clear hv2 hs2 hb2;go_wp2_with (fail)
 clear q0;go_loopg [6,7,8,9,10,14] k (fun kq v6 v7 v8 v9 v10 v14 wr => ∃ (i:Int) (x y z u t:Value),v6 = x∧v7 = y∧v8 = z∧v9 = u∧v10 = t∧v14 = .int .i64 i∧Aside0 (old_Typed.l0 kq l0 (l0.length:Int) i = some (r1,r2))∧Aside0 (wr.heap[w.heap.size]? = some (.cells #[.func (.func 57) #[] #[]] 73 (0,0)))∧Aside0 (Below w.heap.size w wr))
 case atStart => exact ⟨0,_,_,_,_,_,rfl,rfl,rfl,rfl,rfl,rfl,⟨H.out⟩,⟨HV.out⟩,⟨HB2.out⟩⟩
 case round =>
  obtain ⟨i,x,y,z,u,t,rfl,rfl,rfl,rfl,rfl,rfl,hH,hV,hB⟩:=hrel;obtain ⟨wo,hwo⟩:∃ z,z = wr:=⟨_,rfl⟩;subst hwo;obtain ⟨ko,rfl⟩:∃ g,gk = g+1:=by
   cases gk with
   | zero => exact absurd hH.out (by simp [old_Typed.l0])
   | succ g => exact ⟨g,rfl⟩
  have hh:=hH.out;rw [old_Typed.l0] at hh;by_cases hlt:i < (l0.length:Int)
  ·have t4:decide (i < (l0.length:Int)) = true:=decide_eq_true hlt;rw [if_pos hlt] at hh;by_cases hin:¬ 0≤i
   ·rw [if_neg hin] at hh;cases hh
   have hi0:0≤i:=by omega
   clear hin;rw [if_pos hi0,if_pos hlt] at hh;obtain ⟨⟨s1,s2,s3,s4,s5⟩,hso,hh⟩:=Option.bind_eq_some_iff.1 hh;simp only at hh;obtain ⟨ad,B1,d1,B2,d2,B3,d3,e,hx0,hx1,hx2,hx3,hl1,hi1,hl2,hi2,hl3,hi3⟩:=at_T53 (Kd.C_below HR.out hB.out) i hi0 hlt;cases e
   have HI1:=Lib.hid hi1;have HI2:=Lib.hid hi2;have HI3:=Lib.hid hi3;have HH:=Lib.hid hh;have HSO:=Lib.hid hso;clear hi1 hi2 hi3 hh hso;go_upto_region 4 with (fail)
   have hn7:=heap_alloc_new wo (.cells #[.int .i64 (rd_T53 l0 i).f0,.slice B1 (rd_T53 l0 i).f1.length d1,.slice B2 (rd_T53 l0 i).f2.length d2,.slice B3 (rd_T53 l0 i).f3.length d3] 53);have hb7:Below wo.heap.size wo (wo.alloc (.cells #[.int .i64 (rd_T53 l0 i).f0,.slice B1 (rd_T53 l0 i).f1.length d1,.slice B2 (rd_T53 l0 i).f2.length d2,.slice B3 (rd_T53 l0 i).f3.length d3] 53)):=(Below.refl _ _).alloc (Nat.le_refl _) _;clear hx0 hx1 hx2 hx3;generalize wo.alloc (.cells #[.int .i64 (rd_T53 l0 i).f0,.slice B1 (rd_T53 l0 i).f1.length d1,.slice B2 (rd_T53 l0 i).f2.length d2,.slice B3 (rd_T53 l0 i).f3.length d3] 53) = w7 at hn7 hb7 ⊢;have HB7:=Lib.hid (below_step hB.out hb7);have HV7:=Lib.hid (blk_below hV.out hb7);have HN7:=Lib.hid hn7;have J1:=Lib.hid (Kd.C_below HI1.out hb7);have J2:=Lib.hid (Kd.C_below HI2.out hb7);have J3:=Lib.hid (Kd.C_below HI3.out hb7);have q0:w7.cell? ⟨w.heap.size,0,none⟩ = some (.func (.func 57) #[] #[]):=(blk_cell HV7.out 0).trans rfl;have q1:w7.cell? ⟨wo.heap.size,0,none⟩ = some (.int .i64 (rd_T53 l0 i).f0):=(blk_cell hn7 0).trans rfl;clear hn7 hb7 HI1 HI2 HI3;go_wp2_with (fail)
   refine (schema_Old.calls _ s1 s2 s3 s4 s5 w7 HSO.out).mono ?_;rintro e w8 ⟨v8,rfl,hV8,hb8⟩;obtain ⟨A8,c8,rfl,hl8,hF8⟩:=hV8;have hC8:=hF8 w8 (fun _ _ _ => rfl);have HB8:=Lib.hid (below_step HB7.out hb8);have HV8:=Lib.hid (blk_below HV7.out hb8);have HN8:=Lib.hid (blk_below HN7.out hb8);have L1:=Lib.hid (Kd.C_below J1.out hb8);have L2:=Lib.hid (Kd.C_below J2.out hb8);have L3:=Lib.hid (Kd.C_below J3.out hb8);have HC8:=Lib.hid hC8;clear hF8 hC8 hb8 q0 q1 J1 J2 J3;go_upto_region 5 with (fail)
   have hn9:=heap_alloc_new w8 (.cells #[.slice A8 s1.length c8,.int .i64 s2,.int .i64 s3,.int .i64 s4] 57);have hb9:Below w8.heap.size w8 (w8.alloc (.cells #[.slice A8 s1.length c8,.int .i64 s2,.int .i64 s3,.int .i64 s4] 57)):=(Below.refl _ _).alloc (Nat.le_refl _) _;generalize w8.alloc (.cells #[.slice A8 s1.length c8,.int .i64 s2,.int .i64 s3,.int .i64 s4] 57) = w9 at hn9 hb9 ⊢;have HB9:=Lib.hid (below_step HB8.out hb9);have HV9:=Lib.hid (blk_below HV8.out hb9);have hn90:=blk_below HN8.out hb9;have M1:=Lib.hid (Kd.C_below L1.out hb9);have M2:=Lib.hid (Kd.C_below L2.out hb9);have M3:=Lib.hid (Kd.C_below L3.out hb9);have HC9:=Lib.hid (Kd.C_below HC8.out hb9);cases s5 with
   | false =>
    have hh:=HH.out;rw [if_neg (by simp)] at hh;obtain ⟨rfl,rfl⟩:=Prod.mk.inj (Option.some.inj hh);clear hn9 hb9 hn90;go_wp2_with (fail)
    go_ret2
    exact ⟨rfl,HB9.out⟩
   | true =>
    have hh:=HH.out;rw [if_pos rfl] at hh;obtain ⟨q,hq,hh⟩:=Option.bind_eq_some_iff.1 hh;have HQ:=Lib.hid hq;have HH2:=Lib.hid hh;have n0:w9.cell? ⟨wo.heap.size,0,none⟩ = some (.int .i64 (rd_T53 l0 i).f0):=(blk_cell hn90 0).trans rfl;have n1:w9.cell? ⟨wo.heap.size,1,none⟩ = some (.slice B1 (rd_T53 l0 i).f1.length d1):=(blk_cell hn90 1).trans rfl;have n2:w9.cell? ⟨wo.heap.size,2,none⟩ = some (.slice B2 (rd_T53 l0 i).f2.length d2):=(blk_cell hn90 2).trans rfl;have n3:w9.cell? ⟨wo.heap.size,3,none⟩ = some (.slice B3 (rd_T53 l0 i).f3.length d3):=(blk_cell hn90 3).trans rfl;have o0:w9.cell? ⟨w8.heap.size,0,none⟩ = some (.slice A8 s1.length c8):=(blk_cell hn9 0).trans rfl;have o1:w9.cell? ⟨w8.heap.size,1,none⟩ = some (.int .i64 s2):=(blk_cell hn9 1).trans rfl;have o2:w9.cell? ⟨w8.heap.size,2,none⟩ = some (.int .i64 s3):=(blk_cell hn9 2).trans rfl;have o3:w9.cell? ⟨w8.heap.size,3,none⟩ = some (.int .i64 s4):=(blk_cell hn9 3).trans rfl;clear hh hq hn9 hb9 hn90;go_wp2_with (fail)
    refine (field_Check.calls ko _ _ _ _ _ _ _ _ _ _ _ _ s1 _ _ _ q _ (fun w' hb => HT.out w' (below_step HB9.out hb)) M1.out hl1 M2.out hl2 M3.out hl3 HC9.out hl8 HQ.out).mono ?_;rintro e w10 ⟨rfl,hb10⟩;have HB10:=Lib.hid (below_step HB9.out hb10);have HV10:=Lib.hid (blk_below HV9.out hb10);clear hb10 n0 n1 n2 n3 o0 o1 o2 o3;by_cases hz:q = 0
    ·have tz:(q != 0) = false:=by simpa using hz
     have hw1:IntKind.i64.wrap (i+1) = i+1:=by rw [IntKind.wrap_i64];omega
     have hh:=HH2.out;rw [if_pos hz,show wrap64 (i+1) = i+1 by unfold wrap64;omega] at hh;have HN:=Lib.hid hh;clear hh;go_wp2_with (fail)
     go_roundg ko
     case measure => omega
     case rel => exact ⟨i+1,_,_,_,_,_,rfl,rfl,rfl,rfl,rfl,by first | rfl | (congr 1;omega),⟨HN.out⟩,⟨HV10.out⟩,⟨HB10.out⟩⟩
    ·have tz:(q != 0) = true:=by simpa using hz
     have hh:=HH2.out;rw [if_neg hz] at hh;obtain ⟨rfl,rfl⟩:=Prod.mk.inj (Option.some.inj hh);clear hh;go_wp2_with (fail)
     go_ret2
     exact ⟨rfl,HB10.out⟩
  ·have t4:decide (i < (l0.length:Int)) = false:=decide_eq_false hlt;rw [if_neg hlt] at hh;obtain ⟨rfl,rfl⟩:=Prod.mk.inj (Option.some.inj hh);go_wp2_with (fail)
   go_ret2
   exact ⟨rfl,hB.out⟩
set_option maxRecDepth 100000 in
theorem old_Typed.calls (k:Nat) (A0_0:Option Addr) (c0_0:Nat) (l0_0:List (S53)) (a0_1:Int) (r1:Int) (r2:Int) (w:World) (ht_:∀ w',Below w.heap.size w w'→Go.Lib.Utf8Tabs 0 1 w') (hr0_0:Kd.C k53 w A0_0 l0_0.length l0_0) (hc0_0:l0_0.length≤c0_0) (h:old_Typed.f k l0_0 a0_1 = some (r1,r2)) :
  Calls Tryd.prog 31 #[.agg #[.slice A0_0 l0_0.length c0_0,.int .i64 a0_1]] w fun e w' => e = .returned (.tuple #[.int .i64 r1,.int .i64 r2])∧Below w.heap.size w w':=by
 have hlen:l0_0.length≤1000000000:=old_short h;have HT:=Lib.hid ht_;have HR:=Lib.hid hr0_0;have HH:=Lib.hid h;clear ht_ hr0_0 h;go_enter Tryd.func31,Tryd.ntmps31;go_wp2_with (fail)
 refine (oversion_calls k A0_0 c0_0 l0_0 a0_1 r1 r2 _ (fun w' hb => HT.out w' (below_step ((Below.refl _ w).alloc (Nat.le_refl _) _) hb)) (Kd.C_below HR.out ((Below.refl _ w).alloc (Nat.le_refl _) _)) hc0_0 hlen HH.out).mono ?_;rintro e w2 ⟨rfl,hb⟩;have HB:=Lib.hid (below_step ((Below.refl _ w).alloc (Nat.le_refl _) _) hb);clear hb;go_wp2_with (fail)
 go_ret2
 exact ⟨rfl,HB.out⟩
end
def old_Valid.f (k:Nat) (l0_0:List (S53)) (a0_1:Int) (a1_0:Int) (a1_1:Int) (a1_2:Int) (a1_3:Int) (a1_4:Int):Option (Int × Int):=(limit_Right.f a1_0 a1_1 a1_2 a1_3 a1_4).bind fun t290 => (if t290 = true then ((old_Typed.f k l0_0 a0_1).bind fun bt291 => (if bt291.1 = 0 then ((graph_Check.f k l0_0 a0_1).bind fun bt293 => (if bt293.1 = 0 then ((limit_Measure.f k l0_0 a0_1).bind fun bt295 => ((limit_Within.f bt295.1 bt295.2.1 bt295.2.2.1 bt295.2.2.2.1 bt295.2.2.2.2 a1_0 a1_1 a1_2 a1_3 a1_4).bind fun t300 => (if t300 = true then (some (0,0)) else (some (19,(-1)))))) else (some (bt293.1,bt293.2)))) else (some (bt291.1,bt291.2)))) else (some (1,(-1))))
theorem old_Valid.calls (k:Nat) (A0_0:Option Addr) (c0_0:Nat) (l0_0:List (S53)) (a0_1:Int) (a1_0:Int) (a1_1:Int) (a1_2:Int) (a1_3:Int) (a1_4:Int) (r1:Int) (r2:Int) (w:World) (ht_:∀ w',Below w.heap.size w w'→Go.Lib.Utf8Tabs 0 1 w') (hr0_0:Kd.C k53 w A0_0 l0_0.length l0_0) (hc0_0:l0_0.length≤c0_0) (h:old_Valid.f k l0_0 a0_1 a1_0 a1_1 a1_2 a1_3 a1_4 = some (r1,r2)) :
  Calls Tryd.prog 29 #[.agg #[.slice A0_0 l0_0.length c0_0,.int .i64 a0_1],.agg #[.int .i64 a1_0,.int .i64 a1_1,.int .i64 a1_2,.int .i64 a1_3,.int .i64 a1_4]] w fun e w' => e = .returned (.tuple #[.int .i64 r1,.int .i64 r2])∧Below w.heap.size w w':=by
 have HTB_:=AM ht_;clear ht_;have hu24:=Tryd.underlying24;have hu26:=Tryd.underlying26;have HR0_0:=AM hr0_0;have HC0_0:=AM hc0_0;clear hr0_0 hc0_0;have HB:=AM (Below.refl w.heap.size w);have H:((limit_Right.f a1_0 a1_1 a1_2 a1_3 a1_4).bind fun t290 => (if t290 = true then ((old_Typed.f k l0_0 a0_1).bind fun bt291 => (if bt291.1 = 0 then ((graph_Check.f k l0_0 a0_1).bind fun bt293 => (if bt293.1 = 0 then ((limit_Measure.f k l0_0 a0_1).bind fun bt295 => ((limit_Within.f bt295.1 bt295.2.1 bt295.2.2.1 bt295.2.2.2.1 bt295.2.2.2.2 a1_0 a1_1 a1_2 a1_3 a1_4).bind fun t300 => (if t300 = true then (some (0,0)) else (some (19,(-1)))))) else (some (bt293.1,bt293.2)))) else (some (bt291.1,bt291.2)))) else (some (1,(-1))))) = some (r1,r2):=h;clear h;replace H:=Option.bind_eq_some_iff.mp H;obtain ⟨t290,A30,H⟩:=H;replace H:(if t290 = true then ((old_Typed.f k l0_0 a0_1).bind fun bt291 => (if bt291.1 = 0 then ((graph_Check.f k l0_0 a0_1).bind fun bt293 => (if bt293.1 = 0 then ((limit_Measure.f k l0_0 a0_1).bind fun bt295 => ((limit_Within.f bt295.1 bt295.2.1 bt295.2.2.1 bt295.2.2.2.1 bt295.2.2.2.2 a1_0 a1_1 a1_2 a1_3 a1_4).bind fun t300 => (if t300 = true then (some (0,0)) else (some (19,(-1)))))) else (some (bt293.1,bt293.2)))) else (some (bt291.1,bt291.2)))) else (some (1,(-1)))) = some (r1,r2):=H;have A3:=AM A30;clear A30;by_cases c4:t290 = true
 ·subst c4;have H1:((old_Typed.f k l0_0 a0_1).bind fun bt291 => (if bt291.1 = 0 then ((graph_Check.f k l0_0 a0_1).bind fun bt293 => (if bt293.1 = 0 then ((limit_Measure.f k l0_0 a0_1).bind fun bt295 => ((limit_Within.f bt295.1 bt295.2.1 bt295.2.2.1 bt295.2.2.2.1 bt295.2.2.2.2 a1_0 a1_1 a1_2 a1_3 a1_4).bind fun t300 => (if t300 = true then (some (0,0)) else (some (19,(-1)))))) else (some (bt293.1,bt293.2)))) else (some (bt291.1,bt291.2)))) = some (r1,r2):=by rw [if_pos rfl] at H;exact H
  clear H;have H:=H1;clear H1;replace H:=Option.bind_eq_some_iff.mp H;obtain ⟨⟨t291,t292⟩,A50,H⟩:=H;replace H:(if t291 = 0 then ((graph_Check.f k l0_0 a0_1).bind fun bt293 => (if bt293.1 = 0 then ((limit_Measure.f k l0_0 a0_1).bind fun bt295 => ((limit_Within.f bt295.1 bt295.2.1 bt295.2.2.1 bt295.2.2.2.1 bt295.2.2.2.2 a1_0 a1_1 a1_2 a1_3 a1_4).bind fun t300 => (if t300 = true then (some (0,0)) else (some (19,(-1)))))) else (some (bt293.1,bt293.2)))) else (some (t291,t292))) = some (r1,r2):=H;have A5:=AM A50;clear A50;by_cases c6:t291 = 0
  ·rw [if_pos c6] at H;have c6b0:(t291 == 0) = true:=beq_iff_eq.mpr c6;have c6b1:(t291 != 0) = false:=bne_eq_false_iff_eq.mpr c6;clear c6;replace H:=Option.bind_eq_some_iff.mp H;obtain ⟨⟨t293,t294⟩,A70,H⟩:=H;replace H:(if t293 = 0 then ((limit_Measure.f k l0_0 a0_1).bind fun bt295 => ((limit_Within.f bt295.1 bt295.2.1 bt295.2.2.1 bt295.2.2.2.1 bt295.2.2.2.2 a1_0 a1_1 a1_2 a1_3 a1_4).bind fun t300 => (if t300 = true then (some (0,0)) else (some (19,(-1)))))) else (some (t293,t294))) = some (r1,r2):=H;have A7:=AM A70;clear A70;by_cases c8:t293 = 0
   ·rw [if_pos c8] at H;have c8b0:(t293 == 0) = true:=beq_iff_eq.mpr c8;have c8b1:(t293 != 0) = false:=bne_eq_false_iff_eq.mpr c8;clear c8;replace H:=Option.bind_eq_some_iff.mp H;obtain ⟨⟨t295,t296,t297,t298,t299⟩,A90,H⟩:=H;replace H:((limit_Within.f t295 t296 t297 t298 t299 a1_0 a1_1 a1_2 a1_3 a1_4).bind fun t300 => (if t300 = true then (some (0,0)) else (some (19,(-1))))) = some (r1,r2):=H;have A9:=AM A90;clear A90;replace H:=Option.bind_eq_some_iff.mp H;obtain ⟨t300,A100,H⟩:=H;replace H:(if t300 = true then (some (0,0)) else (some (19,(-1)))) = some (r1,r2):=H;have A10:=AM A100;clear A100;by_cases c11:t300 = true
    ·subst c11;have H1:(some (0,0)) = some (r1,r2):=by rw [if_pos rfl] at H;exact H
     clear H;have H:=H1;clear H1;simp only [Option.some.injEq,Prod.mk.injEq] at H;obtain ⟨rfl,rfl⟩:=H;go_enter Tryd.func29,Tryd.ntmps29;try go_wp2_with (first | ((with_reducible refine gate_dst (N:=2) rfl ?_);refine boxE 2 #[.slice A0_0 l0_0.length c0_0,.int .i64 a0_1] 24 ?_;intro gb288 hg w12 hbox hb;have BK288:=AM (hbox);have GW288:=GW HB hg;have GE288:=GW HB hg;replace HB:=BS HB hb;clear hb hbox hg) | ((with_reducible refine gate_dst (N:=3) rfl ?_);refine boxE 3 #[.int .i64 a1_0,.int .i64 a1_1,.int .i64 a1_2,.int .i64 a1_3,.int .i64 a1_4] 26 ?_;intro gb289 hg w13 hbox hb;have BK289:=AM (hbox);have GW289:=GW HB hg;have GE289:=GW HB hg;replace HB:=BS HB hb;have NB288_289:=NL BK288 hg;have NB289_288:=NG BK288 hg;replace BK288:=BE BK288 hb;clear hb hbox hg;have hnb14:=NB289_288.out;have hnc14:=NB288_289.out;have hcz15_0:=BC BK289 0 (.int .i64 a1_0) rfl;have hcz15_1:=BC BK289 1 (.int .i64 a1_1) rfl;have hcz15_2:=BC BK289 2 (.int .i64 a1_2) rfl;have hcz15_3:=BC BK289 3 (.int .i64 a1_3) rfl;have hcz15_4:=BC BK289 4 (.int .i64 a1_4) rfl;have hfz15_0:=BF BK289 0;have hfz15_1:=BF BK289 1;have hfz15_2:=BF BK289 2;have hfz15_3:=BF BK289 3;have hfz15_4:=BF BK289 4) | ((with_reducible refine gate_callee (f:=22) rfl ?_);refine goesM_ (some 11) rfl rfl Tryd.func22 #[.agg #[.int .i64 a1_0,.int .i64 a1_1,.int .i64 a1_2,.int .i64 a1_3,.int .i64 a1_4]] rfl ?_;(with_reducible refine (limit_Right.calls a1_0 a1_1 a1_2 a1_3 a1_4 true _ A3.out).mono ?_);rintro e w16 ⟨rfl,hb⟩;refine ⟨_,rfl,?_⟩;replace BK288:=BE BK288 hb;replace BK289:=BE BK289 hb;replace HB:=BS HB hb;(try clear hb);(try clear hb2);(try clear hk);(try clear hi);have hcz17_0:=BC BK288 0 (.slice A0_0 l0_0.length c0_0) rfl;have hcz17_1:=BC BK288 1 (.int .i64 a0_1) rfl;have hfz17_0:=BF BK288 0;have hfz17_1:=BF BK288 1) | ((with_reducible refine gate_callee (f:=31) rfl ?_);refine goesM_ (some 15) rfl rfl Tryd.func31 #[.agg #[.slice A0_0 l0_0.length c0_0,.int .i64 a0_1]] rfl ?_;(with_reducible refine (old_Typed.calls k _ _ l0_0 a0_1 t291 t292 _ ?sideT ?side1 ?side2 A5.out).mono ?_);(case sideT => exact fun w_ hb_ => HTB_.out w_ (below_step (BB HB) hb_));(case side1 => exact Kd.C_below HR0_0.out (BB HB));(case side2 => exact HC0_0.out);rintro e w18 ⟨rfl,hb⟩;refine ⟨_,rfl,?_⟩;replace BK288:=BE BK288 hb;replace BK289:=BE BK289 hb;replace HB:=BS HB hb;(try clear hb);(try clear hb2);(try clear hk);(try clear hi);have hcz19_0:=BC BK288 0 (.slice A0_0 l0_0.length c0_0) rfl;have hcz19_1:=BC BK288 1 (.int .i64 a0_1) rfl;have hfz19_0:=BF BK288 0;have hfz19_1:=BF BK288 1) | ((with_reducible refine gate_callee (f:=40) rfl ?_);refine goesM_ (some 24) rfl rfl Tryd.func40 #[.agg #[.slice A0_0 l0_0.length c0_0,.int .i64 a0_1]] rfl ?_;(with_reducible refine (graph_Check.calls k _ _ l0_0 a0_1 t293 t294 _ ?side1 ?side2 A7.out).mono ?_);(case side1 => exact Kd.C_below HR0_0.out (BB HB));(case side2 => exact HC0_0.out);rintro e w20 ⟨rfl,hb⟩;refine ⟨_,rfl,?_⟩;replace BK288:=BE BK288 hb;replace BK289:=BE BK289 hb;replace HB:=BS HB hb;(try clear hb);(try clear hb2);(try clear hk);(try clear hi)))
     replace BK288:=AM (blk_drew BK288.out);replace BK289:=AM (blk_drew BK289.out);replace HB:=AM (below_drew1 HB.out);refine start_ (n:=5) (S:=fun w' => w'.cell? ⟨gb288,0,none⟩ = some (.slice A0_0 l0_0.length c0_0)∧w'.cell? ⟨gb288,1,none⟩ = some (.int .i64 a0_1)∧w'.cell? ⟨gb289,0,none⟩ = some (.int .i64 a1_0)∧w'.cell? ⟨gb289,1,none⟩ = some (.int .i64 a1_1)∧w'.cell? ⟨gb289,2,none⟩ = some (.int .i64 a1_2)∧w'.cell? ⟨gb289,3,none⟩ = some (.int .i64 a1_3)∧w'.cell? ⟨gb289,4,none⟩ = some (.int .i64 a1_4)) (ds:=[]) #[false,false,false,false,false] (by kernel_rfl) rfl rfl ⟨(blk_cell BK288.out 0).trans rfl,(blk_cell BK288.out 1).trans rfl,(blk_cell BK289.out 0).trans rfl,(blk_cell BK289.out 1).trans rfl,(blk_cell BK289.out 2).trans rfl,(blk_cell BK289.out 3).trans rfl,(blk_cell BK289.out 4).trans rfl⟩ (fun hHeld => ?_);generalize w20.drew = w21 at BK288 BK289 HB hHeld ⊢;refine takeB_ (i:=0) (N:=some 31) (hi:=rfl) (hN:=rfl) #[true,false,false,false,false] hHeld (by rintro w' ⟨s0,s1,s2,s3,s4,s5,s6⟩;go_simp;with_reducible rfl) ?_;refine takeB_ (i:=2) (N:=some 33) (hi:=rfl) (hN:=rfl) #[true,false,true,false,false] hHeld (by rintro w' ⟨s0,s1,s2,s3,s4,s5,s6⟩;go_simp;with_reducible rfl) ?_;refine one_ (i:=1) (N:=some 32) #[true,true,true,false,false] rfl rfl (by kernel_rfl) (by decide) (fun K hK => ?_);refine goesN Tryd.func20 #[.agg #[.slice A0_0 l0_0.length c0_0,.int .i64 a0_1]] ?_;with_reducible refine (limit_Measure.calls k _ _ l0_0 a0_1 t295 t296 t297 t298 t299 _ ?side1 ?side2 A9.out).mono ?_
     (case side1 => exact Kd.C_below HR0_0.out (BB HB))
     (case side2 => exact HC0_0.out)
     rintro e w22 ⟨rfl,hb⟩;refine ⟨_,rfl,?_⟩;replace BK288:=BE BK288 hb;replace BK289:=BE BK289 hb;replace HB:=BS HB hb;(try clear hb)
     (try clear hb2)
     (try clear hk)
     (try clear hi)
     refine hK.out _ _ ⟨(blk_cell BK288.out 0).trans rfl,(blk_cell BK288.out 1).trans rfl,(blk_cell BK289.out 0).trans rfl,(blk_cell BK289.out 1).trans rfl,(blk_cell BK289.out 2).trans rfl,(blk_cell BK289.out 3).trans rfl,(blk_cell BK289.out 4).trans rfl⟩ (fun hHeld => ?_);clear hK K;refine norm_ (a':=?_) ?_ ?_
     rotate_left
     ·show Act.put _ (some 32) _ = _
      simp only [Act.put,List.setIfInBounds_toArray,List.set_cons_zero,List.set_cons_succ,i64_w,i32_w];rfl
     refine one_ (i:=3) (N:=some 34) #[true,true,true,true,false] rfl rfl (by kernel_rfl) (by decide) (fun K hK => ?_);refine goesN Tryd.func24 #[.agg #[.int .i64 t295,.int .i64 t296,.int .i64 t297,.int .i64 t298,.int .i64 t299],.agg #[.int .i64 a1_0,.int .i64 a1_1,.int .i64 a1_2,.int .i64 a1_3,.int .i64 a1_4]] ?_;with_reducible refine (limit_Within.calls t295 t296 t297 t298 t299 a1_0 a1_1 a1_2 a1_3 a1_4 true _ A10.out).mono ?_
     rintro e w23 ⟨rfl,hb⟩;refine ⟨_,rfl,?_⟩;replace BK288:=BE BK288 hb;replace BK289:=BE BK289 hb;replace HB:=BS HB hb;(try clear hb)
     (try clear hb2)
     (try clear hk)
     (try clear hi)
     refine hK.out _ _ ⟨(blk_cell BK288.out 0).trans rfl,(blk_cell BK288.out 1).trans rfl,(blk_cell BK289.out 0).trans rfl,(blk_cell BK289.out 1).trans rfl,(blk_cell BK289.out 2).trans rfl,(blk_cell BK289.out 3).trans rfl,(blk_cell BK289.out 4).trans rfl⟩ (fun hHeld => ?_);clear hK K;refine norm_ (a':=?_) ?_ ?_
     rotate_left
     ·show Act.put _ (some 34) _ = _
      simp only [Act.put,List.setIfInBounds_toArray,List.set_cons_zero,List.set_cons_succ,i64_w,i32_w];rfl
     refine pureB (i:=4) (N:=some 35) #[true,true,true,true,true] ?_;refine done_ (by kernel_rfl) ?_;try go_wp2
     go_ret2
     exact RT (BB HB)
    ·replace c11:=Bool.eq_false_iff.mpr c11;subst c11;have H1:(some (19,(-1))) = some (r1,r2):=by rw [if_neg (show ¬ (false = true) by decide)] at H;exact H
     clear H;have H:=H1;clear H1;simp only [Option.some.injEq,Prod.mk.injEq] at H;obtain ⟨rfl,rfl⟩:=H;go_enter Tryd.func29,Tryd.ntmps29;try go_wp2_with (first | ((with_reducible refine gate_dst (N:=2) rfl ?_);refine boxE 2 #[.slice A0_0 l0_0.length c0_0,.int .i64 a0_1] 24 ?_;intro gb288 hg w24 hbox hb;have BK288:=AM (hbox);have GW288:=GW HB hg;have GE288:=GW HB hg;replace HB:=BS HB hb;clear hb hbox hg) | ((with_reducible refine gate_dst (N:=3) rfl ?_);refine boxE 3 #[.int .i64 a1_0,.int .i64 a1_1,.int .i64 a1_2,.int .i64 a1_3,.int .i64 a1_4] 26 ?_;intro gb289 hg w25 hbox hb;have BK289:=AM (hbox);have GW289:=GW HB hg;have GE289:=GW HB hg;replace HB:=BS HB hb;have NB288_289:=NL BK288 hg;have NB289_288:=NG BK288 hg;replace BK288:=BE BK288 hb;clear hb hbox hg;have hnb26:=NB289_288.out;have hnc26:=NB288_289.out;have hcz27_0:=BC BK289 0 (.int .i64 a1_0) rfl;have hcz27_1:=BC BK289 1 (.int .i64 a1_1) rfl;have hcz27_2:=BC BK289 2 (.int .i64 a1_2) rfl;have hcz27_3:=BC BK289 3 (.int .i64 a1_3) rfl;have hcz27_4:=BC BK289 4 (.int .i64 a1_4) rfl;have hfz27_0:=BF BK289 0;have hfz27_1:=BF BK289 1;have hfz27_2:=BF BK289 2;have hfz27_3:=BF BK289 3;have hfz27_4:=BF BK289 4) | ((with_reducible refine gate_callee (f:=22) rfl ?_);refine goesM_ (some 11) rfl rfl Tryd.func22 #[.agg #[.int .i64 a1_0,.int .i64 a1_1,.int .i64 a1_2,.int .i64 a1_3,.int .i64 a1_4]] rfl ?_;(with_reducible refine (limit_Right.calls a1_0 a1_1 a1_2 a1_3 a1_4 true _ A3.out).mono ?_);rintro e w28 ⟨rfl,hb⟩;refine ⟨_,rfl,?_⟩;replace BK288:=BE BK288 hb;replace BK289:=BE BK289 hb;replace HB:=BS HB hb;(try clear hb);(try clear hb2);(try clear hk);(try clear hi);have hcz29_0:=BC BK288 0 (.slice A0_0 l0_0.length c0_0) rfl;have hcz29_1:=BC BK288 1 (.int .i64 a0_1) rfl;have hfz29_0:=BF BK288 0;have hfz29_1:=BF BK288 1) | ((with_reducible refine gate_callee (f:=31) rfl ?_);refine goesM_ (some 15) rfl rfl Tryd.func31 #[.agg #[.slice A0_0 l0_0.length c0_0,.int .i64 a0_1]] rfl ?_;(with_reducible refine (old_Typed.calls k _ _ l0_0 a0_1 t291 t292 _ ?sideT ?side1 ?side2 A5.out).mono ?_);(case sideT => exact fun w_ hb_ => HTB_.out w_ (below_step (BB HB) hb_));(case side1 => exact Kd.C_below HR0_0.out (BB HB));(case side2 => exact HC0_0.out);rintro e w30 ⟨rfl,hb⟩;refine ⟨_,rfl,?_⟩;replace BK288:=BE BK288 hb;replace BK289:=BE BK289 hb;replace HB:=BS HB hb;(try clear hb);(try clear hb2);(try clear hk);(try clear hi);have hcz31_0:=BC BK288 0 (.slice A0_0 l0_0.length c0_0) rfl;have hcz31_1:=BC BK288 1 (.int .i64 a0_1) rfl;have hfz31_0:=BF BK288 0;have hfz31_1:=BF BK288 1) | ((with_reducible refine gate_callee (f:=40) rfl ?_);refine goesM_ (some 24) rfl rfl Tryd.func40 #[.agg #[.slice A0_0 l0_0.length c0_0,.int .i64 a0_1]] rfl ?_;(with_reducible refine (graph_Check.calls k _ _ l0_0 a0_1 t293 t294 _ ?side1 ?side2 A7.out).mono ?_);(case side1 => exact Kd.C_below HR0_0.out (BB HB));(case side2 => exact HC0_0.out);rintro e w32 ⟨rfl,hb⟩;refine ⟨_,rfl,?_⟩;replace BK288:=BE BK288 hb;replace BK289:=BE BK289 hb;replace HB:=BS HB hb;(try clear hb);(try clear hb2);(try clear hk);(try clear hi)))
     replace BK288:=AM (blk_drew BK288.out);replace BK289:=AM (blk_drew BK289.out);replace HB:=AM (below_drew1 HB.out);refine start_ (n:=5) (S:=fun w' => w'.cell? ⟨gb288,0,none⟩ = some (.slice A0_0 l0_0.length c0_0)∧w'.cell? ⟨gb288,1,none⟩ = some (.int .i64 a0_1)∧w'.cell? ⟨gb289,0,none⟩ = some (.int .i64 a1_0)∧w'.cell? ⟨gb289,1,none⟩ = some (.int .i64 a1_1)∧w'.cell? ⟨gb289,2,none⟩ = some (.int .i64 a1_2)∧w'.cell? ⟨gb289,3,none⟩ = some (.int .i64 a1_3)∧w'.cell? ⟨gb289,4,none⟩ = some (.int .i64 a1_4)) (ds:=[]) #[false,false,false,false,false] (by kernel_rfl) rfl rfl ⟨(blk_cell BK288.out 0).trans rfl,(blk_cell BK288.out 1).trans rfl,(blk_cell BK289.out 0).trans rfl,(blk_cell BK289.out 1).trans rfl,(blk_cell BK289.out 2).trans rfl,(blk_cell BK289.out 3).trans rfl,(blk_cell BK289.out 4).trans rfl⟩ (fun hHeld => ?_);generalize w32.drew = w33 at BK288 BK289 HB hHeld ⊢;refine takeB_ (i:=0) (N:=some 31) (hi:=rfl) (hN:=rfl) #[true,false,false,false,false] hHeld (by rintro w' ⟨s0,s1,s2,s3,s4,s5,s6⟩;go_simp;with_reducible rfl) ?_;refine takeB_ (i:=2) (N:=some 33) (hi:=rfl) (hN:=rfl) #[true,false,true,false,false] hHeld (by rintro w' ⟨s0,s1,s2,s3,s4,s5,s6⟩;go_simp;with_reducible rfl) ?_;refine one_ (i:=1) (N:=some 32) #[true,true,true,false,false] rfl rfl (by kernel_rfl) (by decide) (fun K hK => ?_);refine goesN Tryd.func20 #[.agg #[.slice A0_0 l0_0.length c0_0,.int .i64 a0_1]] ?_;with_reducible refine (limit_Measure.calls k _ _ l0_0 a0_1 t295 t296 t297 t298 t299 _ ?side1 ?side2 A9.out).mono ?_
     (case side1 => exact Kd.C_below HR0_0.out (BB HB))
     (case side2 => exact HC0_0.out)
     rintro e w34 ⟨rfl,hb⟩;refine ⟨_,rfl,?_⟩;replace BK288:=BE BK288 hb;replace BK289:=BE BK289 hb;replace HB:=BS HB hb;(try clear hb)
     (try clear hb2)
     (try clear hk)
     (try clear hi)
     refine hK.out _ _ ⟨(blk_cell BK288.out 0).trans rfl,(blk_cell BK288.out 1).trans rfl,(blk_cell BK289.out 0).trans rfl,(blk_cell BK289.out 1).trans rfl,(blk_cell BK289.out 2).trans rfl,(blk_cell BK289.out 3).trans rfl,(blk_cell BK289.out 4).trans rfl⟩ (fun hHeld => ?_);clear hK K;refine norm_ (a':=?_) ?_ ?_
     rotate_left
     ·show Act.put _ (some 32) _ = _
      simp only [Act.put,List.setIfInBounds_toArray,List.set_cons_zero,List.set_cons_succ,i64_w,i32_w];rfl
     refine one_ (i:=3) (N:=some 34) #[true,true,true,true,false] rfl rfl (by kernel_rfl) (by decide) (fun K hK => ?_);refine goesN Tryd.func24 #[.agg #[.int .i64 t295,.int .i64 t296,.int .i64 t297,.int .i64 t298,.int .i64 t299],.agg #[.int .i64 a1_0,.int .i64 a1_1,.int .i64 a1_2,.int .i64 a1_3,.int .i64 a1_4]] ?_;with_reducible refine (limit_Within.calls t295 t296 t297 t298 t299 a1_0 a1_1 a1_2 a1_3 a1_4 false _ A10.out).mono ?_
     rintro e w35 ⟨rfl,hb⟩;refine ⟨_,rfl,?_⟩;replace BK288:=BE BK288 hb;replace BK289:=BE BK289 hb;replace HB:=BS HB hb;(try clear hb)
     (try clear hb2)
     (try clear hk)
     (try clear hi)
     refine hK.out _ _ ⟨(blk_cell BK288.out 0).trans rfl,(blk_cell BK288.out 1).trans rfl,(blk_cell BK289.out 0).trans rfl,(blk_cell BK289.out 1).trans rfl,(blk_cell BK289.out 2).trans rfl,(blk_cell BK289.out 3).trans rfl,(blk_cell BK289.out 4).trans rfl⟩ (fun hHeld => ?_);clear hK K;refine norm_ (a':=?_) ?_ ?_
     rotate_left
     ·show Act.put _ (some 34) _ = _
      simp only [Act.put,List.setIfInBounds_toArray,List.set_cons_zero,List.set_cons_succ,i64_w,i32_w];rfl
     refine pureB (i:=4) (N:=some 35) #[true,true,true,true,true] ?_;refine done_ (by kernel_rfl) ?_;try go_wp2
     go_ret2
     exact RT (BB HB)
   ·rw [if_neg c8] at H;have c8b0:(t293 == 0) = false:=beq_eq_false_iff_ne.mpr c8;have c8b1:(t293 != 0) = true:=bne_iff_ne.mpr c8;simp only [Option.some.injEq,Prod.mk.injEq] at H;obtain ⟨rfl,rfl⟩:=H;go_enter Tryd.func29,Tryd.ntmps29;go_wp2_with (first | ((with_reducible refine gate_dst (N:=2) rfl ?_);refine boxE 2 #[.slice A0_0 l0_0.length c0_0,.int .i64 a0_1] 24 ?_;intro gb288 hg w36 hbox hb;have BK288:=AM (hbox);have GW288:=GW HB hg;have GE288:=GW HB hg;replace HB:=BS HB hb;clear hb hbox hg) | ((with_reducible refine gate_dst (N:=3) rfl ?_);refine boxE 3 #[.int .i64 a1_0,.int .i64 a1_1,.int .i64 a1_2,.int .i64 a1_3,.int .i64 a1_4] 26 ?_;intro gb289 hg w37 hbox hb;have BK289:=AM (hbox);have GW289:=GW HB hg;have GE289:=GW HB hg;replace HB:=BS HB hb;have NB288_289:=NL BK288 hg;have NB289_288:=NG BK288 hg;replace BK288:=BE BK288 hb;clear hb hbox hg;have hnb38:=NB289_288.out;have hnc38:=NB288_289.out;have hcz39_0:=BC BK289 0 (.int .i64 a1_0) rfl;have hcz39_1:=BC BK289 1 (.int .i64 a1_1) rfl;have hcz39_2:=BC BK289 2 (.int .i64 a1_2) rfl;have hcz39_3:=BC BK289 3 (.int .i64 a1_3) rfl;have hcz39_4:=BC BK289 4 (.int .i64 a1_4) rfl;have hfz39_0:=BF BK289 0;have hfz39_1:=BF BK289 1;have hfz39_2:=BF BK289 2;have hfz39_3:=BF BK289 3;have hfz39_4:=BF BK289 4) | ((with_reducible refine gate_callee (f:=22) rfl ?_);refine goesM_ (some 11) rfl rfl Tryd.func22 #[.agg #[.int .i64 a1_0,.int .i64 a1_1,.int .i64 a1_2,.int .i64 a1_3,.int .i64 a1_4]] rfl ?_;(with_reducible refine (limit_Right.calls a1_0 a1_1 a1_2 a1_3 a1_4 true _ A3.out).mono ?_);rintro e w40 ⟨rfl,hb⟩;refine ⟨_,rfl,?_⟩;replace BK288:=BE BK288 hb;replace BK289:=BE BK289 hb;replace HB:=BS HB hb;(try clear hb);(try clear hb2);(try clear hk);(try clear hi);have hcz41_0:=BC BK288 0 (.slice A0_0 l0_0.length c0_0) rfl;have hcz41_1:=BC BK288 1 (.int .i64 a0_1) rfl;have hfz41_0:=BF BK288 0;have hfz41_1:=BF BK288 1) | ((with_reducible refine gate_callee (f:=31) rfl ?_);refine goesM_ (some 15) rfl rfl Tryd.func31 #[.agg #[.slice A0_0 l0_0.length c0_0,.int .i64 a0_1]] rfl ?_;(with_reducible refine (old_Typed.calls k _ _ l0_0 a0_1 t291 t292 _ ?sideT ?side1 ?side2 A5.out).mono ?_);(case sideT => exact fun w_ hb_ => HTB_.out w_ (below_step (BB HB) hb_));(case side1 => exact Kd.C_below HR0_0.out (BB HB));(case side2 => exact HC0_0.out);rintro e w42 ⟨rfl,hb⟩;refine ⟨_,rfl,?_⟩;replace BK288:=BE BK288 hb;replace BK289:=BE BK289 hb;replace HB:=BS HB hb;(try clear hb);(try clear hb2);(try clear hk);(try clear hi);have hcz43_0:=BC BK288 0 (.slice A0_0 l0_0.length c0_0) rfl;have hcz43_1:=BC BK288 1 (.int .i64 a0_1) rfl;have hfz43_0:=BF BK288 0;have hfz43_1:=BF BK288 1) | ((with_reducible refine gate_callee (f:=40) rfl ?_);refine goesM_ (some 24) rfl rfl Tryd.func40 #[.agg #[.slice A0_0 l0_0.length c0_0,.int .i64 a0_1]] rfl ?_;(with_reducible refine (graph_Check.calls k _ _ l0_0 a0_1 t293 t294 _ ?side1 ?side2 A7.out).mono ?_);(case side1 => exact Kd.C_below HR0_0.out (BB HB));(case side2 => exact HC0_0.out);rintro e w44 ⟨rfl,hb⟩;refine ⟨_,rfl,?_⟩;replace BK288:=BE BK288 hb;replace BK289:=BE BK289 hb;replace HB:=BS HB hb;(try clear hb);(try clear hb2);(try clear hk);(try clear hi)))
    go_ret2
    exact RT (BB HB)
  ·rw [if_neg c6] at H;have c6b0:(t291 == 0) = false:=beq_eq_false_iff_ne.mpr c6;have c6b1:(t291 != 0) = true:=bne_iff_ne.mpr c6;simp only [Option.some.injEq,Prod.mk.injEq] at H;obtain ⟨rfl,rfl⟩:=H;go_enter Tryd.func29,Tryd.ntmps29;go_wp2_with (first | ((with_reducible refine gate_dst (N:=2) rfl ?_);refine boxE 2 #[.slice A0_0 l0_0.length c0_0,.int .i64 a0_1] 24 ?_;intro gb288 hg w45 hbox hb;have BK288:=AM (hbox);have GW288:=GW HB hg;have GE288:=GW HB hg;replace HB:=BS HB hb;clear hb hbox hg) | ((with_reducible refine gate_dst (N:=3) rfl ?_);refine boxE 3 #[.int .i64 a1_0,.int .i64 a1_1,.int .i64 a1_2,.int .i64 a1_3,.int .i64 a1_4] 26 ?_;intro gb289 hg w46 hbox hb;have BK289:=AM (hbox);have GW289:=GW HB hg;have GE289:=GW HB hg;replace HB:=BS HB hb;have NB288_289:=NL BK288 hg;have NB289_288:=NG BK288 hg;replace BK288:=BE BK288 hb;clear hb hbox hg;have hnb47:=NB289_288.out;have hnc47:=NB288_289.out;have hcz48_0:=BC BK289 0 (.int .i64 a1_0) rfl;have hcz48_1:=BC BK289 1 (.int .i64 a1_1) rfl;have hcz48_2:=BC BK289 2 (.int .i64 a1_2) rfl;have hcz48_3:=BC BK289 3 (.int .i64 a1_3) rfl;have hcz48_4:=BC BK289 4 (.int .i64 a1_4) rfl;have hfz48_0:=BF BK289 0;have hfz48_1:=BF BK289 1;have hfz48_2:=BF BK289 2;have hfz48_3:=BF BK289 3;have hfz48_4:=BF BK289 4) | ((with_reducible refine gate_callee (f:=22) rfl ?_);refine goesM_ (some 11) rfl rfl Tryd.func22 #[.agg #[.int .i64 a1_0,.int .i64 a1_1,.int .i64 a1_2,.int .i64 a1_3,.int .i64 a1_4]] rfl ?_;(with_reducible refine (limit_Right.calls a1_0 a1_1 a1_2 a1_3 a1_4 true _ A3.out).mono ?_);rintro e w49 ⟨rfl,hb⟩;refine ⟨_,rfl,?_⟩;replace BK288:=BE BK288 hb;replace BK289:=BE BK289 hb;replace HB:=BS HB hb;(try clear hb);(try clear hb2);(try clear hk);(try clear hi);have hcz50_0:=BC BK288 0 (.slice A0_0 l0_0.length c0_0) rfl;have hcz50_1:=BC BK288 1 (.int .i64 a0_1) rfl;have hfz50_0:=BF BK288 0;have hfz50_1:=BF BK288 1) | ((with_reducible refine gate_callee (f:=31) rfl ?_);refine goesM_ (some 15) rfl rfl Tryd.func31 #[.agg #[.slice A0_0 l0_0.length c0_0,.int .i64 a0_1]] rfl ?_;(with_reducible refine (old_Typed.calls k _ _ l0_0 a0_1 t291 t292 _ ?sideT ?side1 ?side2 A5.out).mono ?_);(case sideT => exact fun w_ hb_ => HTB_.out w_ (below_step (BB HB) hb_));(case side1 => exact Kd.C_below HR0_0.out (BB HB));(case side2 => exact HC0_0.out);rintro e w51 ⟨rfl,hb⟩;refine ⟨_,rfl,?_⟩;replace BK288:=BE BK288 hb;replace BK289:=BE BK289 hb;replace HB:=BS HB hb;(try clear hb);(try clear hb2);(try clear hk);(try clear hi)))
   go_ret2
   exact RT (BB HB)
 ·replace c4:=Bool.eq_false_iff.mpr c4;subst c4;have H1:(some (1,(-1))) = some (r1,r2):=by rw [if_neg (show ¬ (false = true) by decide)] at H;exact H
  clear H;have H:=H1;clear H1;simp only [Option.some.injEq,Prod.mk.injEq] at H;obtain ⟨rfl,rfl⟩:=H;go_enter Tryd.func29,Tryd.ntmps29;go_wp2_with (first | ((with_reducible refine gate_dst (N:=2) rfl ?_);refine boxE 2 #[.slice A0_0 l0_0.length c0_0,.int .i64 a0_1] 24 ?_;intro gb288 hg w52 hbox hb;have BK288:=AM (hbox);have GW288:=GW HB hg;have GE288:=GW HB hg;replace HB:=BS HB hb;clear hb hbox hg) | ((with_reducible refine gate_dst (N:=3) rfl ?_);refine boxE 3 #[.int .i64 a1_0,.int .i64 a1_1,.int .i64 a1_2,.int .i64 a1_3,.int .i64 a1_4] 26 ?_;intro gb289 hg w53 hbox hb;have BK289:=AM (hbox);have GW289:=GW HB hg;have GE289:=GW HB hg;replace HB:=BS HB hb;have NB288_289:=NL BK288 hg;have NB289_288:=NG BK288 hg;replace BK288:=BE BK288 hb;clear hb hbox hg;have hnb54:=NB289_288.out;have hnc54:=NB288_289.out;have hcz55_0:=BC BK289 0 (.int .i64 a1_0) rfl;have hcz55_1:=BC BK289 1 (.int .i64 a1_1) rfl;have hcz55_2:=BC BK289 2 (.int .i64 a1_2) rfl;have hcz55_3:=BC BK289 3 (.int .i64 a1_3) rfl;have hcz55_4:=BC BK289 4 (.int .i64 a1_4) rfl;have hfz55_0:=BF BK289 0;have hfz55_1:=BF BK289 1;have hfz55_2:=BF BK289 2;have hfz55_3:=BF BK289 3;have hfz55_4:=BF BK289 4) | ((with_reducible refine gate_callee (f:=22) rfl ?_);refine goesM_ (some 11) rfl rfl Tryd.func22 #[.agg #[.int .i64 a1_0,.int .i64 a1_1,.int .i64 a1_2,.int .i64 a1_3,.int .i64 a1_4]] rfl ?_;(with_reducible refine (limit_Right.calls a1_0 a1_1 a1_2 a1_3 a1_4 false _ A3.out).mono ?_);rintro e w56 ⟨rfl,hb⟩;refine ⟨_,rfl,?_⟩;replace BK288:=BE BK288 hb;replace BK289:=BE BK289 hb;replace HB:=BS HB hb;(try clear hb);(try clear hb2);(try clear hk);(try clear hi)))
  go_ret2
  exact RT (BB HB)
section
open Go.Lib
theorem wpList_insert {ops:Array Oper} {rest:List Oper} {o:Oper} {a:Act} {Q:Exit→Act→World→Prop} (w:World)
  (hg:o.guard = none) (m x v:Operand) (hop:o.op = Op.insert 79 m x v) (b n:Nat) (met:List Nat) (hown:Set.IsSet w b n met) (j:Nat) (hj:j≤9223372036854775807) (ji:Int) (hji:ji = (j:Int)) (hn:n < maxLen)
  (hm:a.eval m = .map (some b)) (hx:a.eval x = .int .i64 ji) (hv:a.eval v = .bool true)
  (hK:∀ w',Set.IsSet w' b (n+1) (j :: met)→w.grownBy w' (some b)→wpList Tryd.prog ops Q rest (a.put o.dst undef) w') :
  wpList Tryd.prog ops Q (o :: rest) a w:=by
 subst hji;refine wpList_plain hg fun K' hK' => ?_
 obtain ⟨w',hrun,r1,r2⟩:=hown.store hj hn;unfold Oper.wp
 simp [execOp,hop,hm,hx,hv,hrun,Result.andThen]
 exact hK' _ _ (hK w' r1 r2)
def stackV (st:List (Nat × Nat)):List Value:=st.flatMap fun p => [.int .i64 (p.1:Int),.int .i64 (p.2:Int)]
theorem stackV_len:∀ st:List (Nat × Nat),(stackV st).length = st.length * 2
 | [] => rfl
 | p :: st => by
  have:=stackV_len st;unfold stackV at this ⊢
  rw [List.flatMap_cons,List.length_append,this,List.length_cons];simp
  omega
theorem stackV_snoc (st:List (Nat × Nat)) (p:Nat × Nat):stackV (st ++ [p]) = stackV st ++ [.int .i64 (p.1:Int),.int .i64 (p.2:Int)]:=by
 unfold stackV
 rw [List.flatMap_append];simp
theorem own_apart {w:World} {b b' e e' s s' n n':Nat} {v v':Value} {xs ys:List Value} (h:w.ownsRow b e s v n xs) (h2:w.ownsRow b' e' s' v' n' ys) (he:e≠e'):v.ownBlock = none ∨ v.ownBlock≠v'.ownBlock:=by
 rcases h.2 with ⟨rfl,_⟩ | ⟨g,cap,cur,rfl,hg,hh,_⟩
 ·exact .inl rfl
 ·refine .inr (fun hx => ?_);rcases h2.2 with ⟨rfl,_⟩ | ⟨g',cap',cur',rfl,hg',hh',_⟩
  ·simp [Value.ownBlock] at hx
  ·simp [Value.ownBlock] at hx
   subst hx;rw [hh] at hh';simp only [Option.some.injEq,Obj.cells.injEq] at hh';exact he hh'.2.1
theorem own_cut2 {w:World} {base e g n cap:Nat} {xs:List Value} {x y:Value} (h:w.ownsRow base e 2 (.slice (some ⟨g,0,none⟩) (n+1) cap) (n+1) (xs ++ [x,y])):w.ownsRow base e 2 (.slice (some ⟨g,0,none⟩) n cap) n xs:=by
 obtain ⟨hl,h2⟩:=h;have hx:xs.length = n * 2:=by simp at hl;omega
 refine ⟨hx,?_⟩;rcases h2 with ⟨h2,_⟩ | ⟨g',cap',cur,hv,hg,hh,hn,hc,hs,ht⟩
 ·cases h2
 ·cases hv
  refine .inr ⟨g,cap,cur,rfl,hg,hh,by omega,hc,hs,?_⟩;have:(cur.toList.take ((n+1) * 2)).take (n * 2) = (xs ++ [x,y]).take (n * 2):=by rw [ht]
  rw [List.take_take,Nat.min_eq_left (by omega),← hx,List.take_left] at this;rw [← hx];exact this
theorem own_cap {w:World} {base e s g n cap n':Nat} {xs:List Value} (h:w.ownsRow base e s (.slice (some ⟨g,0,none⟩) n cap) n' xs):n≤cap∧cap≤maxLen:=by
 rcases h.2 with ⟨h,_⟩ | ⟨g',cap',cur,hv,_,_,hn,hm,_⟩
 ·cases h
 ·cases hv;exact ⟨hn,hm⟩
theorem corder_calls (A0:Option Addr) (c0:Nat) (l0:List (S53)) (a1:Int) (w:World) (hr0:Kd.C k53 w A0 l0.length l0) (hc0:l0.length≤c0) (hlen:l0.length≤1000000) (hsum:((kidsI l0).map List.length).sum≤1000000)
  (h0:0≤a1) (h1:a1 < (l0.length:Int)) (hgood:GT.firstBad (kidsI l0) = none) (o:List Nat) (ho:GT.ordL (GT.toG (kidsI l0)) 10000000 [(a1.toNat,0)] [a1.toNat] [] = some o) :
  Calls Tryd.prog 79 #[.agg #[.slice A0 l0.length c0,.int .i64 a1]] w fun e w' => ∃ v0_:Value,e = .returned (v0_)∧Kd.R (Kd.int .i64) 3 w' w.heap.size (fun _ => True) v0_ (intsOf o)∧Below w.heap.size w w':=by
 have HW:=Lib.hid (GT.wf_of_firstBad hgood);have HR:=Lib.hid hr0;have HS:=Lib.hid hsum;have HG:=Lib.hid hgood;have HO:=Lib.hid ho;have HU:=Lib.hid hc0;clear hr0 hsum hgood ho hc0;have hmm:=@run_makeMap Tryd.prog;obtain ⟨r,hr⟩:∃ r:Nat,a1 = (r:Int):=⟨a1.toNat,by omega⟩;have HRT:=Lib.hid hr;have hrl:r < l0.length:=by omega
 have hrw:r≤9223372036854775807:=by omega
 have HO2:Hid (GT.ordL (GT.toG (kidsI l0)) 10000000 [(r,0)] [r] [] = some o):=Lib.hid (by have h:=HO.out;rw [hr,Int.toNat_natCast] at h;exact h);clear HO hr;go_enter Tryd.func79,Tryd.ntmps79;go_wp2_with (first
  | (refine wpList_insert _ rfl _ _ _ rfl (w.heap.size+1) 0 [] (by have:=Set.made (w.alloc (.cells #[.slice A0 l0.length c0,.int .i64 a1] 24));simpa using this) r hrw a1 HRT.out (by unfold maxLen;omega) rfl rfl rfl ?_;intro w5 hset5 hg5;have HS5:=Lib.hid hset5;have HB5:=Lib.hid (Kw.grown_below (((Below.refl _ w).alloc (Nat.le_refl _) (.cells #[.slice A0 l0.length c0,.int .i64 a1] 24)).alloc (by simp) (.map #[] 0)) hg5 (fun g h => by cases h;omega));have HX5:Hid (SBox w5 w.heap.size A0 l0.length c0 a1):=Lib.hid ((hg5.block w.heap.size (by simp;omega) (by simp)).trans (blk_alloc (heap_alloc_new w _) _));have q1:w5.cell? ⟨w.heap.size,1,none⟩ = some (.int .i64 a1):=(blk_cell HX5.out 1).trans rfl;have hsz5:w.heap.size+2≤w5.heap.size:=(by have:=hg5.size;simp at this;omega);have HZ5:=Lib.hid hsz5;clear hset5 hg5 hsz5))
 clear q1;obtain ⟨iI,hiI,hzI0,hzI1,hzI2⟩:=info_parts (show (Tryd.prog.info? 3).map (fun i => (i.zero,i.size,i.bytes)) = some (some (.int .i64 0),1,8) from by kernel_rfl);obtain ⟨iF,hiF,hzF0,hzF1,hzF2⟩:=info_parts (show (Tryd.prog.info? 108).map (fun i => (i.zero,i.size,i.bytes)) = some (some (.agg #[.int .i64 0,.int .i64 0]),2,16) from by kernel_rfl);go_loopg [3,5] 10000000 (fun kq v3 v5 wr => ∃ (S:List (Nat × Nat)) (met out:List Nat) (m:Nat),Aside0 (GT.ordL (GT.toG (kidsI l0)) kq S met out = some o)∧Aside0 (wr.ownsRow (w.heap.size+2) 108 2 v5 S.length (stackV S.reverse))∧Aside0 (wr.ownsRow (w.heap.size+2) 3 1 v3 out.length ((intsOf out).map (Value.int .i64)))∧Aside0 (Set.IsSet wr (w.heap.size+1) m met∧m+kq≤10000001) ∧
   Aside0 (∀ s ∈ S,s.1 < l0.length∧s.2≤(GT.kids (GT.toG (kidsI l0)) s.1).length)∧Aside0 (S.length+kq≤10000001)∧Aside0 (out.length+kq≤10000000)∧Aside0 (SBox wr w.heap.size A0 l0.length c0 a1)∧Aside0 (Below w.heap.size w wr))
 case atStart =>
  refine ⟨[(r,0)],[r],[],1,⟨HO2.out⟩,⟨?_⟩,⟨?_⟩,⟨?_,by omega⟩,⟨?_⟩,⟨by simp⟩,⟨by simp⟩,⟨?_⟩,⟨?_⟩⟩
  ·have hz:=HZ5.out;rw [HRT.out];exact ⟨rfl,.inr ⟨w5.heap.size,1,#[.int .i64 (r:Int),.int .i64 0],rfl,hz,heap_alloc_new w5 _,Nat.le_refl _,by unfold maxLen;omega,rfl,rfl⟩⟩
  ·exact ⟨rfl,.inl ⟨rfl,rfl⟩⟩
  ·exact HS5.out.alloc _
  ·intro s hs;rw [List.mem_singleton] at hs;subst hs;exact ⟨hrl,Nat.zero_le _⟩
  ·exact blk_alloc HX5.out _
  ·exact HB5.out.alloc (by have:=HZ5.out;omega) _
 case round =>
  obtain ⟨S,met,out,m,hord,hst,hout,hset,hin,hsl,hol,hbx,hbel⟩:=hrel;have q0:wr.cell? ⟨w.heap.size,0,none⟩ = some (.slice A0 l0.length c0):=(blk_cell hbx.out 0).trans rfl;cases gk with
  | zero => have:=hord.out;simp [GT.ordL] at this
  | succ gk =>
   cases S with
   | nil =>
    have hform:∃ A c,u5 = .slice A 0 c:=by
     rcases hst.out.2 with ⟨rfl,_⟩ | ⟨g,cap,cur,rfl,_⟩
     ·exact ⟨_,_,rfl⟩
     ·exact ⟨_,_,rfl⟩
    obtain ⟨A,c,rfl⟩:=hform;go_wp2_with (fail)
    go_ret;have h:=hord.out;rw [GT.ordL] at h;obtain rfl:=Option.some.inj h;exact ⟨_,rfl,Kd.R_lower (Kw.R_of_own (by rw [intsOf_len];exact hout.out)) (by omega),hbel.out⟩
   | cons p S =>
    obtain ⟨x,i⟩:=p;have hstd0:=hst.out.drew;have houtd:=hout.out.drew;have hsetd:=hset.out.1.drew;have hsetm:=hset.out.2;have hbxd:SBox wr.drew w.heap.size A0 l0.length c0 a1:=blk_drew hbx.out;have hbeld:=hbel.out.drew;have q0d:wr.drew.cell? ⟨w.heap.size,0,none⟩ = some (.slice A0 l0.length c0):=q0;clear q0;obtain ⟨g,cap,hv⟩:∃ g cap,u5 = .slice (some ⟨g,0,none⟩) (S.length+1) cap:=by
     rcases hstd0.2 with ⟨_,h0⟩ | ⟨g,cap,cur,hv,_⟩
     ·simp at h0
     ·exact ⟨g,cap,by simpa using hv⟩
    subst hv;have hst2:=hstd0;rw [List.length_cons,List.reverse_cons,stackV_snoc] at hst2;have hsr:(stackV S.reverse).length = S.length * 2:=by rw [stackV_len,List.length_reverse]
    obtain ⟨xi,hxi⟩:∃ z:Int,z = (x:Int):=⟨_,rfl⟩;obtain ⟨ii,hii⟩:∃ z:Int,z = (i:Int):=⟨_,rfl⟩;have hcx:wr.drew.cell? ⟨g,S.length * 2,none⟩ = some (.int .i64 xi):=by
     rw [hst2.cellAt _ (by omega),List.getElem?_append_right (by omega),hsr,hxi];simp
    have hc1:wr.drew.cell? ⟨g,S.length * 2+1,none⟩ = some (.int .i64 ii):=by
     rw [hst2.cellAt _ (by omega),List.getElem?_append_right (by omega),hsr,hii];simp
    have hfr:wr.drew.frozen? ⟨g,S.length * 2+1,none⟩ = false:=hst2.frozenAt _;have hcaps:=own_cap hst2;have hcap:=hcaps.1;have hcap2:=hcaps.2;have hgb:w.heap.size+2≤g:=own_base hst2 g rfl;obtain ⟨hxl,hil⟩:=hin.out (x,i) (by simp);have hxl:x < l0.length:=hxl;have hil:i≤(GT.kids (GT.toG (kidsI l0)) x).length:=hil;have hin2:∀ s ∈ S,s.1 < l0.length∧s.2≤(GT.kids (GT.toG (kidsI l0)) s.1).length:=fun s hs => hin.out s (by simp [hs])
    have hxp:0≤xi:=by omega
    have hxq:xi < (l0.length:Int):=by omega
    have hip:0≤ii:=by omega
    obtain ⟨ad,A1,c1,A2,c2,A3,c3,e,hx0,hx1,hx2,hx3,hl1,hi1,hl2,hi2,hl3,hi3⟩:=at_T53 (Kd.C_below HR.out hbeld) xi hxp hxq;cases e
    have hkl:((rd_T53 l0 xi).f3).length≤1000000:=kid_len l0 HS.out xi;have hki:intsOf (GT.kids (GT.toG (kidsI l0)) x) = (rd_T53 l0 xi).f3:=by
     have h:=kids_ints HG.out xi;rw [hxi,Int.toNat_natCast] at h;rw [hxi];exact h
    have hkln:((rd_T53 l0 xi).f3).length = (GT.kids (GT.toG (kidsI l0)) x).length:=by rw [← hki,intsOf_len]
    have HI3:=Lib.hid hi3;have HIN:=Lib.hid hin2;have HKI:=Lib.hid hki;have HKN:=Lib.hid hkln;have HXI:=Lib.hid hxi;have HII:=Lib.hid hii;have HST:=Lib.hid hst2;have HSR:=Lib.hid hsr;have hsz:=hbeld.size;have hsz2:w.heap.size+2≤wr.drew.heap.size:=by have:=(hst2.lt g rfl).2;omega
    have hsw:S.length≤10000000:=by have:=hsl.out;simp at this;omega
    have e1:IntKind.i64.wrap ((S.length:Int)+1 - 1) = S.length:=IntWalk.i64_in _ (by omega) |>.trans (by omega)
    have hsl2:S.length+1+(gk+1)≤10000001:=by have:=hsl.out;simpa using this
    have HSL:=Lib.hid hsl2;clear hst2 hsr hxi hii hx0 hx1 hx2 hl1 hi1 hl2 hi2 hi3 hin2 hki hkln hin hst hsl hcaps hsl2 hstd0 hset hout hbx hbel;go_wp2_with (fail)
    go_region_held3 (fun w' => w'.cell? ⟨w.heap.size,0,none⟩ = some (.slice (some ad) l0.length c0)∧w'.cell? ⟨g,S.length * 2,none⟩ = some (.int .i64 xi)∧w'.cell? ⟨(ad.add (xi.toNat * 4)).block,(ad.add (xi.toNat * 4)).off+3,none⟩ = some (.slice A3 (rd_T53 l0 xi).f3.length c3)) (go_keep) (fail)
    rename_i hS9;clear hS9;have HSET:=Lib.hid hsetd;have HOUT:=Lib.hid houtd;have HBX:=Lib.hid hbxd;have HBEL:=Lib.hid hbeld;have HSM:=Lib.hid hsetm;clear hsetd houtd hbxd hbeld q0d hx3 hsetm;generalize wr.drew = wd at HSET HOUT HBX HBEL HST HI3 hcx hc1 hfr hsz hsz2 ⊢;by_cases hik:i = (GT.kids (GT.toG (kidsI l0)) x).length
    ·have t4:decide (ii = (((rd_T53 l0 xi).f3).length:Int)) = true:=decide_eq_true (by have:=HII.out;have:=HKN.out;omega);have t4b:(ii == (((rd_T53 l0 xi).f3).length:Int)) = true:=by simpa using t4
     go_wp2_with (at_builtin;refine wpList_append_own _ rfl _ _ 51 rfl (w.heap.size+2) 3 iI (.int .i64 0) 1 8 Tryd.underlying51 hiI hzI0 hzI1 hzI2 rfl (by decide) u3 out.length ((intsOf out).map (Value.int .i64)) rfl (HOUT.out.alloc _) ⟨wd.heap.size,0,none⟩ 1 1 [.int .i64 xi] rfl rfl (fun j u hj => by match j,hj with | 0,hj => cases hj;exact (blk_cell (heap_alloc_new wd _) 0).trans rfl) (fun u hu => by rw [List.mem_singleton] at hu;subst hu;rfl) (by have:=hol.out;unfold maxLen;omega) (by have:=hol.out;omega) (by simp;omega) ?_;intro v2 w2 hown2 hgrow2 hnil2)
     go_wp2_with (fail)
     go_roundg gk
     case measure => omega
     case rel =>
      have hap:=own_apart (HST.out.alloc (.cells #[.int .i64 xi] 3)) (HOUT.out.alloc (.cells #[.int .i64 xi] 3)) (by decide);have hob:=own_base HOUT.out;refine ⟨S,met,out ++ [x],m,⟨?_⟩,⟨(own_cut2 (HST.out.alloc _)).kept hgrow2 hap⟩,⟨?_⟩,⟨(HSET.out.alloc _).kept hgrow2 (fun h => by have:=hob _ h.symm;omega),by have:=HSM.out;omega⟩,⟨HIN.out⟩,⟨by have:=HSL.out;omega⟩,⟨by have:=hol.out;simp;omega⟩,⟨(hgrow2.block w.heap.size (by have:=blk_lt HBX.out;simp;omega) (fun h => by have:=hob _ h.symm;omega)).trans (blk_alloc HBX.out _)⟩,⟨Kw.grown_below (HBEL.out.alloc hsz _) hgrow2 (fun g h => by have:=hob _ h;omega)⟩⟩
      ·have h:=hord.out;rw [GT.ordL,if_pos hik] at h;exact h
      ·have e:(intsOf (out ++ [x])).map (Value.int .i64) = (intsOf out).map (Value.int .i64) ++ [.int .i64 xi]:=by unfold intsOf;rw [HXI.out];simp
       rw [e,List.length_append];exact hown2
    ·have hi1:ii < (((rd_T53 l0 xi).f3).length:Int):=by have:=HII.out;have:=HKN.out;omega
     have t4:decide (ii = (((rd_T53 l0 xi).f3).length:Int)) = false:=decide_eq_false (by omega);have t4b:(ii == (((rd_T53 l0 xi).f3).length:Int)) = false:=by simpa using t4
     have t4n:¬ ii = (((rd_T53 l0 xi).f3).length:Int):=by omega
     obtain ⟨ad3,e3,hx4⟩:=Kd.at_int HI3.out ii hip hi1;cases e3
     obtain ⟨kn,hkn⟩:∃ kn,kn = (GT.kids (GT.toG (kidsI l0)) x).getD i 0:=⟨_,rfl⟩;obtain ⟨ki,hki⟩:∃ ki,ki = rd ((rd_T53 l0 xi).f3) ii:=⟨_,rfl⟩;have hil2:i < (GT.kids (GT.toG (kidsI l0)) x).length:=by omega
     have hkm:kn ∈ GT.kids (GT.toG (kidsI l0)) x:=by rw [hkn,List.getD_eq_getElem?_getD,List.getElem?_eq_getElem hil2];exact List.getElem_mem _
     have hknl:kn < l0.length:=by have:=HW.out x kn hkm;rw [GT.length_toG,kids_len] at this;exact this
     have hkr:ki = (kn:Int):=by
      rw [hki,hkn,← HKI.out,HII.out];show (intsOf _).getD ((i:Int)).toNat 0 = _
      unfold intsOf
      rw [Int.toNat_natCast,List.getD_eq_getElem?_getD,List.getD_eq_getElem?_getD,List.getElem?_map];cases (GT.kids (GT.toG (kidsI l0)) x)[i]? <;> rfl
     rw [← hki] at hx4;have HKR:=Lib.hid hkr;have HKN2:=Lib.hid hkn;have HIL:=Lib.hid hil2;have hkw:kn≤9223372036854775807:=by omega
     have hstd:=HST.out.stored (S.length * 2+1) (.int .i64 (ii+1));have HSE:=Lib.hid (HSET.out.kept hstd.2 (by intro h;cases h;omega));have HSX:Hid (SBox (wd.setCell ⟨g,S.length * 2+1,none⟩ (.int .i64 (ii+1))) w.heap.size (some ad) l0.length c0 a1):=Lib.hid ((hstd.2.block w.heap.size (blk_lt HBX.out) (by intro h;cases h;omega)).trans HBX.out);have HSB:=Lib.hid (Kw.grown_below HBEL.out hstd.2 (fun g h => by cases h;omega));have hso:Hid ((wd.setCell ⟨g,S.length * 2+1,none⟩ (.int .i64 (ii+1))).ownsRow (w.heap.size+2) 108 2 (.slice (some ⟨g,0,none⟩) (S.length+1) cap) (S.length+1) (stackV S.reverse ++ [.int .i64 xi,.int .i64 (ii+1)])):=Lib.hid (by
      have h:=hstd.1;rw [List.set_append_right _ _ (by rw [HSR.out];omega),HSR.out,show S.length * 2+1 - S.length * 2 = 1 by omega,← HXI.out] at h;exact h)
     have HOU:=Lib.hid (HOUT.out.kept hstd.2 (by
      rcases own_apart HOUT.out HST.out (by decide) with h | h
      ·exact .inl h
      ·exact .inr h))
     have hszs:(wd.setCell ⟨g,S.length * 2+1,none⟩ (.int .i64 (ii+1))).heap.size = wd.heap.size:=by simp
     have HZS:=Lib.hid hszs;clear hkn hki hkr hkm hil2 hstd hszs;by_cases hm:kn ∈ met
     ·have hd:decide (kn ∈ met) = true:=decide_eq_true hm;go_wp2_with (at_lookup;refine Set.wpList_look _ rfl _ _ rfl (w.heap.size+1) m met HSE.out kn hkw ki HKR.out rfl rfl ?_;rw [hd])
      go_roundg gk
      case measure => omega
      case rel =>
       refine ⟨(x,i+1) :: S,met,out,m,⟨?_⟩,⟨?_⟩,⟨HOU.out⟩,⟨HSE.out,by have:=HSM.out;omega⟩,⟨?_⟩,⟨by have:=HSL.out;simp;omega⟩,⟨by have:=hol.out;omega⟩,⟨HSX.out⟩,⟨HSB.out⟩⟩
       ·have h:=hord.out;rw [GT.ordL,if_neg hik,← HKN2.out,if_pos hm] at h;exact h
       ·have e:[Value.int .i64 ((x,i+1).1:Int),.int .i64 (((x,i+1).2:Nat):Int)] = [.int .i64 xi,.int .i64 (ii+1)]:=by rw [HXI.out,HII.out];simp
        rw [List.length_cons,List.reverse_cons,stackV_snoc,e];exact hso.out
       ·intro s hs;rcases List.mem_cons.1 hs with rfl | hs
        ·exact ⟨hxl,HIL.out⟩
        ·exact HIN.out s hs
     ·have hd:decide (kn ∈ met) = false:=decide_eq_false hm;have hmx:m < maxLen:=by have:=HSM.out;unfold maxLen;omega
      go_wp2_with (first
       | (at_lookup;refine Set.wpList_look _ rfl _ _ rfl (w.heap.size+1) m met HSE.out kn hkw ki HKR.out rfl rfl ?_;rw [hd])
       | (at_mapUpdate;refine Set.wpList_store _ rfl _ _ _ rfl (w.heap.size+1) m met HSE.out kn hkw ki HKR.out hmx rfl rfl rfl ?_;intro w1 hset1 hg1;have HS1:=Lib.hid hset1;have HG1:=Lib.hid hg1;have HO1:=Lib.hid (hso.out.kept hg1 (.inr (fun h => by simp [Value.ownBlock] at h;omega)));clear hset1 hg1)
       | (at_builtin;refine wpList_append_own _ rfl _ _ 109 rfl (w.heap.size+2) 108 iF (.agg #[.int .i64 0,.int .i64 0]) 2 16 Tryd.underlying109 hiF hzF0 hzF1 hzF2 rfl (by decide) (.slice (some ⟨g,0,none⟩) (S.length+1) cap) (S.length+1) (stackV S.reverse ++ [.int .i64 xi,.int .i64 (ii+1)]) rfl (HO1.out.alloc _) ⟨w1.heap.size,0,none⟩ 1 1 [.int .i64 ki,.int .i64 0] rfl rfl (fun j u hj => by match j,hj with | 0,hj => cases hj;exact (blk_cell (heap_alloc_new w1 _) 0).trans rfl | 1,hj => cases hj;exact (blk_cell (heap_alloc_new w1 _) 1).trans rfl) (fun u hu => by simp at hu;rcases hu with rfl | rfl <;> rfl) (by have:=HSL.out;unfold maxLen;omega) (by have:=HSL.out;omega) (by have:=HG1.out.size;have:=HZS.out;simp;omega) ?_;intro v2 w2 hown2 hgrow2 hnil2))
      go_wp2_with (fail)
      go_roundg gk
      case measure => omega
      case rel =>
       have hz1:=HG1.out.size;have hz0:=HZS.out;have hbz:=blk_lt HBX.out;have hob:=own_base HOUT.out;have hou1:=HOU.out.kept HG1.out (by
        rcases h:u3.ownBlock with _ | q
        ·exact .inl rfl
        ·refine .inr (fun h2 => ?_);have:=hob q h;cases h2
         omega)
       have hap:=own_apart (hou1.alloc (.cells #[.int .i64 ki,.int .i64 0] 108)) (HO1.out.alloc (.cells #[.int .i64 ki,.int .i64 0] 108)) (by decide);refine ⟨(kn,0) :: (x,i+1) :: S,kn :: met,out,m+1,⟨?_⟩,⟨?_⟩,⟨(hou1.alloc _).kept hgrow2 hap⟩,⟨(HS1.out.alloc _).kept hgrow2 (fun h => by simp [Value.ownBlock] at h;omega),by have:=HSM.out;omega⟩,⟨?_⟩,⟨by have:=HSL.out;simp;omega⟩,⟨by have:=hol.out;omega⟩,⟨(hgrow2.block w.heap.size (by simp;omega) (fun h => by simp [Value.ownBlock] at h;omega)).trans (blk_alloc ((HG1.out.block w.heap.size (by omega) (fun h => by simp at h)).trans HSX.out) _)⟩,⟨?_⟩⟩
       ·have h:=hord.out;rw [GT.ordL,if_neg hik,← HKN2.out,if_neg hm] at h;exact h
       ·rw [List.length_cons,List.length_cons,List.reverse_cons,stackV_snoc,List.reverse_cons,stackV_snoc];have e:[Value.int .i64 ((x,i+1).1:Int),.int .i64 (((x,i+1).2:Nat):Int)] = [.int .i64 xi,.int .i64 (ii+1)]:=by rw [HXI.out,HII.out];simp
        have e2:[Value.int .i64 ((kn,0).1:Int),.int .i64 (((kn,0).2:Nat):Int)] = [.int .i64 ki,.int .i64 0]:=by rw [HKR.out];simp
        rw [e,e2];exact hown2
       ·intro s hs;rcases List.mem_cons.1 hs with rfl | hs
        ·exact ⟨hknl,Nat.zero_le _⟩
        ·rcases List.mem_cons.1 hs with rfl | hs
         ·exact ⟨hxl,HIL.out⟩
         ·exact HIN.out s hs
       ·exact Kw.grown_below ((Kw.grown_below HSB.out HG1.out (fun g h => by cases h;omega)).alloc (by omega) _) hgrow2 (fun g h => by simp [Value.ownBlock] at h;omega)
end
def canon_order.f (l0_0:List (S53)) (a0_1:Int):Option (List Int) :=
 if l0_0.length≤1000000∧((kidsI l0_0).map List.length).sum≤1000000∧0≤a0_1∧a0_1 < (l0_0.length:Int)∧GT.firstBad (kidsI l0_0) = none then
  ((GT.ordL (GT.toG (kidsI l0_0)) 10000000 [(a0_1.toNat,0)] [a0_1.toNat] []).bind fun o => some (intsOf o))
 else none
end Go.Proofs.YtcphcaiiofeflaaDoor.GO
