
import Derived.Test.YtcphcaiiofeflaaDoorOvGOx0
import Derived.Test.YtcphcaiiofeflaaDoorOvGOx2
import Derived.Test.YtcphcaiiofeflaaDoorOvGOx21
import Derived.Test.YtcphcaiiofeflaaDoorOvGOx22
namespace Go.Proofs.YtcphcaiiofeflaaDoor.GO
open Go.RowKit Go.Proofs.YtcphcaiiofeflaaDoorW.PrintWords Go.Proofs.YtcphcaiiofeflaaDoorW.PrintLast Go.Proofs.YtcphcaiiofeflaaDoorW.PrintMore
attribute [local go_sem] max2_int min2_int max_two min_two max_three min_three max_four min_four
set_option linter.unusedVariables false
set_option linter.unusedSimpArgs false
def r12_Measure.f (k:Nat) (l0_0:List (S53)) (a0_1:Int):Option (Int × Int × Int × Int × Int):=(r09_Edges.f k l0_0 a0_1).bind fun t406 => ((r12_Texts.f k l0_0 a0_1).bind fun t407 => ((r06_Bytes.f k t407).bind fun t410 => ((r09_Right.f k l0_0 a0_1).bind fun t412 => (if t412 = true then ((r09_Depths.f k l0_0 a0_1).bind fun t413 => (if 0≤a0_1 then (if a0_1 < (t413.length:Int) then (some (0,(l0_0.length:Int),t406,rd t413 a0_1,t410)) else (none)) else (none))) else (some (0,(l0_0.length:Int),t406,0,t410))))))
def r12_Measure.T1:Bool × List (List Nat × List Nat):=(true,[([],[]),([0],[0]),([1],[1]),([],[]),([3],[3]),([],[]),([5,4],[5]),([6,6],[6]),([2,4,7],[2,4,7]),([],[]),([9,8,7,0,1,2,3,4,5,6,7,8,9],[8,9])])
def r12_Measure.B1:List Nat:=[0,1,3,0,8,0,56,120,255,0,1023]
theorem r12_Measure.tab1:rtab .any (opsOf Tryd.f21 1) = r12_Measure.T1:=by kernel_rfl
theorem r12_Measure.bits1:waitsOk r12_Measure.T1.2 r12_Measure.B1 = true:=by kernel_rfl
def r12_Measure.T3:Bool × List (List Nat × List Nat):=(true,[([],[]),([0],[0]),([],[]),([2],[2]),([1,3],[1,3]),([4],[4]),([0,1,2,3,4,5],[]),([6,5,1,0,1,2,3,4,5],[5,6])])
def r12_Measure.B3:List Nat:=[0,1,0,4,15,31,63,127]
theorem r12_Measure.tab3:rtab .any (opsOf Tryd.f21 3) = r12_Measure.T3:=by kernel_rfl
theorem r12_Measure.bits3:waitsOk r12_Measure.T3.2 r12_Measure.B3 = true:=by kernel_rfl
set_option maxHeartbeats 8000000 in
set_option maxRecDepth 100000 in
theorem r12_Measure.calls (k:Nat) (A0_0:Option Addr) (c0_0:Nat) (l0_0:List (S53)) (a0_1:Int) (r1:Int) (r2:Int) (r3:Int) (r4:Int) (r5:Int) (w:World) (hr0_0:Kd.C k53 w A0_0 l0_0.length l0_0) (hc0_0:l0_0.length≤c0_0) (h:r12_Measure.f k l0_0 a0_1 = some (r1,r2,r3,r4,r5)) :
  Calls Tryd.prog 21 #[.agg #[.slice A0_0 l0_0.length c0_0,.int .i64 a0_1]] w fun e w' => e = .returned (.agg #[.int .i64 r1,.int .i64 r2,.int .i64 r3,.int .i64 r4,.int .i64 r5])∧Below w.heap.size w w':=by
 have hu24:=Tryd.underlying24;have hu26:=Tryd.underlying26;have HR0_0:=AM hr0_0;have HC0_0:=AM hc0_0;clear hr0_0 hc0_0;have HB:=AM (Below.refl w.heap.size w);have H:((r09_Edges.f k l0_0 a0_1).bind fun t406 => ((r12_Texts.f k l0_0 a0_1).bind fun t407 => ((r06_Bytes.f k t407).bind fun t410 => ((r09_Right.f k l0_0 a0_1).bind fun t412 => (if t412 = true then ((r09_Depths.f k l0_0 a0_1).bind fun t413 => (if 0≤a0_1 then (if a0_1 < (t413.length:Int) then (some (0,(l0_0.length:Int),t406,rd t413 a0_1,t410)) else (none)) else (none))) else (some (0,(l0_0.length:Int),t406,0,t410))))))) = some (r1,r2,r3,r4,r5):=h;clear h;replace H:=Option.bind_eq_some_iff.mp H;obtain ⟨t406,A20,H⟩:=H;replace H:((r12_Texts.f k l0_0 a0_1).bind fun t407 => ((r06_Bytes.f k t407).bind fun t410 => ((r09_Right.f k l0_0 a0_1).bind fun t412 => (if t412 = true then ((r09_Depths.f k l0_0 a0_1).bind fun t413 => (if 0≤a0_1 then (if a0_1 < (t413.length:Int) then (some (0,(l0_0.length:Int),t406,rd t413 a0_1,t410)) else (none)) else (none))) else (some (0,(l0_0.length:Int),t406,0,t410)))))) = some (r1,r2,r3,r4,r5):=H;have A2:=AM A20;clear A20;replace H:=Option.bind_eq_some_iff.mp H;obtain ⟨t407,A30,H⟩:=H;replace H:((r06_Bytes.f k t407).bind fun t410 => ((r09_Right.f k l0_0 a0_1).bind fun t412 => (if t412 = true then ((r09_Depths.f k l0_0 a0_1).bind fun t413 => (if 0≤a0_1 then (if a0_1 < (t413.length:Int) then (some (0,(l0_0.length:Int),t406,rd t413 a0_1,t410)) else (none)) else (none))) else (some (0,(l0_0.length:Int),t406,0,t410))))) = some (r1,r2,r3,r4,r5):=H;have A3:=AM A30;clear A30;replace H:=Option.bind_eq_some_iff.mp H;obtain ⟨t410,A40,H⟩:=H;replace H:((r09_Right.f k l0_0 a0_1).bind fun t412 => (if t412 = true then ((r09_Depths.f k l0_0 a0_1).bind fun t413 => (if 0≤a0_1 then (if a0_1 < (t413.length:Int) then (some (0,(l0_0.length:Int),t406,rd t413 a0_1,t410)) else (none)) else (none))) else (some (0,(l0_0.length:Int),t406,0,t410)))) = some (r1,r2,r3,r4,r5):=H;have A4:=AM A40;clear A40;replace H:=Option.bind_eq_some_iff.mp H;obtain ⟨t412,A50,H⟩:=H;replace H:(if t412 = true then ((r09_Depths.f k l0_0 a0_1).bind fun t413 => (if 0≤a0_1 then (if a0_1 < (t413.length:Int) then (some (0,(l0_0.length:Int),t406,rd t413 a0_1,t410)) else (none)) else (none))) else (some (0,(l0_0.length:Int),t406,0,t410))) = some (r1,r2,r3,r4,r5):=H;have A5:=AM A50;clear A50;by_cases c6:t412 = true
 ·subst c6;have H1:((r09_Depths.f k l0_0 a0_1).bind fun t413 => (if 0≤a0_1 then (if a0_1 < (t413.length:Int) then (some (0,(l0_0.length:Int),t406,rd t413 a0_1,t410)) else (none)) else (none))) = some (r1,r2,r3,r4,r5):=by rw [if_pos rfl] at H;exact H
  clear H;have H:=H1;clear H1;replace H:=Option.bind_eq_some_iff.mp H;obtain ⟨t413,A70,H⟩:=H;replace H:(if 0≤a0_1 then (if a0_1 < (t413.length:Int) then (some (0,(l0_0.length:Int),t406,rd t413 a0_1,t410)) else (none)) else (none)) = some (r1,r2,r3,r4,r5):=H;have A7:=AM A70;clear A70;by_cases c8:0≤a0_1
  ·rw [if_pos c8] at H;have c8b0:decide (0≤a0_1) = true:=decide_eq_true c8;clear c8;by_cases c9:a0_1 < (t413.length:Int)
   ·rw [if_pos c9] at H;have c9b0:decide (a0_1 < (t413.length:Int)) = true:=decide_eq_true c9;clear c9;simp only [Option.some.injEq,Prod.mk.injEq] at H;obtain ⟨rfl,rfl,rfl,rfl,rfl⟩:=H;go_enter Tryd.func21,Tryd.ntmps21;try go_wp2_with (first | ((with_reducible refine gate_dst (N:=1) rfl ?_);refine boxE 1 #[.slice A0_0 l0_0.length c0_0,.int .i64 a0_1] 24 ?_;intro gb404 hg w10 hbox hb;have BK404:=AM (hbox);have GW404:=GW HB hg;have GE404:=GW HB hg;replace HB:=BS HB hb;clear hb hbox hg) | ((with_reducible refine gate_dst (N:=2) rfl ?_);refine boxE 2 #[.int .i64 0,.int .i64 0,.int .i64 0,.int .i64 0,.int .i64 0] 26 ?_;intro gb405 hg w11 hbox hb;have BK405:=AM (hbox);have GW405:=GW HB hg;have GE405:=GW HB hg;replace HB:=BS HB hb;have NB404_405:=NL BK404 hg;have NB405_404:=NG BK404 hg;replace BK404:=BE BK404 hb;clear hb hbox hg))
    replace BK404:=AM (blk_drew BK404.out);replace BK405:=AM (blk_drew BK405.out);replace HB:=AM (below_drew1 HB.out);refine start_ (n:=11) (S:=fun w' => w'.cell? ⟨gb404,0,none⟩ = some (.slice A0_0 l0_0.length c0_0)∧w'.cell? ⟨gb404,1,none⟩ = some (.int .i64 a0_1)) (ds:=[]) #[false,false,false,false,false,false,false,false,false,false,false] (by kernel_rfl) rfl rfl ⟨(blk_cell BK404.out 0).trans rfl,(blk_cell BK404.out 1).trans rfl⟩ (fun hHeld => ?_);refine with_tabW r12_Measure.tab1 r12_Measure.bits1 (fun HT_ HW_ => ?_);generalize w11.drew = w12 at BK404 BK405 HB hHeld ⊢;refine pureA HT_ (i:=0) (N:=some 4) #[true,false,false,false,false,false,false,false,false,false,false] ?_;refine takeB_ (i:=1) (N:=some 5) (hi:=rfl) (hN:=rfl) (hc:=take_ofW HT_.out HW_.out (by kernel_rfl)) #[true,true,false,false,false,false,false,false,false,false,false] hHeld (by rintro w' ⟨s0,s1⟩;go_simp;with_reducible rfl) ?_;refine pureA HT_ (i:=2) (N:=some 6) #[true,true,true,false,false,false,false,false,false,false,false] ?_;refine takeB_ (i:=3) (N:=some 7) (hi:=rfl) (hN:=rfl) (hc:=take_ofW HT_.out HW_.out (by kernel_rfl)) #[true,true,true,true,false,false,false,false,false,false,false] hHeld (by rintro w' ⟨s0,s1⟩;go_simp;with_reducible rfl) ?_;refine takeB_ (i:=5) (N:=some 9) (hi:=rfl) (hN:=rfl) (hc:=take_ofW HT_.out HW_.out (by kernel_rfl)) #[true,true,true,true,false,true,false,false,false,false,false] hHeld (by rintro w' ⟨s0,s1⟩;go_simp;with_reducible rfl) ?_;refine join_ (σ:=Value × Nat) 1 #[true,true,true,true,true,true,true,true,true,true,false] (fun s_ => [(8,.int .i64 t406),(10,s_.1),(11,.int .i64 t410),(3,.pointer (some ⟨s_.2,0,none⟩)),(12,.agg #[.int .i64 0,.int .i64 (l0_0.length:Int),.int .i64 t406,.int .i64 0,.int .i64 t410])]) (fun s_ w' => (w'.cell? ⟨gb404,0,none⟩ = some (.slice A0_0 l0_0.length c0_0)∧w'.cell? ⟨gb404,1,none⟩ = some (.int .i64 a0_1))∧(Kd.R Kd.string 9 w' w.heap.size (fun _ => True) s_.1 t407)∧(w'.heap[gb404]? = some (.cells #[.slice A0_0 l0_0.length c0_0,.int .i64 a0_1] 24 (0,0)))∧(w'.heap[gb405]? = some (.cells #[.int .i64 0,.int .i64 0,.int .i64 0,.int .i64 0,.int .i64 0] 26 (0,0)))∧(w'.heap[s_.2]? = some (.cells #[.int .i64 0,.int .i64 0,.int .i64 0,.int .i64 0,.int .i64 0] 26 (0,0)))∧(w.heap.size≤s_.2)∧(w.heap.size≤s_.2)∧(gb404≠s_.2)∧(s_.2≠gb404)∧(gb405≠s_.2)∧(s_.2≠gb405)∧(Below w.heap.size w w')) ?_ ?_
    rotate_left
    ·intro hCont;refine two_ (i:=4) (j:=9) (Ni:=some 8) (Nj:=some 3) #[true,true,true,true,true,true,false,false,false,false,false] #[true,true,true,true,false,true,false,false,false,true,false] rfl rfl rfl rfl (two_of HT_.out (by kernel_rfl)) (by decide) (by decide) (fun K hK => ?_) (fun K hK => ?_)
     ·skip
      refine goesN Tryd.func41 #[.agg #[.slice A0_0 l0_0.length c0_0,.int .i64 a0_1]] ?_;with_reducible refine (r09_Edges.calls k _ _ l0_0 a0_1 t406 _ ?side1 ?side2 A2.out).mono ?_
      (case side1 => exact Kd.C_below HR0_0.out (BB HB))
      (case side2 => exact HC0_0.out)
      rintro e w13 ⟨rfl,hb⟩;refine ⟨_,rfl,?_⟩;replace BK404:=BE BK404 hb;replace BK405:=BE BK405 hb;replace HB:=BS HB hb;(try clear hb)
      (try clear hb2)
      (try clear hk)
      (try clear hi)
      refine hK.out _ _ ⟨(blk_cell BK404.out 0).trans rfl,(blk_cell BK404.out 1).trans rfl⟩ (fun hHeld => ?_);clear hK K;refine norm_ (a':=?_) ?_ ?_
      rotate_left
      ·show Act.put _ (some 8) _ = _
       simp only [Act.put,List.setIfInBounds_toArray,List.set_cons_zero,List.set_cons_succ,i64_w,i32_w];rfl
      refine two_ (i:=6) (j:=9) (Ni:=some 10) (Nj:=some 3) #[true,true,true,true,true,true,true,false,false,false,false] #[true,true,true,true,true,true,false,false,false,true,false] rfl rfl rfl rfl (two_of HT_.out (by kernel_rfl)) (by decide) (by decide) (fun K hK => ?_) (fun K hK => ?_)
      ·skip
       refine goesN Tryd.func50 #[.agg #[.slice A0_0 l0_0.length c0_0,.int .i64 a0_1]] ?_;with_reducible refine (r12_Texts.calls k _ _ l0_0 a0_1 t407 _ ?side1 ?side2 A3.out).mono ?_
       (case side1 => exact Kd.C_below HR0_0.out (BB HB))
       (case side2 => exact HC0_0.out)
       rintro e w14 ⟨v408,rfl,ho0,hb⟩;refine ⟨_,rfl,?_⟩;have HO409:=AM (Kd.R_lower ho0 (below_size (BB HB)));replace BK404:=BE BK404 hb;replace BK405:=BE BK405 hb;replace HB:=BS HB hb;(try clear hb)
       (try clear hb2)
       (try clear hk)
       (try clear hi)
       (try clear ho0)
       obtain ⟨Ao15,co15,eo15⟩:=Kd.R_slice HO409.out;(first | subst eo15 | (injection eo15 with f1_ f2_ f3_;have f4_:=f1_.symm;have f5_:=f3_.symm;clear f1_ f2_ f3_;subst f4_;subst f5_))
       refine hK.out _ _ ⟨(blk_cell BK404.out 0).trans rfl,(blk_cell BK404.out 1).trans rfl⟩ (fun hHeld => ?_);clear hK K;refine norm_ (a':=?_) ?_ ?_
       rotate_left
       ·show Act.put _ (some 10) _ = _
        simp only [Act.put,List.setIfInBounds_toArray,List.set_cons_zero,List.set_cons_succ,i64_w,i32_w];rfl
       refine two_ (i:=7) (j:=9) (Ni:=some 11) (Nj:=some 3) #[true,true,true,true,true,true,true,true,false,false,false] #[true,true,true,true,true,true,true,false,false,true,false] rfl rfl rfl rfl (two_of HT_.out (by kernel_rfl)) (by decide) (by decide) (fun K hK => ?_) (fun K hK => ?_)
       ·skip
        refine goesN Tryd.func49 #[.slice Ao15 t407.length co15] ?_;with_reducible refine (r06_Bytes.calls k _ _ t407 t410 _ ?side1 ?side2 A4.out).mono ?_
        (case side1 => exact CR HO409)
        (case side2 => exact (Kd.R_reads' HO409.out).2.1)
        rintro e w' ⟨rfl,⟨nd,rfl⟩⟩;refine ⟨_,rfl,?_⟩;refine hK.out _ _ ⟨(blk_cell BK404.out 0).trans rfl,(blk_cell BK404.out 1).trans rfl⟩ (fun hHeld => ?_);clear hK K;refine norm_ (a':=?_) ?_ ?_
        rotate_left
        ·show Act.put _ (some 11) _ = _
         simp only [Act.put,List.setIfInBounds_toArray,List.set_cons_zero,List.set_cons_succ,i64_w,i32_w];rfl
        refine pureA HT_ (i:=8) (N:=some 12) #[true,true,true,true,true,true,true,true,true,false,false] ?_;refine one_ (i:=9) (N:=some 3) #[true,true,true,true,true,true,true,true,true,true,false] rfl rfl (one_of HT_.out (by kernel_rfl)) (by decide) (fun K hK => ?_);refine boxS 3 #[.int .i64 0,.int .i64 0,.int .i64 0,.int .i64 0,.int .i64 0] 26 ?_;intro gb411 hg w16 hbox hb;replace HO409:=AM (Kd.R_below (RL HO409) hb);have BK411:=AM (hbox);have GW411:=GW HB hg;have GE411:=GW HB hg;replace HB:=BS HB hb;have NB404_411:=NL BK404 hg;have NB411_404:=NG BK404 hg;replace BK404:=BE BK404 hb;have NB405_411:=NL BK405 hg;have NB411_405:=NG BK405 hg;replace BK405:=BE BK405 hb;clear hb hbox hg;refine hK.out _ _ ⟨(blk_cell BK404.out 0).trans rfl,(blk_cell BK404.out 1).trans rfl⟩ (fun hHeld => ?_);clear hK K;refine norm_ (a':=?_) ?_ ?_
        rotate_left
        ·show Act.put _ (some 3) _ = _
         simp only [Act.put,List.setIfInBounds_toArray,List.set_cons_zero,List.set_cons_succ,i64_w,i32_w];rfl
        exact norm_ (by simp only [putAll,Act.put,List.setIfInBounds_toArray,List.set_cons_zero,List.set_cons_succ]) (hCont (.slice Ao15 t407.length co15,gb411) _ ⟨hHeld,(RL HO409),(BL BK404),(BL BK405),(BL BK411),GW411.out,GE411.out,NB404_411.out,NB411_404.out,NB405_411.out,NB411_405.out,(BB HB)⟩)
       ·skip
        refine boxS 3 #[.int .i64 0,.int .i64 0,.int .i64 0,.int .i64 0,.int .i64 0] 26 ?_;intro gb411 hg w15 hbox hb;replace HO409:=AM (Kd.R_below (RL HO409) hb);have BK411:=AM (hbox);have GW411:=GW HB hg;have GE411:=GW HB hg;replace HB:=BS HB hb;have NB404_411:=NL BK404 hg;have NB411_404:=NG BK404 hg;replace BK404:=BE BK404 hb;have NB405_411:=NL BK405 hg;have NB411_405:=NG BK405 hg;replace BK405:=BE BK405 hb;clear hb hbox hg;obtain ⟨Ao16,co16,eo16⟩:=Kd.R_slice HO409.out;(first | subst eo16 | (injection eo16 with f1_ f2_ f3_;have f4_:=f1_.symm;have f5_:=f3_.symm;clear f1_ f2_ f3_;subst f4_;subst f5_))
        refine hK.out _ _ ⟨(blk_cell BK404.out 0).trans rfl,(blk_cell BK404.out 1).trans rfl⟩ (fun hHeld => ?_);clear hK K;refine norm_ (a':=?_) ?_ ?_
        rotate_left
        ·show Act.put _ (some 3) _ = _
         simp only [Act.put,List.setIfInBounds_toArray,List.set_cons_zero,List.set_cons_succ,i64_w,i32_w];rfl
        refine one_ (i:=7) (N:=some 11) #[true,true,true,true,true,true,true,true,false,true,false] rfl rfl (one_of HT_.out (by kernel_rfl)) (by decide) (fun K hK => ?_);refine goesN Tryd.func49 #[.slice Ao16 t407.length co16] ?_;with_reducible refine (r06_Bytes.calls k _ _ t407 t410 _ ?side1 ?side2 A4.out).mono ?_
        (case side1 => exact CR HO409)
        (case side2 => exact (Kd.R_reads' HO409.out).2.1)
        rintro e w' ⟨rfl,⟨nd,rfl⟩⟩;refine ⟨_,rfl,?_⟩;refine hK.out _ _ ⟨(blk_cell BK404.out 0).trans rfl,(blk_cell BK404.out 1).trans rfl⟩ (fun hHeld => ?_);clear hK K;refine norm_ (a':=?_) ?_ ?_
        rotate_left
        ·show Act.put _ (some 11) _ = _
         simp only [Act.put,List.setIfInBounds_toArray,List.set_cons_zero,List.set_cons_succ,i64_w,i32_w];rfl
        refine pureA HT_ (i:=8) (N:=some 12) #[true,true,true,true,true,true,true,true,true,true,false] ?_;exact norm_ (by simp only [putAll,Act.put,List.setIfInBounds_toArray,List.set_cons_zero,List.set_cons_succ]) (hCont (.slice Ao16 t407.length co16,gb411) _ ⟨hHeld,(RL HO409),(BL BK404),(BL BK405),(BL BK411),GW411.out,GE411.out,NB404_411.out,NB411_404.out,NB405_411.out,NB411_405.out,(BB HB)⟩)
      ·skip
       refine boxS 3 #[.int .i64 0,.int .i64 0,.int .i64 0,.int .i64 0,.int .i64 0] 26 ?_;intro gb411 hg w14 hbox hb;have BK411:=AM (hbox);have GW411:=GW HB hg;have GE411:=GW HB hg;replace HB:=BS HB hb;have NB404_411:=NL BK404 hg;have NB411_404:=NG BK404 hg;replace BK404:=BE BK404 hb;have NB405_411:=NL BK405 hg;have NB411_405:=NG BK405 hg;replace BK405:=BE BK405 hb;clear hb hbox hg;refine hK.out _ _ ⟨(blk_cell BK404.out 0).trans rfl,(blk_cell BK404.out 1).trans rfl⟩ (fun hHeld => ?_);clear hK K;refine norm_ (a':=?_) ?_ ?_
       rotate_left
       ·show Act.put _ (some 3) _ = _
        simp only [Act.put,List.setIfInBounds_toArray,List.set_cons_zero,List.set_cons_succ,i64_w,i32_w];rfl
       refine one_ (i:=6) (N:=some 10) #[true,true,true,true,true,true,true,false,false,true,false] rfl rfl (one_of HT_.out (by kernel_rfl)) (by decide) (fun K hK => ?_);refine goesN Tryd.func50 #[.agg #[.slice A0_0 l0_0.length c0_0,.int .i64 a0_1]] ?_;with_reducible refine (r12_Texts.calls k _ _ l0_0 a0_1 t407 _ ?side1 ?side2 A3.out).mono ?_
       (case side1 => exact Kd.C_below HR0_0.out (BB HB))
       (case side2 => exact HC0_0.out)
       rintro e w15 ⟨v408,rfl,ho0,hb⟩;refine ⟨_,rfl,?_⟩;have HO409:=AM (Kd.R_lower ho0 (below_size (BB HB)));replace BK404:=BE BK404 hb;replace BK405:=BE BK405 hb;replace BK411:=BE BK411 hb;replace HB:=BS HB hb;(try clear hb)
       (try clear hb2)
       (try clear hk)
       (try clear hi)
       (try clear ho0)
       obtain ⟨Ao16,co16,eo16⟩:=Kd.R_slice HO409.out;(first | subst eo16 | (injection eo16 with f1_ f2_ f3_;have f4_:=f1_.symm;have f5_:=f3_.symm;clear f1_ f2_ f3_;subst f4_;subst f5_))
       refine hK.out _ _ ⟨(blk_cell BK404.out 0).trans rfl,(blk_cell BK404.out 1).trans rfl⟩ (fun hHeld => ?_);clear hK K;refine norm_ (a':=?_) ?_ ?_
       rotate_left
       ·show Act.put _ (some 10) _ = _
        simp only [Act.put,List.setIfInBounds_toArray,List.set_cons_zero,List.set_cons_succ,i64_w,i32_w];rfl
       refine one_ (i:=7) (N:=some 11) #[true,true,true,true,true,true,true,true,false,true,false] rfl rfl (one_of HT_.out (by kernel_rfl)) (by decide) (fun K hK => ?_);refine goesN Tryd.func49 #[.slice Ao16 t407.length co16] ?_;with_reducible refine (r06_Bytes.calls k _ _ t407 t410 _ ?side1 ?side2 A4.out).mono ?_
       (case side1 => exact CR HO409)
       (case side2 => exact (Kd.R_reads' HO409.out).2.1)
       rintro e w' ⟨rfl,⟨nd,rfl⟩⟩;refine ⟨_,rfl,?_⟩;refine hK.out _ _ ⟨(blk_cell BK404.out 0).trans rfl,(blk_cell BK404.out 1).trans rfl⟩ (fun hHeld => ?_);clear hK K;refine norm_ (a':=?_) ?_ ?_
       rotate_left
       ·show Act.put _ (some 11) _ = _
        simp only [Act.put,List.setIfInBounds_toArray,List.set_cons_zero,List.set_cons_succ,i64_w,i32_w];rfl
       refine pureA HT_ (i:=8) (N:=some 12) #[true,true,true,true,true,true,true,true,true,true,false] ?_;exact norm_ (by simp only [putAll,Act.put,List.setIfInBounds_toArray,List.set_cons_zero,List.set_cons_succ]) (hCont (.slice Ao16 t407.length co16,gb411) _ ⟨hHeld,(RL HO409),(BL BK404),(BL BK405),(BL BK411),GW411.out,GE411.out,NB404_411.out,NB411_404.out,NB405_411.out,NB411_405.out,(BB HB)⟩)
     ·skip
      refine boxS 3 #[.int .i64 0,.int .i64 0,.int .i64 0,.int .i64 0,.int .i64 0] 26 ?_;intro gb411 hg w13 hbox hb;have BK411:=AM (hbox);have GW411:=GW HB hg;have GE411:=GW HB hg;replace HB:=BS HB hb;have NB404_411:=NL BK404 hg;have NB411_404:=NG BK404 hg;replace BK404:=BE BK404 hb;have NB405_411:=NL BK405 hg;have NB411_405:=NG BK405 hg;replace BK405:=BE BK405 hb;clear hb hbox hg;refine hK.out _ _ ⟨(blk_cell BK404.out 0).trans rfl,(blk_cell BK404.out 1).trans rfl⟩ (fun hHeld => ?_);clear hK K;refine norm_ (a':=?_) ?_ ?_
      rotate_left
      ·show Act.put _ (some 3) _ = _
       simp only [Act.put,List.setIfInBounds_toArray,List.set_cons_zero,List.set_cons_succ,i64_w,i32_w];rfl
      refine one_ (i:=4) (N:=some 8) #[true,true,true,true,true,true,false,false,false,true,false] rfl rfl (one_of HT_.out (by kernel_rfl)) (by decide) (fun K hK => ?_);refine goesN Tryd.func41 #[.agg #[.slice A0_0 l0_0.length c0_0,.int .i64 a0_1]] ?_;with_reducible refine (r09_Edges.calls k _ _ l0_0 a0_1 t406 _ ?side1 ?side2 A2.out).mono ?_
      (case side1 => exact Kd.C_below HR0_0.out (BB HB))
      (case side2 => exact HC0_0.out)
      rintro e w14 ⟨rfl,hb⟩;refine ⟨_,rfl,?_⟩;replace BK404:=BE BK404 hb;replace BK405:=BE BK405 hb;replace BK411:=BE BK411 hb;replace HB:=BS HB hb;(try clear hb)
      (try clear hb2)
      (try clear hk)
      (try clear hi)
      refine hK.out _ _ ⟨(blk_cell BK404.out 0).trans rfl,(blk_cell BK404.out 1).trans rfl⟩ (fun hHeld => ?_);clear hK K;refine norm_ (a':=?_) ?_ ?_
      rotate_left
      ·show Act.put _ (some 8) _ = _
       simp only [Act.put,List.setIfInBounds_toArray,List.set_cons_zero,List.set_cons_succ,i64_w,i32_w];rfl
      refine one_ (i:=6) (N:=some 10) #[true,true,true,true,true,true,true,false,false,true,false] rfl rfl (one_of HT_.out (by kernel_rfl)) (by decide) (fun K hK => ?_);refine goesN Tryd.func50 #[.agg #[.slice A0_0 l0_0.length c0_0,.int .i64 a0_1]] ?_;with_reducible refine (r12_Texts.calls k _ _ l0_0 a0_1 t407 _ ?side1 ?side2 A3.out).mono ?_
      (case side1 => exact Kd.C_below HR0_0.out (BB HB))
      (case side2 => exact HC0_0.out)
      rintro e w15 ⟨v408,rfl,ho0,hb⟩;refine ⟨_,rfl,?_⟩;have HO409:=AM (Kd.R_lower ho0 (below_size (BB HB)));replace BK404:=BE BK404 hb;replace BK405:=BE BK405 hb;replace BK411:=BE BK411 hb;replace HB:=BS HB hb;(try clear hb)
      (try clear hb2)
      (try clear hk)
      (try clear hi)
      (try clear ho0)
      obtain ⟨Ao16,co16,eo16⟩:=Kd.R_slice HO409.out;(first | subst eo16 | (injection eo16 with f1_ f2_ f3_;have f4_:=f1_.symm;have f5_:=f3_.symm;clear f1_ f2_ f3_;subst f4_;subst f5_))
      refine hK.out _ _ ⟨(blk_cell BK404.out 0).trans rfl,(blk_cell BK404.out 1).trans rfl⟩ (fun hHeld => ?_);clear hK K;refine norm_ (a':=?_) ?_ ?_
      rotate_left
      ·show Act.put _ (some 10) _ = _
       simp only [Act.put,List.setIfInBounds_toArray,List.set_cons_zero,List.set_cons_succ,i64_w,i32_w];rfl
      refine one_ (i:=7) (N:=some 11) #[true,true,true,true,true,true,true,true,false,true,false] rfl rfl (one_of HT_.out (by kernel_rfl)) (by decide) (fun K hK => ?_);refine goesN Tryd.func49 #[.slice Ao16 t407.length co16] ?_;with_reducible refine (r06_Bytes.calls k _ _ t407 t410 _ ?side1 ?side2 A4.out).mono ?_
      (case side1 => exact CR HO409)
      (case side2 => exact (Kd.R_reads' HO409.out).2.1)
      rintro e w' ⟨rfl,⟨nd,rfl⟩⟩;refine ⟨_,rfl,?_⟩;refine hK.out _ _ ⟨(blk_cell BK404.out 0).trans rfl,(blk_cell BK404.out 1).trans rfl⟩ (fun hHeld => ?_);clear hK K;refine norm_ (a':=?_) ?_ ?_
      rotate_left
      ·show Act.put _ (some 11) _ = _
       simp only [Act.put,List.setIfInBounds_toArray,List.set_cons_zero,List.set_cons_succ,i64_w,i32_w];rfl
      refine pureA HT_ (i:=8) (N:=some 12) #[true,true,true,true,true,true,true,true,true,true,false] ?_;exact norm_ (by simp only [putAll,Act.put,List.setIfInBounds_toArray,List.set_cons_zero,List.set_cons_succ]) (hCont (.slice Ao16 t407.length co16,gb411) _ ⟨hHeld,(RL HO409),(BL BK404),(BL BK405),(BL BK411),GW411.out,GE411.out,NB404_411.out,NB411_404.out,NB405_411.out,NB411_405.out,(BB HB)⟩)
    rintro ⟨v408,gb411⟩ w17 ⟨hS_,h0_,h1_,h2_,h3_,h4_,h5_,h6_,h7_,h8_,h9_,h10_⟩;have n0_:Aside0 (Kd.R Kd.string 9 w17 w.heap.size (fun _ => True) v408 t407):=⟨h0_⟩;have n1_:Aside0 (w17.heap[gb404]? = some (.cells #[.slice A0_0 l0_0.length c0_0,.int .i64 a0_1] 24 (0,0))):=⟨h1_⟩;have n2_:Aside0 (w17.heap[gb405]? = some (.cells #[.int .i64 0,.int .i64 0,.int .i64 0,.int .i64 0,.int .i64 0] 26 (0,0))):=⟨h2_⟩;have n3_:Aside0 (w17.heap[gb411]? = some (.cells #[.int .i64 0,.int .i64 0,.int .i64 0,.int .i64 0,.int .i64 0] 26 (0,0))):=⟨h3_⟩;have n4_:Aside0 (w.heap.size≤gb411):=⟨h4_⟩;have n5_:Aside0 (w.heap.size≤gb411):=⟨h5_⟩;have n6_:Aside0 (gb404≠gb411):=⟨h6_⟩;have n7_:Aside0 (gb411≠gb404):=⟨h7_⟩;have n8_:Aside0 (gb405≠gb411):=⟨h8_⟩;have n9_:Aside0 (gb411≠gb405):=⟨h9_⟩;have n10_:Aside0 (Below w.heap.size w w17):=⟨h10_⟩;clear BK404;clear BK405;clear HB;clear h0_ h1_ h2_ h3_ h4_ h5_ h6_ h7_ h8_ h9_ h10_;have HO409:=n0_;have BK404:=n1_;have BK405:=n2_;have BK411:=n3_;have GW411:=n4_;have GE411:=n5_;have NB404_411:=n6_;have NB411_404:=n7_;have NB405_411:=n8_;have NB411_405:=n9_;have HB:=n10_;clear n0_ n1_ n2_ n3_ n4_ n5_ n6_ n7_ n8_ n9_ n10_;have hHeld:w17.cell? ⟨gb404,0,none⟩ = some (.slice A0_0 l0_0.length c0_0)∧w17.cell? ⟨gb404,1,none⟩ = some (.int .i64 a0_1):=hS_;refine norm_ (a':=?_) ?_ ?_
    rotate_left
    ·simp only [putAll,Act.put,List.setIfInBounds_toArray,List.set_cons_zero,List.set_cons_succ];rfl
    refine one_ (i:=10) (N:=none) #[true,true,true,true,true,true,true,true,true,true,true] rfl rfl (one_of HT_.out (by kernel_rfl)) (by decide) (fun K hK => ?_);have hs18:w17.cell? ⟨gb411,0,none⟩ = some (.int .i64 0):=(blk_cell BK411.out 0).trans rfl;have hfs18:=BF BK411 0;have hns18_0:=NB404_411.out;have hns18_1:=NB405_411.out;have hms18_0:=NB411_404.out;have hms18_1:=NB411_405.out;have hs19:w17.cell? ⟨gb411,1,none⟩ = some (.int .i64 0):=(blk_cell BK411.out 1).trans rfl;have hfs19:=BF BK411 1;have hns19_0:=NB404_411.out;have hns19_1:=NB405_411.out;have hms19_0:=NB411_404.out;have hms19_1:=NB411_405.out;have hs20:w17.cell? ⟨gb411,2,none⟩ = some (.int .i64 0):=(blk_cell BK411.out 2).trans rfl;have hfs20:=BF BK411 2;have hns20_0:=NB404_411.out;have hns20_1:=NB405_411.out;have hms20_0:=NB411_404.out;have hms20_1:=NB411_405.out;have hs21:w17.cell? ⟨gb411,3,none⟩ = some (.int .i64 0):=(blk_cell BK411.out 3).trans rfl;have hfs21:=BF BK411 3;have hns21_0:=NB404_411.out;have hns21_1:=NB405_411.out;have hms21_0:=NB411_404.out;have hms21_1:=NB411_405.out;have hs22:w17.cell? ⟨gb411,4,none⟩ = some (.int .i64 0):=(blk_cell BK411.out 4).trans rfl;have hfs22:=BF BK411 4;have hns22_0:=NB404_411.out;have hns22_1:=NB405_411.out;have hms22_0:=NB411_404.out;have hms22_1:=NB411_405.out;refine skip_ (w1:=?_) (by rfl) rfl ?_ ?_
    rotate_left
    ·go_simp
     rfl
    refine hK.out _ _ ⟨((cell_far (p:=⟨gb411,_,none⟩) NB404_411.out _).trans (((cell_far (p:=⟨gb411,_,none⟩) NB404_411.out _).trans (((cell_far (p:=⟨gb411,_,none⟩) NB404_411.out _).trans (((cell_far (p:=⟨gb411,_,none⟩) NB404_411.out _).trans (((cell_far (p:=⟨gb411,_,none⟩) NB404_411.out _).trans (hHeld.1)))))))))),((cell_far (p:=⟨gb411,_,none⟩) NB404_411.out _).trans (((cell_far (p:=⟨gb411,_,none⟩) NB404_411.out _).trans (((cell_far (p:=⟨gb411,_,none⟩) NB404_411.out _).trans (((cell_far (p:=⟨gb411,_,none⟩) NB404_411.out _).trans (((cell_far (p:=⟨gb411,_,none⟩) NB404_411.out _).trans (hHeld.2))))))))))⟩ (fun hHeld => ?_);clear hK K;refine done_ (done_of HT_.out (by kernel_rfl)) ?_;have hnb23:=NB404_405.out;have hnc23:=NB405_404.out;have hnb24:=NB404_411.out;have hnc24:=NB411_404.out;have hcz25_0:=BC BK404 0 (.slice A0_0 l0_0.length c0_0) rfl;have hcz25_1:=BC BK404 1 (.int .i64 a0_1) rfl;have hfz25_0:=BF BK404 0;have hfz25_1:=BF BK404 1;try go_wp2_with (first | ((with_reducible refine gate_callee (f:=26) rfl ?_);refine goesM_ (some 14) rfl rfl Tryd.func26 #[.agg #[.slice A0_0 l0_0.length c0_0,.int .i64 a0_1]] rfl ?_;(with_reducible refine (r09_Right.calls k _ _ l0_0 a0_1 true _ ?side1 ?side2 A5.out).mono ?_);(case side1 => exact Kd.C_below HR0_0.out (BB HB));(case side2 => exact HC0_0.out);rintro e w26 ⟨rfl,hb⟩;refine ⟨_,rfl,?_⟩;replace HO409:=AM (Kd.R_below (by exact (Kd.R_mono (Kd.R_far (p:=⟨gb411,4,none⟩) (Kd.R_far (p:=⟨gb411,3,none⟩) (Kd.R_far (p:=⟨gb411,2,none⟩) (Kd.R_far (p:=⟨gb411,1,none⟩) (Kd.R_far (p:=⟨gb411,0,none⟩) (Kd.R_types HO409.out BK411.out (by decide)) (fun _ hk => hk.2) (.int .i64 0)) (fun _ hk => hk.2) (.int .i64 (l0_0.length:Int))) (fun _ hk => hk.2) (.int .i64 t406)) (fun _ hk => hk.2) (.int .i64 0)) (fun _ hk => hk.2) (.int .i64 t410)) (fun _ h_ => h_.1))) hb);replace BK404:=AM (blk_below (g:=gb404) (o:=.cells #[.slice A0_0 l0_0.length c0_0,.int .i64 a0_1] 24 (0,0)) (by (repeat refine blk_far ?_ NB404_411.out _);exact BL BK404) hb);replace BK405:=AM (blk_below (g:=gb405) (o:=.cells #[.int .i64 0,.int .i64 0,.int .i64 0,.int .i64 0,.int .i64 0] 26 (0,0)) (by (repeat refine blk_far ?_ NB405_411.out _);exact BL BK405) hb);replace BK411:=AM (blk_below (g:=gb411) (o:=.cells #[.int .i64 0,.int .i64 (l0_0.length:Int),.int .i64 t406,.int .i64 0,.int .i64 t410] 26 (0,0)) (by refine blk_put (cs:=#[.int .i64 0,.int .i64 (l0_0.length:Int),.int .i64 t406,.int .i64 0,.int .i64 0]) ?_ 4 _ rfl;refine blk_put (cs:=#[.int .i64 0,.int .i64 (l0_0.length:Int),.int .i64 t406,.int .i64 0,.int .i64 0]) ?_ 3 _ rfl;refine blk_put (cs:=#[.int .i64 0,.int .i64 (l0_0.length:Int),.int .i64 0,.int .i64 0,.int .i64 0]) ?_ 2 _ rfl;refine blk_put (cs:=#[.int .i64 0,.int .i64 0,.int .i64 0,.int .i64 0,.int .i64 0]) ?_ 1 _ rfl;refine blk_put (cs:=#[.int .i64 0,.int .i64 0,.int .i64 0,.int .i64 0,.int .i64 0]) ?_ 0 _ rfl;exact BL BK411) hb);replace HB:=BS HB hb;(try clear hb);(try clear hb2);(try clear hk);(try clear hi)))
    replace HO409:=AM (Kd.R_drew HO409.out);replace BK404:=AM (blk_drew BK404.out);replace BK405:=AM (blk_drew BK405.out);replace BK411:=AM (blk_drew BK411.out);replace HB:=AM (below_drew1 HB.out);refine start_ (n:=8) (S:=fun w' => w'.cell? ⟨gb404,0,none⟩ = some (.slice A0_0 l0_0.length c0_0)∧w'.cell? ⟨gb404,1,none⟩ = some (.int .i64 a0_1)) (ds:=[]) #[false,false,false,false,false,false,false,false] (by kernel_rfl) rfl rfl ⟨(blk_cell BK404.out 0).trans rfl,(blk_cell BK404.out 1).trans rfl⟩ (fun hHeld => ?_);refine with_tabW r12_Measure.tab3 r12_Measure.bits3 (fun HT_ HW_ => ?_);generalize w26.drew = w27 at HO409 BK404 BK405 BK411 HB hHeld ⊢;refine pureA HT_ (i:=2) (N:=some 17) #[false,false,true,false,false,false,false,false] ?_;refine takeB_ (i:=0) (N:=some 15) (hi:=rfl) (hN:=rfl) (hc:=take_ofW HT_.out HW_.out (by kernel_rfl)) #[true,false,true,false,false,false,false,false] hHeld (by rintro w' ⟨s0,s1⟩;go_simp;with_reducible rfl) ?_;refine takeB_ (i:=3) (N:=some 18) (hi:=rfl) (hN:=rfl) (hc:=take_ofW HT_.out HW_.out (by kernel_rfl)) #[true,false,true,true,false,false,false,false] hHeld (by rintro w' ⟨s0,s1⟩;go_simp;with_reducible rfl) ?_;refine one_ (i:=1) (N:=some 16) #[true,true,true,true,false,false,false,false] rfl rfl (one_of HT_.out (by kernel_rfl)) (by decide) (fun K hK => ?_);refine goesN Tryd.func51 #[.agg #[.slice A0_0 l0_0.length c0_0,.int .i64 a0_1]] ?_;with_reducible refine (r09_Depths.calls k _ _ l0_0 a0_1 t413 _ ?side1 ?side2 A7.out).mono ?_
    (case side1 => exact Kd.C_below HR0_0.out (BB HB))
    (case side2 => exact HC0_0.out)
    rintro e w28 ⟨v414,rfl,ho0,hb⟩;refine ⟨_,rfl,?_⟩;replace HO409:=AM (Kd.R_below (RL HO409) hb);have HO415:=AM (Kd.R_lower ho0 (below_size (BB HB)));replace BK404:=BE BK404 hb;replace BK405:=BE BK405 hb;replace BK411:=BE BK411 hb;replace HB:=BS HB hb;(try clear hb)
    (try clear hb2)
    (try clear hk)
    (try clear hi)
    (try clear ho0)
    obtain ⟨Ao29,co29,eo29⟩:=Kd.R_slice HO415.out;(first | subst eo29 | (injection eo29 with f1_ f2_ f3_;have f4_:=f1_.symm;have f5_:=f3_.symm;clear f1_ f2_ f3_;subst f4_;subst f5_))
    have p416:0≤(a0_1:Int):=OD;have q416:a0_1 < (t413.length:Int):=OD;obtain ⟨ad416,e416,hx416_0⟩:=Kd.at_int (Kd.R_reads' HO415.out).2.2 a0_1 p416 q416;cases e416
    replace p416:=eq_true p416;replace q416:=eq_true q416;refine hK.out _ _ ⟨(blk_cell BK404.out 0).trans rfl,(blk_cell BK404.out 1).trans rfl⟩ (fun hHeld => ?_);clear hK K;refine norm_ (a':=?_) ?_ ?_
    rotate_left
    ·show Act.put _ (some 16) _ = _
     simp only [Act.put,List.setIfInBounds_toArray,List.set_cons_zero,List.set_cons_succ,i64_w,i32_w];rfl
    refine pureA HT_ (i:=4) (N:=some 19) #[true,true,true,true,true,false,false,false] ?_;refine one_ (i:=5) (N:=some 20) #[true,true,true,true,true,true,false,false] rfl rfl (one_of HT_.out (by kernel_rfl)) (by decide) (fun K hK => ?_);refine value_ rfl rfl (by go_simp;exact ⟨rfl,rfl⟩) ?_;refine hK.out _ _ hHeld (fun hHeld => ?_);clear hK K;refine norm_ (a':=?_) ?_ ?_
    rotate_left
    ·simp only [Act.put,List.setIfInBounds_toArray,List.set_cons_zero,List.set_cons_succ,i64_w,i32_w];rfl
    refine pureA HT_ (i:=6) (N:=some 21) #[true,true,true,true,true,true,true,false] ?_;refine one_ (i:=7) (N:=none) #[true,true,true,true,true,true,true,true] rfl rfl (one_of HT_.out (by kernel_rfl)) (by decide) (fun K hK => ?_);have hs30:w28.cell? ⟨gb411,3,none⟩ = some (.int .i64 0):=(blk_cell BK411.out 3).trans rfl;have hfs30:=BF BK411 3;have hns30_0:=NB404_411.out;have hns30_1:=NB405_411.out;have hms30_0:=NB411_404.out;have hms30_1:=NB411_405.out;refine skip_ (w1:=?_) (by rfl) rfl ?_ ?_
    rotate_left
    ·go_simp
     rfl
    refine hK.out _ _ ⟨((cell_far (p:=⟨gb411,_,none⟩) NB404_411.out _).trans (hHeld.1)),((cell_far (p:=⟨gb411,_,none⟩) NB404_411.out _).trans (hHeld.2))⟩ (fun hHeld => ?_);clear hK K;refine done_ (done_of HT_.out (by kernel_rfl)) ?_;have hnb31:=NB411_405.out;have hnc31:=NB405_411.out;have hcz32_0:=BC BK411 0 (.int .i64 0) rfl;have hcz32_1:=BC BK411 1 (.int .i64 (l0_0.length:Int)) rfl;have hcz32_2:=BC BK411 2 (.int .i64 t406) rfl;have hcz32_3:=BC BK411 3 (.int .i64 0) rfl;have hcz32_4:=BC BK411 4 (.int .i64 t410) rfl;have hfz32_0:=BF BK411 0;have hfz32_1:=BF BK411 1;have hfz32_2:=BF BK411 2;have hfz32_3:=BF BK411 3;have hfz32_4:=BF BK411 4;have hcz33_0:=BC BK405 0 (.int .i64 0) rfl;have hcz33_1:=BC BK405 1 (.int .i64 0) rfl;have hcz33_2:=BC BK405 2 (.int .i64 0) rfl;have hcz33_3:=BC BK405 3 (.int .i64 0) rfl;have hcz33_4:=BC BK405 4 (.int .i64 0) rfl;have hfz33_0:=BF BK405 0;have hfz33_1:=BF BK405 1;have hfz33_2:=BF BK405 2;have hfz33_3:=BF BK405 3;have hfz33_4:=BF BK405 4;try go_wp2
    refine bodyPost_ret (results_cell_row rfl _ _ gb405 26 #[.int .i64 0,.int .i64 (l0_0.length:Int),.int .i64 t406,.int .i64 (rd t413 a0_1),.int .i64 t410] (0,0) _ rfl (by refine blk_put (cs:=#[.int .i64 0,.int .i64 (l0_0.length:Int),.int .i64 t406,.int .i64 (rd t413 a0_1),.int .i64 0]) ?_ 4 _ rfl;refine blk_put (cs:=#[.int .i64 0,.int .i64 (l0_0.length:Int),.int .i64 t406,.int .i64 0,.int .i64 0]) ?_ 3 _ rfl;refine blk_put (cs:=#[.int .i64 0,.int .i64 (l0_0.length:Int),.int .i64 0,.int .i64 0,.int .i64 0]) ?_ 2 _ rfl;refine blk_put (cs:=#[.int .i64 0,.int .i64 0,.int .i64 0,.int .i64 0,.int .i64 0]) ?_ 1 _ rfl;refine blk_put (cs:=#[.int .i64 0,.int .i64 0,.int .i64 0,.int .i64 0,.int .i64 0]) ?_ 0 _ rfl;refine blk_far ?_ NB405_411.out _;exact BL BK405) Tryd.underlying26 rfl (by kernel_rfl)) rfl ?_;exact RT (BB HB)
   ·rw [if_neg c9] at H;exact absurd H (by simp)
  ·rw [if_neg c8] at H;exact absurd H (by simp)
 ·replace c6:=Bool.eq_false_iff.mpr c6;subst c6;have H1:(some (0,(l0_0.length:Int),t406,0,t410)) = some (r1,r2,r3,r4,r5):=by rw [if_neg (show ¬ (false = true) by decide)] at H;exact H
  clear H;have H:=H1;clear H1;simp only [Option.some.injEq,Prod.mk.injEq] at H;obtain ⟨rfl,rfl,rfl,rfl,rfl⟩:=H;go_enter Tryd.func21,Tryd.ntmps21;try go_wp2_with (first | ((with_reducible refine gate_dst (N:=1) rfl ?_);refine boxE 1 #[.slice A0_0 l0_0.length c0_0,.int .i64 a0_1] 24 ?_;intro gb404 hg w34 hbox hb;have BK404:=AM (hbox);have GW404:=GW HB hg;have GE404:=GW HB hg;replace HB:=BS HB hb;clear hb hbox hg) | ((with_reducible refine gate_dst (N:=2) rfl ?_);refine boxE 2 #[.int .i64 0,.int .i64 0,.int .i64 0,.int .i64 0,.int .i64 0] 26 ?_;intro gb405 hg w35 hbox hb;have BK405:=AM (hbox);have GW405:=GW HB hg;have GE405:=GW HB hg;replace HB:=BS HB hb;have NB404_405:=NL BK404 hg;have NB405_404:=NG BK404 hg;replace BK404:=BE BK404 hb;clear hb hbox hg))
  replace BK404:=AM (blk_drew BK404.out);replace BK405:=AM (blk_drew BK405.out);replace HB:=AM (below_drew1 HB.out);refine start_ (n:=11) (S:=fun w' => w'.cell? ⟨gb404,0,none⟩ = some (.slice A0_0 l0_0.length c0_0)∧w'.cell? ⟨gb404,1,none⟩ = some (.int .i64 a0_1)) (ds:=[]) #[false,false,false,false,false,false,false,false,false,false,false] (by kernel_rfl) rfl rfl ⟨(blk_cell BK404.out 0).trans rfl,(blk_cell BK404.out 1).trans rfl⟩ (fun hHeld => ?_);refine with_tabW r12_Measure.tab1 r12_Measure.bits1 (fun HT_ HW_ => ?_);generalize w35.drew = w36 at BK404 BK405 HB hHeld ⊢;refine pureA HT_ (i:=0) (N:=some 4) #[true,false,false,false,false,false,false,false,false,false,false] ?_;refine takeB_ (i:=1) (N:=some 5) (hi:=rfl) (hN:=rfl) (hc:=take_ofW HT_.out HW_.out (by kernel_rfl)) #[true,true,false,false,false,false,false,false,false,false,false] hHeld (by rintro w' ⟨s0,s1⟩;go_simp;with_reducible rfl) ?_;refine pureA HT_ (i:=2) (N:=some 6) #[true,true,true,false,false,false,false,false,false,false,false] ?_;refine takeB_ (i:=3) (N:=some 7) (hi:=rfl) (hN:=rfl) (hc:=take_ofW HT_.out HW_.out (by kernel_rfl)) #[true,true,true,true,false,false,false,false,false,false,false] hHeld (by rintro w' ⟨s0,s1⟩;go_simp;with_reducible rfl) ?_;refine takeB_ (i:=5) (N:=some 9) (hi:=rfl) (hN:=rfl) (hc:=take_ofW HT_.out HW_.out (by kernel_rfl)) #[true,true,true,true,false,true,false,false,false,false,false] hHeld (by rintro w' ⟨s0,s1⟩;go_simp;with_reducible rfl) ?_;refine join_ (σ:=Value × Nat) 1 #[true,true,true,true,true,true,true,true,true,true,false] (fun s_ => [(8,.int .i64 t406),(10,s_.1),(11,.int .i64 t410),(3,.pointer (some ⟨s_.2,0,none⟩)),(12,.agg #[.int .i64 0,.int .i64 (l0_0.length:Int),.int .i64 t406,.int .i64 0,.int .i64 t410])]) (fun s_ w' => (w'.cell? ⟨gb404,0,none⟩ = some (.slice A0_0 l0_0.length c0_0)∧w'.cell? ⟨gb404,1,none⟩ = some (.int .i64 a0_1))∧(Kd.R Kd.string 9 w' w.heap.size (fun _ => True) s_.1 t407)∧(w'.heap[gb404]? = some (.cells #[.slice A0_0 l0_0.length c0_0,.int .i64 a0_1] 24 (0,0)))∧(w'.heap[gb405]? = some (.cells #[.int .i64 0,.int .i64 0,.int .i64 0,.int .i64 0,.int .i64 0] 26 (0,0)))∧(w'.heap[s_.2]? = some (.cells #[.int .i64 0,.int .i64 0,.int .i64 0,.int .i64 0,.int .i64 0] 26 (0,0)))∧(w.heap.size≤s_.2)∧(w.heap.size≤s_.2)∧(gb404≠s_.2)∧(s_.2≠gb404)∧(gb405≠s_.2)∧(s_.2≠gb405)∧(Below w.heap.size w w')) ?_ ?_
  rotate_left
  ·intro hCont;refine two_ (i:=4) (j:=9) (Ni:=some 8) (Nj:=some 3) #[true,true,true,true,true,true,false,false,false,false,false] #[true,true,true,true,false,true,false,false,false,true,false] rfl rfl rfl rfl (two_of HT_.out (by kernel_rfl)) (by decide) (by decide) (fun K hK => ?_) (fun K hK => ?_)
   ·skip
    refine goesN Tryd.func41 #[.agg #[.slice A0_0 l0_0.length c0_0,.int .i64 a0_1]] ?_;with_reducible refine (r09_Edges.calls k _ _ l0_0 a0_1 t406 _ ?side1 ?side2 A2.out).mono ?_
    (case side1 => exact Kd.C_below HR0_0.out (BB HB))
    (case side2 => exact HC0_0.out)
    rintro e w37 ⟨rfl,hb⟩;refine ⟨_,rfl,?_⟩;replace BK404:=BE BK404 hb;replace BK405:=BE BK405 hb;replace HB:=BS HB hb;(try clear hb)
    (try clear hb2)
    (try clear hk)
    (try clear hi)
    refine hK.out _ _ ⟨(blk_cell BK404.out 0).trans rfl,(blk_cell BK404.out 1).trans rfl⟩ (fun hHeld => ?_);clear hK K;refine norm_ (a':=?_) ?_ ?_
    rotate_left
    ·show Act.put _ (some 8) _ = _
     simp only [Act.put,List.setIfInBounds_toArray,List.set_cons_zero,List.set_cons_succ,i64_w,i32_w];rfl
    refine two_ (i:=6) (j:=9) (Ni:=some 10) (Nj:=some 3) #[true,true,true,true,true,true,true,false,false,false,false] #[true,true,true,true,true,true,false,false,false,true,false] rfl rfl rfl rfl (two_of HT_.out (by kernel_rfl)) (by decide) (by decide) (fun K hK => ?_) (fun K hK => ?_)
    ·skip
     refine goesN Tryd.func50 #[.agg #[.slice A0_0 l0_0.length c0_0,.int .i64 a0_1]] ?_;with_reducible refine (r12_Texts.calls k _ _ l0_0 a0_1 t407 _ ?side1 ?side2 A3.out).mono ?_
     (case side1 => exact Kd.C_below HR0_0.out (BB HB))
     (case side2 => exact HC0_0.out)
     rintro e w38 ⟨v408,rfl,ho0,hb⟩;refine ⟨_,rfl,?_⟩;have HO409:=AM (Kd.R_lower ho0 (below_size (BB HB)));replace BK404:=BE BK404 hb;replace BK405:=BE BK405 hb;replace HB:=BS HB hb;(try clear hb)
     (try clear hb2)
     (try clear hk)
     (try clear hi)
     (try clear ho0)
     obtain ⟨Ao39,co39,eo39⟩:=Kd.R_slice HO409.out;(first | subst eo39 | (injection eo39 with f1_ f2_ f3_;have f4_:=f1_.symm;have f5_:=f3_.symm;clear f1_ f2_ f3_;subst f4_;subst f5_))
     refine hK.out _ _ ⟨(blk_cell BK404.out 0).trans rfl,(blk_cell BK404.out 1).trans rfl⟩ (fun hHeld => ?_);clear hK K;refine norm_ (a':=?_) ?_ ?_
     rotate_left
     ·show Act.put _ (some 10) _ = _
      simp only [Act.put,List.setIfInBounds_toArray,List.set_cons_zero,List.set_cons_succ,i64_w,i32_w];rfl
     refine two_ (i:=7) (j:=9) (Ni:=some 11) (Nj:=some 3) #[true,true,true,true,true,true,true,true,false,false,false] #[true,true,true,true,true,true,true,false,false,true,false] rfl rfl rfl rfl (two_of HT_.out (by kernel_rfl)) (by decide) (by decide) (fun K hK => ?_) (fun K hK => ?_)
     ·skip
      refine goesN Tryd.func49 #[.slice Ao39 t407.length co39] ?_;with_reducible refine (r06_Bytes.calls k _ _ t407 t410 _ ?side1 ?side2 A4.out).mono ?_
      (case side1 => exact CR HO409)
      (case side2 => exact (Kd.R_reads' HO409.out).2.1)
      rintro e w' ⟨rfl,⟨nd,rfl⟩⟩;refine ⟨_,rfl,?_⟩;refine hK.out _ _ ⟨(blk_cell BK404.out 0).trans rfl,(blk_cell BK404.out 1).trans rfl⟩ (fun hHeld => ?_);clear hK K;refine norm_ (a':=?_) ?_ ?_
      rotate_left
      ·show Act.put _ (some 11) _ = _
       simp only [Act.put,List.setIfInBounds_toArray,List.set_cons_zero,List.set_cons_succ,i64_w,i32_w];rfl
      refine pureA HT_ (i:=8) (N:=some 12) #[true,true,true,true,true,true,true,true,true,false,false] ?_;refine one_ (i:=9) (N:=some 3) #[true,true,true,true,true,true,true,true,true,true,false] rfl rfl (one_of HT_.out (by kernel_rfl)) (by decide) (fun K hK => ?_);refine boxS 3 #[.int .i64 0,.int .i64 0,.int .i64 0,.int .i64 0,.int .i64 0] 26 ?_;intro gb411 hg w40 hbox hb;replace HO409:=AM (Kd.R_below (RL HO409) hb);have BK411:=AM (hbox);have GW411:=GW HB hg;have GE411:=GW HB hg;replace HB:=BS HB hb;have NB404_411:=NL BK404 hg;have NB411_404:=NG BK404 hg;replace BK404:=BE BK404 hb;have NB405_411:=NL BK405 hg;have NB411_405:=NG BK405 hg;replace BK405:=BE BK405 hb;clear hb hbox hg;refine hK.out _ _ ⟨(blk_cell BK404.out 0).trans rfl,(blk_cell BK404.out 1).trans rfl⟩ (fun hHeld => ?_);clear hK K;refine norm_ (a':=?_) ?_ ?_
      rotate_left
      ·show Act.put _ (some 3) _ = _
       simp only [Act.put,List.setIfInBounds_toArray,List.set_cons_zero,List.set_cons_succ,i64_w,i32_w];rfl
      exact norm_ (by simp only [putAll,Act.put,List.setIfInBounds_toArray,List.set_cons_zero,List.set_cons_succ]) (hCont (.slice Ao39 t407.length co39,gb411) _ ⟨hHeld,(RL HO409),(BL BK404),(BL BK405),(BL BK411),GW411.out,GE411.out,NB404_411.out,NB411_404.out,NB405_411.out,NB411_405.out,(BB HB)⟩)
     ·skip
      refine boxS 3 #[.int .i64 0,.int .i64 0,.int .i64 0,.int .i64 0,.int .i64 0] 26 ?_;intro gb411 hg w39 hbox hb;replace HO409:=AM (Kd.R_below (RL HO409) hb);have BK411:=AM (hbox);have GW411:=GW HB hg;have GE411:=GW HB hg;replace HB:=BS HB hb;have NB404_411:=NL BK404 hg;have NB411_404:=NG BK404 hg;replace BK404:=BE BK404 hb;have NB405_411:=NL BK405 hg;have NB411_405:=NG BK405 hg;replace BK405:=BE BK405 hb;clear hb hbox hg;obtain ⟨Ao40,co40,eo40⟩:=Kd.R_slice HO409.out;(first | subst eo40 | (injection eo40 with f1_ f2_ f3_;have f4_:=f1_.symm;have f5_:=f3_.symm;clear f1_ f2_ f3_;subst f4_;subst f5_))
      refine hK.out _ _ ⟨(blk_cell BK404.out 0).trans rfl,(blk_cell BK404.out 1).trans rfl⟩ (fun hHeld => ?_);clear hK K;refine norm_ (a':=?_) ?_ ?_
      rotate_left
      ·show Act.put _ (some 3) _ = _
       simp only [Act.put,List.setIfInBounds_toArray,List.set_cons_zero,List.set_cons_succ,i64_w,i32_w];rfl
      refine one_ (i:=7) (N:=some 11) #[true,true,true,true,true,true,true,true,false,true,false] rfl rfl (one_of HT_.out (by kernel_rfl)) (by decide) (fun K hK => ?_);refine goesN Tryd.func49 #[.slice Ao40 t407.length co40] ?_;with_reducible refine (r06_Bytes.calls k _ _ t407 t410 _ ?side1 ?side2 A4.out).mono ?_
      (case side1 => exact CR HO409)
      (case side2 => exact (Kd.R_reads' HO409.out).2.1)
      rintro e w' ⟨rfl,⟨nd,rfl⟩⟩;refine ⟨_,rfl,?_⟩;refine hK.out _ _ ⟨(blk_cell BK404.out 0).trans rfl,(blk_cell BK404.out 1).trans rfl⟩ (fun hHeld => ?_);clear hK K;refine norm_ (a':=?_) ?_ ?_
      rotate_left
      ·show Act.put _ (some 11) _ = _
       simp only [Act.put,List.setIfInBounds_toArray,List.set_cons_zero,List.set_cons_succ,i64_w,i32_w];rfl
      refine pureA HT_ (i:=8) (N:=some 12) #[true,true,true,true,true,true,true,true,true,true,false] ?_;exact norm_ (by simp only [putAll,Act.put,List.setIfInBounds_toArray,List.set_cons_zero,List.set_cons_succ]) (hCont (.slice Ao40 t407.length co40,gb411) _ ⟨hHeld,(RL HO409),(BL BK404),(BL BK405),(BL BK411),GW411.out,GE411.out,NB404_411.out,NB411_404.out,NB405_411.out,NB411_405.out,(BB HB)⟩)
    ·skip
     refine boxS 3 #[.int .i64 0,.int .i64 0,.int .i64 0,.int .i64 0,.int .i64 0] 26 ?_;intro gb411 hg w38 hbox hb;have BK411:=AM (hbox);have GW411:=GW HB hg;have GE411:=GW HB hg;replace HB:=BS HB hb;have NB404_411:=NL BK404 hg;have NB411_404:=NG BK404 hg;replace BK404:=BE BK404 hb;have NB405_411:=NL BK405 hg;have NB411_405:=NG BK405 hg;replace BK405:=BE BK405 hb;clear hb hbox hg;refine hK.out _ _ ⟨(blk_cell BK404.out 0).trans rfl,(blk_cell BK404.out 1).trans rfl⟩ (fun hHeld => ?_);clear hK K;refine norm_ (a':=?_) ?_ ?_
     rotate_left
     ·show Act.put _ (some 3) _ = _
      simp only [Act.put,List.setIfInBounds_toArray,List.set_cons_zero,List.set_cons_succ,i64_w,i32_w];rfl
     refine one_ (i:=6) (N:=some 10) #[true,true,true,true,true,true,true,false,false,true,false] rfl rfl (one_of HT_.out (by kernel_rfl)) (by decide) (fun K hK => ?_);refine goesN Tryd.func50 #[.agg #[.slice A0_0 l0_0.length c0_0,.int .i64 a0_1]] ?_;with_reducible refine (r12_Texts.calls k _ _ l0_0 a0_1 t407 _ ?side1 ?side2 A3.out).mono ?_
     (case side1 => exact Kd.C_below HR0_0.out (BB HB))
     (case side2 => exact HC0_0.out)
     rintro e w39 ⟨v408,rfl,ho0,hb⟩;refine ⟨_,rfl,?_⟩;have HO409:=AM (Kd.R_lower ho0 (below_size (BB HB)));replace BK404:=BE BK404 hb;replace BK405:=BE BK405 hb;replace BK411:=BE BK411 hb;replace HB:=BS HB hb;(try clear hb)
     (try clear hb2)
     (try clear hk)
     (try clear hi)
     (try clear ho0)
     obtain ⟨Ao40,co40,eo40⟩:=Kd.R_slice HO409.out;(first | subst eo40 | (injection eo40 with f1_ f2_ f3_;have f4_:=f1_.symm;have f5_:=f3_.symm;clear f1_ f2_ f3_;subst f4_;subst f5_))
     refine hK.out _ _ ⟨(blk_cell BK404.out 0).trans rfl,(blk_cell BK404.out 1).trans rfl⟩ (fun hHeld => ?_);clear hK K;refine norm_ (a':=?_) ?_ ?_
     rotate_left
     ·show Act.put _ (some 10) _ = _
      simp only [Act.put,List.setIfInBounds_toArray,List.set_cons_zero,List.set_cons_succ,i64_w,i32_w];rfl
     refine one_ (i:=7) (N:=some 11) #[true,true,true,true,true,true,true,true,false,true,false] rfl rfl (one_of HT_.out (by kernel_rfl)) (by decide) (fun K hK => ?_);refine goesN Tryd.func49 #[.slice Ao40 t407.length co40] ?_;with_reducible refine (r06_Bytes.calls k _ _ t407 t410 _ ?side1 ?side2 A4.out).mono ?_
     (case side1 => exact CR HO409)
     (case side2 => exact (Kd.R_reads' HO409.out).2.1)
     rintro e w' ⟨rfl,⟨nd,rfl⟩⟩;refine ⟨_,rfl,?_⟩;refine hK.out _ _ ⟨(blk_cell BK404.out 0).trans rfl,(blk_cell BK404.out 1).trans rfl⟩ (fun hHeld => ?_);clear hK K;refine norm_ (a':=?_) ?_ ?_
     rotate_left
     ·show Act.put _ (some 11) _ = _
      simp only [Act.put,List.setIfInBounds_toArray,List.set_cons_zero,List.set_cons_succ,i64_w,i32_w];rfl
     refine pureA HT_ (i:=8) (N:=some 12) #[true,true,true,true,true,true,true,true,true,true,false] ?_;exact norm_ (by simp only [putAll,Act.put,List.setIfInBounds_toArray,List.set_cons_zero,List.set_cons_succ]) (hCont (.slice Ao40 t407.length co40,gb411) _ ⟨hHeld,(RL HO409),(BL BK404),(BL BK405),(BL BK411),GW411.out,GE411.out,NB404_411.out,NB411_404.out,NB405_411.out,NB411_405.out,(BB HB)⟩)
   ·skip
    refine boxS 3 #[.int .i64 0,.int .i64 0,.int .i64 0,.int .i64 0,.int .i64 0] 26 ?_;intro gb411 hg w37 hbox hb;have BK411:=AM (hbox);have GW411:=GW HB hg;have GE411:=GW HB hg;replace HB:=BS HB hb;have NB404_411:=NL BK404 hg;have NB411_404:=NG BK404 hg;replace BK404:=BE BK404 hb;have NB405_411:=NL BK405 hg;have NB411_405:=NG BK405 hg;replace BK405:=BE BK405 hb;clear hb hbox hg;refine hK.out _ _ ⟨(blk_cell BK404.out 0).trans rfl,(blk_cell BK404.out 1).trans rfl⟩ (fun hHeld => ?_);clear hK K;refine norm_ (a':=?_) ?_ ?_
    rotate_left
    ·show Act.put _ (some 3) _ = _
     simp only [Act.put,List.setIfInBounds_toArray,List.set_cons_zero,List.set_cons_succ,i64_w,i32_w];rfl
    refine one_ (i:=4) (N:=some 8) #[true,true,true,true,true,true,false,false,false,true,false] rfl rfl (one_of HT_.out (by kernel_rfl)) (by decide) (fun K hK => ?_);refine goesN Tryd.func41 #[.agg #[.slice A0_0 l0_0.length c0_0,.int .i64 a0_1]] ?_;with_reducible refine (r09_Edges.calls k _ _ l0_0 a0_1 t406 _ ?side1 ?side2 A2.out).mono ?_
    (case side1 => exact Kd.C_below HR0_0.out (BB HB))
    (case side2 => exact HC0_0.out)
    rintro e w38 ⟨rfl,hb⟩;refine ⟨_,rfl,?_⟩;replace BK404:=BE BK404 hb;replace BK405:=BE BK405 hb;replace BK411:=BE BK411 hb;replace HB:=BS HB hb;(try clear hb)
    (try clear hb2)
    (try clear hk)
    (try clear hi)
    refine hK.out _ _ ⟨(blk_cell BK404.out 0).trans rfl,(blk_cell BK404.out 1).trans rfl⟩ (fun hHeld => ?_);clear hK K;refine norm_ (a':=?_) ?_ ?_
    rotate_left
    ·show Act.put _ (some 8) _ = _
     simp only [Act.put,List.setIfInBounds_toArray,List.set_cons_zero,List.set_cons_succ,i64_w,i32_w];rfl
    refine one_ (i:=6) (N:=some 10) #[true,true,true,true,true,true,true,false,false,true,false] rfl rfl (one_of HT_.out (by kernel_rfl)) (by decide) (fun K hK => ?_);refine goesN Tryd.func50 #[.agg #[.slice A0_0 l0_0.length c0_0,.int .i64 a0_1]] ?_;with_reducible refine (r12_Texts.calls k _ _ l0_0 a0_1 t407 _ ?side1 ?side2 A3.out).mono ?_
    (case side1 => exact Kd.C_below HR0_0.out (BB HB))
    (case side2 => exact HC0_0.out)
    rintro e w39 ⟨v408,rfl,ho0,hb⟩;refine ⟨_,rfl,?_⟩;have HO409:=AM (Kd.R_lower ho0 (below_size (BB HB)));replace BK404:=BE BK404 hb;replace BK405:=BE BK405 hb;replace BK411:=BE BK411 hb;replace HB:=BS HB hb;(try clear hb)
    (try clear hb2)
    (try clear hk)
    (try clear hi)
    (try clear ho0)
    obtain ⟨Ao40,co40,eo40⟩:=Kd.R_slice HO409.out;(first | subst eo40 | (injection eo40 with f1_ f2_ f3_;have f4_:=f1_.symm;have f5_:=f3_.symm;clear f1_ f2_ f3_;subst f4_;subst f5_))
    refine hK.out _ _ ⟨(blk_cell BK404.out 0).trans rfl,(blk_cell BK404.out 1).trans rfl⟩ (fun hHeld => ?_);clear hK K;refine norm_ (a':=?_) ?_ ?_
    rotate_left
    ·show Act.put _ (some 10) _ = _
     simp only [Act.put,List.setIfInBounds_toArray,List.set_cons_zero,List.set_cons_succ,i64_w,i32_w];rfl
    refine one_ (i:=7) (N:=some 11) #[true,true,true,true,true,true,true,true,false,true,false] rfl rfl (one_of HT_.out (by kernel_rfl)) (by decide) (fun K hK => ?_);refine goesN Tryd.func49 #[.slice Ao40 t407.length co40] ?_;with_reducible refine (r06_Bytes.calls k _ _ t407 t410 _ ?side1 ?side2 A4.out).mono ?_
    (case side1 => exact CR HO409)
    (case side2 => exact (Kd.R_reads' HO409.out).2.1)
    rintro e w' ⟨rfl,⟨nd,rfl⟩⟩;refine ⟨_,rfl,?_⟩;refine hK.out _ _ ⟨(blk_cell BK404.out 0).trans rfl,(blk_cell BK404.out 1).trans rfl⟩ (fun hHeld => ?_);clear hK K;refine norm_ (a':=?_) ?_ ?_
    rotate_left
    ·show Act.put _ (some 11) _ = _
     simp only [Act.put,List.setIfInBounds_toArray,List.set_cons_zero,List.set_cons_succ,i64_w,i32_w];rfl
    refine pureA HT_ (i:=8) (N:=some 12) #[true,true,true,true,true,true,true,true,true,true,false] ?_;exact norm_ (by simp only [putAll,Act.put,List.setIfInBounds_toArray,List.set_cons_zero,List.set_cons_succ]) (hCont (.slice Ao40 t407.length co40,gb411) _ ⟨hHeld,(RL HO409),(BL BK404),(BL BK405),(BL BK411),GW411.out,GE411.out,NB404_411.out,NB411_404.out,NB405_411.out,NB411_405.out,(BB HB)⟩)
  rintro ⟨v408,gb411⟩ w41 ⟨hS_,h0_,h1_,h2_,h3_,h4_,h5_,h6_,h7_,h8_,h9_,h10_⟩;have n0_:Aside0 (Kd.R Kd.string 9 w41 w.heap.size (fun _ => True) v408 t407):=⟨h0_⟩;have n1_:Aside0 (w41.heap[gb404]? = some (.cells #[.slice A0_0 l0_0.length c0_0,.int .i64 a0_1] 24 (0,0))):=⟨h1_⟩;have n2_:Aside0 (w41.heap[gb405]? = some (.cells #[.int .i64 0,.int .i64 0,.int .i64 0,.int .i64 0,.int .i64 0] 26 (0,0))):=⟨h2_⟩;have n3_:Aside0 (w41.heap[gb411]? = some (.cells #[.int .i64 0,.int .i64 0,.int .i64 0,.int .i64 0,.int .i64 0] 26 (0,0))):=⟨h3_⟩;have n4_:Aside0 (w.heap.size≤gb411):=⟨h4_⟩;have n5_:Aside0 (w.heap.size≤gb411):=⟨h5_⟩;have n6_:Aside0 (gb404≠gb411):=⟨h6_⟩;have n7_:Aside0 (gb411≠gb404):=⟨h7_⟩;have n8_:Aside0 (gb405≠gb411):=⟨h8_⟩;have n9_:Aside0 (gb411≠gb405):=⟨h9_⟩;have n10_:Aside0 (Below w.heap.size w w41):=⟨h10_⟩;clear BK404;clear BK405;clear HB;clear h0_ h1_ h2_ h3_ h4_ h5_ h6_ h7_ h8_ h9_ h10_;have HO409:=n0_;have BK404:=n1_;have BK405:=n2_;have BK411:=n3_;have GW411:=n4_;have GE411:=n5_;have NB404_411:=n6_;have NB411_404:=n7_;have NB405_411:=n8_;have NB411_405:=n9_;have HB:=n10_;clear n0_ n1_ n2_ n3_ n4_ n5_ n6_ n7_ n8_ n9_ n10_;have hHeld:w41.cell? ⟨gb404,0,none⟩ = some (.slice A0_0 l0_0.length c0_0)∧w41.cell? ⟨gb404,1,none⟩ = some (.int .i64 a0_1):=hS_;refine norm_ (a':=?_) ?_ ?_
  rotate_left
  ·simp only [putAll,Act.put,List.setIfInBounds_toArray,List.set_cons_zero,List.set_cons_succ];rfl
  refine one_ (i:=10) (N:=none) #[true,true,true,true,true,true,true,true,true,true,true] rfl rfl (one_of HT_.out (by kernel_rfl)) (by decide) (fun K hK => ?_);have hs42:w41.cell? ⟨gb411,0,none⟩ = some (.int .i64 0):=(blk_cell BK411.out 0).trans rfl;have hfs42:=BF BK411 0;have hns42_0:=NB404_411.out;have hns42_1:=NB405_411.out;have hms42_0:=NB411_404.out;have hms42_1:=NB411_405.out;have hs43:w41.cell? ⟨gb411,1,none⟩ = some (.int .i64 0):=(blk_cell BK411.out 1).trans rfl;have hfs43:=BF BK411 1;have hns43_0:=NB404_411.out;have hns43_1:=NB405_411.out;have hms43_0:=NB411_404.out;have hms43_1:=NB411_405.out;have hs44:w41.cell? ⟨gb411,2,none⟩ = some (.int .i64 0):=(blk_cell BK411.out 2).trans rfl;have hfs44:=BF BK411 2;have hns44_0:=NB404_411.out;have hns44_1:=NB405_411.out;have hms44_0:=NB411_404.out;have hms44_1:=NB411_405.out;have hs45:w41.cell? ⟨gb411,3,none⟩ = some (.int .i64 0):=(blk_cell BK411.out 3).trans rfl;have hfs45:=BF BK411 3;have hns45_0:=NB404_411.out;have hns45_1:=NB405_411.out;have hms45_0:=NB411_404.out;have hms45_1:=NB411_405.out;have hs46:w41.cell? ⟨gb411,4,none⟩ = some (.int .i64 0):=(blk_cell BK411.out 4).trans rfl;have hfs46:=BF BK411 4;have hns46_0:=NB404_411.out;have hns46_1:=NB405_411.out;have hms46_0:=NB411_404.out;have hms46_1:=NB411_405.out;refine skip_ (w1:=?_) (by rfl) rfl ?_ ?_
  rotate_left
  ·go_simp
   rfl
  refine hK.out _ _ ⟨((cell_far (p:=⟨gb411,_,none⟩) NB404_411.out _).trans (((cell_far (p:=⟨gb411,_,none⟩) NB404_411.out _).trans (((cell_far (p:=⟨gb411,_,none⟩) NB404_411.out _).trans (((cell_far (p:=⟨gb411,_,none⟩) NB404_411.out _).trans (((cell_far (p:=⟨gb411,_,none⟩) NB404_411.out _).trans (hHeld.1)))))))))),((cell_far (p:=⟨gb411,_,none⟩) NB404_411.out _).trans (((cell_far (p:=⟨gb411,_,none⟩) NB404_411.out _).trans (((cell_far (p:=⟨gb411,_,none⟩) NB404_411.out _).trans (((cell_far (p:=⟨gb411,_,none⟩) NB404_411.out _).trans (((cell_far (p:=⟨gb411,_,none⟩) NB404_411.out _).trans (hHeld.2))))))))))⟩ (fun hHeld => ?_);clear hK K;refine done_ (done_of HT_.out (by kernel_rfl)) ?_;have hnb47:=NB404_405.out;have hnc47:=NB405_404.out;have hnb48:=NB404_411.out;have hnc48:=NB411_404.out;have hcz49_0:=BC BK404 0 (.slice A0_0 l0_0.length c0_0) rfl;have hcz49_1:=BC BK404 1 (.int .i64 a0_1) rfl;have hfz49_0:=BF BK404 0;have hfz49_1:=BF BK404 1;try go_wp2_with (first | ((with_reducible refine gate_callee (f:=26) rfl ?_);refine goesM_ (some 14) rfl rfl Tryd.func26 #[.agg #[.slice A0_0 l0_0.length c0_0,.int .i64 a0_1]] rfl ?_;(with_reducible refine (r09_Right.calls k _ _ l0_0 a0_1 false _ ?side1 ?side2 A5.out).mono ?_);(case side1 => exact Kd.C_below HR0_0.out (BB HB));(case side2 => exact HC0_0.out);rintro e w50 ⟨rfl,hb⟩;refine ⟨_,rfl,?_⟩;replace HO409:=AM (Kd.R_below (by exact (Kd.R_mono (Kd.R_far (p:=⟨gb411,4,none⟩) (Kd.R_far (p:=⟨gb411,3,none⟩) (Kd.R_far (p:=⟨gb411,2,none⟩) (Kd.R_far (p:=⟨gb411,1,none⟩) (Kd.R_far (p:=⟨gb411,0,none⟩) (Kd.R_types HO409.out BK411.out (by decide)) (fun _ hk => hk.2) (.int .i64 0)) (fun _ hk => hk.2) (.int .i64 (l0_0.length:Int))) (fun _ hk => hk.2) (.int .i64 t406)) (fun _ hk => hk.2) (.int .i64 0)) (fun _ hk => hk.2) (.int .i64 t410)) (fun _ h_ => h_.1))) hb);replace BK404:=AM (blk_below (g:=gb404) (o:=.cells #[.slice A0_0 l0_0.length c0_0,.int .i64 a0_1] 24 (0,0)) (by (repeat refine blk_far ?_ NB404_411.out _);exact BL BK404) hb);replace BK405:=AM (blk_below (g:=gb405) (o:=.cells #[.int .i64 0,.int .i64 0,.int .i64 0,.int .i64 0,.int .i64 0] 26 (0,0)) (by (repeat refine blk_far ?_ NB405_411.out _);exact BL BK405) hb);replace BK411:=AM (blk_below (g:=gb411) (o:=.cells #[.int .i64 0,.int .i64 (l0_0.length:Int),.int .i64 t406,.int .i64 0,.int .i64 t410] 26 (0,0)) (by refine blk_put (cs:=#[.int .i64 0,.int .i64 (l0_0.length:Int),.int .i64 t406,.int .i64 0,.int .i64 0]) ?_ 4 _ rfl;refine blk_put (cs:=#[.int .i64 0,.int .i64 (l0_0.length:Int),.int .i64 t406,.int .i64 0,.int .i64 0]) ?_ 3 _ rfl;refine blk_put (cs:=#[.int .i64 0,.int .i64 (l0_0.length:Int),.int .i64 0,.int .i64 0,.int .i64 0]) ?_ 2 _ rfl;refine blk_put (cs:=#[.int .i64 0,.int .i64 0,.int .i64 0,.int .i64 0,.int .i64 0]) ?_ 1 _ rfl;refine blk_put (cs:=#[.int .i64 0,.int .i64 0,.int .i64 0,.int .i64 0,.int .i64 0]) ?_ 0 _ rfl;exact BL BK411) hb);replace HB:=BS HB hb;(try clear hb);(try clear hb2);(try clear hk);(try clear hi);have hnb51:=NB411_405.out;have hnc51:=NB405_411.out;have hcz52_0:=BC BK411 0 (.int .i64 0) rfl;have hcz52_1:=BC BK411 1 (.int .i64 (l0_0.length:Int)) rfl;have hcz52_2:=BC BK411 2 (.int .i64 t406) rfl;have hcz52_3:=BC BK411 3 (.int .i64 0) rfl;have hcz52_4:=BC BK411 4 (.int .i64 t410) rfl;have hfz52_0:=BF BK411 0;have hfz52_1:=BF BK411 1;have hfz52_2:=BF BK411 2;have hfz52_3:=BF BK411 3;have hfz52_4:=BF BK411 4;have hcz53_0:=BC BK405 0 (.int .i64 0) rfl;have hcz53_1:=BC BK405 1 (.int .i64 0) rfl;have hcz53_2:=BC BK405 2 (.int .i64 0) rfl;have hcz53_3:=BC BK405 3 (.int .i64 0) rfl;have hcz53_4:=BC BK405 4 (.int .i64 0) rfl;have hfz53_0:=BF BK405 0;have hfz53_1:=BF BK405 1;have hfz53_2:=BF BK405 2;have hfz53_3:=BF BK405 3;have hfz53_4:=BF BK405 4))
  refine bodyPost_ret (results_cell_row rfl _ _ gb405 26 #[.int .i64 0,.int .i64 (l0_0.length:Int),.int .i64 t406,.int .i64 0,.int .i64 t410] (0,0) _ rfl (by refine blk_put (cs:=#[.int .i64 0,.int .i64 (l0_0.length:Int),.int .i64 t406,.int .i64 0,.int .i64 0]) ?_ 4 _ rfl;refine blk_put (cs:=#[.int .i64 0,.int .i64 (l0_0.length:Int),.int .i64 t406,.int .i64 0,.int .i64 0]) ?_ 3 _ rfl;refine blk_put (cs:=#[.int .i64 0,.int .i64 (l0_0.length:Int),.int .i64 0,.int .i64 0,.int .i64 0]) ?_ 2 _ rfl;refine blk_put (cs:=#[.int .i64 0,.int .i64 0,.int .i64 0,.int .i64 0,.int .i64 0]) ?_ 1 _ rfl;refine blk_put (cs:=#[.int .i64 0,.int .i64 0,.int .i64 0,.int .i64 0,.int .i64 0]) ?_ 0 _ rfl;exact BL BK405) Tryd.underlying26 rfl (by kernel_rfl)) rfl ?_;exact RT (BB HB)
end Go.Proofs.YtcphcaiiofeflaaDoor.GO
