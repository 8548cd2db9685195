
import Derived.Test.YtcphcaiiofeflaaDoorOvGOx0
namespace Go.Proofs.YtcphcaiiofeflaaDoor.GO
open Go.RowKit Go.Proofs.YtcphcaiiofeflaaDoorW.PrintWords Go.Proofs.YtcphcaiiofeflaaDoorW.PrintLast Go.Proofs.YtcphcaiiofeflaaDoorW.PrintMore
attribute [local go_sem] max2_int min2_int max_two min_two max_three min_three max_four min_four
set_option maxHeartbeats 8000000
set_option maxRecDepth 100000
set_option linter.unusedVariables false
set_option linter.unusedSimpArgs false
mutual
def r07_Spec.j0:Nat→Int→Bool→Int→Int→Int→Option (List Int × Int × Int × Int × Bool)
 | 0,_,_,_,_,_ => none
 | k+1,x10,x18,x128001,x128002,x128003 => if x18 = true then (some ((([3]:List Int)),1,0,0,true)) else (if x10 = 5 then (some (([]:List Int),1,0,0,true)) else (if x10 = 6 then (some ((([4]:List Int)),0,0,0,true)) else (some (([]:List Int),x128001,x128002,x128003,false))))
def r07_Spec.j1:Nat→Int→Bool→Int→Int→Int→Option (List Int × Int × Int × Int × Bool)
 | 0,_,_,_,_,_ => none
 | k+1,x31,x35,x128001,x128002,x128003 => if x35 = true then (some ((([2,2,2]:List Int)),0,1,1,true)) else (if x31 = 3 then (some ((([3,3,3]:List Int)),1,0,0,true)) else (if x31 = 4 then (some ((([3]:List Int)),1,0,0,true)) else (if x31 = 5 then (some ((([3]:List Int)),2,0,0,true)) else (if x31 = 6 then (some ((([1]:List Int)),0,0,(-1),true)) else (if x31 = 7 then (some ((([4,4,4,5]:List Int)),0,0,0,true)) else (some (([]:List Int),x128001,x128002,x128003,false)))))))
end
def r07_Spec.f (k:Nat) (a0:Int) (a1:Int):Option (List Int × Int × Int × Int × Bool):=if a0 = 1 then (if a1 = 1 then (some (([]:List Int),0,0,(-1),true)) else (if a1 = 2 then (some ((([2,2,2,2]:List Int)),0,1,1,true)) else (if a1 = 3 then (r07_Spec.j0 k a1 (a1 == 3) 0 0 0) else (r07_Spec.j0 k a1 (a1 == 4) 0 0 0)))) else (if a1 = 1 then (some (([]:List Int),1,0,(-1),true)) else (if a1 = 2 then (r07_Spec.j1 k a1 (a1 == 2) 0 0 0) else (r07_Spec.j1 k a1 (a1 == 8) 0 0 0)))
theorem r07_Spec.calls (k:Nat) (a0:Int) (a1:Int) (r1:List Int) (r2:Int) (r3:Int) (r4:Int) (r5:Bool) (w:World) (h:r07_Spec.f k a0 a1 = some (r1,r2,r3,r4,r5)) :
  Calls Tryd.prog 46 #[.int .i64 a0,.int .i64 a1] w fun e w' => ∃ v0_:Value,e = .returned (.tuple #[.agg #[v0_,.int .i64 r2,.int .i64 r3,.int .i64 r4],.bool r5])∧Kd.R (Kd.int .i64) 3 w' w.heap.size (fun _ => True) v0_ r1∧Below w.heap.size w w':=by
 have hu57:=Tryd.underlying57;have HB:=AM (Below.refl w.heap.size w);have H:(if a0 = 1 then (if a1 = 1 then (some (([]:List Int),0,0,(-1),true)) else (if a1 = 2 then (some ((([2,2,2,2]:List Int)),0,1,1,true)) else (if a1 = 3 then (r07_Spec.j0 k a1 (a1 == 3) 0 0 0) else (r07_Spec.j0 k a1 (a1 == 4) 0 0 0)))) else (if a1 = 1 then (some (([]:List Int),1,0,(-1),true)) else (if a1 = 2 then (r07_Spec.j1 k a1 (a1 == 2) 0 0 0) else (r07_Spec.j1 k a1 (a1 == 8) 0 0 0)))) = some (r1,r2,r3,r4,r5):=h;clear h;by_cases c3:a0 = 1
 ·rw [if_pos c3] at H;have c3b0:(a0 == 1) = true:=beq_iff_eq.mpr c3;have c3b1:(a0 != 1) = false:=bne_eq_false_iff_eq.mpr c3;clear c3;by_cases c4:a1 = 1
  ·rw [if_pos c4] at H;have c4b0:(a1 == 1) = true:=beq_iff_eq.mpr c4;have c4b1:(a1 != 1) = false:=bne_eq_false_iff_eq.mpr c4;clear c4;simp only [Option.some.injEq,Prod.mk.injEq] at H;obtain ⟨rfl,rfl,rfl,rfl,rfl⟩:=H;go_enter Tryd.func46,Tryd.ntmps46;go_wp2_with (first | ((with_reducible refine gate_dst (N:=4) rfl ?_);refine boxE 4 #[.slice none 0 0,.int .i64 0,.int .i64 0,.int .i64 0] 57 ?_;intro gb126 hg w5 hbox hb;have BK126:=AM (hbox);have GW126:=GW HB hg;have GE126:=GW HB hg;replace HB:=BS HB hb;clear hb hbox hg) | ((with_reducible refine gate_dst (N:=6) rfl ?_);refine boxE 6 #[.slice none 0 0,.int .i64 0,.int .i64 0,.int .i64 0] 57 ?_;intro gb127 hg w6 hbox hb;have BK127:=AM (hbox);have GW127:=GW HB hg;have GE127:=GW HB hg;replace HB:=BS HB hb;have NB126_127:=NL BK126 hg;have NB127_126:=NG BK126 hg;replace BK126:=BE BK126 hb;clear hb hbox hg;have hnb7:=NB127_126.out;have hnc7:=NB126_127.out;have hcz8_0:=BC BK127 0 (.slice none 0 0) rfl;have hcz8_1:=BC BK127 1 (.int .i64 0) rfl;have hcz8_2:=BC BK127 2 (.int .i64 0) rfl;have hcz8_3:=BC BK127 3 (.int .i64 0) rfl;have hfz8_0:=BF BK127 0;have hfz8_1:=BF BK127 1;have hfz8_2:=BF BK127 2;have hfz8_3:=BF BK127 3;have hcz9_0:=BC BK126 0 (.slice none 0 0) rfl;have hcz9_1:=BC BK126 1 (.int .i64 0) rfl;have hcz9_2:=BC BK126 2 (.int .i64 0) rfl;have hcz9_3:=BC BK126 3 (.int .i64 0) rfl;have hfz9_0:=BF BK126 0;have hfz9_1:=BF BK126 1;have hfz9_2:=BF BK126 2;have hfz9_3:=BF BK126 3))
   refine bodyPost_ret (results_ct rfl _ _ gb126 57 #[.slice none 0 0,.int .i64 0,.int .i64 0,.int .i64 (-1)] (0,0) _ rfl (by refine blk_put (cs:=#[.slice none 0 0,.int .i64 0,.int .i64 0,.int .i64 0]) ?_ 3 _ rfl;refine blk_put (cs:=#[.slice none 0 0,.int .i64 0,.int .i64 0,.int .i64 0]) ?_ 2 _ rfl;refine blk_put (cs:=#[.slice none 0 0,.int .i64 0,.int .i64 0,.int .i64 0]) ?_ 1 _ rfl;refine blk_put (cs:=#[.slice none 0 0,.int .i64 0,.int .i64 0,.int .i64 0]) ?_ 0 _ rfl;(repeat refine blk_far ?_ NB126_127.out _);exact BL BK126) Tryd.underlying57 rfl (by kernel_rfl)) rfl ?_;exact ⟨_,by first | rfl | (simp [errW_none,errW_some] <;> rfl) | (simp [*,errW_none,errW_some] <;> rfl),by first | exact Kd.R_nil _ _ _ _ _ | exact Kd.N_nil _ _ _ _ _ | exact Kd.V_nil _ _ _ _ _ | exact Kd.Q_nil _ _ _ _ _ | exact Kd.S_nil _ _ _ _ _,BB HB⟩
  ·rw [if_neg c4] at H;have c4b0:(a1 == 1) = false:=beq_eq_false_iff_ne.mpr c4;have c4b1:(a1 != 1) = true:=bne_iff_ne.mpr c4;by_cases c10:a1 = 2
   ·rw [if_pos c10] at H;have c10b0:(a1 == 2) = true:=beq_iff_eq.mpr c10;have c10b1:(a1 != 2) = false:=bne_eq_false_iff_eq.mpr c10;clear c10;obtain ⟨y128,hy128⟩:∃ y_:List Int,y_ = (([2,2,2,2]:List Int)):=⟨_,rfl⟩;replace H:(some (y128,0,1,1,true)) = some (r1,r2,r3,r4,r5):=QH hy128 H
    have Ny128:=AM hy128;clear hy128;simp only [Option.some.injEq,Prod.mk.injEq] at H;obtain ⟨rfl,rfl,rfl,rfl,rfl⟩:=H;go_enter Tryd.func46,Tryd.ntmps46;go_wp2_with (first | ((with_reducible refine gate_dst (N:=4) rfl ?_);refine boxE 4 #[.slice none 0 0,.int .i64 0,.int .i64 0,.int .i64 0] 57 ?_;intro gb126 hg w11 hbox hb;have BK126:=AM (hbox);have GW126:=GW HB hg;have GE126:=GW HB hg;replace HB:=BS HB hb;clear hb hbox hg) | ((with_reducible refine gate_dst (N:=6) rfl ?_);refine boxE 6 #[.slice none 0 0,.int .i64 0,.int .i64 0,.int .i64 0] 57 ?_;intro gb127 hg w12 hbox hb;have BK127:=AM (hbox);have GW127:=GW HB hg;have GE127:=GW HB hg;replace HB:=BS HB hb;have NB126_127:=NL BK126 hg;have NB127_126:=NG BK126 hg;replace BK126:=BE BK126 hb;clear hb hbox hg;have hnb13:=NB127_126.out;have hnc13:=NB126_127.out;have hcz14_0:=BC BK127 0 (.slice none 0 0) rfl;have hcz14_1:=BC BK127 1 (.int .i64 0) rfl;have hcz14_2:=BC BK127 2 (.int .i64 0) rfl;have hcz14_3:=BC BK127 3 (.int .i64 0) rfl;have hfz14_0:=BF BK127 0;have hfz14_1:=BF BK127 1;have hfz14_2:=BF BK127 2;have hfz14_3:=BF BK127 3) | ((with_reducible refine gate_dst (N:=16) rfl ?_);refine Kd.R_lit (Kd.int .i64) _ 3 ?hg (N:=16) ?hd (xs:=([2,2,2,2]:List Int)) (inner:=[.int .i64 2,.int .i64 2,.int .i64 2,.int .i64 2]) (ok:=fun _ => True) (okp:=fun _ => True) ?hr ?hp (fun _ hk => hk) trivial (Below.refl _ _) (Nat.le_refl _) (by simp) ?_;(case hd => rfl);(case hg => rfl);(case hr => first | (go_simp;done) | (go_simp;rfl));(case hp => exact (Reps.one (show Kd.M (Kd.int .i64) _ _ _ 2 [.int .i64 2] from rfl) (Reps.one (show Kd.M (Kd.int .i64) _ _ _ 2 [.int .i64 2] from rfl) (Reps.one (show Kd.M (Kd.int .i64) _ _ _ 2 [.int .i64 2] from rfl) (Reps.one (show Kd.M (Kd.int .i64) _ _ _ 2 [.int .i64 2] from rfl) (Reps.none _ _))))));intro v129 w15 ho16 hb hg_ hnew_;clear hg_ hnew_;(first | rw [← Ny128.out] at ho16 | (simp only [Int.reduceToNat] at ho16;rw [← Ny128.out] at ho16));have HO130:=AM (Kd.R_lower ho16 (below_size (BB HB)));replace BK126:=AM (blk_below (g:=gb126) (o:=.cells #[.slice none 0 0,.int .i64 0,.int .i64 0,.int .i64 0] 57 (0,0)) (by (repeat refine blk_far ?_ NB126_127.out _);exact BL BK126) hb);replace BK127:=AM (blk_below (g:=gb127) (o:=.cells #[.slice none 0 0,.int .i64 0,.int .i64 0,.int .i64 0] 57 (0,0)) (by refine blk_put (cs:=#[.slice none 0 0,.int .i64 0,.int .i64 0,.int .i64 0]) ?_ 3 _ rfl;refine blk_put (cs:=#[.slice none 0 0,.int .i64 0,.int .i64 0,.int .i64 0]) ?_ 2 _ rfl;refine blk_put (cs:=#[.slice none 0 0,.int .i64 0,.int .i64 0,.int .i64 0]) ?_ 1 _ rfl;refine blk_put (cs:=#[.slice none 0 0,.int .i64 0,.int .i64 0,.int .i64 0]) ?_ 0 _ rfl;exact BL BK127) hb);replace HB:=BS HB hb;clear hb ho16;obtain ⟨Ao17,co17,eo17⟩:=Kd.R_slice HO130.out;subst eo17;have hcz18_0:=BC BK126 0 (.slice none 0 0) rfl;have hcz18_1:=BC BK126 1 (.int .i64 0) rfl;have hcz18_2:=BC BK126 2 (.int .i64 0) rfl;have hcz18_3:=BC BK126 3 (.int .i64 0) rfl;have hfz18_0:=BF BK126 0;have hfz18_1:=BF BK126 1;have hfz18_2:=BF BK126 2;have hfz18_3:=BF BK126 3))
    refine bodyPost_ret (results_ct rfl _ _ gb126 57 #[.slice Ao17 y128.length co17,.int .i64 0,.int .i64 1,.int .i64 1] (0,0) _ rfl (by refine blk_put (cs:=#[.slice Ao17 y128.length co17,.int .i64 0,.int .i64 1,.int .i64 0]) ?_ 3 _ rfl;refine blk_put (cs:=#[.slice Ao17 y128.length co17,.int .i64 0,.int .i64 0,.int .i64 0]) ?_ 2 _ rfl;refine blk_put (cs:=#[.slice Ao17 y128.length co17,.int .i64 0,.int .i64 0,.int .i64 0]) ?_ 1 _ rfl;refine blk_put (cs:=#[.slice none 0 0,.int .i64 0,.int .i64 0,.int .i64 0]) ?_ 0 _ rfl;exact BL BK126) Tryd.underlying57 rfl (by kernel_rfl)) rfl ?_;exact ⟨_,by first | rfl | (simp [errW_none,errW_some] <;> rfl) | (simp [*,errW_none,errW_some] <;> rfl),by exact Kd.R_mono (Kd.R_far (p:=⟨gb126,3,none⟩) (Kd.R_far (p:=⟨gb126,2,none⟩) (Kd.R_far (p:=⟨gb126,1,none⟩) (Kd.R_far (p:=⟨gb126,0,none⟩) (Kd.R_types HO130.out BK126.out (by decide)) (fun _ hk => hk.2) (.slice Ao17 y128.length co17)) (fun _ hk => hk.2) (.int .i64 0)) (fun _ hk => hk.2) (.int .i64 1)) (fun _ hk => hk.2) (.int .i64 1)) (fun _ hk => trivial),BB HB⟩
   ·rw [if_neg c10] at H;have c10b0:(a1 == 2) = false:=beq_eq_false_iff_ne.mpr c10;have c10b1:(a1 != 2) = true:=bne_iff_ne.mpr c10;have HC19:=AM H;clear H;go_enter Tryd.func46,Tryd.ntmps46;go_upto_if 18 with (first | ((with_reducible refine gate_dst (N:=4) rfl ?_);refine boxE 4 #[.slice none 0 0,.int .i64 0,.int .i64 0,.int .i64 0] 57 ?_;intro gb126 hg w20 hbox hb;have BK126:=AM (hbox);have GW126:=GW HB hg;have GE126:=GW HB hg;replace HB:=BS HB hb;clear hb hbox hg) | ((with_reducible refine gate_dst (N:=6) rfl ?_);refine boxE 6 #[.slice none 0 0,.int .i64 0,.int .i64 0,.int .i64 0] 57 ?_;intro gb127 hg w21 hbox hb;have BK127:=AM (hbox);have GW127:=GW HB hg;have GE127:=GW HB hg;replace HB:=BS HB hb;have NB126_127:=NL BK126 hg;have NB127_126:=NG BK126 hg;replace BK126:=BE BK126 hb;clear hb hbox hg;have hnb22:=NB127_126.out;have hnc22:=NB126_127.out;have hcz23_0:=BC BK127 0 (.slice none 0 0) rfl;have hcz23_1:=BC BK127 1 (.int .i64 0) rfl;have hcz23_2:=BC BK127 2 (.int .i64 0) rfl;have hcz23_3:=BC BK127 3 (.int .i64 0) rfl;have hfz23_0:=BF BK127 0;have hfz23_1:=BF BK127 1;have hfz23_2:=BF BK127 2;have hfz23_3:=BF BK127 3))
    (try simp only [Act.put,List.setIfInBounds_toArray,List.set_cons_zero,List.set_cons_succ])
    go_cut [18] (fun v18 wc => ∃ (kq:Nat) (x18_18:Bool),v18 = .bool x18_18∧Aside0 (r07_Spec.j0 kq a1 x18_18 0 0 0 = some (r1,r2,r3,r4,r5))∧Aside0 (kq≤k)∧Aside0 (wc.heap[gb126]? = some (.cells #[(.slice none 0 0),.int .i64 0,.int .i64 0,.int .i64 0] 57 (0,0)))∧Aside0 (wc.heap[gb127]? = some (.cells #[(.slice none 0 0),.int .i64 0,.int .i64 0,.int .i64 0] 57 (0,0)))∧Aside0 (Below w.heap.size w wc))
    case first =>
     have H:=HC19.out;clear HC19;by_cases c24:a1 = 3
     ·rw [if_pos c24] at H;have c24b0:(a1 == 3) = true:=beq_iff_eq.mpr c24;have c24b1:(a1 != 3) = false:=bne_eq_false_iff_eq.mpr c24;clear c24;(first | rw [c24b0] | (simp only [i64_w,i32_w];rw [c24b0]) | skip)
      have H':=AM H;clear H;go_wp2
      go_meet
      case rel => exact ⟨_,((a1 == 3)),QD,H',⟨by first | omega | exact Nat.le_refl _⟩,⟨by (repeat refine blk_far ?_ NB126_127.out _);exact BL BK126⟩,⟨by refine blk_put (cs:=#[.slice none 0 0,.int .i64 0,.int .i64 0,.int .i64 0]) ?_ 3 _ rfl;refine blk_put (cs:=#[.slice none 0 0,.int .i64 0,.int .i64 0,.int .i64 0]) ?_ 2 _ rfl;refine blk_put (cs:=#[.slice none 0 0,.int .i64 0,.int .i64 0,.int .i64 0]) ?_ 1 _ rfl;refine blk_put (cs:=#[.slice none 0 0,.int .i64 0,.int .i64 0,.int .i64 0]) ?_ 0 _ rfl;exact BL BK127⟩,⟨BB HB⟩⟩
     ·rw [if_neg c24] at H;have c24b0:(a1 == 3) = false:=beq_eq_false_iff_ne.mpr c24;have c24b1:(a1 != 3) = true:=bne_iff_ne.mpr c24;(first | rw [c24b0] | (simp only [i64_w,i32_w];rw [c24b0]) | skip)
      have H':=AM H;clear H;go_wp2
      go_meet
      case rel => exact ⟨_,((a1 == 4)),QD,H',⟨by first | omega | exact Nat.le_refl _⟩,⟨by (repeat refine blk_far ?_ NB126_127.out _);exact BL BK126⟩,⟨by refine blk_put (cs:=#[.slice none 0 0,.int .i64 0,.int .i64 0,.int .i64 0]) ?_ 3 _ rfl;refine blk_put (cs:=#[.slice none 0 0,.int .i64 0,.int .i64 0,.int .i64 0]) ?_ 2 _ rfl;refine blk_put (cs:=#[.slice none 0 0,.int .i64 0,.int .i64 0,.int .i64 0]) ?_ 1 _ rfl;refine blk_put (cs:=#[.slice none 0 0,.int .i64 0,.int .i64 0,.int .i64 0]) ?_ 0 _ rfl;exact BL BK127⟩,⟨BB HB⟩⟩
    case rest =>
     clear HC19;try clear c1
     try clear c2
     try clear p2
     try clear c3
     try clear c3b0
     try clear c3b1
     try clear c4
     try clear c4b0
     try clear c4b1
     try clear c7
     try clear c10
     try clear c10b0
     try clear c10b1
     try clear c13
     try clear c22
     try clear c24
     try clear c24b0
     try clear c24b1
     try clear hcz14_0
     try clear hcz14_1
     try clear hcz14_2
     try clear hcz14_3
     try clear hcz18_0
     try clear hcz18_1
     try clear hcz18_2
     try clear hcz18_3
     try clear hcz23_0
     try clear hcz23_1
     try clear hcz23_2
     try clear hcz23_3
     try clear hcz8_0
     try clear hcz8_1
     try clear hcz8_2
     try clear hcz8_3
     try clear hcz9_0
     try clear hcz9_1
     try clear hcz9_2
     try clear hcz9_3
     try clear hfz14_0
     try clear hfz14_1
     try clear hfz14_2
     try clear hfz14_3
     try clear hfz18_0
     try clear hfz18_1
     try clear hfz18_2
     try clear hfz18_3
     try clear hfz23_0
     try clear hfz23_1
     try clear hfz23_2
     try clear hfz23_3
     try clear hfz8_0
     try clear hfz8_1
     try clear hfz8_2
     try clear hfz8_3
     try clear hfz9_0
     try clear hfz9_1
     try clear hfz9_2
     try clear hfz9_3
     obtain ⟨kq,x18_18,rfl,HA,HJ18,BK126,BK127,HB⟩:=hcut;cases kq with
     | zero => exact absurd HA.out (by simp [r07_Spec.j0])
     | succ kj18 =>
      have H:=HA.out;clear HA;simp only [r07_Spec.j0] at H;by_cases c25:x18_18 = true
      ·subst c25;have H1:(some ((([3]:List Int)),1,0,0,true)) = some (r1,r2,r3,r4,r5):=by rw [if_pos rfl] at H;exact H
       clear H;have H:=H1;clear H1;obtain ⟨y131,hy131⟩:∃ y_:List Int,y_ = (([3]:List Int)):=⟨_,rfl⟩;replace H:(some (y131,1,0,0,true)) = some (r1,r2,r3,r4,r5):=QH hy131 H
       have Ny131:=AM hy131;clear hy131;simp only [Option.some.injEq,Prod.mk.injEq] at H;obtain ⟨rfl,rfl,rfl,rfl,rfl⟩:=H;go_wp2_with (first | ((with_reducible refine gate_dst (N:=21) rfl ?_);refine Kd.R_lit (Kd.int .i64) _ 3 ?hg (N:=21) ?hd (xs:=([3]:List Int)) (inner:=[.int .i64 3]) (ok:=fun _ => True) (okp:=fun _ => True) ?hr ?hp (fun _ hk => hk) trivial (Below.refl _ _) (Nat.le_refl _) (by simp) ?_;(case hd => rfl);(case hg => rfl);(case hr => first | (go_simp;done) | (go_simp;rfl));(case hp => exact (Reps.one (show Kd.M (Kd.int .i64) _ _ _ 3 [.int .i64 3] from rfl) (Reps.none _ _)));intro v132 w26 ho27 hb hg_ hnew_;clear hg_ hnew_;(first | rw [← Ny131.out] at ho27 | (simp only [Int.reduceToNat] at ho27;rw [← Ny131.out] at ho27));have HO133:=AM (Kd.R_lower ho27 (below_size (BB HB)));replace BK126:=BE BK126 hb;replace BK127:=BE BK127 hb;replace HB:=BS HB hb;clear hb ho27;obtain ⟨Ao28,co28,eo28⟩:=Kd.R_slice HO133.out;subst eo28;have hnb29:=NB126_127.out;have hnc29:=NB127_126.out;have hcz30_0:=BC BK126 0 (.slice none 0 0) rfl;have hcz30_1:=BC BK126 1 (.int .i64 0) rfl;have hcz30_2:=BC BK126 2 (.int .i64 0) rfl;have hcz30_3:=BC BK126 3 (.int .i64 0) rfl;have hfz30_0:=BF BK126 0;have hfz30_1:=BF BK126 1;have hfz30_2:=BF BK126 2;have hfz30_3:=BF BK126 3))
       refine bodyPost_ret (results_ct rfl _ _ gb126 57 #[.slice Ao28 y131.length co28,.int .i64 1,.int .i64 0,.int .i64 0] (0,0) _ rfl (by refine blk_put (cs:=#[.slice Ao28 y131.length co28,.int .i64 1,.int .i64 0,.int .i64 0]) ?_ 3 _ rfl;refine blk_put (cs:=#[.slice Ao28 y131.length co28,.int .i64 1,.int .i64 0,.int .i64 0]) ?_ 2 _ rfl;refine blk_put (cs:=#[.slice Ao28 y131.length co28,.int .i64 0,.int .i64 0,.int .i64 0]) ?_ 1 _ rfl;refine blk_put (cs:=#[.slice none 0 0,.int .i64 0,.int .i64 0,.int .i64 0]) ?_ 0 _ rfl;exact BL BK126) Tryd.underlying57 rfl (by kernel_rfl)) rfl ?_;exact ⟨_,by first | rfl | (simp [errW_none,errW_some] <;> rfl) | (simp [*,errW_none,errW_some] <;> rfl),by exact Kd.R_mono (Kd.R_far (p:=⟨gb126,3,none⟩) (Kd.R_far (p:=⟨gb126,2,none⟩) (Kd.R_far (p:=⟨gb126,1,none⟩) (Kd.R_far (p:=⟨gb126,0,none⟩) (Kd.R_types HO133.out BK126.out (by decide)) (fun _ hk => hk.2) (.slice Ao28 y131.length co28)) (fun _ hk => hk.2) (.int .i64 1)) (fun _ hk => hk.2) (.int .i64 0)) (fun _ hk => hk.2) (.int .i64 0)) (fun _ hk => trivial),BB HB⟩
      ·replace c25:=Bool.eq_false_iff.mpr c25;subst c25;have H1:(if a1 = 5 then (some (([]:List Int),1,0,0,true)) else (if a1 = 6 then (some ((([4]:List Int)),0,0,0,true)) else (some (([]:List Int),0,0,0,false)))) = some (r1,r2,r3,r4,r5):=by rw [if_neg (show ¬ (false = true) by decide)] at H;exact H
       clear H;have H:=H1;clear H1;by_cases c31:a1 = 5
       ·rw [if_pos c31] at H;have c31b0:(a1 == 5) = true:=beq_iff_eq.mpr c31;have c31b1:(a1 != 5) = false:=bne_eq_false_iff_eq.mpr c31;clear c31;simp only [Option.some.injEq,Prod.mk.injEq] at H;obtain ⟨rfl,rfl,rfl,rfl,rfl⟩:=H;have hnb32:=NB126_127.out;have hnc32:=NB127_126.out;have hcz33_0:=BC BK126 0 (.slice none 0 0) rfl;have hcz33_1:=BC BK126 1 (.int .i64 0) rfl;have hcz33_2:=BC BK126 2 (.int .i64 0) rfl;have hcz33_3:=BC BK126 3 (.int .i64 0) rfl;have hfz33_0:=BF BK126 0;have hfz33_1:=BF BK126 1;have hfz33_2:=BF BK126 2;have hfz33_3:=BF BK126 3;go_wp2
        refine bodyPost_ret (results_ct rfl _ _ gb126 57 #[.slice none 0 0,.int .i64 1,.int .i64 0,.int .i64 0] (0,0) _ rfl (by refine blk_put (cs:=#[.slice none 0 0,.int .i64 1,.int .i64 0,.int .i64 0]) ?_ 3 _ rfl;refine blk_put (cs:=#[.slice none 0 0,.int .i64 1,.int .i64 0,.int .i64 0]) ?_ 2 _ rfl;refine blk_put (cs:=#[.slice none 0 0,.int .i64 0,.int .i64 0,.int .i64 0]) ?_ 1 _ rfl;refine blk_put (cs:=#[.slice none 0 0,.int .i64 0,.int .i64 0,.int .i64 0]) ?_ 0 _ rfl;exact BL BK126) Tryd.underlying57 rfl (by kernel_rfl)) rfl ?_;exact ⟨_,by first | rfl | (simp [errW_none,errW_some] <;> rfl) | (simp [*,errW_none,errW_some] <;> rfl),by first | exact Kd.R_nil _ _ _ _ _ | exact Kd.N_nil _ _ _ _ _ | exact Kd.V_nil _ _ _ _ _ | exact Kd.Q_nil _ _ _ _ _ | exact Kd.S_nil _ _ _ _ _,BB HB⟩
       ·rw [if_neg c31] at H;have c31b0:(a1 == 5) = false:=beq_eq_false_iff_ne.mpr c31;have c31b1:(a1 != 5) = true:=bne_iff_ne.mpr c31;by_cases c34:a1 = 6
        ·rw [if_pos c34] at H;have c34b0:(a1 == 6) = true:=beq_iff_eq.mpr c34;have c34b1:(a1 != 6) = false:=bne_eq_false_iff_eq.mpr c34;clear c34;obtain ⟨y134,hy134⟩:∃ y_:List Int,y_ = (([4]:List Int)):=⟨_,rfl⟩;replace H:(some (y134,0,0,0,true)) = some (r1,r2,r3,r4,r5):=QH hy134 H
         have Ny134:=AM hy134;clear hy134;simp only [Option.some.injEq,Prod.mk.injEq] at H;obtain ⟨rfl,rfl,rfl,rfl,rfl⟩:=H;go_wp2_with (first | ((with_reducible refine gate_dst (N:=28) rfl ?_);refine Kd.R_lit (Kd.int .i64) _ 3 ?hg (N:=28) ?hd (xs:=([4]:List Int)) (inner:=[.int .i64 4]) (ok:=fun _ => True) (okp:=fun _ => True) ?hr ?hp (fun _ hk => hk) trivial (Below.refl _ _) (Nat.le_refl _) (by simp) ?_;(case hd => rfl);(case hg => rfl);(case hr => first | (go_simp;done) | (go_simp;rfl));(case hp => exact (Reps.one (show Kd.M (Kd.int .i64) _ _ _ 4 [.int .i64 4] from rfl) (Reps.none _ _)));intro v135 w35 ho36 hb hg_ hnew_;clear hg_ hnew_;(first | rw [← Ny134.out] at ho36 | (simp only [Int.reduceToNat] at ho36;rw [← Ny134.out] at ho36));have HO136:=AM (Kd.R_lower ho36 (below_size (BB HB)));replace BK126:=BE BK126 hb;replace BK127:=BE BK127 hb;replace HB:=BS HB hb;clear hb ho36;obtain ⟨Ao37,co37,eo37⟩:=Kd.R_slice HO136.out;subst eo37;have hnb38:=NB126_127.out;have hnc38:=NB127_126.out;have hcz39_0:=BC BK126 0 (.slice none 0 0) rfl;have hcz39_1:=BC BK126 1 (.int .i64 0) rfl;have hcz39_2:=BC BK126 2 (.int .i64 0) rfl;have hcz39_3:=BC BK126 3 (.int .i64 0) rfl;have hfz39_0:=BF BK126 0;have hfz39_1:=BF BK126 1;have hfz39_2:=BF BK126 2;have hfz39_3:=BF BK126 3))
         refine bodyPost_ret (results_ct rfl _ _ gb126 57 #[.slice Ao37 y134.length co37,.int .i64 0,.int .i64 0,.int .i64 0] (0,0) _ rfl (by refine blk_put (cs:=#[.slice Ao37 y134.length co37,.int .i64 0,.int .i64 0,.int .i64 0]) ?_ 3 _ rfl;refine blk_put (cs:=#[.slice Ao37 y134.length co37,.int .i64 0,.int .i64 0,.int .i64 0]) ?_ 2 _ rfl;refine blk_put (cs:=#[.slice Ao37 y134.length co37,.int .i64 0,.int .i64 0,.int .i64 0]) ?_ 1 _ rfl;refine blk_put (cs:=#[.slice none 0 0,.int .i64 0,.int .i64 0,.int .i64 0]) ?_ 0 _ rfl;exact BL BK126) Tryd.underlying57 rfl (by kernel_rfl)) rfl ?_;exact ⟨_,by first | rfl | (simp [errW_none,errW_some] <;> rfl) | (simp [*,errW_none,errW_some] <;> rfl),by exact Kd.R_mono (Kd.R_far (p:=⟨gb126,3,none⟩) (Kd.R_far (p:=⟨gb126,2,none⟩) (Kd.R_far (p:=⟨gb126,1,none⟩) (Kd.R_far (p:=⟨gb126,0,none⟩) (Kd.R_types HO136.out BK126.out (by decide)) (fun _ hk => hk.2) (.slice Ao37 y134.length co37)) (fun _ hk => hk.2) (.int .i64 0)) (fun _ hk => hk.2) (.int .i64 0)) (fun _ hk => hk.2) (.int .i64 0)) (fun _ hk => trivial),BB HB⟩
        ·rw [if_neg c34] at H;have c34b0:(a1 == 6) = false:=beq_eq_false_iff_ne.mpr c34;have c34b1:(a1 != 6) = true:=bne_iff_ne.mpr c34;simp only [Option.some.injEq,Prod.mk.injEq] at H;obtain ⟨rfl,rfl,rfl,rfl,rfl⟩:=H;have hnb40:=NB127_126.out;have hnc40:=NB126_127.out;have hcz41_0:=BC BK127 0 (.slice none 0 0) rfl;have hcz41_1:=BC BK127 1 (.int .i64 0) rfl;have hcz41_2:=BC BK127 2 (.int .i64 0) rfl;have hcz41_3:=BC BK127 3 (.int .i64 0) rfl;have hfz41_0:=BF BK127 0;have hfz41_1:=BF BK127 1;have hfz41_2:=BF BK127 2;have hfz41_3:=BF BK127 3;have hcz42_0:=BC BK126 0 (.slice none 0 0) rfl;have hcz42_1:=BC BK126 1 (.int .i64 0) rfl;have hcz42_2:=BC BK126 2 (.int .i64 0) rfl;have hcz42_3:=BC BK126 3 (.int .i64 0) rfl;have hfz42_0:=BF BK126 0;have hfz42_1:=BF BK126 1;have hfz42_2:=BF BK126 2;have hfz42_3:=BF BK126 3;go_wp2
         refine bodyPost_ret (results_ct rfl _ _ gb126 57 #[.slice none 0 0,.int .i64 0,.int .i64 0,.int .i64 0] (0,0) _ rfl (by refine blk_put (cs:=#[.slice none 0 0,.int .i64 0,.int .i64 0,.int .i64 0]) ?_ 3 _ rfl;refine blk_put (cs:=#[.slice none 0 0,.int .i64 0,.int .i64 0,.int .i64 0]) ?_ 2 _ rfl;refine blk_put (cs:=#[.slice none 0 0,.int .i64 0,.int .i64 0,.int .i64 0]) ?_ 1 _ rfl;refine blk_put (cs:=#[.slice none 0 0,.int .i64 0,.int .i64 0,.int .i64 0]) ?_ 0 _ rfl;exact BL BK126) Tryd.underlying57 rfl (by kernel_rfl)) rfl ?_;exact ⟨_,by first | rfl | (simp [errW_none,errW_some] <;> rfl) | (simp [*,errW_none,errW_some] <;> rfl),by first | exact Kd.R_nil _ _ _ _ _ | exact Kd.N_nil _ _ _ _ _ | exact Kd.V_nil _ _ _ _ _ | exact Kd.Q_nil _ _ _ _ _ | exact Kd.S_nil _ _ _ _ _,BB HB⟩
 ·rw [if_neg c3] at H;have c3b0:(a0 == 1) = false:=beq_eq_false_iff_ne.mpr c3;have c3b1:(a0 != 1) = true:=bne_iff_ne.mpr c3;by_cases c43:a1 = 1
  ·rw [if_pos c43] at H;have c43b0:(a1 == 1) = true:=beq_iff_eq.mpr c43;have c43b1:(a1 != 1) = false:=bne_eq_false_iff_eq.mpr c43;clear c43;simp only [Option.some.injEq,Prod.mk.injEq] at H;obtain ⟨rfl,rfl,rfl,rfl,rfl⟩:=H;go_enter Tryd.func46,Tryd.ntmps46;go_wp2_with (first | ((with_reducible refine gate_dst (N:=4) rfl ?_);refine boxE 4 #[.slice none 0 0,.int .i64 0,.int .i64 0,.int .i64 0] 57 ?_;intro gb126 hg w44 hbox hb;have BK126:=AM (hbox);have GW126:=GW HB hg;have GE126:=GW HB hg;replace HB:=BS HB hb;clear hb hbox hg) | ((with_reducible refine gate_dst (N:=6) rfl ?_);refine boxE 6 #[.slice none 0 0,.int .i64 0,.int .i64 0,.int .i64 0] 57 ?_;intro gb127 hg w45 hbox hb;have BK127:=AM (hbox);have GW127:=GW HB hg;have GE127:=GW HB hg;replace HB:=BS HB hb;have NB126_127:=NL BK126 hg;have NB127_126:=NG BK126 hg;replace BK126:=BE BK126 hb;clear hb hbox hg;have hnb46:=NB127_126.out;have hnc46:=NB126_127.out;have hcz47_0:=BC BK127 0 (.slice none 0 0) rfl;have hcz47_1:=BC BK127 1 (.int .i64 0) rfl;have hcz47_2:=BC BK127 2 (.int .i64 0) rfl;have hcz47_3:=BC BK127 3 (.int .i64 0) rfl;have hfz47_0:=BF BK127 0;have hfz47_1:=BF BK127 1;have hfz47_2:=BF BK127 2;have hfz47_3:=BF BK127 3;have hcz48_0:=BC BK126 0 (.slice none 0 0) rfl;have hcz48_1:=BC BK126 1 (.int .i64 0) rfl;have hcz48_2:=BC BK126 2 (.int .i64 0) rfl;have hcz48_3:=BC BK126 3 (.int .i64 0) rfl;have hfz48_0:=BF BK126 0;have hfz48_1:=BF BK126 1;have hfz48_2:=BF BK126 2;have hfz48_3:=BF BK126 3))
   refine bodyPost_ret (results_ct rfl _ _ gb126 57 #[.slice none 0 0,.int .i64 1,.int .i64 0,.int .i64 (-1)] (0,0) _ rfl (by refine blk_put (cs:=#[.slice none 0 0,.int .i64 1,.int .i64 0,.int .i64 0]) ?_ 3 _ rfl;refine blk_put (cs:=#[.slice none 0 0,.int .i64 1,.int .i64 0,.int .i64 0]) ?_ 2 _ rfl;refine blk_put (cs:=#[.slice none 0 0,.int .i64 0,.int .i64 0,.int .i64 0]) ?_ 1 _ rfl;refine blk_put (cs:=#[.slice none 0 0,.int .i64 0,.int .i64 0,.int .i64 0]) ?_ 0 _ rfl;(repeat refine blk_far ?_ NB126_127.out _);exact BL BK126) Tryd.underlying57 rfl (by kernel_rfl)) rfl ?_;exact ⟨_,by first | rfl | (simp [errW_none,errW_some] <;> rfl) | (simp [*,errW_none,errW_some] <;> rfl),by first | exact Kd.R_nil _ _ _ _ _ | exact Kd.N_nil _ _ _ _ _ | exact Kd.V_nil _ _ _ _ _ | exact Kd.Q_nil _ _ _ _ _ | exact Kd.S_nil _ _ _ _ _,BB HB⟩
  ·rw [if_neg c43] at H;have c43b0:(a1 == 1) = false:=beq_eq_false_iff_ne.mpr c43;have c43b1:(a1 != 1) = true:=bne_iff_ne.mpr c43;have HC49:=AM H;clear H;go_enter Tryd.func46,Tryd.ntmps46;go_upto_if 35 with (first | ((with_reducible refine gate_dst (N:=4) rfl ?_);refine boxE 4 #[.slice none 0 0,.int .i64 0,.int .i64 0,.int .i64 0] 57 ?_;intro gb126 hg w50 hbox hb;have BK126:=AM (hbox);have GW126:=GW HB hg;have GE126:=GW HB hg;replace HB:=BS HB hb;clear hb hbox hg) | ((with_reducible refine gate_dst (N:=6) rfl ?_);refine boxE 6 #[.slice none 0 0,.int .i64 0,.int .i64 0,.int .i64 0] 57 ?_;intro gb127 hg w51 hbox hb;have BK127:=AM (hbox);have GW127:=GW HB hg;have GE127:=GW HB hg;replace HB:=BS HB hb;have NB126_127:=NL BK126 hg;have NB127_126:=NG BK126 hg;replace BK126:=BE BK126 hb;clear hb hbox hg;have hnb52:=NB127_126.out;have hnc52:=NB126_127.out;have hcz53_0:=BC BK127 0 (.slice none 0 0) rfl;have hcz53_1:=BC BK127 1 (.int .i64 0) rfl;have hcz53_2:=BC BK127 2 (.int .i64 0) rfl;have hcz53_3:=BC BK127 3 (.int .i64 0) rfl;have hfz53_0:=BF BK127 0;have hfz53_1:=BF BK127 1;have hfz53_2:=BF BK127 2;have hfz53_3:=BF BK127 3))
   (try simp only [Act.put,List.setIfInBounds_toArray,List.set_cons_zero,List.set_cons_succ])
   go_cut [35] (fun v35 wc => ∃ (kq:Nat) (x35_48:Bool),v35 = .bool x35_48∧Aside0 (r07_Spec.j1 kq a1 x35_48 0 0 0 = some (r1,r2,r3,r4,r5))∧Aside0 (kq≤k)∧Aside0 (wc.heap[gb126]? = some (.cells #[(.slice none 0 0),.int .i64 0,.int .i64 0,.int .i64 0] 57 (0,0)))∧Aside0 (wc.heap[gb127]? = some (.cells #[(.slice none 0 0),.int .i64 0,.int .i64 0,.int .i64 0] 57 (0,0)))∧Aside0 (Below w.heap.size w wc))
   case first =>
    have H:=HC49.out;clear HC49;by_cases c54:a1 = 2
    ·rw [if_pos c54] at H;have c54b0:(a1 == 2) = true:=beq_iff_eq.mpr c54;have c54b1:(a1 != 2) = false:=bne_eq_false_iff_eq.mpr c54;clear c54;(first | rw [c54b0] | (simp only [i64_w,i32_w];rw [c54b0]) | skip)
     have H':=AM H;clear H;go_wp2
     go_meet
     case rel => exact ⟨_,((a1 == 2)),QD,H',⟨by first | omega | exact Nat.le_refl _⟩,⟨by (repeat refine blk_far ?_ NB126_127.out _);exact BL BK126⟩,⟨by refine blk_put (cs:=#[.slice none 0 0,.int .i64 0,.int .i64 0,.int .i64 0]) ?_ 3 _ rfl;refine blk_put (cs:=#[.slice none 0 0,.int .i64 0,.int .i64 0,.int .i64 0]) ?_ 2 _ rfl;refine blk_put (cs:=#[.slice none 0 0,.int .i64 0,.int .i64 0,.int .i64 0]) ?_ 1 _ rfl;refine blk_put (cs:=#[.slice none 0 0,.int .i64 0,.int .i64 0,.int .i64 0]) ?_ 0 _ rfl;exact BL BK127⟩,⟨BB HB⟩⟩
    ·rw [if_neg c54] at H;have c54b0:(a1 == 2) = false:=beq_eq_false_iff_ne.mpr c54;have c54b1:(a1 != 2) = true:=bne_iff_ne.mpr c54;(first | rw [c54b0] | (simp only [i64_w,i32_w];rw [c54b0]) | skip)
     have H':=AM H;clear H;go_wp2
     go_meet
     case rel => exact ⟨_,((a1 == 8)),QD,H',⟨by first | omega | exact Nat.le_refl _⟩,⟨by (repeat refine blk_far ?_ NB126_127.out _);exact BL BK126⟩,⟨by refine blk_put (cs:=#[.slice none 0 0,.int .i64 0,.int .i64 0,.int .i64 0]) ?_ 3 _ rfl;refine blk_put (cs:=#[.slice none 0 0,.int .i64 0,.int .i64 0,.int .i64 0]) ?_ 2 _ rfl;refine blk_put (cs:=#[.slice none 0 0,.int .i64 0,.int .i64 0,.int .i64 0]) ?_ 1 _ rfl;refine blk_put (cs:=#[.slice none 0 0,.int .i64 0,.int .i64 0,.int .i64 0]) ?_ 0 _ rfl;exact BL BK127⟩,⟨BB HB⟩⟩
   case rest =>
    clear HC49;try clear c1
    try clear c2
    try clear p2
    try clear c3
    try clear c3b0
    try clear c3b1
    try clear c4
    try clear c4b0
    try clear c4b1
    try clear c5
    try clear c7
    try clear c10
    try clear c10b0
    try clear c10b1
    try clear c13
    try clear c22
    try clear c24
    try clear c24b0
    try clear c24b1
    try clear c25
    try clear c29
    try clear c31
    try clear c31b0
    try clear c31b1
    try clear c32
    try clear c34
    try clear c34b0
    try clear c34b1
    try clear c38
    try clear c40
    try clear c43
    try clear c43b0
    try clear c43b1
    try clear c46
    try clear c52
    try clear c54
    try clear c54b0
    try clear c54b1
    try clear hcz14_0
    try clear hcz14_1
    try clear hcz14_2
    try clear hcz14_3
    try clear hcz18_0
    try clear hcz18_1
    try clear hcz18_2
    try clear hcz18_3
    try clear hcz23_0
    try clear hcz23_1
    try clear hcz23_2
    try clear hcz23_3
    try clear hcz30_0
    try clear hcz30_1
    try clear hcz30_2
    try clear hcz30_3
    try clear hcz33_0
    try clear hcz33_1
    try clear hcz33_2
    try clear hcz33_3
    try clear hcz39_0
    try clear hcz39_1
    try clear hcz39_2
    try clear hcz39_3
    try clear hcz41_0
    try clear hcz41_1
    try clear hcz41_2
    try clear hcz41_3
    try clear hcz42_0
    try clear hcz42_1
    try clear hcz42_2
    try clear hcz42_3
    try clear hcz47_0
    try clear hcz47_1
    try clear hcz47_2
    try clear hcz47_3
    try clear hcz48_0
    try clear hcz48_1
    try clear hcz48_2
    try clear hcz48_3
    try clear hcz53_0
    try clear hcz53_1
    try clear hcz53_2
    try clear hcz53_3
    try clear hcz8_0
    try clear hcz8_1
    try clear hcz8_2
    try clear hcz8_3
    try clear hcz9_0
    try clear hcz9_1
    try clear hcz9_2
    try clear hcz9_3
    try clear hfz14_0
    try clear hfz14_1
    try clear hfz14_2
    try clear hfz14_3
    try clear hfz18_0
    try clear hfz18_1
    try clear hfz18_2
    try clear hfz18_3
    try clear hfz23_0
    try clear hfz23_1
    try clear hfz23_2
    try clear hfz23_3
    try clear hfz30_0
    try clear hfz30_1
    try clear hfz30_2
    try clear hfz30_3
    try clear hfz33_0
    try clear hfz33_1
    try clear hfz33_2
    try clear hfz33_3
    try clear hfz39_0
    try clear hfz39_1
    try clear hfz39_2
    try clear hfz39_3
    try clear hfz41_0
    try clear hfz41_1
    try clear hfz41_2
    try clear hfz41_3
    try clear hfz42_0
    try clear hfz42_1
    try clear hfz42_2
    try clear hfz42_3
    try clear hfz47_0
    try clear hfz47_1
    try clear hfz47_2
    try clear hfz47_3
    try clear hfz48_0
    try clear hfz48_1
    try clear hfz48_2
    try clear hfz48_3
    try clear hfz53_0
    try clear hfz53_1
    try clear hfz53_2
    try clear hfz53_3
    try clear hfz8_0
    try clear hfz8_1
    try clear hfz8_2
    try clear hfz8_3
    try clear hfz9_0
    try clear hfz9_1
    try clear hfz9_2
    try clear hfz9_3
    try clear p2
    obtain ⟨kq,x35_48,rfl,HA,HJ48,BK126,BK127,HB⟩:=hcut;cases kq with
    | zero => exact absurd HA.out (by simp [r07_Spec.j1])
    | succ kj48 =>
     have H:=HA.out;clear HA;simp only [r07_Spec.j1] at H;by_cases c55:x35_48 = true
     ·subst c55;have H1:(some ((([2,2,2]:List Int)),0,1,1,true)) = some (r1,r2,r3,r4,r5):=by rw [if_pos rfl] at H;exact H
      clear H;have H:=H1;clear H1;obtain ⟨y137,hy137⟩:∃ y_:List Int,y_ = (([2,2,2]:List Int)):=⟨_,rfl⟩;replace H:(some (y137,0,1,1,true)) = some (r1,r2,r3,r4,r5):=QH hy137 H
      have Ny137:=AM hy137;clear hy137;simp only [Option.some.injEq,Prod.mk.injEq] at H;obtain ⟨rfl,rfl,rfl,rfl,rfl⟩:=H;go_wp2_with (first | ((with_reducible refine gate_dst (N:=38) rfl ?_);refine Kd.R_lit (Kd.int .i64) _ 3 ?hg (N:=38) ?hd (xs:=([2,2,2]:List Int)) (inner:=[.int .i64 2,.int .i64 2,.int .i64 2]) (ok:=fun _ => True) (okp:=fun _ => True) ?hr ?hp (fun _ hk => hk) trivial (Below.refl _ _) (Nat.le_refl _) (by simp) ?_;(case hd => rfl);(case hg => rfl);(case hr => first | (go_simp;done) | (go_simp;rfl));(case hp => exact (Reps.one (show Kd.M (Kd.int .i64) _ _ _ 2 [.int .i64 2] from rfl) (Reps.one (show Kd.M (Kd.int .i64) _ _ _ 2 [.int .i64 2] from rfl) (Reps.one (show Kd.M (Kd.int .i64) _ _ _ 2 [.int .i64 2] from rfl) (Reps.none _ _)))));intro v138 w56 ho57 hb hg_ hnew_;clear hg_ hnew_;(first | rw [← Ny137.out] at ho57 | (simp only [Int.reduceToNat] at ho57;rw [← Ny137.out] at ho57));have HO139:=AM (Kd.R_lower ho57 (below_size (BB HB)));replace BK126:=BE BK126 hb;replace BK127:=BE BK127 hb;replace HB:=BS HB hb;clear hb ho57;obtain ⟨Ao58,co58,eo58⟩:=Kd.R_slice HO139.out;subst eo58;have hnb59:=NB126_127.out;have hnc59:=NB127_126.out;have hcz60_0:=BC BK126 0 (.slice none 0 0) rfl;have hcz60_1:=BC BK126 1 (.int .i64 0) rfl;have hcz60_2:=BC BK126 2 (.int .i64 0) rfl;have hcz60_3:=BC BK126 3 (.int .i64 0) rfl;have hfz60_0:=BF BK126 0;have hfz60_1:=BF BK126 1;have hfz60_2:=BF BK126 2;have hfz60_3:=BF BK126 3))
      refine bodyPost_ret (results_ct rfl _ _ gb126 57 #[.slice Ao58 y137.length co58,.int .i64 0,.int .i64 1,.int .i64 1] (0,0) _ rfl (by refine blk_put (cs:=#[.slice Ao58 y137.length co58,.int .i64 0,.int .i64 1,.int .i64 0]) ?_ 3 _ rfl;refine blk_put (cs:=#[.slice Ao58 y137.length co58,.int .i64 0,.int .i64 0,.int .i64 0]) ?_ 2 _ rfl;refine blk_put (cs:=#[.slice Ao58 y137.length co58,.int .i64 0,.int .i64 0,.int .i64 0]) ?_ 1 _ rfl;refine blk_put (cs:=#[.slice none 0 0,.int .i64 0,.int .i64 0,.int .i64 0]) ?_ 0 _ rfl;exact BL BK126) Tryd.underlying57 rfl (by kernel_rfl)) rfl ?_;exact ⟨_,by first | rfl | (simp [errW_none,errW_some] <;> rfl) | (simp [*,errW_none,errW_some] <;> rfl),by exact Kd.R_mono (Kd.R_far (p:=⟨gb126,3,none⟩) (Kd.R_far (p:=⟨gb126,2,none⟩) (Kd.R_far (p:=⟨gb126,1,none⟩) (Kd.R_far (p:=⟨gb126,0,none⟩) (Kd.R_types HO139.out BK126.out (by decide)) (fun _ hk => hk.2) (.slice Ao58 y137.length co58)) (fun _ hk => hk.2) (.int .i64 0)) (fun _ hk => hk.2) (.int .i64 1)) (fun _ hk => hk.2) (.int .i64 1)) (fun _ hk => trivial),BB HB⟩
     ·replace c55:=Bool.eq_false_iff.mpr c55;subst c55;have H1:(if a1 = 3 then (some ((([3,3,3]:List Int)),1,0,0,true)) else (if a1 = 4 then (some ((([3]:List Int)),1,0,0,true)) else (if a1 = 5 then (some ((([3]:List Int)),2,0,0,true)) else (if a1 = 6 then (some ((([1]:List Int)),0,0,(-1),true)) else (if a1 = 7 then (some ((([4,4,4,5]:List Int)),0,0,0,true)) else (some (([]:List Int),0,0,0,false))))))) = some (r1,r2,r3,r4,r5):=by rw [if_neg (show ¬ (false = true) by decide)] at H;exact H
      clear H;have H:=H1;clear H1;by_cases c61:a1 = 3
      ·rw [if_pos c61] at H;have c61b0:(a1 == 3) = true:=beq_iff_eq.mpr c61;have c61b1:(a1 != 3) = false:=bne_eq_false_iff_eq.mpr c61;clear c61;obtain ⟨y140,hy140⟩:∃ y_:List Int,y_ = (([3,3,3]:List Int)):=⟨_,rfl⟩;replace H:(some (y140,1,0,0,true)) = some (r1,r2,r3,r4,r5):=QH hy140 H
       have Ny140:=AM hy140;clear hy140;simp only [Option.some.injEq,Prod.mk.injEq] at H;obtain ⟨rfl,rfl,rfl,rfl,rfl⟩:=H;go_wp2_with (first | ((with_reducible refine gate_dst (N:=42) rfl ?_);refine Kd.R_lit (Kd.int .i64) _ 3 ?hg (N:=42) ?hd (xs:=([3,3,3]:List Int)) (inner:=[.int .i64 3,.int .i64 3,.int .i64 3]) (ok:=fun _ => True) (okp:=fun _ => True) ?hr ?hp (fun _ hk => hk) trivial (Below.refl _ _) (Nat.le_refl _) (by simp) ?_;(case hd => rfl);(case hg => rfl);(case hr => first | (go_simp;done) | (go_simp;rfl));(case hp => exact (Reps.one (show Kd.M (Kd.int .i64) _ _ _ 3 [.int .i64 3] from rfl) (Reps.one (show Kd.M (Kd.int .i64) _ _ _ 3 [.int .i64 3] from rfl) (Reps.one (show Kd.M (Kd.int .i64) _ _ _ 3 [.int .i64 3] from rfl) (Reps.none _ _)))));intro v141 w62 ho63 hb hg_ hnew_;clear hg_ hnew_;(first | rw [← Ny140.out] at ho63 | (simp only [Int.reduceToNat] at ho63;rw [← Ny140.out] at ho63));have HO142:=AM (Kd.R_lower ho63 (below_size (BB HB)));replace BK126:=BE BK126 hb;replace BK127:=BE BK127 hb;replace HB:=BS HB hb;clear hb ho63;obtain ⟨Ao64,co64,eo64⟩:=Kd.R_slice HO142.out;subst eo64;have hnb65:=NB126_127.out;have hnc65:=NB127_126.out;have hcz66_0:=BC BK126 0 (.slice none 0 0) rfl;have hcz66_1:=BC BK126 1 (.int .i64 0) rfl;have hcz66_2:=BC BK126 2 (.int .i64 0) rfl;have hcz66_3:=BC BK126 3 (.int .i64 0) rfl;have hfz66_0:=BF BK126 0;have hfz66_1:=BF BK126 1;have hfz66_2:=BF BK126 2;have hfz66_3:=BF BK126 3))
       refine bodyPost_ret (results_ct rfl _ _ gb126 57 #[.slice Ao64 y140.length co64,.int .i64 1,.int .i64 0,.int .i64 0] (0,0) _ rfl (by refine blk_put (cs:=#[.slice Ao64 y140.length co64,.int .i64 1,.int .i64 0,.int .i64 0]) ?_ 3 _ rfl;refine blk_put (cs:=#[.slice Ao64 y140.length co64,.int .i64 1,.int .i64 0,.int .i64 0]) ?_ 2 _ rfl;refine blk_put (cs:=#[.slice Ao64 y140.length co64,.int .i64 0,.int .i64 0,.int .i64 0]) ?_ 1 _ rfl;refine blk_put (cs:=#[.slice none 0 0,.int .i64 0,.int .i64 0,.int .i64 0]) ?_ 0 _ rfl;exact BL BK126) Tryd.underlying57 rfl (by kernel_rfl)) rfl ?_;exact ⟨_,by first | rfl | (simp [errW_none,errW_some] <;> rfl) | (simp [*,errW_none,errW_some] <;> rfl),by exact Kd.R_mono (Kd.R_far (p:=⟨gb126,3,none⟩) (Kd.R_far (p:=⟨gb126,2,none⟩) (Kd.R_far (p:=⟨gb126,1,none⟩) (Kd.R_far (p:=⟨gb126,0,none⟩) (Kd.R_types HO142.out BK126.out (by decide)) (fun _ hk => hk.2) (.slice Ao64 y140.length co64)) (fun _ hk => hk.2) (.int .i64 1)) (fun _ hk => hk.2) (.int .i64 0)) (fun _ hk => hk.2) (.int .i64 0)) (fun _ hk => trivial),BB HB⟩
      ·rw [if_neg c61] at H;have c61b0:(a1 == 3) = false:=beq_eq_false_iff_ne.mpr c61;have c61b1:(a1 != 3) = true:=bne_iff_ne.mpr c61;by_cases c67:a1 = 4
       ·rw [if_pos c67] at H;have c67b0:(a1 == 4) = true:=beq_iff_eq.mpr c67;have c67b1:(a1 != 4) = false:=bne_eq_false_iff_eq.mpr c67;clear c67;obtain ⟨y143,hy143⟩:∃ y_:List Int,y_ = (([3]:List Int)):=⟨_,rfl⟩;replace H:(some (y143,1,0,0,true)) = some (r1,r2,r3,r4,r5):=QH hy143 H
        have Ny143:=AM hy143;clear hy143;simp only [Option.some.injEq,Prod.mk.injEq] at H;obtain ⟨rfl,rfl,rfl,rfl,rfl⟩:=H;go_wp2_with (first | ((with_reducible refine gate_dst (N:=46) rfl ?_);refine Kd.R_lit (Kd.int .i64) _ 3 ?hg (N:=46) ?hd (xs:=([3]:List Int)) (inner:=[.int .i64 3]) (ok:=fun _ => True) (okp:=fun _ => True) ?hr ?hp (fun _ hk => hk) trivial (Below.refl _ _) (Nat.le_refl _) (by simp) ?_;(case hd => rfl);(case hg => rfl);(case hr => first | (go_simp;done) | (go_simp;rfl));(case hp => exact (Reps.one (show Kd.M (Kd.int .i64) _ _ _ 3 [.int .i64 3] from rfl) (Reps.none _ _)));intro v144 w68 ho69 hb hg_ hnew_;clear hg_ hnew_;(first | rw [← Ny143.out] at ho69 | (simp only [Int.reduceToNat] at ho69;rw [← Ny143.out] at ho69));have HO145:=AM (Kd.R_lower ho69 (below_size (BB HB)));replace BK126:=BE BK126 hb;replace BK127:=BE BK127 hb;replace HB:=BS HB hb;clear hb ho69;obtain ⟨Ao70,co70,eo70⟩:=Kd.R_slice HO145.out;subst eo70;have hnb71:=NB126_127.out;have hnc71:=NB127_126.out;have hcz72_0:=BC BK126 0 (.slice none 0 0) rfl;have hcz72_1:=BC BK126 1 (.int .i64 0) rfl;have hcz72_2:=BC BK126 2 (.int .i64 0) rfl;have hcz72_3:=BC BK126 3 (.int .i64 0) rfl;have hfz72_0:=BF BK126 0;have hfz72_1:=BF BK126 1;have hfz72_2:=BF BK126 2;have hfz72_3:=BF BK126 3))
        refine bodyPost_ret (results_ct rfl _ _ gb126 57 #[.slice Ao70 y143.length co70,.int .i64 1,.int .i64 0,.int .i64 0] (0,0) _ rfl (by refine blk_put (cs:=#[.slice Ao70 y143.length co70,.int .i64 1,.int .i64 0,.int .i64 0]) ?_ 3 _ rfl;refine blk_put (cs:=#[.slice Ao70 y143.length co70,.int .i64 1,.int .i64 0,.int .i64 0]) ?_ 2 _ rfl;refine blk_put (cs:=#[.slice Ao70 y143.length co70,.int .i64 0,.int .i64 0,.int .i64 0]) ?_ 1 _ rfl;refine blk_put (cs:=#[.slice none 0 0,.int .i64 0,.int .i64 0,.int .i64 0]) ?_ 0 _ rfl;exact BL BK126) Tryd.underlying57 rfl (by kernel_rfl)) rfl ?_;exact ⟨_,by first | rfl | (simp [errW_none,errW_some] <;> rfl) | (simp [*,errW_none,errW_some] <;> rfl),by exact Kd.R_mono (Kd.R_far (p:=⟨gb126,3,none⟩) (Kd.R_far (p:=⟨gb126,2,none⟩) (Kd.R_far (p:=⟨gb126,1,none⟩) (Kd.R_far (p:=⟨gb126,0,none⟩) (Kd.R_types HO145.out BK126.out (by decide)) (fun _ hk => hk.2) (.slice Ao70 y143.length co70)) (fun _ hk => hk.2) (.int .i64 1)) (fun _ hk => hk.2) (.int .i64 0)) (fun _ hk => hk.2) (.int .i64 0)) (fun _ hk => trivial),BB HB⟩
       ·rw [if_neg c67] at H;have c67b0:(a1 == 4) = false:=beq_eq_false_iff_ne.mpr c67;have c67b1:(a1 != 4) = true:=bne_iff_ne.mpr c67;by_cases c73:a1 = 5
        ·rw [if_pos c73] at H;have c73b0:(a1 == 5) = true:=beq_iff_eq.mpr c73;have c73b1:(a1 != 5) = false:=bne_eq_false_iff_eq.mpr c73;clear c73;obtain ⟨y146,hy146⟩:∃ y_:List Int,y_ = (([3]:List Int)):=⟨_,rfl⟩;replace H:(some (y146,2,0,0,true)) = some (r1,r2,r3,r4,r5):=QH hy146 H
         have Ny146:=AM hy146;clear hy146;simp only [Option.some.injEq,Prod.mk.injEq] at H;obtain ⟨rfl,rfl,rfl,rfl,rfl⟩:=H;go_wp2_with (first | ((with_reducible refine gate_dst (N:=50) rfl ?_);refine Kd.R_lit (Kd.int .i64) _ 3 ?hg (N:=50) ?hd (xs:=([3]:List Int)) (inner:=[.int .i64 3]) (ok:=fun _ => True) (okp:=fun _ => True) ?hr ?hp (fun _ hk => hk) trivial (Below.refl _ _) (Nat.le_refl _) (by simp) ?_;(case hd => rfl);(case hg => rfl);(case hr => first | (go_simp;done) | (go_simp;rfl));(case hp => exact (Reps.one (show Kd.M (Kd.int .i64) _ _ _ 3 [.int .i64 3] from rfl) (Reps.none _ _)));intro v147 w74 ho75 hb hg_ hnew_;clear hg_ hnew_;(first | rw [← Ny146.out] at ho75 | (simp only [Int.reduceToNat] at ho75;rw [← Ny146.out] at ho75));have HO148:=AM (Kd.R_lower ho75 (below_size (BB HB)));replace BK126:=BE BK126 hb;replace BK127:=BE BK127 hb;replace HB:=BS HB hb;clear hb ho75;obtain ⟨Ao76,co76,eo76⟩:=Kd.R_slice HO148.out;subst eo76;have hnb77:=NB126_127.out;have hnc77:=NB127_126.out;have hcz78_0:=BC BK126 0 (.slice none 0 0) rfl;have hcz78_1:=BC BK126 1 (.int .i64 0) rfl;have hcz78_2:=BC BK126 2 (.int .i64 0) rfl;have hcz78_3:=BC BK126 3 (.int .i64 0) rfl;have hfz78_0:=BF BK126 0;have hfz78_1:=BF BK126 1;have hfz78_2:=BF BK126 2;have hfz78_3:=BF BK126 3))
         refine bodyPost_ret (results_ct rfl _ _ gb126 57 #[.slice Ao76 y146.length co76,.int .i64 2,.int .i64 0,.int .i64 0] (0,0) _ rfl (by refine blk_put (cs:=#[.slice Ao76 y146.length co76,.int .i64 2,.int .i64 0,.int .i64 0]) ?_ 3 _ rfl;refine blk_put (cs:=#[.slice Ao76 y146.length co76,.int .i64 2,.int .i64 0,.int .i64 0]) ?_ 2 _ rfl;refine blk_put (cs:=#[.slice Ao76 y146.length co76,.int .i64 0,.int .i64 0,.int .i64 0]) ?_ 1 _ rfl;refine blk_put (cs:=#[.slice none 0 0,.int .i64 0,.int .i64 0,.int .i64 0]) ?_ 0 _ rfl;exact BL BK126) Tryd.underlying57 rfl (by kernel_rfl)) rfl ?_;exact ⟨_,by first | rfl | (simp [errW_none,errW_some] <;> rfl) | (simp [*,errW_none,errW_some] <;> rfl),by exact Kd.R_mono (Kd.R_far (p:=⟨gb126,3,none⟩) (Kd.R_far (p:=⟨gb126,2,none⟩) (Kd.R_far (p:=⟨gb126,1,none⟩) (Kd.R_far (p:=⟨gb126,0,none⟩) (Kd.R_types HO148.out BK126.out (by decide)) (fun _ hk => hk.2) (.slice Ao76 y146.length co76)) (fun _ hk => hk.2) (.int .i64 2)) (fun _ hk => hk.2) (.int .i64 0)) (fun _ hk => hk.2) (.int .i64 0)) (fun _ hk => trivial),BB HB⟩
        ·rw [if_neg c73] at H;have c73b0:(a1 == 5) = false:=beq_eq_false_iff_ne.mpr c73;have c73b1:(a1 != 5) = true:=bne_iff_ne.mpr c73;by_cases c79:a1 = 6
         ·rw [if_pos c79] at H;have c79b0:(a1 == 6) = true:=beq_iff_eq.mpr c79;have c79b1:(a1 != 6) = false:=bne_eq_false_iff_eq.mpr c79;clear c79;obtain ⟨y149,hy149⟩:∃ y_:List Int,y_ = (([1]:List Int)):=⟨_,rfl⟩;replace H:(some (y149,0,0,(-1),true)) = some (r1,r2,r3,r4,r5):=QH hy149 H
          have Ny149:=AM hy149;clear hy149;simp only [Option.some.injEq,Prod.mk.injEq] at H;obtain ⟨rfl,rfl,rfl,rfl,rfl⟩:=H;go_wp2_with (first | ((with_reducible refine gate_dst (N:=54) rfl ?_);refine Kd.R_lit (Kd.int .i64) _ 3 ?hg (N:=54) ?hd (xs:=([1]:List Int)) (inner:=[.int .i64 1]) (ok:=fun _ => True) (okp:=fun _ => True) ?hr ?hp (fun _ hk => hk) trivial (Below.refl _ _) (Nat.le_refl _) (by simp) ?_;(case hd => rfl);(case hg => rfl);(case hr => first | (go_simp;done) | (go_simp;rfl));(case hp => exact (Reps.one (show Kd.M (Kd.int .i64) _ _ _ 1 [.int .i64 1] from rfl) (Reps.none _ _)));intro v150 w80 ho81 hb hg_ hnew_;clear hg_ hnew_;(first | rw [← Ny149.out] at ho81 | (simp only [Int.reduceToNat] at ho81;rw [← Ny149.out] at ho81));have HO151:=AM (Kd.R_lower ho81 (below_size (BB HB)));replace BK126:=BE BK126 hb;replace BK127:=BE BK127 hb;replace HB:=BS HB hb;clear hb ho81;obtain ⟨Ao82,co82,eo82⟩:=Kd.R_slice HO151.out;subst eo82;have hnb83:=NB126_127.out;have hnc83:=NB127_126.out;have hcz84_0:=BC BK126 0 (.slice none 0 0) rfl;have hcz84_1:=BC BK126 1 (.int .i64 0) rfl;have hcz84_2:=BC BK126 2 (.int .i64 0) rfl;have hcz84_3:=BC BK126 3 (.int .i64 0) rfl;have hfz84_0:=BF BK126 0;have hfz84_1:=BF BK126 1;have hfz84_2:=BF BK126 2;have hfz84_3:=BF BK126 3))
          refine bodyPost_ret (results_ct rfl _ _ gb126 57 #[.slice Ao82 y149.length co82,.int .i64 0,.int .i64 0,.int .i64 (-1)] (0,0) _ rfl (by refine blk_put (cs:=#[.slice Ao82 y149.length co82,.int .i64 0,.int .i64 0,.int .i64 0]) ?_ 3 _ rfl;refine blk_put (cs:=#[.slice Ao82 y149.length co82,.int .i64 0,.int .i64 0,.int .i64 0]) ?_ 2 _ rfl;refine blk_put (cs:=#[.slice Ao82 y149.length co82,.int .i64 0,.int .i64 0,.int .i64 0]) ?_ 1 _ rfl;refine blk_put (cs:=#[.slice none 0 0,.int .i64 0,.int .i64 0,.int .i64 0]) ?_ 0 _ rfl;exact BL BK126) Tryd.underlying57 rfl (by kernel_rfl)) rfl ?_;exact ⟨_,by first | rfl | (simp [errW_none,errW_some] <;> rfl) | (simp [*,errW_none,errW_some] <;> rfl),by exact Kd.R_mono (Kd.R_far (p:=⟨gb126,3,none⟩) (Kd.R_far (p:=⟨gb126,2,none⟩) (Kd.R_far (p:=⟨gb126,1,none⟩) (Kd.R_far (p:=⟨gb126,0,none⟩) (Kd.R_types HO151.out BK126.out (by decide)) (fun _ hk => hk.2) (.slice Ao82 y149.length co82)) (fun _ hk => hk.2) (.int .i64 0)) (fun _ hk => hk.2) (.int .i64 0)) (fun _ hk => hk.2) (.int .i64 (-1))) (fun _ hk => trivial),BB HB⟩
         ·rw [if_neg c79] at H;have c79b0:(a1 == 6) = false:=beq_eq_false_iff_ne.mpr c79;have c79b1:(a1 != 6) = true:=bne_iff_ne.mpr c79;by_cases c85:a1 = 7
          ·rw [if_pos c85] at H;have c85b0:(a1 == 7) = true:=beq_iff_eq.mpr c85;have c85b1:(a1 != 7) = false:=bne_eq_false_iff_eq.mpr c85;clear c85;obtain ⟨y152,hy152⟩:∃ y_:List Int,y_ = (([4,4,4,5]:List Int)):=⟨_,rfl⟩;replace H:(some (y152,0,0,0,true)) = some (r1,r2,r3,r4,r5):=QH hy152 H
           have Ny152:=AM hy152;clear hy152;simp only [Option.some.injEq,Prod.mk.injEq] at H;obtain ⟨rfl,rfl,rfl,rfl,rfl⟩:=H;go_wp2_with (first | ((with_reducible refine gate_dst (N:=58) rfl ?_);refine Kd.R_lit (Kd.int .i64) _ 3 ?hg (N:=58) ?hd (xs:=([4,4,4,5]:List Int)) (inner:=[.int .i64 4,.int .i64 4,.int .i64 4,.int .i64 5]) (ok:=fun _ => True) (okp:=fun _ => True) ?hr ?hp (fun _ hk => hk) trivial (Below.refl _ _) (Nat.le_refl _) (by simp) ?_;(case hd => rfl);(case hg => rfl);(case hr => first | (go_simp;done) | (go_simp;rfl));(case hp => exact (Reps.one (show Kd.M (Kd.int .i64) _ _ _ 4 [.int .i64 4] from rfl) (Reps.one (show Kd.M (Kd.int .i64) _ _ _ 4 [.int .i64 4] from rfl) (Reps.one (show Kd.M (Kd.int .i64) _ _ _ 4 [.int .i64 4] from rfl) (Reps.one (show Kd.M (Kd.int .i64) _ _ _ 5 [.int .i64 5] from rfl) (Reps.none _ _))))));intro v153 w86 ho87 hb hg_ hnew_;clear hg_ hnew_;(first | rw [← Ny152.out] at ho87 | (simp only [Int.reduceToNat] at ho87;rw [← Ny152.out] at ho87));have HO154:=AM (Kd.R_lower ho87 (below_size (BB HB)));replace BK126:=BE BK126 hb;replace BK127:=BE BK127 hb;replace HB:=BS HB hb;clear hb ho87;obtain ⟨Ao88,co88,eo88⟩:=Kd.R_slice HO154.out;subst eo88;have hnb89:=NB126_127.out;have hnc89:=NB127_126.out;have hcz90_0:=BC BK126 0 (.slice none 0 0) rfl;have hcz90_1:=BC BK126 1 (.int .i64 0) rfl;have hcz90_2:=BC BK126 2 (.int .i64 0) rfl;have hcz90_3:=BC BK126 3 (.int .i64 0) rfl;have hfz90_0:=BF BK126 0;have hfz90_1:=BF BK126 1;have hfz90_2:=BF BK126 2;have hfz90_3:=BF BK126 3))
           refine bodyPost_ret (results_ct rfl _ _ gb126 57 #[.slice Ao88 y152.length co88,.int .i64 0,.int .i64 0,.int .i64 0] (0,0) _ rfl (by refine blk_put (cs:=#[.slice Ao88 y152.length co88,.int .i64 0,.int .i64 0,.int .i64 0]) ?_ 3 _ rfl;refine blk_put (cs:=#[.slice Ao88 y152.length co88,.int .i64 0,.int .i64 0,.int .i64 0]) ?_ 2 _ rfl;refine blk_put (cs:=#[.slice Ao88 y152.length co88,.int .i64 0,.int .i64 0,.int .i64 0]) ?_ 1 _ rfl;refine blk_put (cs:=#[.slice none 0 0,.int .i64 0,.int .i64 0,.int .i64 0]) ?_ 0 _ rfl;exact BL BK126) Tryd.underlying57 rfl (by kernel_rfl)) rfl ?_;exact ⟨_,by first | rfl | (simp [errW_none,errW_some] <;> rfl) | (simp [*,errW_none,errW_some] <;> rfl),by exact Kd.R_mono (Kd.R_far (p:=⟨gb126,3,none⟩) (Kd.R_far (p:=⟨gb126,2,none⟩) (Kd.R_far (p:=⟨gb126,1,none⟩) (Kd.R_far (p:=⟨gb126,0,none⟩) (Kd.R_types HO154.out BK126.out (by decide)) (fun _ hk => hk.2) (.slice Ao88 y152.length co88)) (fun _ hk => hk.2) (.int .i64 0)) (fun _ hk => hk.2) (.int .i64 0)) (fun _ hk => hk.2) (.int .i64 0)) (fun _ hk => trivial),BB HB⟩
          ·rw [if_neg c85] at H;have c85b0:(a1 == 7) = false:=beq_eq_false_iff_ne.mpr c85;have c85b1:(a1 != 7) = true:=bne_iff_ne.mpr c85;simp only [Option.some.injEq,Prod.mk.injEq] at H;obtain ⟨rfl,rfl,rfl,rfl,rfl⟩:=H;have hnb91:=NB127_126.out;have hnc91:=NB126_127.out;have hcz92_0:=BC BK127 0 (.slice none 0 0) rfl;have hcz92_1:=BC BK127 1 (.int .i64 0) rfl;have hcz92_2:=BC BK127 2 (.int .i64 0) rfl;have hcz92_3:=BC BK127 3 (.int .i64 0) rfl;have hfz92_0:=BF BK127 0;have hfz92_1:=BF BK127 1;have hfz92_2:=BF BK127 2;have hfz92_3:=BF BK127 3;have hcz93_0:=BC BK126 0 (.slice none 0 0) rfl;have hcz93_1:=BC BK126 1 (.int .i64 0) rfl;have hcz93_2:=BC BK126 2 (.int .i64 0) rfl;have hcz93_3:=BC BK126 3 (.int .i64 0) rfl;have hfz93_0:=BF BK126 0;have hfz93_1:=BF BK126 1;have hfz93_2:=BF BK126 2;have hfz93_3:=BF BK126 3;go_wp2
           refine bodyPost_ret (results_ct rfl _ _ gb126 57 #[.slice none 0 0,.int .i64 0,.int .i64 0,.int .i64 0] (0,0) _ rfl (by refine blk_put (cs:=#[.slice none 0 0,.int .i64 0,.int .i64 0,.int .i64 0]) ?_ 3 _ rfl;refine blk_put (cs:=#[.slice none 0 0,.int .i64 0,.int .i64 0,.int .i64 0]) ?_ 2 _ rfl;refine blk_put (cs:=#[.slice none 0 0,.int .i64 0,.int .i64 0,.int .i64 0]) ?_ 1 _ rfl;refine blk_put (cs:=#[.slice none 0 0,.int .i64 0,.int .i64 0,.int .i64 0]) ?_ 0 _ rfl;exact BL BK126) Tryd.underlying57 rfl (by kernel_rfl)) rfl ?_;exact ⟨_,by first | rfl | (simp [errW_none,errW_some] <;> rfl) | (simp [*,errW_none,errW_some] <;> rfl),by first | exact Kd.R_nil _ _ _ _ _ | exact Kd.N_nil _ _ _ _ _ | exact Kd.V_nil _ _ _ _ _ | exact Kd.Q_nil _ _ _ _ _ | exact Kd.S_nil _ _ _ _ _,BB HB⟩
def r07_In.f (a0:Int) (a1:Int):Option (Bool):=if a0 = 1 then (some true) else (if a0 = 2 then (if a1 ≥ 0 then (if a1≤140737488355328 then (some true) else (if a1 < 0 then (some (decide (a1 ≥ (-140737488355328)))) else (some false))) else (if a1 < 0 then (some (decide (a1 ≥ (-140737488355328)))) else (some false))) else (if a0 = 3 then (if a1 ≥ 0 then (some (decide (a1≤140737488355328))) else (some false)) else (if a0 = 4 then (if a1 ≥ 0 then (some (decide (a1 < 256))) else (some false)) else (if a0 = 5 then (if (wrap64 (a1 * a1)) = a1 then (if a1 ≥ 0 then (some (decide (a1≤1))) else (some false)) else (some false)) else (some false)))))
theorem r07_In.calls (a0:Int) (a1:Int) (r:Bool) (w:World) (h:r07_In.f a0 a1 = some r) :
  Calls Tryd.prog 76 #[.int .i64 a0,.int .i64 a1] w fun e w' => e = .returned (.bool r)∧Drawn0 w w':=by
 have H:(if a0 = 1 then (some true) else (if a0 = 2 then (if a1 ≥ 0 then (if a1≤140737488355328 then (some true) else (if a1 < 0 then (some (decide (a1 ≥ (-140737488355328)))) else (some false))) else (if a1 < 0 then (some (decide (a1 ≥ (-140737488355328)))) else (some false))) else (if a0 = 3 then (if a1 ≥ 0 then (some (decide (a1≤140737488355328))) else (some false)) else (if a0 = 4 then (if a1 ≥ 0 then (some (decide (a1 < 256))) else (some false)) else (if a0 = 5 then (if (wrap64 (a1 * a1)) = a1 then (if a1 ≥ 0 then (some (decide (a1≤1))) else (some false)) else (some false)) else (some false)))))) = some r:=h;clear h;by_cases c3:a0 = 1
 ·rw [if_pos c3] at H;have c3b0:(a0 == 1) = true:=beq_iff_eq.mpr c3;have c3b1:(a0 != 1) = false:=bne_eq_false_iff_eq.mpr c3;clear c3;obtain rfl:=Option.some.inj H;go_enter Tryd.func76,Tryd.ntmps76;go_wp2
  go_ret;exact ⟨QD,DZ⟩
 ·rw [if_neg c3] at H;have c3b0:(a0 == 1) = false:=beq_eq_false_iff_ne.mpr c3;have c3b1:(a0 != 1) = true:=bne_iff_ne.mpr c3;by_cases c4:a0 = 2
  ·rw [if_pos c4] at H;have c4b0:(a0 == 2) = true:=beq_iff_eq.mpr c4;have c4b1:(a0 != 2) = false:=bne_eq_false_iff_eq.mpr c4;clear c4;by_cases c5:a1 ≥ 0
   ·rw [if_pos c5] at H;have c5b0:decide (0≤a1) = true:=decide_eq_true c5;clear c5;by_cases c6:a1≤140737488355328
    ·rw [if_pos c6] at H;have c6b0:decide (a1≤140737488355328) = true:=decide_eq_true c6;clear c6;obtain rfl:=Option.some.inj H;go_enter Tryd.func76,Tryd.ntmps76;go_wp2
     go_ret;exact ⟨QD,DZ⟩
    ·rw [if_neg c6] at H;have c6b0:decide (a1≤140737488355328) = false:=decide_eq_false c6;clear c6;by_cases c7:a1 < 0
     ·rw [if_pos c7] at H;have c7b0:decide (a1 < 0) = true:=decide_eq_true c7;clear c7;obtain rfl:=Option.some.inj H;go_enter Tryd.func76,Tryd.ntmps76;go_wp2
      go_ret;exact ⟨QD,DZ⟩
     ·rw [if_neg c7] at H;have c7b0:decide (a1 < 0) = false:=decide_eq_false c7;clear c7;obtain rfl:=Option.some.inj H;go_enter Tryd.func76,Tryd.ntmps76;go_wp2
      go_ret;exact ⟨QD,DZ⟩
   ·rw [if_neg c5] at H;have c5b0:decide (0≤a1) = false:=decide_eq_false c5;clear c5;by_cases c8:a1 < 0
    ·rw [if_pos c8] at H;have c8b0:decide (a1 < 0) = true:=decide_eq_true c8;clear c8;obtain rfl:=Option.some.inj H;go_enter Tryd.func76,Tryd.ntmps76;go_wp2
     go_ret;exact ⟨QD,DZ⟩
    ·rw [if_neg c8] at H;have c8b0:decide (a1 < 0) = false:=decide_eq_false c8;clear c8;obtain rfl:=Option.some.inj H;go_enter Tryd.func76,Tryd.ntmps76;go_wp2
     go_ret;exact ⟨QD,DZ⟩
  ·rw [if_neg c4] at H;have c4b0:(a0 == 2) = false:=beq_eq_false_iff_ne.mpr c4;have c4b1:(a0 != 2) = true:=bne_iff_ne.mpr c4;by_cases c9:a0 = 3
   ·rw [if_pos c9] at H;have c9b0:(a0 == 3) = true:=beq_iff_eq.mpr c9;have c9b1:(a0 != 3) = false:=bne_eq_false_iff_eq.mpr c9;clear c9;by_cases c10:a1 ≥ 0
    ·rw [if_pos c10] at H;have c10b0:decide (0≤a1) = true:=decide_eq_true c10;clear c10;obtain rfl:=Option.some.inj H;go_enter Tryd.func76,Tryd.ntmps76;go_wp2
     go_ret;exact ⟨QD,DZ⟩
    ·rw [if_neg c10] at H;have c10b0:decide (0≤a1) = false:=decide_eq_false c10;clear c10;obtain rfl:=Option.some.inj H;go_enter Tryd.func76,Tryd.ntmps76;go_wp2
     go_ret;exact ⟨QD,DZ⟩
   ·rw [if_neg c9] at H;have c9b0:(a0 == 3) = false:=beq_eq_false_iff_ne.mpr c9;have c9b1:(a0 != 3) = true:=bne_iff_ne.mpr c9;by_cases c11:a0 = 4
    ·rw [if_pos c11] at H;have c11b0:(a0 == 4) = true:=beq_iff_eq.mpr c11;have c11b1:(a0 != 4) = false:=bne_eq_false_iff_eq.mpr c11;clear c11;by_cases c12:a1 ≥ 0
     ·rw [if_pos c12] at H;have c12b0:decide (0≤a1) = true:=decide_eq_true c12;clear c12;obtain rfl:=Option.some.inj H;go_enter Tryd.func76,Tryd.ntmps76;go_wp2
      go_ret;exact ⟨QD,DZ⟩
     ·rw [if_neg c12] at H;have c12b0:decide (0≤a1) = false:=decide_eq_false c12;clear c12;obtain rfl:=Option.some.inj H;go_enter Tryd.func76,Tryd.ntmps76;go_wp2
      go_ret;exact ⟨QD,DZ⟩
    ·rw [if_neg c11] at H;have c11b0:(a0 == 4) = false:=beq_eq_false_iff_ne.mpr c11;have c11b1:(a0 != 4) = true:=bne_iff_ne.mpr c11;by_cases c13:a0 = 5
     ·rw [if_pos c13] at H;have c13b0:(a0 == 5) = true:=beq_iff_eq.mpr c13;have c13b1:(a0 != 5) = false:=bne_eq_false_iff_eq.mpr c13;clear c13;by_cases c14:(wrap64 (a1 * a1)) = a1
      ·rw [if_pos c14] at H;have c14b0:((wrap64 (a1 * a1)) == a1) = true:=beq_iff_eq.mpr c14;have c14b1:((wrap64 (a1 * a1)) != a1) = false:=bne_eq_false_iff_eq.mpr c14;clear c14;by_cases c15:a1 ≥ 0
       ·rw [if_pos c15] at H;have c15b0:decide (0≤a1) = true:=decide_eq_true c15;clear c15;obtain rfl:=Option.some.inj H;go_enter Tryd.func76,Tryd.ntmps76;go_wp2
        go_ret;exact ⟨QD,DZ⟩
       ·rw [if_neg c15] at H;have c15b0:decide (0≤a1) = false:=decide_eq_false c15;clear c15;obtain rfl:=Option.some.inj H;go_enter Tryd.func76,Tryd.ntmps76;go_wp2
        go_ret;exact ⟨QD,DZ⟩
      ·rw [if_neg c14] at H;have c14b0:((wrap64 (a1 * a1)) == a1) = false:=beq_eq_false_iff_ne.mpr c14;have c14b1:((wrap64 (a1 * a1)) != a1) = true:=bne_iff_ne.mpr c14;obtain rfl:=Option.some.inj H;go_enter Tryd.func76,Tryd.ntmps76;go_wp2
       go_ret;exact ⟨QD,DZ⟩
     ·rw [if_neg c13] at H;have c13b0:(a0 == 5) = false:=beq_eq_false_iff_ne.mpr c13;have c13b1:(a0 != 5) = true:=bne_iff_ne.mpr c13;obtain rfl:=Option.some.inj H;go_enter Tryd.func76,Tryd.ntmps76;go_wp2
      go_ret;exact ⟨QD,DZ⟩
end Go.Proofs.YtcphcaiiofeflaaDoor.GO
