
import Derived.Test.YtcphcaiiofeflaaDoorLzGLx0
import Derived.Test.YtcphcaiiofeflaaDoorLzGLx11
namespace Go.Proofs.YtcphcaiiofeflaaDoor.GL
open Go.RowKit Go.Proofs.YtcphcaiiofeflaaDoorW.PrintWords Go.Proofs.YtcphcaiiofeflaaDoorW.PrintLast Go.Proofs.YtcphcaiiofeflaaDoorW.PrintMore
attribute [local go_sem] max2_int min2_int max_two min_two max_three min_three max_four min_four
set_option linter.unusedVariables false
set_option linter.unusedSimpArgs false
mutual
def r09_Refs.l0:Nat→Int→List (S53)→Int→Option (Int)
 | 0,_,_,_ => none
 | k+1,x3,x253000,x253001 => if x3 < (x253000.length:Int) then (r09_Refs.l1 k x3 0 x253000 x253001) else (some (-1))
def r09_Refs.l1:Nat→Int→Int→List (S53)→Int→Option (Int)
 | 0,_,_,_,_ => none
 | k+1,x3,x4,x253000,x253001 => if 0≤x3 then (if x3 < (x253000.length:Int) then (if x4 < (((rd_T53 x253000 x3).f3).length:Int) then (if 0≤x4 then ((r09_Place.f x253000 x253001 (rd ((rd_T53 x253000 x3).f3) x4)).bind fun t256 => (if t256 = true then (r09_Refs.l1 k x3 (wrap64 (x4+1)) x253000 x253001) else (some x3))) else (none)) else (r09_Refs.l0 k (wrap64 (x3+1)) x253000 x253001)) else (none)) else (none)
end
def r09_Refs.f (k:Nat) (l0_0:List (S53)) (a0_1:Int):Option (Int):=r09_Refs.l0 k 0 l0_0 a0_1
def r09_Refs.T7:Bool × List (List Nat × List Nat):=(true,[([],[]),([],[]),([1],[1]),([],[]),([2,3],[2,3]),([4],[4]),([5],[5]),([],[]),([6,7],[6,7]),([8],[8]),([0,9],[0,9]),([10],[10])])
def r09_Refs.B7:List Nat:=[0,0,2,0,14,30,62,0,254,510,1023,2047]
theorem r09_Refs.tab7:rtab .any (opsOf Tryd.f60 7) = r09_Refs.T7:=by kernel_rfl
theorem r09_Refs.bits7:waitsOk r09_Refs.T7.2 r09_Refs.B7 = true:=by kernel_rfl
set_option maxHeartbeats 8000000 in
set_option maxRecDepth 100000 in
theorem r09_Refs.calls (k:Nat) (A0_0:Option Addr) (c0_0:Nat) (l0_0:List (S53)) (a0_1:Int) (r:Int) (w:World) (hr0_0:Kd.C k53 w A0_0 l0_0.length l0_0) (hc0_0:l0_0.length≤c0_0) (h:r09_Refs.f k l0_0 a0_1 = some r) :
  Calls Tryd.prog 60 #[.agg #[.slice A0_0 l0_0.length c0_0,.int .i64 a0_1]] w fun e w' => e = .returned (.int .i64 r)∧Below w.heap.size w w':=by
 have hu24:=Tryd.underlying24;have HR0_0:=AM hr0_0;have HC0_0:=AM hc0_0;clear hr0_0 hc0_0;have HB:=AM (Below.refl w.heap.size w);have H:(r09_Refs.l0 k 0 l0_0 a0_1) = some r:=h;clear h;have H':=AM H;clear H;go_enter Tryd.func60,Tryd.ntmps60;go_wp2_with (first | ((with_reducible refine gate_dst (N:=1) rfl ?_);refine box_event ?hg (N:=1) ?hd (cs:=#[.slice A0_0 l0_0.length c0_0,.int .i64 a0_1]) (t:=24) ?hr ?_;(case hd => rfl);(case hg => rfl);(case hr => first | (go_simp;done) | (go_simp;rfl));intro gb252 hg w2 hbox hb;have BK252:=AM (hbox);have GW252:=GW HB hg;have GE252:=GW HB hg;replace HB:=BS HB hb;clear hb hbox hg))
 go_loopg [3] k (fun kq v3 w' => ∃ (x3_1:Int),v3 = .int .i64 x3_1∧Aside0 (r09_Refs.l0 kq x3_1 l0_0 a0_1 = some r)∧Aside0 (kq≤k)∧Aside0 (w'.heap[gb252]? = some (.cells #[(.slice A0_0 l0_0.length c0_0),.int .i64 a0_1] 24 (0,0)))∧Aside0 (Below w.heap.size w w'))
 case atStart => exact ⟨(0),(by first | rfl | (simp;done) | (simp [*];done)),H',⟨Nat.le_refl _⟩,⟨BL BK252⟩,⟨BB HB⟩⟩
 case round =>
  clear H';try clear p2
  obtain ⟨x3_1,rfl,HA,HK1,BK252,HB⟩:=hrel;cases gk with
  | zero => exact absurd HA.out (by simp [r09_Refs.l0])
  | succ k1 =>
   have H:=HA.out;clear HA;simp only [r09_Refs.l0] at H;by_cases c3:x3_1 < (l0_0.length:Int)
   ·rw [if_pos c3] at H;have c3b0:decide (x3_1 < (l0_0.length:Int)) = true:=decide_eq_true c3;clear c3;have H':=AM H;clear H;have hcz4_0:=BC BK252 0 (.slice A0_0 l0_0.length c0_0) rfl;have hcz4_1:=BC BK252 1 (.int .i64 a0_1) rfl;have hfz4_0:=BF BK252 0;have hfz4_1:=BF BK252 1;go_wp2
    go_loopg [4] k1 (fun kq v4 w' => ∃ (x4_2:Int),v4 = .int .i64 x4_2∧Aside0 (r09_Refs.l1 kq x3_1 x4_2 l0_0 a0_1 = some r)∧Aside0 (kq≤k1)∧Aside0 (w'.heap[gb252]? = some (.cells #[(.slice A0_0 l0_0.length c0_0),.int .i64 a0_1] 24 (0,0)))∧Aside0 (Below w.heap.size w w'))
    case atStart => exact ⟨(0),(by first | rfl | (simp;done) | (simp [*];done)),H',⟨Nat.le_refl _⟩,⟨BL BK252⟩,⟨BB HB⟩⟩
    case round =>
     clear H';try clear p2
     try clear c3
     try clear c3b0
     try clear hcz4_0
     try clear hcz4_1
     try clear hfz4_0
     try clear hfz4_1
     try clear p2
     obtain ⟨x4_2,rfl,HA,HK2,BK252,HB⟩:=hrel;cases gk with
     | zero => exact absurd HA.out (by simp [r09_Refs.l1])
     | succ k2 =>
      have H:=HA.out;clear HA;simp only [r09_Refs.l1] at H;by_cases c5:0≤x3_1
      ·rw [if_pos c5] at H;have c5b0:decide (0≤x3_1) = true:=decide_eq_true c5;clear c5;by_cases c6:x3_1 < (l0_0.length:Int)
       ·rw [if_pos c6] at H;have c6b0:decide (x3_1 < (l0_0.length:Int)) = true:=decide_eq_true c6;clear c6;by_cases c7:x4_2 < (((rd_T53 l0_0 x3_1).f3).length:Int)
        ·rw [if_pos c7] at H;have c7b0:decide (x4_2 < (((rd_T53 l0_0 x3_1).f3).length:Int)) = true:=decide_eq_true c7;clear c7;by_cases c8:0≤x4_2
         ·rw [if_pos c8] at H;have c8b0:decide (0≤x4_2) = true:=decide_eq_true c8;clear c8;replace H:=Option.bind_eq_some_iff.mp H;obtain ⟨t256,A90,H⟩:=H;replace H:(if t256 = true then (r09_Refs.l1 k2 x3_1 (wrap64 (x4_2+1)) l0_0 a0_1) else (some x3_1)) = some r:=H;have A9:=AM A90;clear A90;by_cases c10:t256 = true
          ·subst c10;have H1:(r09_Refs.l1 k2 x3_1 (wrap64 (x4_2+1)) l0_0 a0_1) = some r:=by rw [if_pos rfl] at H;exact H
           clear H;have H:=H1;clear H1;have H':=AM H;clear H;have hcz11_0:=BC BK252 0 (.slice A0_0 l0_0.length c0_0) rfl;have hcz11_1:=BC BK252 1 (.int .i64 a0_1) rfl;have hfz11_0:=BF BK252 0;have hfz11_1:=BF BK252 1;have p253:0≤(x3_1:Int):=OD;have q253:x3_1 < (l0_0.length:Int):=OD;obtain ⟨ad253,A253_1,c253_1,A253_2,c253_2,A253_3,c253_3,e253,hx253_0,hx253_1,hx253_2,hx253_3,hl253_1,hi253_1,hl253_2,hi253_2,hl253_3,hi253_3⟩:=at_T53 HR0_0.out x3_1 p253 q253;cases e253
           replace hx253_0:=CL HB hx253_0;replace hx253_1:=CL HB hx253_1;replace hx253_2:=CL HB hx253_2;replace hx253_3:=CL HB hx253_3;have HR253_1:=AM hi253_1;have HC253_1:=AM hl253_1;clear hi253_1 hl253_1;have HR253_2:=AM hi253_2;have HC253_2:=AM hl253_2;clear hi253_2 hl253_2;have HR253_3:=AM hi253_3;have HC253_3:=AM hl253_3;clear hi253_3 hl253_3;replace p253:=eq_true p253;replace q253:=eq_true q253;try go_wp2
           replace BK252:=AM (blk_drew BK252.out);replace HB:=AM (below_drew1 HB.out);have p254:0≤(x3_1:Int):=OD;have q254:x3_1 < (l0_0.length:Int):=OD;obtain ⟨ad254,A254_1,c254_1,A254_2,c254_2,A254_3,c254_3,e254,hx254_0,hx254_1,hx254_2,hx254_3,hl254_1,hi254_1,hl254_2,hi254_2,hl254_3,hi254_3⟩:=at_T53 HR0_0.out x3_1 p254 q254;have hw254_3:=hx254_3;have hw254_2:=hx254_2;have hw254_1:=hx254_1;have hw254_0:=hx254_0;obtain rfl:ad253 = ad254:=(by injection e254);replace hx254_0:=CL HB hx254_0;replace hx254_1:=CL HB hx254_1;replace hx254_2:=CL HB hx254_2;replace hx254_3:=CL HB hx254_3;have HR254_1:=AM hi254_1;have HC254_1:=AM hl254_1;clear hi254_1 hl254_1;have HR254_2:=AM hi254_2;have HC254_2:=AM hl254_2;clear hi254_2 hl254_2;have HR254_3:=AM hi254_3;have HC254_3:=AM hl254_3;clear hi254_3 hl254_3;replace p254:=eq_true p254;replace q254:=eq_true q254;have p255:0≤(x4_2:Int):=OD;have q255:x4_2 < (((rd_T53 l0_0 x3_1).f3).length:Int):=OD;obtain ⟨ad255,e255,hx255_0⟩:=Kd.at_int HR254_3.out x4_2 p255 q255;have hw255_0:=hx255_0;cases e255
           replace hx255_0:=CL HB hx255_0;replace p255:=eq_true p255;replace q255:=eq_true q255;refine start_ (n:=12) (S:=fun w' => w'.cell? ⟨gb252,0,none⟩ = some (.slice (some ad253) l0_0.length c0_0)∧w'.cell? ⟨gb252,1,none⟩ = some (.int .i64 a0_1)∧w'.cell? (ad253.add ((x3_1).toNat * 4)) = some (.int .i64 ((rd_T53 l0_0 x3_1).f0))∧w'.cell? ⟨(ad253.add ((x3_1).toNat * 4)).block,(ad253.add ((x3_1).toNat * 4)).off+1,none⟩ = some (.slice A254_1 ((rd_T53 l0_0 x3_1).f1).length c254_1)∧w'.cell? ⟨(ad253.add ((x3_1).toNat * 4)).block,(ad253.add ((x3_1).toNat * 4)).off+2,none⟩ = some (.slice A254_2 ((rd_T53 l0_0 x3_1).f2).length c254_2)∧w'.cell? ⟨(ad253.add ((x3_1).toNat * 4)).block,(ad253.add ((x3_1).toNat * 4)).off+3,none⟩ = some (.slice (some ad255) ((rd_T53 l0_0 x3_1).f3).length c254_3)∧w'.cell? (ad255.add (x4_2).toNat) = some (.int .i64 (rd ((rd_T53 l0_0 x3_1).f3) x4_2))) (ds:=[]) #[false,false,false,false,false,false,false,false,false,false,false,false] (by kernel_rfl) rfl rfl ⟨(blk_cell BK252.out 0).trans rfl,(blk_cell BK252.out 1).trans rfl,((HB.out.cell (World.block_lt_of_cell? w _ hw254_0)).trans hw254_0),((HB.out.cell (World.block_lt_of_cell? w _ hw254_1)).trans hw254_1),((HB.out.cell (World.block_lt_of_cell? w _ hw254_2)).trans hw254_2),((HB.out.cell (World.block_lt_of_cell? w _ hw254_3)).trans hw254_3),((HB.out.cell (World.block_lt_of_cell? w _ hw255_0)).trans hw255_0)⟩ (fun hHeld => ?_);refine with_tabW r09_Refs.tab7 r09_Refs.bits7 (fun HT_ HW_ => ?_);generalize wr.drew = w12 at BK252 HB HR254_1 HR254_2 HR254_3 hx254_0 hx254_1 hx254_2 hx254_3 hx255_0 hHeld ⊢;refine pure_ (i:=1) (N:=some 24) (v:=?_) (a':=?_) #[false,true,false,false,false,false,false,false,false,false,false,false] rfl rfl (any_of HT_.out (by kernel_rfl)) (fun _ _ _ h => h) (Or.inl ⟨by rfl,?_⟩) ?_ ?_
           rotate_left
           ·intro w';go_simp
            with_reducible rfl
           rotate_left
           ·simp only [Act.put,List.setIfInBounds_toArray,List.set_cons_zero,List.set_cons_succ,i64_w,i32_w];rfl
           refine pure_ (i:=3) (N:=some 26) (v:=?_) (a':=?_) #[false,true,false,true,false,false,false,false,false,false,false,false] rfl rfl (any_of HT_.out (by kernel_rfl)) (fun _ _ _ h => h) (Or.inl ⟨by rfl,?_⟩) ?_ ?_
           rotate_left
           ·intro w';go_simp
            with_reducible rfl
           rotate_left
           ·simp only [Act.put,List.setIfInBounds_toArray,List.set_cons_zero,List.set_cons_succ,i64_w,i32_w];rfl
           refine pure_ (i:=7) (N:=some 30) (v:=?_) (a':=?_) #[false,true,false,true,false,false,false,true,false,false,false,false] rfl rfl (any_of HT_.out (by kernel_rfl)) (fun _ _ _ h => h) (Or.inl ⟨by rfl,?_⟩) ?_ ?_
           rotate_left
           ·intro w';go_simp
            with_reducible rfl
           rotate_left
           ·simp only [Act.put,List.setIfInBounds_toArray,List.set_cons_zero,List.set_cons_succ,i64_w,i32_w];rfl
           refine take_ (i:=0) (N:=some 23) (v:=?_) (a':=?_) #[true,true,false,true,false,false,false,true,false,false,false,false] rfl rfl (take_ofW HT_.out HW_.out (by kernel_rfl)) (fun _ _ _ h => h) (Or.inl ⟨by rfl,?_⟩) hHeld ?_ ?_
           rotate_left
           ·rintro w' ⟨s0,s1,s2,s3,s4,s5,s6⟩;go_simp
            with_reducible rfl
           rotate_left
           ·simp only [Act.put,List.setIfInBounds_toArray,List.set_cons_zero,List.set_cons_succ,i64_w,i32_w];rfl
           refine take_ (i:=2) (N:=some 25) (v:=?_) (a':=?_) #[true,true,true,true,false,false,false,true,false,false,false,false] rfl rfl (take_ofW HT_.out HW_.out (by kernel_rfl)) (fun _ _ _ h => h) (Or.inl ⟨by rfl,?_⟩) hHeld ?_ ?_
           rotate_left
           ·rintro w' ⟨s0,s1,s2,s3,s4,s5,s6⟩;go_simp
            with_reducible rfl
           rotate_left
           ·simp only [Act.put,List.setIfInBounds_toArray,List.set_cons_zero,List.set_cons_succ,i64_w,i32_w];rfl
           refine pure_ (i:=4) (N:=some 27) (v:=?_) (a':=?_) #[true,true,true,true,true,false,false,true,false,false,false,false] rfl rfl (any_of HT_.out (by kernel_rfl)) (fun _ _ _ h => h) (Or.inl ⟨by rfl,?_⟩) ?_ ?_
           rotate_left
           ·intro w';go_simp
            with_reducible rfl
           rotate_left
           ·simp only [Act.put,List.setIfInBounds_toArray,List.set_cons_zero,List.set_cons_succ,i64_w,i32_w];rfl
           refine pure_ (i:=5) (N:=some 28) (v:=?_) (a':=?_) #[true,true,true,true,true,true,false,true,false,false,false,false] rfl rfl (any_of HT_.out (by kernel_rfl)) (fun _ _ _ h => h) (Or.inl ⟨by rfl,?_⟩) ?_ ?_
           rotate_left
           ·intro w';go_simp
            with_reducible rfl
           rotate_left
           ·simp only [Act.put,List.setIfInBounds_toArray,List.set_cons_zero,List.set_cons_succ,i64_w,i32_w];rfl
           refine take_ (i:=6) (N:=some 29) (v:=?_) (a':=?_) #[true,true,true,true,true,true,true,true,false,false,false,false] rfl rfl (take_ofW HT_.out HW_.out (by kernel_rfl)) (fun _ _ _ h => h) (Or.inl ⟨by rfl,?_⟩) hHeld ?_ ?_
           rotate_left
           ·rintro w' ⟨s0,s1,s2,s3,s4,s5,s6⟩;go_simp
            with_reducible rfl
           rotate_left
           ·simp only [Act.put,List.setIfInBounds_toArray,List.set_cons_zero,List.set_cons_succ,i64_w,i32_w];rfl
           refine pure_ (i:=8) (N:=some 31) (v:=?_) (a':=?_) #[true,true,true,true,true,true,true,true,true,false,false,false] rfl rfl (any_of HT_.out (by kernel_rfl)) (fun _ _ _ h => h) (Or.inl ⟨by rfl,?_⟩) ?_ ?_
           rotate_left
           ·intro w';go_simp
            with_reducible rfl
           rotate_left
           ·simp only [Act.put,List.setIfInBounds_toArray,List.set_cons_zero,List.set_cons_succ,i64_w,i32_w];rfl
           refine take_ (i:=9) (N:=some 32) (v:=?_) (a':=?_) #[true,true,true,true,true,true,true,true,true,true,false,false] rfl rfl (take_ofW HT_.out HW_.out (by kernel_rfl)) (fun _ _ _ h => h) (Or.inl ⟨by rfl,?_⟩) hHeld ?_ ?_
           rotate_left
           ·rintro w' ⟨s0,s1,s2,s3,s4,s5,s6⟩;go_simp
            with_reducible rfl
           rotate_left
           ·simp only [Act.put,List.setIfInBounds_toArray,List.set_cons_zero,List.set_cons_succ,i64_w,i32_w];rfl
           refine one_ (i:=10) (N:=some 33) #[true,true,true,true,true,true,true,true,true,true,true,false] rfl rfl (one_of HT_.out (by kernel_rfl)) (by decide) (fun K hK => ?_);refine goes_ Tryd.func59 (by kernel_rfl) rfl #[.agg #[.slice (some ad253) l0_0.length c0_0,.int .i64 a0_1],.int .i64 (rd ((rd_T53 l0_0 x3_1).f3) x4_2)] (by rfl) rfl rfl (by (try simp only [List.map_toArray,List.map_cons,List.map_nil]);first | done | rfl | (simp only [List.length_drop,List.length_take];rfl)) ?_;with_reducible refine (r09_Place.calls _ _ l0_0 a0_1 (rd ((rd_T53 l0_0 x3_1).f3) x4_2) true _ ?side1 ?side2 A9.out).mono ?_
           (case side1 => exact Kd.C_below HR0_0.out (BB HB))
           (case side2 => exact HC0_0.out)
           rintro e w13 ⟨rfl,hb⟩;refine ⟨_,rfl,?_⟩;replace BK252:=BE BK252 hb;replace HB:=BS HB hb;(try clear hb)
           (try clear hb2)
           (try clear hk)
           (try clear hi)
           refine hK.out _ _ ⟨(blk_cell BK252.out 0).trans rfl,(blk_cell BK252.out 1).trans rfl,((HB.out.cell (World.block_lt_of_cell? w _ hw254_0)).trans hw254_0),((HB.out.cell (World.block_lt_of_cell? w _ hw254_1)).trans hw254_1),((HB.out.cell (World.block_lt_of_cell? w _ hw254_2)).trans hw254_2),((HB.out.cell (World.block_lt_of_cell? w _ hw254_3)).trans hw254_3),((HB.out.cell (World.block_lt_of_cell? w _ hw255_0)).trans hw255_0)⟩ (fun hHeld => ?_);clear hK K;refine norm_ (a':=?_) ?_ ?_
           rotate_left
           ·show Act.put _ (some 33) _ = _
            simp only [Act.put,List.setIfInBounds_toArray,List.set_cons_zero,List.set_cons_succ,i64_w,i32_w];rfl
           refine pure_ (i:=11) (N:=some 34) (v:=?_) (a':=?_) #[true,true,true,true,true,true,true,true,true,true,true,true] rfl rfl (any_of HT_.out (by kernel_rfl)) (fun _ _ _ h => h) (Or.inl ⟨by rfl,?_⟩) ?_ ?_
           rotate_left
           ·intro w';go_simp
            with_reducible rfl
           rotate_left
           ·simp only [Act.put,List.setIfInBounds_toArray,List.set_cons_zero,List.set_cons_succ,i64_w,i32_w];rfl
           refine done_ (done_of HT_.out (by kernel_rfl)) ?_;try go_wp2
           go_roundg k2
           case measure => have:=HK1.out;have:=HK2.out;omega
           case rel => exact ⟨(wrap64 (x4_2+1)),(by first | rfl | (simp;done) | (simp [*];done)),H',⟨by have:=HK1.out;have:=HK2.out;omega⟩,⟨BL BK252⟩,⟨BB HB⟩⟩
          ·replace c10:=Bool.eq_false_iff.mpr c10;subst c10;have H1:(some x3_1) = some r:=by rw [if_neg (show ¬ (false = true) by decide)] at H;exact H
           clear H;have H:=H1;clear H1;obtain rfl:=Option.some.inj H;have hcz14_0:=BC BK252 0 (.slice A0_0 l0_0.length c0_0) rfl;have hcz14_1:=BC BK252 1 (.int .i64 a0_1) rfl;have hfz14_0:=BF BK252 0;have hfz14_1:=BF BK252 1;have p253:0≤(x3_1:Int):=OD;have q253:x3_1 < (l0_0.length:Int):=OD;obtain ⟨ad253,A253_1,c253_1,A253_2,c253_2,A253_3,c253_3,e253,hx253_0,hx253_1,hx253_2,hx253_3,hl253_1,hi253_1,hl253_2,hi253_2,hl253_3,hi253_3⟩:=at_T53 HR0_0.out x3_1 p253 q253;cases e253
           replace hx253_0:=CL HB hx253_0;replace hx253_1:=CL HB hx253_1;replace hx253_2:=CL HB hx253_2;replace hx253_3:=CL HB hx253_3;have HR253_1:=AM hi253_1;have HC253_1:=AM hl253_1;clear hi253_1 hl253_1;have HR253_2:=AM hi253_2;have HC253_2:=AM hl253_2;clear hi253_2 hl253_2;have HR253_3:=AM hi253_3;have HC253_3:=AM hl253_3;clear hi253_3 hl253_3;replace p253:=eq_true p253;replace q253:=eq_true q253;try go_wp2
           replace BK252:=AM (blk_drew BK252.out);replace HB:=AM (below_drew1 HB.out);have p254:0≤(x3_1:Int):=OD;have q254:x3_1 < (l0_0.length:Int):=OD;obtain ⟨ad254,A254_1,c254_1,A254_2,c254_2,A254_3,c254_3,e254,hx254_0,hx254_1,hx254_2,hx254_3,hl254_1,hi254_1,hl254_2,hi254_2,hl254_3,hi254_3⟩:=at_T53 HR0_0.out x3_1 p254 q254;have hw254_3:=hx254_3;have hw254_2:=hx254_2;have hw254_1:=hx254_1;have hw254_0:=hx254_0;obtain rfl:ad253 = ad254:=(by injection e254);replace hx254_0:=CL HB hx254_0;replace hx254_1:=CL HB hx254_1;replace hx254_2:=CL HB hx254_2;replace hx254_3:=CL HB hx254_3;have HR254_1:=AM hi254_1;have HC254_1:=AM hl254_1;clear hi254_1 hl254_1;have HR254_2:=AM hi254_2;have HC254_2:=AM hl254_2;clear hi254_2 hl254_2;have HR254_3:=AM hi254_3;have HC254_3:=AM hl254_3;clear hi254_3 hl254_3;replace p254:=eq_true p254;replace q254:=eq_true q254;have p255:0≤(x4_2:Int):=OD;have q255:x4_2 < (((rd_T53 l0_0 x3_1).f3).length:Int):=OD;obtain ⟨ad255,e255,hx255_0⟩:=Kd.at_int HR254_3.out x4_2 p255 q255;have hw255_0:=hx255_0;cases e255
           replace hx255_0:=CL HB hx255_0;replace p255:=eq_true p255;replace q255:=eq_true q255;refine start_ (n:=12) (S:=fun w' => w'.cell? ⟨gb252,0,none⟩ = some (.slice (some ad253) l0_0.length c0_0)∧w'.cell? ⟨gb252,1,none⟩ = some (.int .i64 a0_1)∧w'.cell? (ad253.add ((x3_1).toNat * 4)) = some (.int .i64 ((rd_T53 l0_0 x3_1).f0))∧w'.cell? ⟨(ad253.add ((x3_1).toNat * 4)).block,(ad253.add ((x3_1).toNat * 4)).off+1,none⟩ = some (.slice A254_1 ((rd_T53 l0_0 x3_1).f1).length c254_1)∧w'.cell? ⟨(ad253.add ((x3_1).toNat * 4)).block,(ad253.add ((x3_1).toNat * 4)).off+2,none⟩ = some (.slice A254_2 ((rd_T53 l0_0 x3_1).f2).length c254_2)∧w'.cell? ⟨(ad253.add ((x3_1).toNat * 4)).block,(ad253.add ((x3_1).toNat * 4)).off+3,none⟩ = some (.slice (some ad255) ((rd_T53 l0_0 x3_1).f3).length c254_3)∧w'.cell? (ad255.add (x4_2).toNat) = some (.int .i64 (rd ((rd_T53 l0_0 x3_1).f3) x4_2))) (ds:=[]) #[false,false,false,false,false,false,false,false,false,false,false,false] (by kernel_rfl) rfl rfl ⟨(blk_cell BK252.out 0).trans rfl,(blk_cell BK252.out 1).trans rfl,((HB.out.cell (World.block_lt_of_cell? w _ hw254_0)).trans hw254_0),((HB.out.cell (World.block_lt_of_cell? w _ hw254_1)).trans hw254_1),((HB.out.cell (World.block_lt_of_cell? w _ hw254_2)).trans hw254_2),((HB.out.cell (World.block_lt_of_cell? w _ hw254_3)).trans hw254_3),((HB.out.cell (World.block_lt_of_cell? w _ hw255_0)).trans hw255_0)⟩ (fun hHeld => ?_);refine with_tabW r09_Refs.tab7 r09_Refs.bits7 (fun HT_ HW_ => ?_);generalize wr.drew = w15 at BK252 HB HR254_1 HR254_2 HR254_3 hx254_0 hx254_1 hx254_2 hx254_3 hx255_0 hHeld ⊢;refine pure_ (i:=1) (N:=some 24) (v:=?_) (a':=?_) #[false,true,false,false,false,false,false,false,false,false,false,false] rfl rfl (any_of HT_.out (by kernel_rfl)) (fun _ _ _ h => h) (Or.inl ⟨by rfl,?_⟩) ?_ ?_
           rotate_left
           ·intro w';go_simp
            with_reducible rfl
           rotate_left
           ·simp only [Act.put,List.setIfInBounds_toArray,List.set_cons_zero,List.set_cons_succ,i64_w,i32_w];rfl
           refine pure_ (i:=3) (N:=some 26) (v:=?_) (a':=?_) #[false,true,false,true,false,false,false,false,false,false,false,false] rfl rfl (any_of HT_.out (by kernel_rfl)) (fun _ _ _ h => h) (Or.inl ⟨by rfl,?_⟩) ?_ ?_
           rotate_left
           ·intro w';go_simp
            with_reducible rfl
           rotate_left
           ·simp only [Act.put,List.setIfInBounds_toArray,List.set_cons_zero,List.set_cons_succ,i64_w,i32_w];rfl
           refine pure_ (i:=7) (N:=some 30) (v:=?_) (a':=?_) #[false,true,false,true,false,false,false,true,false,false,false,false] rfl rfl (any_of HT_.out (by kernel_rfl)) (fun _ _ _ h => h) (Or.inl ⟨by rfl,?_⟩) ?_ ?_
           rotate_left
           ·intro w';go_simp
            with_reducible rfl
           rotate_left
           ·simp only [Act.put,List.setIfInBounds_toArray,List.set_cons_zero,List.set_cons_succ,i64_w,i32_w];rfl
           refine take_ (i:=0) (N:=some 23) (v:=?_) (a':=?_) #[true,true,false,true,false,false,false,true,false,false,false,false] rfl rfl (take_ofW HT_.out HW_.out (by kernel_rfl)) (fun _ _ _ h => h) (Or.inl ⟨by rfl,?_⟩) hHeld ?_ ?_
           rotate_left
           ·rintro w' ⟨s0,s1,s2,s3,s4,s5,s6⟩;go_simp
            with_reducible rfl
           rotate_left
           ·simp only [Act.put,List.setIfInBounds_toArray,List.set_cons_zero,List.set_cons_succ,i64_w,i32_w];rfl
           refine take_ (i:=2) (N:=some 25) (v:=?_) (a':=?_) #[true,true,true,true,false,false,false,true,false,false,false,false] rfl rfl (take_ofW HT_.out HW_.out (by kernel_rfl)) (fun _ _ _ h => h) (Or.inl ⟨by rfl,?_⟩) hHeld ?_ ?_
           rotate_left
           ·rintro w' ⟨s0,s1,s2,s3,s4,s5,s6⟩;go_simp
            with_reducible rfl
           rotate_left
           ·simp only [Act.put,List.setIfInBounds_toArray,List.set_cons_zero,List.set_cons_succ,i64_w,i32_w];rfl
           refine pure_ (i:=4) (N:=some 27) (v:=?_) (a':=?_) #[true,true,true,true,true,false,false,true,false,false,false,false] rfl rfl (any_of HT_.out (by kernel_rfl)) (fun _ _ _ h => h) (Or.inl ⟨by rfl,?_⟩) ?_ ?_
           rotate_left
           ·intro w';go_simp
            with_reducible rfl
           rotate_left
           ·simp only [Act.put,List.setIfInBounds_toArray,List.set_cons_zero,List.set_cons_succ,i64_w,i32_w];rfl
           refine pure_ (i:=5) (N:=some 28) (v:=?_) (a':=?_) #[true,true,true,true,true,true,false,true,false,false,false,false] rfl rfl (any_of HT_.out (by kernel_rfl)) (fun _ _ _ h => h) (Or.inl ⟨by rfl,?_⟩) ?_ ?_
           rotate_left
           ·intro w';go_simp
            with_reducible rfl
           rotate_left
           ·simp only [Act.put,List.setIfInBounds_toArray,List.set_cons_zero,List.set_cons_succ,i64_w,i32_w];rfl
           refine take_ (i:=6) (N:=some 29) (v:=?_) (a':=?_) #[true,true,true,true,true,true,true,true,false,false,false,false] rfl rfl (take_ofW HT_.out HW_.out (by kernel_rfl)) (fun _ _ _ h => h) (Or.inl ⟨by rfl,?_⟩) hHeld ?_ ?_
           rotate_left
           ·rintro w' ⟨s0,s1,s2,s3,s4,s5,s6⟩;go_simp
            with_reducible rfl
           rotate_left
           ·simp only [Act.put,List.setIfInBounds_toArray,List.set_cons_zero,List.set_cons_succ,i64_w,i32_w];rfl
           refine pure_ (i:=8) (N:=some 31) (v:=?_) (a':=?_) #[true,true,true,true,true,true,true,true,true,false,false,false] rfl rfl (any_of HT_.out (by kernel_rfl)) (fun _ _ _ h => h) (Or.inl ⟨by rfl,?_⟩) ?_ ?_
           rotate_left
           ·intro w';go_simp
            with_reducible rfl
           rotate_left
           ·simp only [Act.put,List.setIfInBounds_toArray,List.set_cons_zero,List.set_cons_succ,i64_w,i32_w];rfl
           refine take_ (i:=9) (N:=some 32) (v:=?_) (a':=?_) #[true,true,true,true,true,true,true,true,true,true,false,false] rfl rfl (take_ofW HT_.out HW_.out (by kernel_rfl)) (fun _ _ _ h => h) (Or.inl ⟨by rfl,?_⟩) hHeld ?_ ?_
           rotate_left
           ·rintro w' ⟨s0,s1,s2,s3,s4,s5,s6⟩;go_simp
            with_reducible rfl
           rotate_left
           ·simp only [Act.put,List.setIfInBounds_toArray,List.set_cons_zero,List.set_cons_succ,i64_w,i32_w];rfl
           refine one_ (i:=10) (N:=some 33) #[true,true,true,true,true,true,true,true,true,true,true,false] rfl rfl (one_of HT_.out (by kernel_rfl)) (by decide) (fun K hK => ?_);refine goes_ Tryd.func59 (by kernel_rfl) rfl #[.agg #[.slice (some ad253) l0_0.length c0_0,.int .i64 a0_1],.int .i64 (rd ((rd_T53 l0_0 x3_1).f3) x4_2)] (by rfl) rfl rfl (by (try simp only [List.map_toArray,List.map_cons,List.map_nil]);first | done | rfl | (simp only [List.length_drop,List.length_take];rfl)) ?_;with_reducible refine (r09_Place.calls _ _ l0_0 a0_1 (rd ((rd_T53 l0_0 x3_1).f3) x4_2) false _ ?side1 ?side2 A9.out).mono ?_
           (case side1 => exact Kd.C_below HR0_0.out (BB HB))
           (case side2 => exact HC0_0.out)
           rintro e w16 ⟨rfl,hb⟩;refine ⟨_,rfl,?_⟩;replace BK252:=BE BK252 hb;replace HB:=BS HB hb;(try clear hb)
           (try clear hb2)
           (try clear hk)
           (try clear hi)
           refine hK.out _ _ ⟨(blk_cell BK252.out 0).trans rfl,(blk_cell BK252.out 1).trans rfl,((HB.out.cell (World.block_lt_of_cell? w _ hw254_0)).trans hw254_0),((HB.out.cell (World.block_lt_of_cell? w _ hw254_1)).trans hw254_1),((HB.out.cell (World.block_lt_of_cell? w _ hw254_2)).trans hw254_2),((HB.out.cell (World.block_lt_of_cell? w _ hw254_3)).trans hw254_3),((HB.out.cell (World.block_lt_of_cell? w _ hw255_0)).trans hw255_0)⟩ (fun hHeld => ?_);clear hK K;refine norm_ (a':=?_) ?_ ?_
           rotate_left
           ·show Act.put _ (some 33) _ = _
            simp only [Act.put,List.setIfInBounds_toArray,List.set_cons_zero,List.set_cons_succ,i64_w,i32_w];rfl
           refine pure_ (i:=11) (N:=some 34) (v:=?_) (a':=?_) #[true,true,true,true,true,true,true,true,true,true,true,true] rfl rfl (any_of HT_.out (by kernel_rfl)) (fun _ _ _ h => h) (Or.inl ⟨by rfl,?_⟩) ?_ ?_
           rotate_left
           ·intro w';go_simp
            with_reducible rfl
           rotate_left
           ·simp only [Act.put,List.setIfInBounds_toArray,List.set_cons_zero,List.set_cons_succ,i64_w,i32_w];rfl
           refine done_ (done_of HT_.out (by kernel_rfl)) ?_;try go_wp2
           go_ret;exact RT (BB HB)
         ·rw [if_neg c8] at H;exact absurd H (by simp)
        ·rw [if_neg c7] at H;have c7b0:decide (x4_2 < (((rd_T53 l0_0 x3_1).f3).length:Int)) = false:=decide_eq_false c7;clear c7;have H':=AM H;clear H;have hcz17_0:=BC BK252 0 (.slice A0_0 l0_0.length c0_0) rfl;have hcz17_1:=BC BK252 1 (.int .i64 a0_1) rfl;have hfz17_0:=BF BK252 0;have hfz17_1:=BF BK252 1;have p253:0≤(x3_1:Int):=OD;have q253:x3_1 < (l0_0.length:Int):=OD;obtain ⟨ad253,A253_1,c253_1,A253_2,c253_2,A253_3,c253_3,e253,hx253_0,hx253_1,hx253_2,hx253_3,hl253_1,hi253_1,hl253_2,hi253_2,hl253_3,hi253_3⟩:=at_T53 HR0_0.out x3_1 p253 q253;cases e253
         replace hx253_0:=CL HB hx253_0;replace hx253_1:=CL HB hx253_1;replace hx253_2:=CL HB hx253_2;replace hx253_3:=CL HB hx253_3;have HR253_1:=AM hi253_1;have HC253_1:=AM hl253_1;clear hi253_1 hl253_1;have HR253_2:=AM hi253_2;have HC253_2:=AM hl253_2;clear hi253_2 hl253_2;have HR253_3:=AM hi253_3;have HC253_3:=AM hl253_3;clear hi253_3 hl253_3;replace p253:=eq_true p253;replace q253:=eq_true q253;go_wp2
         go_roundg k2
         case measure => have:=HK1.out;have:=HK2.out;omega
         case rel => exact ⟨(wrap64 (x3_1+1)),(by first | rfl | (simp;done) | (simp [*];done)),H',⟨by have:=HK1.out;have:=HK2.out;omega⟩,⟨BL BK252⟩,⟨BB HB⟩⟩
       ·rw [if_neg c6] at H;exact absurd H (by simp)
      ·rw [if_neg c5] at H;exact absurd H (by simp)
   ·rw [if_neg c3] at H;have c3b0:decide (x3_1 < (l0_0.length:Int)) = false:=decide_eq_false c3;clear c3;obtain rfl:=Option.some.inj H;have hcz18_0:=BC BK252 0 (.slice A0_0 l0_0.length c0_0) rfl;have hcz18_1:=BC BK252 1 (.int .i64 a0_1) rfl;have hfz18_0:=BF BK252 0;have hfz18_1:=BF BK252 1;go_wp2
    go_ret;exact RT (BB HB)
end Go.Proofs.YtcphcaiiofeflaaDoor.GL
