
import Derived.Test.YtcphcaiiofeflaaDoorLzGLx0
import Derived.Test.YtcphcaiiofeflaaDoorLzGLx3
import Derived.Test.YtcphcaiiofeflaaDoorLzGLx8
import Derived.Test.YtcphcaiiofeflaaDoorLzGLx10
import Derived.Test.YtcphcaiiofeflaaDoorLzGLx11
import Derived.Test.YtcphcaiiofeflaaDoorLzGLx27
namespace Go.Proofs.YtcphcaiiofeflaaDoor.GL
open Go.RowKit Go.Proofs.YtcphcaiiofeflaaDoorW.PrintWords Go.Proofs.YtcphcaiiofeflaaDoorW.PrintLast Go.Proofs.YtcphcaiiofeflaaDoorW.PrintMore
attribute [local go_sem] max2_int min2_int max_two min_two max_three min_three max_four min_four
set_option linter.unusedVariables false
set_option linter.unusedSimpArgs false
def w12_LimitValid.j0:Nat→Bool→List (S53)→Int→Int→Int→Int→Int→Int→Option (Bool)
 | 0,_,_,_,_,_,_,_,_ => none
 | k+1,x18,x533000,x533001,x534000,x534001,x534002,x534003,x534004 => if x18 = true then ((w12_awake.f k).bind fun t536 => (some t536)) else ((r09_Copy.f k x533000 x533001).bind fun bt537 => ((limit_Valid.f k bt537.1 bt537.2 x534000 x534001 x534002 x534003 x534004).bind fun bt541 => ((r12_Valid.f k x533000 x533001 x534000 x534001 x534002 x534003 x534004).bind fun bt543 => ((r09_Copy.f k x533000 x533001).bind fun bt545 => ((limit_Typed.f k bt545.1 bt545.2).bind fun bt549 => ((r12_Typed.f k x533000 x533001 2).bind fun bt551 => (if bt541.1 = bt543.1 then (if bt541.2 = bt543.2 then (if bt549.1 = bt551.1 then (some (bt549.2 == bt551.2)) else (some false)) else (some false)) else (some false))))))))
def w12_LimitValid.f (k:Nat) (l0_0:List (S53)) (a0_1:Int) (a1_0:Int) (a1_1:Int) (a1_2:Int) (a1_3:Int) (a1_4:Int):Option (Bool):=(w12_awake.f k).bind fun t534 => (if t534 = true then ((r09_Great.f k l0_0 a0_1).bind fun t535 => (w12_LimitValid.j0 k t535 l0_0 a0_1 a1_0 a1_1 a1_2 a1_3 a1_4)) else (w12_LimitValid.j0 k true l0_0 a0_1 a1_0 a1_1 a1_2 a1_3 a1_4))
def w12_LimitValid.T3:Bool × List (List Nat × List Nat):=(true,[([],[]),([0],[0]),([],[]),([1,2,1],[1,2]),([3],[3]),([4],[4]),([4],[4]),([5,3,0,1,2,3,4,5],[5]),([6,7,0,1,2,3,4,5,6,7],[6])])
def w12_LimitValid.B3:List Nat:=[0,1,0,7,15,31,31,63,255]
theorem w12_LimitValid.tab3:rtab .any (opsOf Tryd.f3 3) = w12_LimitValid.T3:=by kernel_rfl
theorem w12_LimitValid.bits3:waitsOk w12_LimitValid.T3.2 w12_LimitValid.B3 = true:=by kernel_rfl
set_option maxHeartbeats 8000000 in
set_option maxRecDepth 100000 in
theorem w12_LimitValid.calls (k:Nat) (A0_0:Option Addr) (c0_0:Nat) (l0_0:List (S53)) (a0_1:Int) (a1_0:Int) (a1_1:Int) (a1_2:Int) (a1_3:Int) (a1_4:Int) (r:Bool) (w:World) (ht_:∀ w',Below w.heap.size w w'→Go.Lib.Utf8Tabs 0 1 w') (hr0_0:Kd.C k53 w A0_0 l0_0.length l0_0) (hc0_0:l0_0.length≤c0_0) (h:w12_LimitValid.f k l0_0 a0_1 a1_0 a1_1 a1_2 a1_3 a1_4 = some r) :
  Calls Tryd.prog 3 #[.agg #[.slice A0_0 l0_0.length c0_0,.int .i64 a0_1],.agg #[.int .i64 a1_0,.int .i64 a1_1,.int .i64 a1_2,.int .i64 a1_3,.int .i64 a1_4]] w fun e w' => e = .returned (.bool r)∧Below w.heap.size w w':=by
 have HTB_:=AM ht_;clear ht_;have hu24:=Tryd.underlying24;have hu26:=Tryd.underlying26;have HR0_0:=AM hr0_0;have HC0_0:=AM hc0_0;clear hr0_0 hc0_0;have HB:=AM (Below.refl w.heap.size w);have H:((w12_awake.f k).bind fun t534 => (if t534 = true then ((r09_Great.f k l0_0 a0_1).bind fun t535 => (w12_LimitValid.j0 k t535 l0_0 a0_1 a1_0 a1_1 a1_2 a1_3 a1_4)) else (w12_LimitValid.j0 k true l0_0 a0_1 a1_0 a1_1 a1_2 a1_3 a1_4))) = some r:=h;clear h;have HC3:=AM H;clear H;go_enter Tryd.func3,Tryd.ntmps3;go_upto_region 1 with (first | ((with_reducible refine gate_dst (N:=2) rfl ?_);refine box_event ?hg (N:=2) ?hd (cs:=#[.slice A0_0 l0_0.length c0_0,.int .i64 a0_1]) (t:=24) ?hr ?_;(case hd => rfl);(case hg => rfl);(case hr => first | (go_simp;done) | (go_simp;rfl));intro gb532 hg w4 hbox hb;have BK532:=AM (hbox);have GW532:=GW HB hg;have GE532:=GW HB hg;replace HB:=BS HB hb;clear hb hbox hg) | ((with_reducible refine gate_dst (N:=3) rfl ?_);refine box_event ?hg (N:=3) ?hd (cs:=#[.int .i64 a1_0,.int .i64 a1_1,.int .i64 a1_2,.int .i64 a1_3,.int .i64 a1_4]) (t:=26) ?hr ?_;(case hd => rfl);(case hg => rfl);(case hr => first | (go_simp;done) | (go_simp;rfl));intro gb533 hg w5 hbox hb;have BK533:=AM (hbox);have GW533:=GW HB hg;have GE533:=GW HB hg;replace HB:=BS HB hb;have NB532_533:=NL BK532 hg;have NB533_532:=NG BK532 hg;replace BK532:=BE BK532 hb;clear hb hbox hg))
 (try simp only [Act.put,List.setIfInBounds_toArray,List.set_cons_zero,List.set_cons_succ])
 go_cut [18] (fun v18 wc => ∃ (kq:Nat) (x18_2:Bool),v18 = .bool x18_2∧Aside0 (w12_LimitValid.j0 kq x18_2 l0_0 a0_1 a1_0 a1_1 a1_2 a1_3 a1_4 = some r)∧Aside0 (kq≤k)∧Aside0 (wc.heap[gb532]? = some (.cells #[(.slice A0_0 l0_0.length c0_0),.int .i64 a0_1] 24 (0,0)))∧Aside0 (wc.heap[gb533]? = some (.cells #[.int .i64 a1_0,.int .i64 a1_1,.int .i64 a1_2,.int .i64 a1_3,.int .i64 a1_4] 26 (0,0)))∧Aside0 (Below w.heap.size w wc))
 case first =>
  have H:=HC3.out;clear HC3;replace H:=Option.bind_eq_some_iff.mp H;obtain ⟨t534,A60,H⟩:=H;replace H:(if t534 = true then ((r09_Great.f k l0_0 a0_1).bind fun t535 => (w12_LimitValid.j0 k t535 l0_0 a0_1 a1_0 a1_1 a1_2 a1_3 a1_4)) else (w12_LimitValid.j0 k true l0_0 a0_1 a1_0 a1_1 a1_2 a1_3 a1_4)) = some r:=H;have A6:=AM A60;clear A60;by_cases c7:t534 = true
  ·subst c7;have H1:((r09_Great.f k l0_0 a0_1).bind fun t535 => (w12_LimitValid.j0 k t535 l0_0 a0_1 a1_0 a1_1 a1_2 a1_3 a1_4)) = some r:=by rw [if_pos rfl] at H;exact H
   clear H;have H:=H1;clear H1;replace H:=Option.bind_eq_some_iff.mp H;obtain ⟨t535,A80,H⟩:=H;replace H:(w12_LimitValid.j0 k t535 l0_0 a0_1 a1_0 a1_1 a1_2 a1_3 a1_4) = some r:=H;have A8:=AM A80;clear A80;have H':=AM H;clear H;go_wp2_with (first | ((with_reducible refine gate_callee (f:=13) rfl ?_);refine goesM_ (some 13) rfl rfl Tryd.func13 #[] rfl ?_;(with_reducible refine (w12_awake.calls k  true _ (fun w_ hb_ => HTB_.out w_ (below_step (BB HB) hb_)) A6.out).mono ?_);rintro e w9 ⟨rfl,hb⟩;refine ⟨_,rfl,?_⟩;replace BK532:=BE BK532 hb;replace BK533:=BE BK533 hb;replace HB:=BS HB hb;(try clear hb);(try clear hb2);(try clear hk);(try clear hi);have hnb10:=NB532_533.out;have hnc10:=NB533_532.out;have hcz11_0:=BC BK532 0 (.slice A0_0 l0_0.length c0_0) rfl;have hcz11_1:=BC BK532 1 (.int .i64 a0_1) rfl;have hfz11_0:=BF BK532 0;have hfz11_1:=BF BK532 1) | (go_at_call 14;(with_reducible refine (r09_Great.calls k _ _ l0_0 a0_1 t535 _ ?side1 ?side2 A8.out).mono ?_);(case side1 => exact Kd.C_below HR0_0.out (BB HB));(case side2 => exact HC0_0.out);rintro e w12 ⟨rfl,hb⟩;replace BK532:=BE BK532 hb;replace BK533:=BE BK533 hb;replace HB:=BS HB hb;(try clear hb);(try clear hb2);(try clear hk);(try clear hi)))
   go_meet
   case rel => exact ⟨_,(t535),(by first | rfl | (simp;done) | (simp [*];done)),H',⟨by first | omega | exact Nat.le_refl _⟩,⟨BL BK532⟩,⟨BL BK533⟩,⟨BB HB⟩⟩
  ·replace c7:=Bool.eq_false_iff.mpr c7;subst c7;have H1:(w12_LimitValid.j0 k true l0_0 a0_1 a1_0 a1_1 a1_2 a1_3 a1_4) = some r:=by rw [if_neg (show ¬ (false = true) by decide)] at H;exact H
   clear H;have H:=H1;clear H1;have H':=AM H;clear H;go_wp2_with (first | ((with_reducible refine gate_callee (f:=13) rfl ?_);refine goesM_ (some 13) rfl rfl Tryd.func13 #[] rfl ?_;(with_reducible refine (w12_awake.calls k  false _ (fun w_ hb_ => HTB_.out w_ (below_step (BB HB) hb_)) A6.out).mono ?_);rintro e w13 ⟨rfl,hb⟩;refine ⟨_,rfl,?_⟩;replace BK532:=BE BK532 hb;replace BK533:=BE BK533 hb;replace HB:=BS HB hb;(try clear hb);(try clear hb2);(try clear hk);(try clear hi)))
   go_meet
   case rel => exact ⟨_,(true),(by first | rfl | (simp;done) | (simp [*];done)),H',⟨by first | omega | exact Nat.le_refl _⟩,⟨BL BK532⟩,⟨BL BK533⟩,⟨BB HB⟩⟩
 case rest =>
  clear HC3;try clear c1
  try clear p2
  try clear c3
  try clear c7
  try clear c10
  try clear c13
  try clear hcz11_0
  try clear hcz11_1
  try clear hfz11_0
  try clear hfz11_1
  obtain ⟨kq,x18_2,rfl,HA,HJ2,BK532,BK533,HB⟩:=hcut;cases kq with
  | zero => exact absurd HA.out (by simp [w12_LimitValid.j0])
  | succ kj2 =>
   have H:=HA.out;clear HA;simp only [w12_LimitValid.j0] at H;by_cases c14:x18_2 = true
   ·subst c14;have H1:((w12_awake.f kj2).bind fun t536 => (some t536)) = some r:=by rw [if_pos rfl] at H;exact H
    clear H;have H:=H1;clear H1;replace H:=Option.bind_eq_some_iff.mp H;obtain ⟨t536,A150,H⟩:=H;replace H:(some t536) = some r:=H;have A15:=AM A150;clear A150;obtain rfl:=Option.some.inj H;go_wp2_with (first | ((with_reducible refine gate_callee (f:=13) rfl ?_);refine goesM_ (some 19) rfl rfl Tryd.func13 #[] rfl ?_;(with_reducible refine (w12_awake.calls kj2  t536 _ (fun w_ hb_ => HTB_.out w_ (below_step (BB HB) hb_)) A15.out).mono ?_);rintro e w16 ⟨rfl,hb⟩;refine ⟨_,rfl,?_⟩;replace BK532:=BE BK532 hb;replace BK533:=BE BK533 hb;replace HB:=BS HB hb;(try clear hb);(try clear hb2);(try clear hk);(try clear hi)))
    go_ret;exact RT (BB HB)
   ·replace c14:=Bool.eq_false_iff.mpr c14;subst c14;have H1:((r09_Copy.f kj2 l0_0 a0_1).bind fun bt537 => ((limit_Valid.f kj2 bt537.1 bt537.2 a1_0 a1_1 a1_2 a1_3 a1_4).bind fun bt541 => ((r12_Valid.f kj2 l0_0 a0_1 a1_0 a1_1 a1_2 a1_3 a1_4).bind fun bt543 => ((r09_Copy.f kj2 l0_0 a0_1).bind fun bt545 => ((limit_Typed.f kj2 bt545.1 bt545.2).bind fun bt549 => ((r12_Typed.f kj2 l0_0 a0_1 2).bind fun bt551 => (if bt541.1 = bt543.1 then (if bt541.2 = bt543.2 then (if bt549.1 = bt551.1 then (some (bt549.2 == bt551.2)) else (some false)) else (some false)) else (some false)))))))) = some r:=by rw [if_neg (show ¬ (false = true) by decide)] at H;exact H
    clear H;have H:=H1;clear H1;replace H:=Option.bind_eq_some_iff.mp H;obtain ⟨⟨t537,t540⟩,A170,H⟩:=H;replace H:((limit_Valid.f kj2 t537 t540 a1_0 a1_1 a1_2 a1_3 a1_4).bind fun bt541 => ((r12_Valid.f kj2 l0_0 a0_1 a1_0 a1_1 a1_2 a1_3 a1_4).bind fun bt543 => ((r09_Copy.f kj2 l0_0 a0_1).bind fun bt545 => ((limit_Typed.f kj2 bt545.1 bt545.2).bind fun bt549 => ((r12_Typed.f kj2 l0_0 a0_1 2).bind fun bt551 => (if bt541.1 = bt543.1 then (if bt541.2 = bt543.2 then (if bt549.1 = bt551.1 then (some (bt549.2 == bt551.2)) else (some false)) else (some false)) else (some false))))))) = some r:=H;have A17:=AM A170;clear A170;replace H:=Option.bind_eq_some_iff.mp H;obtain ⟨⟨t541,t542⟩,A180,H⟩:=H;replace H:((r12_Valid.f kj2 l0_0 a0_1 a1_0 a1_1 a1_2 a1_3 a1_4).bind fun bt543 => ((r09_Copy.f kj2 l0_0 a0_1).bind fun bt545 => ((limit_Typed.f kj2 bt545.1 bt545.2).bind fun bt549 => ((r12_Typed.f kj2 l0_0 a0_1 2).bind fun bt551 => (if t541 = bt543.1 then (if t542 = bt543.2 then (if bt549.1 = bt551.1 then (some (bt549.2 == bt551.2)) else (some false)) else (some false)) else (some false)))))) = some r:=H;have A18:=AM A180;clear A180;replace H:=Option.bind_eq_some_iff.mp H;obtain ⟨⟨t543,t544⟩,A190,H⟩:=H;replace H:((r09_Copy.f kj2 l0_0 a0_1).bind fun bt545 => ((limit_Typed.f kj2 bt545.1 bt545.2).bind fun bt549 => ((r12_Typed.f kj2 l0_0 a0_1 2).bind fun bt551 => (if t541 = t543 then (if t542 = t544 then (if bt549.1 = bt551.1 then (some (bt549.2 == bt551.2)) else (some false)) else (some false)) else (some false))))) = some r:=H;have A19:=AM A190;clear A190;replace H:=Option.bind_eq_some_iff.mp H;obtain ⟨⟨t545,t548⟩,A200,H⟩:=H;replace H:((limit_Typed.f kj2 t545 t548).bind fun bt549 => ((r12_Typed.f kj2 l0_0 a0_1 2).bind fun bt551 => (if t541 = t543 then (if t542 = t544 then (if bt549.1 = bt551.1 then (some (bt549.2 == bt551.2)) else (some false)) else (some false)) else (some false)))) = some r:=H;have A20:=AM A200;clear A200;replace H:=Option.bind_eq_some_iff.mp H;obtain ⟨⟨t549,t550⟩,A210,H⟩:=H;replace H:((r12_Typed.f kj2 l0_0 a0_1 2).bind fun bt551 => (if t541 = t543 then (if t542 = t544 then (if t549 = bt551.1 then (some (t550 == bt551.2)) else (some false)) else (some false)) else (some false))) = some r:=H;have A21:=AM A210;clear A210;replace H:=Option.bind_eq_some_iff.mp H;obtain ⟨⟨t551,t552⟩,A220,H⟩:=H;replace H:(if t541 = t543 then (if t542 = t544 then (if t549 = t551 then (some (t550 == t552)) else (some false)) else (some false)) else (some false)) = some r:=H;have A22:=AM A220;clear A220;by_cases c23:t541 = t543
    ·rw [if_pos c23] at H;have c23b0:(t541 == t543) = true:=beq_iff_eq.mpr c23;have c23b1:(t541 != t543) = false:=bne_eq_false_iff_eq.mpr c23;clear c23;by_cases c24:t542 = t544
     ·rw [if_pos c24] at H;have c24b0:(t542 == t544) = true:=beq_iff_eq.mpr c24;have c24b1:(t542 != t544) = false:=bne_eq_false_iff_eq.mpr c24;clear c24;by_cases c25:t549 = t551
      ·rw [if_pos c25] at H;have c25b0:(t549 == t551) = true:=beq_iff_eq.mpr c25;have c25b1:(t549 != t551) = false:=bne_eq_false_iff_eq.mpr c25;clear c25;obtain rfl:=Option.some.inj H;try go_wp2
       replace BK532:=AM (blk_drew BK532.out);replace BK533:=AM (blk_drew BK533.out);replace HB:=AM (below_drew1 HB.out);refine start_ (n:=9) (S:=fun w' => w'.cell? ⟨gb532,0,none⟩ = some (.slice A0_0 l0_0.length c0_0)∧w'.cell? ⟨gb532,1,none⟩ = some (.int .i64 a0_1)∧w'.cell? ⟨gb533,0,none⟩ = some (.int .i64 a1_0)∧w'.cell? ⟨gb533,1,none⟩ = some (.int .i64 a1_1)∧w'.cell? ⟨gb533,2,none⟩ = some (.int .i64 a1_2)∧w'.cell? ⟨gb533,3,none⟩ = some (.int .i64 a1_3)∧w'.cell? ⟨gb533,4,none⟩ = some (.int .i64 a1_4)) (ds:=[]) #[false,false,false,false,false,false,false,false,false] (by kernel_rfl) rfl rfl ⟨(blk_cell BK532.out 0).trans rfl,(blk_cell BK532.out 1).trans rfl,(blk_cell BK533.out 0).trans rfl,(blk_cell BK533.out 1).trans rfl,(blk_cell BK533.out 2).trans rfl,(blk_cell BK533.out 3).trans rfl,(blk_cell BK533.out 4).trans rfl⟩ (fun hHeld => ?_);refine with_tabW w12_LimitValid.tab3 w12_LimitValid.bits3 (fun HT_ HW_ => ?_);generalize wc.drew = w26 at BK532 BK533 HB hHeld ⊢;refine take_ (i:=0) (N:=some 21) (v:=?_) (a':=?_) #[true,false,false,false,false,false,false,false,false] rfl rfl (take_ofW HT_.out HW_.out (by kernel_rfl)) (fun _ _ _ h => h) (Or.inl ⟨by rfl,?_⟩) hHeld ?_ ?_
       rotate_left
       ·rintro w' ⟨s0,s1,s2,s3,s4,s5,s6⟩;go_simp
        with_reducible rfl
       rotate_left
       ·simp only [Act.put,List.setIfInBounds_toArray,List.set_cons_zero,List.set_cons_succ,i64_w,i32_w];rfl
       refine take_ (i:=2) (N:=some 23) (v:=?_) (a':=?_) #[true,false,true,false,false,false,false,false,false] rfl rfl (take_ofW HT_.out HW_.out (by kernel_rfl)) (fun _ _ _ h => h) (Or.inl ⟨by rfl,?_⟩) hHeld ?_ ?_
       rotate_left
       ·rintro w' ⟨s0,s1,s2,s3,s4,s5,s6⟩;go_simp
        with_reducible rfl
       rotate_left
       ·simp only [Act.put,List.setIfInBounds_toArray,List.set_cons_zero,List.set_cons_succ,i64_w,i32_w];rfl
       refine one_ (i:=1) (N:=some 22) #[true,true,true,false,false,false,false,false,false] rfl rfl (one_of HT_.out (by kernel_rfl)) (by decide) (fun K hK => ?_);refine goes_ Tryd.func16 (by kernel_rfl) rfl #[.agg #[.slice A0_0 l0_0.length c0_0,.int .i64 a0_1]] (by rfl) rfl rfl (by (try simp only [List.map_toArray,List.map_cons,List.map_nil]);first | done | rfl | (simp only [List.length_drop,List.length_take];rfl)) ?_;with_reducible refine (r09_Copy.calls kj2 _ _ l0_0 a0_1 t537 t540 _ ?side1 ?side2 A17.out).mono ?_
       (case side1 => exact Kd.C_below HR0_0.out (BB HB))
       (case side2 => exact HC0_0.out)
       rintro e w27 ⟨v538,rfl,ho0,hb⟩;refine ⟨_,rfl,?_⟩;have HO539:=AM (Kd.S_lower ho0 (below_size (BB HB)));replace BK532:=BE BK532 hb;replace BK533:=BE BK533 hb;replace HB:=BS HB hb;(try clear hb)
       (try clear hb2)
       (try clear hk)
       (try clear hi)
       (try clear ho0)
       obtain ⟨Ao28,co28,eo28⟩:=Kd.S_slice HO539.out;(first | subst eo28 | (injection eo28 with f1_ f2_ f3_;have f4_:=f1_.symm;have f5_:=f3_.symm;clear f1_ f2_ f3_;subst f4_;subst f5_))
       refine hK.out _ _ ⟨(blk_cell BK532.out 0).trans rfl,(blk_cell BK532.out 1).trans rfl,(blk_cell BK533.out 0).trans rfl,(blk_cell BK533.out 1).trans rfl,(blk_cell BK533.out 2).trans rfl,(blk_cell BK533.out 3).trans rfl,(blk_cell BK533.out 4).trans rfl⟩ (fun hHeld => ?_);clear hK K;refine norm_ (a':=?_) ?_ ?_
       rotate_left
       ·show Act.put _ (some 22) _ = _
        simp only [Act.put,List.setIfInBounds_toArray,List.set_cons_zero,List.set_cons_succ,i64_w,i32_w];rfl
       refine one_ (i:=3) (N:=some 24) #[true,true,true,true,false,false,false,false,false] rfl rfl (one_of HT_.out (by kernel_rfl)) (by decide) (fun K hK => ?_);refine goes_ Tryd.func15 (by kernel_rfl) rfl #[.agg #[.slice Ao28 t537.length co28,.int .i64 t540],.agg #[.int .i64 a1_0,.int .i64 a1_1,.int .i64 a1_2,.int .i64 a1_3,.int .i64 a1_4]] (by rfl) rfl rfl (by (try simp only [List.map_toArray,List.map_cons,List.map_nil]);first | done | rfl | (simp only [List.length_drop,List.length_take];rfl)) ?_;with_reducible refine (limit_Valid.calls kj2 _ _ t537 t540 a1_0 a1_1 a1_2 a1_3 a1_4 t541 t542 _ ?sideT ?side1 ?side2 A18.out).mono ?_
       (case sideT => exact fun w_ hb_ => HTB_.out w_ (below_step (BB HB) hb_))
       (case side1 => exact CS HO539)
       (case side2 => exact (Kd.S_reads' HO539.out).2.1)
       rintro e w29 ⟨rfl,hb⟩;refine ⟨_,rfl,?_⟩;replace HO539:=AM (Kd.S_below (SL HO539) hb);replace BK532:=BE BK532 hb;replace BK533:=BE BK533 hb;replace HB:=BS HB hb;(try clear hb)
       (try clear hb2)
       (try clear hk)
       (try clear hi)
       refine hK.out _ _ ⟨(blk_cell BK532.out 0).trans rfl,(blk_cell BK532.out 1).trans rfl,(blk_cell BK533.out 0).trans rfl,(blk_cell BK533.out 1).trans rfl,(blk_cell BK533.out 2).trans rfl,(blk_cell BK533.out 3).trans rfl,(blk_cell BK533.out 4).trans rfl⟩ (fun hHeld => ?_);clear hK K;refine norm_ (a':=?_) ?_ ?_
       rotate_left
       ·show Act.put _ (some 24) _ = _
        simp only [Act.put,List.setIfInBounds_toArray,List.set_cons_zero,List.set_cons_succ,i64_w,i32_w];rfl
       refine pure_ (i:=4) (N:=some 20) (v:=?_) (a':=?_) #[true,true,true,true,true,false,false,false,false] rfl rfl (any_of HT_.out (by kernel_rfl)) (fun _ _ _ h => h) (Or.inl ⟨by rfl,?_⟩) ?_ ?_
       rotate_left
       ·intro w';go_simp
        with_reducible rfl
       rotate_left
       ·simp only [Act.put,List.setIfInBounds_toArray,List.set_cons_zero,List.set_cons_succ,i64_w,i32_w];rfl
       refine pure_ (i:=5) (N:=some 25) (v:=?_) (a':=?_) #[true,true,true,true,true,true,false,false,false] rfl rfl (any_of HT_.out (by kernel_rfl)) (fun _ _ _ h => h) (Or.inl ⟨by rfl,?_⟩) ?_ ?_
       rotate_left
       ·intro w';go_simp
        with_reducible rfl
       rotate_left
       ·simp only [Act.put,List.setIfInBounds_toArray,List.set_cons_zero,List.set_cons_succ,i64_w,i32_w];rfl
       refine pure_ (i:=6) (N:=some 26) (v:=?_) (a':=?_) #[true,true,true,true,true,true,true,false,false] rfl rfl (any_of HT_.out (by kernel_rfl)) (fun _ _ _ h => h) (Or.inl ⟨by rfl,?_⟩) ?_ ?_
       rotate_left
       ·intro w';go_simp
        with_reducible rfl
       rotate_left
       ·simp only [Act.put,List.setIfInBounds_toArray,List.set_cons_zero,List.set_cons_succ,i64_w,i32_w];rfl
       refine pure_ (i:=7) (N:=some 5) (v:=?_) (a':=?_) #[true,true,true,true,true,true,true,true,false] rfl rfl (any_of HT_.out (by kernel_rfl)) (fun _ _ _ h => h) (Or.inl ⟨by rfl,?_⟩) ?_ ?_
       rotate_left
       ·intro w';go_simp
        with_reducible rfl
       rotate_left
       ·simp only [Act.put,List.setIfInBounds_toArray,List.set_cons_zero,List.set_cons_succ,i64_w,i32_w];rfl
       refine pure_ (i:=8) (N:=some 6) (v:=?_) (a':=?_) #[true,true,true,true,true,true,true,true,true] rfl rfl (any_of HT_.out (by kernel_rfl)) (fun _ _ _ h => h) (Or.inl ⟨by rfl,?_⟩) ?_ ?_
       rotate_left
       ·intro w';go_simp
        with_reducible rfl
       rotate_left
       ·simp only [Act.put,List.setIfInBounds_toArray,List.set_cons_zero,List.set_cons_succ,i64_w,i32_w];rfl
       refine done_ (done_of HT_.out (by kernel_rfl)) ?_;have hnb30:=NB532_533.out;have hnc30:=NB533_532.out;have hcz31_0:=BC BK532 0 (.slice A0_0 l0_0.length c0_0) rfl;have hcz31_1:=BC BK532 1 (.int .i64 a0_1) rfl;have hfz31_0:=BF BK532 0;have hfz31_1:=BF BK532 1;have hcz32_0:=BC BK533 0 (.int .i64 a1_0) rfl;have hcz32_1:=BC BK533 1 (.int .i64 a1_1) rfl;have hcz32_2:=BC BK533 2 (.int .i64 a1_2) rfl;have hcz32_3:=BC BK533 3 (.int .i64 a1_3) rfl;have hcz32_4:=BC BK533 4 (.int .i64 a1_4) rfl;have hfz32_0:=BF BK533 0;have hfz32_1:=BF BK533 1;have hfz32_2:=BF BK533 2;have hfz32_3:=BF BK533 3;have hfz32_4:=BF BK533 4;try go_wp2_with (first | ((with_reducible refine gate_callee (f:=17) rfl ?_);refine goesM_ (some 30) rfl rfl Tryd.func17 #[.agg #[.slice A0_0 l0_0.length c0_0,.int .i64 a0_1],.agg #[.int .i64 a1_0,.int .i64 a1_1,.int .i64 a1_2,.int .i64 a1_3,.int .i64 a1_4]] rfl ?_;(with_reducible refine (r12_Valid.calls kj2 _ _ l0_0 a0_1 a1_0 a1_1 a1_2 a1_3 a1_4 t543 t544 _ ?side1 ?side2 A19.out).mono ?_);(case side1 => exact Kd.C_below HR0_0.out (BB HB));(case side2 => exact HC0_0.out);rintro e w33 ⟨rfl,hb⟩;refine ⟨_,rfl,?_⟩;replace HO539:=AM (Kd.S_below (SL HO539) hb);replace BK532:=BE BK532 hb;replace BK533:=BE BK533 hb;replace HB:=BS HB hb;(try clear hb);(try clear hb2);(try clear hk);(try clear hi);have hcz34_0:=BC BK532 0 (.slice A0_0 l0_0.length c0_0) rfl;have hcz34_1:=BC BK532 1 (.int .i64 a0_1) rfl;have hfz34_0:=BF BK532 0;have hfz34_1:=BF BK532 1) | ((with_reducible refine gate_callee (f:=16) rfl ?_);refine goesM_ (some 35) rfl rfl Tryd.func16 #[.agg #[.slice A0_0 l0_0.length c0_0,.int .i64 a0_1]] rfl ?_;(with_reducible refine (r09_Copy.calls kj2 _ _ l0_0 a0_1 t545 t548 _ ?side1 ?side2 A20.out).mono ?_);(case side1 => exact Kd.C_below HR0_0.out (BB HB));(case side2 => exact HC0_0.out);rintro e w35 ⟨v546,rfl,ho0,hb⟩;refine ⟨_,rfl,?_⟩;have HO547:=AM (Kd.S_lower (Kd.S_new' ho0 (Kd.S_lt (SL HO539))) (below_size (BB HB)));replace HO539:=AM (Kd.S_elder' (SL HO539) (Kd.S_base ho0) hb);replace BK532:=BE BK532 hb;replace BK533:=BE BK533 hb;replace HB:=BS HB hb;(try clear hb);(try clear hb2);(try clear hk);(try clear hi);(try clear ho0);obtain ⟨Ao36,co36,eo36⟩:=Kd.S_slice HO547.out;subst eo36) | ((with_reducible refine gate_callee (f:=18) rfl ?_);refine goesM_ (some 36) rfl rfl Tryd.func18 #[.agg #[.slice Ao36 t545.length co36,.int .i64 t548]] rfl ?_;(with_reducible refine (limit_Typed.calls kj2 _ _ t545 t548 t549 t550 _ ?sideT ?side1 ?side2 A21.out).mono ?_);(case sideT => exact fun w_ hb_ => HTB_.out w_ (below_step (BB HB) hb_));(case side1 => exact CS HO547);(case side2 => exact (Kd.S_reads' HO547.out).2.1);rintro e w37 ⟨rfl,hb⟩;refine ⟨_,rfl,?_⟩;replace HO539:=AM (Kd.S_below (SL HO539) hb);replace HO547:=AM (Kd.S_below (SL HO547) hb);replace BK532:=BE BK532 hb;replace BK533:=BE BK533 hb;replace HB:=BS HB hb;(try clear hb);(try clear hb2);(try clear hk);(try clear hi);have hcz38_0:=BC BK532 0 (.slice A0_0 l0_0.length c0_0) rfl;have hcz38_1:=BC BK532 1 (.int .i64 a0_1) rfl;have hfz38_0:=BF BK532 0;have hfz38_1:=BF BK532 1) | ((with_reducible refine gate_callee (f:=19) rfl ?_);refine goesM_ (some 41) rfl rfl Tryd.func19 #[.agg #[.slice A0_0 l0_0.length c0_0,.int .i64 a0_1],.int .i64 2] rfl ?_;(with_reducible refine (r12_Typed.calls kj2 _ _ l0_0 a0_1 2 t551 t552 _ ?side1 ?side2 A22.out).mono ?_);(case side1 => exact Kd.C_below HR0_0.out (BB HB));(case side2 => exact HC0_0.out);rintro e w39 ⟨rfl,hb⟩;refine ⟨_,rfl,?_⟩;replace HO539:=AM (Kd.S_below (SL HO539) hb);replace HO547:=AM (Kd.S_below (SL HO547) hb);replace BK532:=BE BK532 hb;replace BK533:=BE BK533 hb;replace HB:=BS HB hb;(try clear hb);(try clear hb2);(try clear hk);(try clear hi)))
       go_ret;exact RT (BB HB)
      ·rw [if_neg c25] at H;have c25b0:(t549 == t551) = false:=beq_eq_false_iff_ne.mpr c25;have c25b1:(t549 != t551) = true:=bne_iff_ne.mpr c25;obtain rfl:=Option.some.inj H;try go_wp2
       replace BK532:=AM (blk_drew BK532.out);replace BK533:=AM (blk_drew BK533.out);replace HB:=AM (below_drew1 HB.out);refine start_ (n:=9) (S:=fun w' => w'.cell? ⟨gb532,0,none⟩ = some (.slice A0_0 l0_0.length c0_0)∧w'.cell? ⟨gb532,1,none⟩ = some (.int .i64 a0_1)∧w'.cell? ⟨gb533,0,none⟩ = some (.int .i64 a1_0)∧w'.cell? ⟨gb533,1,none⟩ = some (.int .i64 a1_1)∧w'.cell? ⟨gb533,2,none⟩ = some (.int .i64 a1_2)∧w'.cell? ⟨gb533,3,none⟩ = some (.int .i64 a1_3)∧w'.cell? ⟨gb533,4,none⟩ = some (.int .i64 a1_4)) (ds:=[]) #[false,false,false,false,false,false,false,false,false] (by kernel_rfl) rfl rfl ⟨(blk_cell BK532.out 0).trans rfl,(blk_cell BK532.out 1).trans rfl,(blk_cell BK533.out 0).trans rfl,(blk_cell BK533.out 1).trans rfl,(blk_cell BK533.out 2).trans rfl,(blk_cell BK533.out 3).trans rfl,(blk_cell BK533.out 4).trans rfl⟩ (fun hHeld => ?_);refine with_tabW w12_LimitValid.tab3 w12_LimitValid.bits3 (fun HT_ HW_ => ?_);generalize wc.drew = w40 at BK532 BK533 HB hHeld ⊢;refine take_ (i:=0) (N:=some 21) (v:=?_) (a':=?_) #[true,false,false,false,false,false,false,false,false] rfl rfl (take_ofW HT_.out HW_.out (by kernel_rfl)) (fun _ _ _ h => h) (Or.inl ⟨by rfl,?_⟩) hHeld ?_ ?_
       rotate_left
       ·rintro w' ⟨s0,s1,s2,s3,s4,s5,s6⟩;go_simp
        with_reducible rfl
       rotate_left
       ·simp only [Act.put,List.setIfInBounds_toArray,List.set_cons_zero,List.set_cons_succ,i64_w,i32_w];rfl
       refine take_ (i:=2) (N:=some 23) (v:=?_) (a':=?_) #[true,false,true,false,false,false,false,false,false] rfl rfl (take_ofW HT_.out HW_.out (by kernel_rfl)) (fun _ _ _ h => h) (Or.inl ⟨by rfl,?_⟩) hHeld ?_ ?_
       rotate_left
       ·rintro w' ⟨s0,s1,s2,s3,s4,s5,s6⟩;go_simp
        with_reducible rfl
       rotate_left
       ·simp only [Act.put,List.setIfInBounds_toArray,List.set_cons_zero,List.set_cons_succ,i64_w,i32_w];rfl
       refine one_ (i:=1) (N:=some 22) #[true,true,true,false,false,false,false,false,false] rfl rfl (one_of HT_.out (by kernel_rfl)) (by decide) (fun K hK => ?_);refine goes_ Tryd.func16 (by kernel_rfl) rfl #[.agg #[.slice A0_0 l0_0.length c0_0,.int .i64 a0_1]] (by rfl) rfl rfl (by (try simp only [List.map_toArray,List.map_cons,List.map_nil]);first | done | rfl | (simp only [List.length_drop,List.length_take];rfl)) ?_;with_reducible refine (r09_Copy.calls kj2 _ _ l0_0 a0_1 t537 t540 _ ?side1 ?side2 A17.out).mono ?_
       (case side1 => exact Kd.C_below HR0_0.out (BB HB))
       (case side2 => exact HC0_0.out)
       rintro e w41 ⟨v538,rfl,ho0,hb⟩;refine ⟨_,rfl,?_⟩;have HO539:=AM (Kd.S_lower ho0 (below_size (BB HB)));replace BK532:=BE BK532 hb;replace BK533:=BE BK533 hb;replace HB:=BS HB hb;(try clear hb)
       (try clear hb2)
       (try clear hk)
       (try clear hi)
       (try clear ho0)
       obtain ⟨Ao42,co42,eo42⟩:=Kd.S_slice HO539.out;(first | subst eo42 | (injection eo42 with f1_ f2_ f3_;have f4_:=f1_.symm;have f5_:=f3_.symm;clear f1_ f2_ f3_;subst f4_;subst f5_))
       refine hK.out _ _ ⟨(blk_cell BK532.out 0).trans rfl,(blk_cell BK532.out 1).trans rfl,(blk_cell BK533.out 0).trans rfl,(blk_cell BK533.out 1).trans rfl,(blk_cell BK533.out 2).trans rfl,(blk_cell BK533.out 3).trans rfl,(blk_cell BK533.out 4).trans rfl⟩ (fun hHeld => ?_);clear hK K;refine norm_ (a':=?_) ?_ ?_
       rotate_left
       ·show Act.put _ (some 22) _ = _
        simp only [Act.put,List.setIfInBounds_toArray,List.set_cons_zero,List.set_cons_succ,i64_w,i32_w];rfl
       refine one_ (i:=3) (N:=some 24) #[true,true,true,true,false,false,false,false,false] rfl rfl (one_of HT_.out (by kernel_rfl)) (by decide) (fun K hK => ?_);refine goes_ Tryd.func15 (by kernel_rfl) rfl #[.agg #[.slice Ao42 t537.length co42,.int .i64 t540],.agg #[.int .i64 a1_0,.int .i64 a1_1,.int .i64 a1_2,.int .i64 a1_3,.int .i64 a1_4]] (by rfl) rfl rfl (by (try simp only [List.map_toArray,List.map_cons,List.map_nil]);first | done | rfl | (simp only [List.length_drop,List.length_take];rfl)) ?_;with_reducible refine (limit_Valid.calls kj2 _ _ t537 t540 a1_0 a1_1 a1_2 a1_3 a1_4 t541 t542 _ ?sideT ?side1 ?side2 A18.out).mono ?_
       (case sideT => exact fun w_ hb_ => HTB_.out w_ (below_step (BB HB) hb_))
       (case side1 => exact CS HO539)
       (case side2 => exact (Kd.S_reads' HO539.out).2.1)
       rintro e w43 ⟨rfl,hb⟩;refine ⟨_,rfl,?_⟩;replace HO539:=AM (Kd.S_below (SL HO539) hb);replace BK532:=BE BK532 hb;replace BK533:=BE BK533 hb;replace HB:=BS HB hb;(try clear hb)
       (try clear hb2)
       (try clear hk)
       (try clear hi)
       refine hK.out _ _ ⟨(blk_cell BK532.out 0).trans rfl,(blk_cell BK532.out 1).trans rfl,(blk_cell BK533.out 0).trans rfl,(blk_cell BK533.out 1).trans rfl,(blk_cell BK533.out 2).trans rfl,(blk_cell BK533.out 3).trans rfl,(blk_cell BK533.out 4).trans rfl⟩ (fun hHeld => ?_);clear hK K;refine norm_ (a':=?_) ?_ ?_
       rotate_left
       ·show Act.put _ (some 24) _ = _
        simp only [Act.put,List.setIfInBounds_toArray,List.set_cons_zero,List.set_cons_succ,i64_w,i32_w];rfl
       refine pure_ (i:=4) (N:=some 20) (v:=?_) (a':=?_) #[true,true,true,true,true,false,false,false,false] rfl rfl (any_of HT_.out (by kernel_rfl)) (fun _ _ _ h => h) (Or.inl ⟨by rfl,?_⟩) ?_ ?_
       rotate_left
       ·intro w';go_simp
        with_reducible rfl
       rotate_left
       ·simp only [Act.put,List.setIfInBounds_toArray,List.set_cons_zero,List.set_cons_succ,i64_w,i32_w];rfl
       refine pure_ (i:=5) (N:=some 25) (v:=?_) (a':=?_) #[true,true,true,true,true,true,false,false,false] rfl rfl (any_of HT_.out (by kernel_rfl)) (fun _ _ _ h => h) (Or.inl ⟨by rfl,?_⟩) ?_ ?_
       rotate_left
       ·intro w';go_simp
        with_reducible rfl
       rotate_left
       ·simp only [Act.put,List.setIfInBounds_toArray,List.set_cons_zero,List.set_cons_succ,i64_w,i32_w];rfl
       refine pure_ (i:=6) (N:=some 26) (v:=?_) (a':=?_) #[true,true,true,true,true,true,true,false,false] rfl rfl (any_of HT_.out (by kernel_rfl)) (fun _ _ _ h => h) (Or.inl ⟨by rfl,?_⟩) ?_ ?_
       rotate_left
       ·intro w';go_simp
        with_reducible rfl
       rotate_left
       ·simp only [Act.put,List.setIfInBounds_toArray,List.set_cons_zero,List.set_cons_succ,i64_w,i32_w];rfl
       refine pure_ (i:=7) (N:=some 5) (v:=?_) (a':=?_) #[true,true,true,true,true,true,true,true,false] rfl rfl (any_of HT_.out (by kernel_rfl)) (fun _ _ _ h => h) (Or.inl ⟨by rfl,?_⟩) ?_ ?_
       rotate_left
       ·intro w';go_simp
        with_reducible rfl
       rotate_left
       ·simp only [Act.put,List.setIfInBounds_toArray,List.set_cons_zero,List.set_cons_succ,i64_w,i32_w];rfl
       refine pure_ (i:=8) (N:=some 6) (v:=?_) (a':=?_) #[true,true,true,true,true,true,true,true,true] rfl rfl (any_of HT_.out (by kernel_rfl)) (fun _ _ _ h => h) (Or.inl ⟨by rfl,?_⟩) ?_ ?_
       rotate_left
       ·intro w';go_simp
        with_reducible rfl
       rotate_left
       ·simp only [Act.put,List.setIfInBounds_toArray,List.set_cons_zero,List.set_cons_succ,i64_w,i32_w];rfl
       refine done_ (done_of HT_.out (by kernel_rfl)) ?_;have hnb44:=NB532_533.out;have hnc44:=NB533_532.out;have hcz45_0:=BC BK532 0 (.slice A0_0 l0_0.length c0_0) rfl;have hcz45_1:=BC BK532 1 (.int .i64 a0_1) rfl;have hfz45_0:=BF BK532 0;have hfz45_1:=BF BK532 1;have hcz46_0:=BC BK533 0 (.int .i64 a1_0) rfl;have hcz46_1:=BC BK533 1 (.int .i64 a1_1) rfl;have hcz46_2:=BC BK533 2 (.int .i64 a1_2) rfl;have hcz46_3:=BC BK533 3 (.int .i64 a1_3) rfl;have hcz46_4:=BC BK533 4 (.int .i64 a1_4) rfl;have hfz46_0:=BF BK533 0;have hfz46_1:=BF BK533 1;have hfz46_2:=BF BK533 2;have hfz46_3:=BF BK533 3;have hfz46_4:=BF BK533 4;try go_wp2_with (first | ((with_reducible refine gate_callee (f:=17) rfl ?_);refine goesM_ (some 30) rfl rfl Tryd.func17 #[.agg #[.slice A0_0 l0_0.length c0_0,.int .i64 a0_1],.agg #[.int .i64 a1_0,.int .i64 a1_1,.int .i64 a1_2,.int .i64 a1_3,.int .i64 a1_4]] rfl ?_;(with_reducible refine (r12_Valid.calls kj2 _ _ l0_0 a0_1 a1_0 a1_1 a1_2 a1_3 a1_4 t543 t544 _ ?side1 ?side2 A19.out).mono ?_);(case side1 => exact Kd.C_below HR0_0.out (BB HB));(case side2 => exact HC0_0.out);rintro e w47 ⟨rfl,hb⟩;refine ⟨_,rfl,?_⟩;replace HO539:=AM (Kd.S_below (SL HO539) hb);replace BK532:=BE BK532 hb;replace BK533:=BE BK533 hb;replace HB:=BS HB hb;(try clear hb);(try clear hb2);(try clear hk);(try clear hi);have hcz48_0:=BC BK532 0 (.slice A0_0 l0_0.length c0_0) rfl;have hcz48_1:=BC BK532 1 (.int .i64 a0_1) rfl;have hfz48_0:=BF BK532 0;have hfz48_1:=BF BK532 1) | ((with_reducible refine gate_callee (f:=16) rfl ?_);refine goesM_ (some 35) rfl rfl Tryd.func16 #[.agg #[.slice A0_0 l0_0.length c0_0,.int .i64 a0_1]] rfl ?_;(with_reducible refine (r09_Copy.calls kj2 _ _ l0_0 a0_1 t545 t548 _ ?side1 ?side2 A20.out).mono ?_);(case side1 => exact Kd.C_below HR0_0.out (BB HB));(case side2 => exact HC0_0.out);rintro e w49 ⟨v546,rfl,ho0,hb⟩;refine ⟨_,rfl,?_⟩;have HO547:=AM (Kd.S_lower (Kd.S_new' ho0 (Kd.S_lt (SL HO539))) (below_size (BB HB)));replace HO539:=AM (Kd.S_elder' (SL HO539) (Kd.S_base ho0) hb);replace BK532:=BE BK532 hb;replace BK533:=BE BK533 hb;replace HB:=BS HB hb;(try clear hb);(try clear hb2);(try clear hk);(try clear hi);(try clear ho0);obtain ⟨Ao50,co50,eo50⟩:=Kd.S_slice HO547.out;subst eo50) | ((with_reducible refine gate_callee (f:=18) rfl ?_);refine goesM_ (some 36) rfl rfl Tryd.func18 #[.agg #[.slice Ao50 t545.length co50,.int .i64 t548]] rfl ?_;(with_reducible refine (limit_Typed.calls kj2 _ _ t545 t548 t549 t550 _ ?sideT ?side1 ?side2 A21.out).mono ?_);(case sideT => exact fun w_ hb_ => HTB_.out w_ (below_step (BB HB) hb_));(case side1 => exact CS HO547);(case side2 => exact (Kd.S_reads' HO547.out).2.1);rintro e w51 ⟨rfl,hb⟩;refine ⟨_,rfl,?_⟩;replace HO539:=AM (Kd.S_below (SL HO539) hb);replace HO547:=AM (Kd.S_below (SL HO547) hb);replace BK532:=BE BK532 hb;replace BK533:=BE BK533 hb;replace HB:=BS HB hb;(try clear hb);(try clear hb2);(try clear hk);(try clear hi);have hcz52_0:=BC BK532 0 (.slice A0_0 l0_0.length c0_0) rfl;have hcz52_1:=BC BK532 1 (.int .i64 a0_1) rfl;have hfz52_0:=BF BK532 0;have hfz52_1:=BF BK532 1) | ((with_reducible refine gate_callee (f:=19) rfl ?_);refine goesM_ (some 41) rfl rfl Tryd.func19 #[.agg #[.slice A0_0 l0_0.length c0_0,.int .i64 a0_1],.int .i64 2] rfl ?_;(with_reducible refine (r12_Typed.calls kj2 _ _ l0_0 a0_1 2 t551 t552 _ ?side1 ?side2 A22.out).mono ?_);(case side1 => exact Kd.C_below HR0_0.out (BB HB));(case side2 => exact HC0_0.out);rintro e w53 ⟨rfl,hb⟩;refine ⟨_,rfl,?_⟩;replace HO539:=AM (Kd.S_below (SL HO539) hb);replace HO547:=AM (Kd.S_below (SL HO547) hb);replace BK532:=BE BK532 hb;replace BK533:=BE BK533 hb;replace HB:=BS HB hb;(try clear hb);(try clear hb2);(try clear hk);(try clear hi)))
       go_ret;exact RT (BB HB)
     ·rw [if_neg c24] at H;have c24b0:(t542 == t544) = false:=beq_eq_false_iff_ne.mpr c24;have c24b1:(t542 != t544) = true:=bne_iff_ne.mpr c24;obtain rfl:=Option.some.inj H;try go_wp2
      replace BK532:=AM (blk_drew BK532.out);replace BK533:=AM (blk_drew BK533.out);replace HB:=AM (below_drew1 HB.out);refine start_ (n:=9) (S:=fun w' => w'.cell? ⟨gb532,0,none⟩ = some (.slice A0_0 l0_0.length c0_0)∧w'.cell? ⟨gb532,1,none⟩ = some (.int .i64 a0_1)∧w'.cell? ⟨gb533,0,none⟩ = some (.int .i64 a1_0)∧w'.cell? ⟨gb533,1,none⟩ = some (.int .i64 a1_1)∧w'.cell? ⟨gb533,2,none⟩ = some (.int .i64 a1_2)∧w'.cell? ⟨gb533,3,none⟩ = some (.int .i64 a1_3)∧w'.cell? ⟨gb533,4,none⟩ = some (.int .i64 a1_4)) (ds:=[]) #[false,false,false,false,false,false,false,false,false] (by kernel_rfl) rfl rfl ⟨(blk_cell BK532.out 0).trans rfl,(blk_cell BK532.out 1).trans rfl,(blk_cell BK533.out 0).trans rfl,(blk_cell BK533.out 1).trans rfl,(blk_cell BK533.out 2).trans rfl,(blk_cell BK533.out 3).trans rfl,(blk_cell BK533.out 4).trans rfl⟩ (fun hHeld => ?_);refine with_tabW w12_LimitValid.tab3 w12_LimitValid.bits3 (fun HT_ HW_ => ?_);generalize wc.drew = w54 at BK532 BK533 HB hHeld ⊢;refine take_ (i:=0) (N:=some 21) (v:=?_) (a':=?_) #[true,false,false,false,false,false,false,false,false] rfl rfl (take_ofW HT_.out HW_.out (by kernel_rfl)) (fun _ _ _ h => h) (Or.inl ⟨by rfl,?_⟩) hHeld ?_ ?_
      rotate_left
      ·rintro w' ⟨s0,s1,s2,s3,s4,s5,s6⟩;go_simp
       with_reducible rfl
      rotate_left
      ·simp only [Act.put,List.setIfInBounds_toArray,List.set_cons_zero,List.set_cons_succ,i64_w,i32_w];rfl
      refine take_ (i:=2) (N:=some 23) (v:=?_) (a':=?_) #[true,false,true,false,false,false,false,false,false] rfl rfl (take_ofW HT_.out HW_.out (by kernel_rfl)) (fun _ _ _ h => h) (Or.inl ⟨by rfl,?_⟩) hHeld ?_ ?_
      rotate_left
      ·rintro w' ⟨s0,s1,s2,s3,s4,s5,s6⟩;go_simp
       with_reducible rfl
      rotate_left
      ·simp only [Act.put,List.setIfInBounds_toArray,List.set_cons_zero,List.set_cons_succ,i64_w,i32_w];rfl
      refine one_ (i:=1) (N:=some 22) #[true,true,true,false,false,false,false,false,false] rfl rfl (one_of HT_.out (by kernel_rfl)) (by decide) (fun K hK => ?_);refine goes_ Tryd.func16 (by kernel_rfl) rfl #[.agg #[.slice A0_0 l0_0.length c0_0,.int .i64 a0_1]] (by rfl) rfl rfl (by (try simp only [List.map_toArray,List.map_cons,List.map_nil]);first | done | rfl | (simp only [List.length_drop,List.length_take];rfl)) ?_;with_reducible refine (r09_Copy.calls kj2 _ _ l0_0 a0_1 t537 t540 _ ?side1 ?side2 A17.out).mono ?_
      (case side1 => exact Kd.C_below HR0_0.out (BB HB))
      (case side2 => exact HC0_0.out)
      rintro e w55 ⟨v538,rfl,ho0,hb⟩;refine ⟨_,rfl,?_⟩;have HO539:=AM (Kd.S_lower ho0 (below_size (BB HB)));replace BK532:=BE BK532 hb;replace BK533:=BE BK533 hb;replace HB:=BS HB hb;(try clear hb)
      (try clear hb2)
      (try clear hk)
      (try clear hi)
      (try clear ho0)
      obtain ⟨Ao56,co56,eo56⟩:=Kd.S_slice HO539.out;(first | subst eo56 | (injection eo56 with f1_ f2_ f3_;have f4_:=f1_.symm;have f5_:=f3_.symm;clear f1_ f2_ f3_;subst f4_;subst f5_))
      refine hK.out _ _ ⟨(blk_cell BK532.out 0).trans rfl,(blk_cell BK532.out 1).trans rfl,(blk_cell BK533.out 0).trans rfl,(blk_cell BK533.out 1).trans rfl,(blk_cell BK533.out 2).trans rfl,(blk_cell BK533.out 3).trans rfl,(blk_cell BK533.out 4).trans rfl⟩ (fun hHeld => ?_);clear hK K;refine norm_ (a':=?_) ?_ ?_
      rotate_left
      ·show Act.put _ (some 22) _ = _
       simp only [Act.put,List.setIfInBounds_toArray,List.set_cons_zero,List.set_cons_succ,i64_w,i32_w];rfl
      refine one_ (i:=3) (N:=some 24) #[true,true,true,true,false,false,false,false,false] rfl rfl (one_of HT_.out (by kernel_rfl)) (by decide) (fun K hK => ?_);refine goes_ Tryd.func15 (by kernel_rfl) rfl #[.agg #[.slice Ao56 t537.length co56,.int .i64 t540],.agg #[.int .i64 a1_0,.int .i64 a1_1,.int .i64 a1_2,.int .i64 a1_3,.int .i64 a1_4]] (by rfl) rfl rfl (by (try simp only [List.map_toArray,List.map_cons,List.map_nil]);first | done | rfl | (simp only [List.length_drop,List.length_take];rfl)) ?_;with_reducible refine (limit_Valid.calls kj2 _ _ t537 t540 a1_0 a1_1 a1_2 a1_3 a1_4 t541 t542 _ ?sideT ?side1 ?side2 A18.out).mono ?_
      (case sideT => exact fun w_ hb_ => HTB_.out w_ (below_step (BB HB) hb_))
      (case side1 => exact CS HO539)
      (case side2 => exact (Kd.S_reads' HO539.out).2.1)
      rintro e w57 ⟨rfl,hb⟩;refine ⟨_,rfl,?_⟩;replace HO539:=AM (Kd.S_below (SL HO539) hb);replace BK532:=BE BK532 hb;replace BK533:=BE BK533 hb;replace HB:=BS HB hb;(try clear hb)
      (try clear hb2)
      (try clear hk)
      (try clear hi)
      refine hK.out _ _ ⟨(blk_cell BK532.out 0).trans rfl,(blk_cell BK532.out 1).trans rfl,(blk_cell BK533.out 0).trans rfl,(blk_cell BK533.out 1).trans rfl,(blk_cell BK533.out 2).trans rfl,(blk_cell BK533.out 3).trans rfl,(blk_cell BK533.out 4).trans rfl⟩ (fun hHeld => ?_);clear hK K;refine norm_ (a':=?_) ?_ ?_
      rotate_left
      ·show Act.put _ (some 24) _ = _
       simp only [Act.put,List.setIfInBounds_toArray,List.set_cons_zero,List.set_cons_succ,i64_w,i32_w];rfl
      refine pure_ (i:=4) (N:=some 20) (v:=?_) (a':=?_) #[true,true,true,true,true,false,false,false,false] rfl rfl (any_of HT_.out (by kernel_rfl)) (fun _ _ _ h => h) (Or.inl ⟨by rfl,?_⟩) ?_ ?_
      rotate_left
      ·intro w';go_simp
       with_reducible rfl
      rotate_left
      ·simp only [Act.put,List.setIfInBounds_toArray,List.set_cons_zero,List.set_cons_succ,i64_w,i32_w];rfl
      refine pure_ (i:=5) (N:=some 25) (v:=?_) (a':=?_) #[true,true,true,true,true,true,false,false,false] rfl rfl (any_of HT_.out (by kernel_rfl)) (fun _ _ _ h => h) (Or.inl ⟨by rfl,?_⟩) ?_ ?_
      rotate_left
      ·intro w';go_simp
       with_reducible rfl
      rotate_left
      ·simp only [Act.put,List.setIfInBounds_toArray,List.set_cons_zero,List.set_cons_succ,i64_w,i32_w];rfl
      refine pure_ (i:=6) (N:=some 26) (v:=?_) (a':=?_) #[true,true,true,true,true,true,true,false,false] rfl rfl (any_of HT_.out (by kernel_rfl)) (fun _ _ _ h => h) (Or.inl ⟨by rfl,?_⟩) ?_ ?_
      rotate_left
      ·intro w';go_simp
       with_reducible rfl
      rotate_left
      ·simp only [Act.put,List.setIfInBounds_toArray,List.set_cons_zero,List.set_cons_succ,i64_w,i32_w];rfl
      refine pure_ (i:=7) (N:=some 5) (v:=?_) (a':=?_) #[true,true,true,true,true,true,true,true,false] rfl rfl (any_of HT_.out (by kernel_rfl)) (fun _ _ _ h => h) (Or.inl ⟨by rfl,?_⟩) ?_ ?_
      rotate_left
      ·intro w';go_simp
       with_reducible rfl
      rotate_left
      ·simp only [Act.put,List.setIfInBounds_toArray,List.set_cons_zero,List.set_cons_succ,i64_w,i32_w];rfl
      refine pure_ (i:=8) (N:=some 6) (v:=?_) (a':=?_) #[true,true,true,true,true,true,true,true,true] rfl rfl (any_of HT_.out (by kernel_rfl)) (fun _ _ _ h => h) (Or.inl ⟨by rfl,?_⟩) ?_ ?_
      rotate_left
      ·intro w';go_simp
       with_reducible rfl
      rotate_left
      ·simp only [Act.put,List.setIfInBounds_toArray,List.set_cons_zero,List.set_cons_succ,i64_w,i32_w];rfl
      refine done_ (done_of HT_.out (by kernel_rfl)) ?_;have hnb58:=NB532_533.out;have hnc58:=NB533_532.out;have hcz59_0:=BC BK532 0 (.slice A0_0 l0_0.length c0_0) rfl;have hcz59_1:=BC BK532 1 (.int .i64 a0_1) rfl;have hfz59_0:=BF BK532 0;have hfz59_1:=BF BK532 1;have hcz60_0:=BC BK533 0 (.int .i64 a1_0) rfl;have hcz60_1:=BC BK533 1 (.int .i64 a1_1) rfl;have hcz60_2:=BC BK533 2 (.int .i64 a1_2) rfl;have hcz60_3:=BC BK533 3 (.int .i64 a1_3) rfl;have hcz60_4:=BC BK533 4 (.int .i64 a1_4) rfl;have hfz60_0:=BF BK533 0;have hfz60_1:=BF BK533 1;have hfz60_2:=BF BK533 2;have hfz60_3:=BF BK533 3;have hfz60_4:=BF BK533 4;try go_wp2_with (first | ((with_reducible refine gate_callee (f:=17) rfl ?_);refine goesM_ (some 30) rfl rfl Tryd.func17 #[.agg #[.slice A0_0 l0_0.length c0_0,.int .i64 a0_1],.agg #[.int .i64 a1_0,.int .i64 a1_1,.int .i64 a1_2,.int .i64 a1_3,.int .i64 a1_4]] rfl ?_;(with_reducible refine (r12_Valid.calls kj2 _ _ l0_0 a0_1 a1_0 a1_1 a1_2 a1_3 a1_4 t543 t544 _ ?side1 ?side2 A19.out).mono ?_);(case side1 => exact Kd.C_below HR0_0.out (BB HB));(case side2 => exact HC0_0.out);rintro e w61 ⟨rfl,hb⟩;refine ⟨_,rfl,?_⟩;replace HO539:=AM (Kd.S_below (SL HO539) hb);replace BK532:=BE BK532 hb;replace BK533:=BE BK533 hb;replace HB:=BS HB hb;(try clear hb);(try clear hb2);(try clear hk);(try clear hi);have hcz62_0:=BC BK532 0 (.slice A0_0 l0_0.length c0_0) rfl;have hcz62_1:=BC BK532 1 (.int .i64 a0_1) rfl;have hfz62_0:=BF BK532 0;have hfz62_1:=BF BK532 1) | ((with_reducible refine gate_callee (f:=16) rfl ?_);refine goesM_ (some 35) rfl rfl Tryd.func16 #[.agg #[.slice A0_0 l0_0.length c0_0,.int .i64 a0_1]] rfl ?_;(with_reducible refine (r09_Copy.calls kj2 _ _ l0_0 a0_1 t545 t548 _ ?side1 ?side2 A20.out).mono ?_);(case side1 => exact Kd.C_below HR0_0.out (BB HB));(case side2 => exact HC0_0.out);rintro e w63 ⟨v546,rfl,ho0,hb⟩;refine ⟨_,rfl,?_⟩;have HO547:=AM (Kd.S_lower (Kd.S_new' ho0 (Kd.S_lt (SL HO539))) (below_size (BB HB)));replace HO539:=AM (Kd.S_elder' (SL HO539) (Kd.S_base ho0) hb);replace BK532:=BE BK532 hb;replace BK533:=BE BK533 hb;replace HB:=BS HB hb;(try clear hb);(try clear hb2);(try clear hk);(try clear hi);(try clear ho0);obtain ⟨Ao64,co64,eo64⟩:=Kd.S_slice HO547.out;subst eo64) | ((with_reducible refine gate_callee (f:=18) rfl ?_);refine goesM_ (some 36) rfl rfl Tryd.func18 #[.agg #[.slice Ao64 t545.length co64,.int .i64 t548]] rfl ?_;(with_reducible refine (limit_Typed.calls kj2 _ _ t545 t548 t549 t550 _ ?sideT ?side1 ?side2 A21.out).mono ?_);(case sideT => exact fun w_ hb_ => HTB_.out w_ (below_step (BB HB) hb_));(case side1 => exact CS HO547);(case side2 => exact (Kd.S_reads' HO547.out).2.1);rintro e w65 ⟨rfl,hb⟩;refine ⟨_,rfl,?_⟩;replace HO539:=AM (Kd.S_below (SL HO539) hb);replace HO547:=AM (Kd.S_below (SL HO547) hb);replace BK532:=BE BK532 hb;replace BK533:=BE BK533 hb;replace HB:=BS HB hb;(try clear hb);(try clear hb2);(try clear hk);(try clear hi);have hcz66_0:=BC BK532 0 (.slice A0_0 l0_0.length c0_0) rfl;have hcz66_1:=BC BK532 1 (.int .i64 a0_1) rfl;have hfz66_0:=BF BK532 0;have hfz66_1:=BF BK532 1) | ((with_reducible refine gate_callee (f:=19) rfl ?_);refine goesM_ (some 41) rfl rfl Tryd.func19 #[.agg #[.slice A0_0 l0_0.length c0_0,.int .i64 a0_1],.int .i64 2] rfl ?_;(with_reducible refine (r12_Typed.calls kj2 _ _ l0_0 a0_1 2 t551 t552 _ ?side1 ?side2 A22.out).mono ?_);(case side1 => exact Kd.C_below HR0_0.out (BB HB));(case side2 => exact HC0_0.out);rintro e w67 ⟨rfl,hb⟩;refine ⟨_,rfl,?_⟩;replace HO539:=AM (Kd.S_below (SL HO539) hb);replace HO547:=AM (Kd.S_below (SL HO547) hb);replace BK532:=BE BK532 hb;replace BK533:=BE BK533 hb;replace HB:=BS HB hb;(try clear hb);(try clear hb2);(try clear hk);(try clear hi)))
      go_ret;exact RT (BB HB)
    ·rw [if_neg c23] at H;have c23b0:(t541 == t543) = false:=beq_eq_false_iff_ne.mpr c23;have c23b1:(t541 != t543) = true:=bne_iff_ne.mpr c23;obtain rfl:=Option.some.inj H;try go_wp2
     replace BK532:=AM (blk_drew BK532.out);replace BK533:=AM (blk_drew BK533.out);replace HB:=AM (below_drew1 HB.out);refine start_ (n:=9) (S:=fun w' => w'.cell? ⟨gb532,0,none⟩ = some (.slice A0_0 l0_0.length c0_0)∧w'.cell? ⟨gb532,1,none⟩ = some (.int .i64 a0_1)∧w'.cell? ⟨gb533,0,none⟩ = some (.int .i64 a1_0)∧w'.cell? ⟨gb533,1,none⟩ = some (.int .i64 a1_1)∧w'.cell? ⟨gb533,2,none⟩ = some (.int .i64 a1_2)∧w'.cell? ⟨gb533,3,none⟩ = some (.int .i64 a1_3)∧w'.cell? ⟨gb533,4,none⟩ = some (.int .i64 a1_4)) (ds:=[]) #[false,false,false,false,false,false,false,false,false] (by kernel_rfl) rfl rfl ⟨(blk_cell BK532.out 0).trans rfl,(blk_cell BK532.out 1).trans rfl,(blk_cell BK533.out 0).trans rfl,(blk_cell BK533.out 1).trans rfl,(blk_cell BK533.out 2).trans rfl,(blk_cell BK533.out 3).trans rfl,(blk_cell BK533.out 4).trans rfl⟩ (fun hHeld => ?_);refine with_tabW w12_LimitValid.tab3 w12_LimitValid.bits3 (fun HT_ HW_ => ?_);generalize wc.drew = w68 at BK532 BK533 HB hHeld ⊢;refine take_ (i:=0) (N:=some 21) (v:=?_) (a':=?_) #[true,false,false,false,false,false,false,false,false] rfl rfl (take_ofW HT_.out HW_.out (by kernel_rfl)) (fun _ _ _ h => h) (Or.inl ⟨by rfl,?_⟩) hHeld ?_ ?_
     rotate_left
     ·rintro w' ⟨s0,s1,s2,s3,s4,s5,s6⟩;go_simp
      with_reducible rfl
     rotate_left
     ·simp only [Act.put,List.setIfInBounds_toArray,List.set_cons_zero,List.set_cons_succ,i64_w,i32_w];rfl
     refine take_ (i:=2) (N:=some 23) (v:=?_) (a':=?_) #[true,false,true,false,false,false,false,false,false] rfl rfl (take_ofW HT_.out HW_.out (by kernel_rfl)) (fun _ _ _ h => h) (Or.inl ⟨by rfl,?_⟩) hHeld ?_ ?_
     rotate_left
     ·rintro w' ⟨s0,s1,s2,s3,s4,s5,s6⟩;go_simp
      with_reducible rfl
     rotate_left
     ·simp only [Act.put,List.setIfInBounds_toArray,List.set_cons_zero,List.set_cons_succ,i64_w,i32_w];rfl
     refine one_ (i:=1) (N:=some 22) #[true,true,true,false,false,false,false,false,false] rfl rfl (one_of HT_.out (by kernel_rfl)) (by decide) (fun K hK => ?_);refine goes_ Tryd.func16 (by kernel_rfl) rfl #[.agg #[.slice A0_0 l0_0.length c0_0,.int .i64 a0_1]] (by rfl) rfl rfl (by (try simp only [List.map_toArray,List.map_cons,List.map_nil]);first | done | rfl | (simp only [List.length_drop,List.length_take];rfl)) ?_;with_reducible refine (r09_Copy.calls kj2 _ _ l0_0 a0_1 t537 t540 _ ?side1 ?side2 A17.out).mono ?_
     (case side1 => exact Kd.C_below HR0_0.out (BB HB))
     (case side2 => exact HC0_0.out)
     rintro e w69 ⟨v538,rfl,ho0,hb⟩;refine ⟨_,rfl,?_⟩;have HO539:=AM (Kd.S_lower ho0 (below_size (BB HB)));replace BK532:=BE BK532 hb;replace BK533:=BE BK533 hb;replace HB:=BS HB hb;(try clear hb)
     (try clear hb2)
     (try clear hk)
     (try clear hi)
     (try clear ho0)
     obtain ⟨Ao70,co70,eo70⟩:=Kd.S_slice HO539.out;(first | subst eo70 | (injection eo70 with f1_ f2_ f3_;have f4_:=f1_.symm;have f5_:=f3_.symm;clear f1_ f2_ f3_;subst f4_;subst f5_))
     refine hK.out _ _ ⟨(blk_cell BK532.out 0).trans rfl,(blk_cell BK532.out 1).trans rfl,(blk_cell BK533.out 0).trans rfl,(blk_cell BK533.out 1).trans rfl,(blk_cell BK533.out 2).trans rfl,(blk_cell BK533.out 3).trans rfl,(blk_cell BK533.out 4).trans rfl⟩ (fun hHeld => ?_);clear hK K;refine norm_ (a':=?_) ?_ ?_
     rotate_left
     ·show Act.put _ (some 22) _ = _
      simp only [Act.put,List.setIfInBounds_toArray,List.set_cons_zero,List.set_cons_succ,i64_w,i32_w];rfl
     refine one_ (i:=3) (N:=some 24) #[true,true,true,true,false,false,false,false,false] rfl rfl (one_of HT_.out (by kernel_rfl)) (by decide) (fun K hK => ?_);refine goes_ Tryd.func15 (by kernel_rfl) rfl #[.agg #[.slice Ao70 t537.length co70,.int .i64 t540],.agg #[.int .i64 a1_0,.int .i64 a1_1,.int .i64 a1_2,.int .i64 a1_3,.int .i64 a1_4]] (by rfl) rfl rfl (by (try simp only [List.map_toArray,List.map_cons,List.map_nil]);first | done | rfl | (simp only [List.length_drop,List.length_take];rfl)) ?_;with_reducible refine (limit_Valid.calls kj2 _ _ t537 t540 a1_0 a1_1 a1_2 a1_3 a1_4 t541 t542 _ ?sideT ?side1 ?side2 A18.out).mono ?_
     (case sideT => exact fun w_ hb_ => HTB_.out w_ (below_step (BB HB) hb_))
     (case side1 => exact CS HO539)
     (case side2 => exact (Kd.S_reads' HO539.out).2.1)
     rintro e w71 ⟨rfl,hb⟩;refine ⟨_,rfl,?_⟩;replace HO539:=AM (Kd.S_below (SL HO539) hb);replace BK532:=BE BK532 hb;replace BK533:=BE BK533 hb;replace HB:=BS HB hb;(try clear hb)
     (try clear hb2)
     (try clear hk)
     (try clear hi)
     refine hK.out _ _ ⟨(blk_cell BK532.out 0).trans rfl,(blk_cell BK532.out 1).trans rfl,(blk_cell BK533.out 0).trans rfl,(blk_cell BK533.out 1).trans rfl,(blk_cell BK533.out 2).trans rfl,(blk_cell BK533.out 3).trans rfl,(blk_cell BK533.out 4).trans rfl⟩ (fun hHeld => ?_);clear hK K;refine norm_ (a':=?_) ?_ ?_
     rotate_left
     ·show Act.put _ (some 24) _ = _
      simp only [Act.put,List.setIfInBounds_toArray,List.set_cons_zero,List.set_cons_succ,i64_w,i32_w];rfl
     refine pure_ (i:=4) (N:=some 20) (v:=?_) (a':=?_) #[true,true,true,true,true,false,false,false,false] rfl rfl (any_of HT_.out (by kernel_rfl)) (fun _ _ _ h => h) (Or.inl ⟨by rfl,?_⟩) ?_ ?_
     rotate_left
     ·intro w';go_simp
      with_reducible rfl
     rotate_left
     ·simp only [Act.put,List.setIfInBounds_toArray,List.set_cons_zero,List.set_cons_succ,i64_w,i32_w];rfl
     refine pure_ (i:=5) (N:=some 25) (v:=?_) (a':=?_) #[true,true,true,true,true,true,false,false,false] rfl rfl (any_of HT_.out (by kernel_rfl)) (fun _ _ _ h => h) (Or.inl ⟨by rfl,?_⟩) ?_ ?_
     rotate_left
     ·intro w';go_simp
      with_reducible rfl
     rotate_left
     ·simp only [Act.put,List.setIfInBounds_toArray,List.set_cons_zero,List.set_cons_succ,i64_w,i32_w];rfl
     refine pure_ (i:=6) (N:=some 26) (v:=?_) (a':=?_) #[true,true,true,true,true,true,true,false,false] rfl rfl (any_of HT_.out (by kernel_rfl)) (fun _ _ _ h => h) (Or.inl ⟨by rfl,?_⟩) ?_ ?_
     rotate_left
     ·intro w';go_simp
      with_reducible rfl
     rotate_left
     ·simp only [Act.put,List.setIfInBounds_toArray,List.set_cons_zero,List.set_cons_succ,i64_w,i32_w];rfl
     refine pure_ (i:=7) (N:=some 5) (v:=?_) (a':=?_) #[true,true,true,true,true,true,true,true,false] rfl rfl (any_of HT_.out (by kernel_rfl)) (fun _ _ _ h => h) (Or.inl ⟨by rfl,?_⟩) ?_ ?_
     rotate_left
     ·intro w';go_simp
      with_reducible rfl
     rotate_left
     ·simp only [Act.put,List.setIfInBounds_toArray,List.set_cons_zero,List.set_cons_succ,i64_w,i32_w];rfl
     refine pure_ (i:=8) (N:=some 6) (v:=?_) (a':=?_) #[true,true,true,true,true,true,true,true,true] rfl rfl (any_of HT_.out (by kernel_rfl)) (fun _ _ _ h => h) (Or.inl ⟨by rfl,?_⟩) ?_ ?_
     rotate_left
     ·intro w';go_simp
      with_reducible rfl
     rotate_left
     ·simp only [Act.put,List.setIfInBounds_toArray,List.set_cons_zero,List.set_cons_succ,i64_w,i32_w];rfl
     refine done_ (done_of HT_.out (by kernel_rfl)) ?_;have hnb72:=NB532_533.out;have hnc72:=NB533_532.out;have hcz73_0:=BC BK532 0 (.slice A0_0 l0_0.length c0_0) rfl;have hcz73_1:=BC BK532 1 (.int .i64 a0_1) rfl;have hfz73_0:=BF BK532 0;have hfz73_1:=BF BK532 1;have hcz74_0:=BC BK533 0 (.int .i64 a1_0) rfl;have hcz74_1:=BC BK533 1 (.int .i64 a1_1) rfl;have hcz74_2:=BC BK533 2 (.int .i64 a1_2) rfl;have hcz74_3:=BC BK533 3 (.int .i64 a1_3) rfl;have hcz74_4:=BC BK533 4 (.int .i64 a1_4) rfl;have hfz74_0:=BF BK533 0;have hfz74_1:=BF BK533 1;have hfz74_2:=BF BK533 2;have hfz74_3:=BF BK533 3;have hfz74_4:=BF BK533 4;try go_wp2_with (first | ((with_reducible refine gate_callee (f:=17) rfl ?_);refine goesM_ (some 30) rfl rfl Tryd.func17 #[.agg #[.slice A0_0 l0_0.length c0_0,.int .i64 a0_1],.agg #[.int .i64 a1_0,.int .i64 a1_1,.int .i64 a1_2,.int .i64 a1_3,.int .i64 a1_4]] rfl ?_;(with_reducible refine (r12_Valid.calls kj2 _ _ l0_0 a0_1 a1_0 a1_1 a1_2 a1_3 a1_4 t543 t544 _ ?side1 ?side2 A19.out).mono ?_);(case side1 => exact Kd.C_below HR0_0.out (BB HB));(case side2 => exact HC0_0.out);rintro e w75 ⟨rfl,hb⟩;refine ⟨_,rfl,?_⟩;replace HO539:=AM (Kd.S_below (SL HO539) hb);replace BK532:=BE BK532 hb;replace BK533:=BE BK533 hb;replace HB:=BS HB hb;(try clear hb);(try clear hb2);(try clear hk);(try clear hi);have hcz76_0:=BC BK532 0 (.slice A0_0 l0_0.length c0_0) rfl;have hcz76_1:=BC BK532 1 (.int .i64 a0_1) rfl;have hfz76_0:=BF BK532 0;have hfz76_1:=BF BK532 1) | ((with_reducible refine gate_callee (f:=16) rfl ?_);refine goesM_ (some 35) rfl rfl Tryd.func16 #[.agg #[.slice A0_0 l0_0.length c0_0,.int .i64 a0_1]] rfl ?_;(with_reducible refine (r09_Copy.calls kj2 _ _ l0_0 a0_1 t545 t548 _ ?side1 ?side2 A20.out).mono ?_);(case side1 => exact Kd.C_below HR0_0.out (BB HB));(case side2 => exact HC0_0.out);rintro e w77 ⟨v546,rfl,ho0,hb⟩;refine ⟨_,rfl,?_⟩;have HO547:=AM (Kd.S_lower (Kd.S_new' ho0 (Kd.S_lt (SL HO539))) (below_size (BB HB)));replace HO539:=AM (Kd.S_elder' (SL HO539) (Kd.S_base ho0) hb);replace BK532:=BE BK532 hb;replace BK533:=BE BK533 hb;replace HB:=BS HB hb;(try clear hb);(try clear hb2);(try clear hk);(try clear hi);(try clear ho0);obtain ⟨Ao78,co78,eo78⟩:=Kd.S_slice HO547.out;subst eo78) | ((with_reducible refine gate_callee (f:=18) rfl ?_);refine goesM_ (some 36) rfl rfl Tryd.func18 #[.agg #[.slice Ao78 t545.length co78,.int .i64 t548]] rfl ?_;(with_reducible refine (limit_Typed.calls kj2 _ _ t545 t548 t549 t550 _ ?sideT ?side1 ?side2 A21.out).mono ?_);(case sideT => exact fun w_ hb_ => HTB_.out w_ (below_step (BB HB) hb_));(case side1 => exact CS HO547);(case side2 => exact (Kd.S_reads' HO547.out).2.1);rintro e w79 ⟨rfl,hb⟩;refine ⟨_,rfl,?_⟩;replace HO539:=AM (Kd.S_below (SL HO539) hb);replace HO547:=AM (Kd.S_below (SL HO547) hb);replace BK532:=BE BK532 hb;replace BK533:=BE BK533 hb;replace HB:=BS HB hb;(try clear hb);(try clear hb2);(try clear hk);(try clear hi);have hcz80_0:=BC BK532 0 (.slice A0_0 l0_0.length c0_0) rfl;have hcz80_1:=BC BK532 1 (.int .i64 a0_1) rfl;have hfz80_0:=BF BK532 0;have hfz80_1:=BF BK532 1) | ((with_reducible refine gate_callee (f:=19) rfl ?_);refine goesM_ (some 41) rfl rfl Tryd.func19 #[.agg #[.slice A0_0 l0_0.length c0_0,.int .i64 a0_1],.int .i64 2] rfl ?_;(with_reducible refine (r12_Typed.calls kj2 _ _ l0_0 a0_1 2 t551 t552 _ ?side1 ?side2 A22.out).mono ?_);(case side1 => exact Kd.C_below HR0_0.out (BB HB));(case side2 => exact HC0_0.out);rintro e w81 ⟨rfl,hb⟩;refine ⟨_,rfl,?_⟩;replace HO539:=AM (Kd.S_below (SL HO539) hb);replace HO547:=AM (Kd.S_below (SL HO547) hb);replace BK532:=BE BK532 hb;replace BK533:=BE BK533 hb;replace HB:=BS HB hb;(try clear hb);(try clear hb2);(try clear hk);(try clear hi)))
     go_ret;exact RT (BB HB)
end Go.Proofs.YtcphcaiiofeflaaDoor.GL
