
import Derived.Test.YtcphcaiiofeflaaDoorOfGOx0
import Derived.Test.YtcphcaiiofeflaaDoorOfGOx2
import Derived.Test.YtcphcaiiofeflaaDoorOfGOx3
import Derived.Test.YtcphcaiiofeflaaDoorOfGOx10
import Derived.Test.YtcphcaiiofeflaaDoorOfGOx17
import Derived.Test.YtcphcaiiofeflaaDoorOfGOx18
namespace Go.Proofs.YtcphcaiiofeflaaDoor.GO
open Go.RowKit Go.Proofs.YtcphcaiiofeflaaDoorW.PrintWords Go.Proofs.YtcphcaiiofeflaaDoorW.PrintLast Go.Proofs.YtcphcaiiofeflaaDoorW.PrintMore
attribute [local go_sem] max2_int min2_int max_two min_two max_three min_three max_four min_four
set_option linter.unusedVariables false
set_option linter.unusedSimpArgs false
mutual
def w16_OldForward.j0:Nat→Bool→List (S53)→Int→Option (Bool)
 | 0,_,_,_ => none
 | k+1,x22,x660000,x660001 => if x22 = true then ((w16_awake.f k).bind fun t667 => (some t667)) else ((graph_Check.f k x660000 x660001).bind fun bt668 => ((old_Flat.f k x660000 x660001).bind fun bt670 => (w16_OldForward.l0 k bt668.1 bt670.2.2 x660000 (x660000.length:Int) 0 x660000 x660001 bt670.1 bt670.2.1)))
def w16_OldForward.l0:Nat→Int→Int→List (S53)→Int→Int→List (S53)→Int→List (S53)→Int→Option (Bool)
 | 0,_,_,_,_,_,_,_,_,_ => none
 | k+1,x3,x6,x35,x36,x37,x660000,x660001,x676000,x676001 => if x37 < x36 then (if 0≤x37 then (if x37 < (x35.length:Int) then (w16_OldForward.l1 k x3 x6 x35 x36 x37 ((rd_T53 x35 x37).f3) (((rd_T53 x35 x37).f3).length:Int) 0 x660000 x660001 x676000 x676001) else (none)) else (none)) else (if x3 = 0 then (if x6 = 0 then ((old_Is.f k x676000 x676001).bind fun t676 => (if t676 = true then (some ((x676000.length:Int) == (x660000.length:Int))) else (some false))) else (some false)) else (some false))
def w16_OldForward.l1:Nat→Int→Int→List (S53)→Int→Int→List Int→Int→Int→List (S53)→Int→List (S53)→Int→Option (Bool)
 | 0,_,_,_,_,_,_,_,_,_,_,_,_ => none
 | k+1,x3,x6,x35,x36,x37,x42,x43,x44,x660000,x660001,x676000,x676001 => if x44 < x43 then (if 0≤x44 then (if x44 < (x42.length:Int) then (if (rd x42 x44) = 0 then (some false) else (w16_OldForward.l1 k x3 x6 x35 x36 x37 x42 x43 (wrap64 (x44+1)) x660000 x660001 x676000 x676001)) else (none)) else (none)) else (w16_OldForward.l0 k x3 x6 x35 x36 (wrap64 (x37+1)) x660000 x660001 x676000 x676001)
end
def w16_OldForward.f (k:Nat) (l0_0:List (S53)) (a0_1:Int):Option (Bool):=(w16_awake.f k).bind fun t660 => (if t660 = true then ((r09_Great.f k l0_0 a0_1).bind fun t661 => (if t661 = true then (w16_OldForward.j0 k true l0_0 a0_1) else ((r09_Copy.f k l0_0 a0_1).bind fun bt662 => ((old_Is.f k bt662.1 bt662.2).bind fun t666 => (w16_OldForward.j0 k (!t666) l0_0 a0_1))))) else (w16_OldForward.j0 k true l0_0 a0_1))
set_option maxHeartbeats 8000000 in
set_option maxRecDepth 100000 in
theorem w16_OldForward.calls (k:Nat) (A0_0:Option Addr) (c0_0:Nat) (l0_0:List (S53)) (a0_1:Int) (r:Bool) (w:World) (ht_:∀ w',Below w.heap.size w w'→Go.Lib.Utf8Tabs 0 1 w') (hr0_0:Kd.C k53 w A0_0 l0_0.length l0_0) (hc0_0:l0_0.length≤c0_0) (h:w16_OldForward.f k l0_0 a0_1 = some r) :
  Calls Tryd.prog 12 #[.agg #[.slice A0_0 l0_0.length c0_0,.int .i64 a0_1]] w fun e w' => e = .returned (.bool r)∧Below w.heap.size w w':=by
 have HTB_:=AM ht_;clear ht_;have hu24:=Tryd.underlying24;have hu53:=Tryd.underlying53;have HR0_0:=AM hr0_0;have HC0_0:=AM hc0_0;clear hr0_0 hc0_0;have HB:=AM (Below.refl w.heap.size w);have H:((w16_awake.f k).bind fun t660 => (if t660 = true then ((r09_Great.f k l0_0 a0_1).bind fun t661 => (if t661 = true then (w16_OldForward.j0 k true l0_0 a0_1) else ((r09_Copy.f k l0_0 a0_1).bind fun bt662 => ((old_Is.f k bt662.1 bt662.2).bind fun t666 => (w16_OldForward.j0 k (!t666) l0_0 a0_1))))) else (w16_OldForward.j0 k true l0_0 a0_1))) = some r:=h;clear h;have HC2:=AM H;clear H;go_enter Tryd.func12,Tryd.ntmps12;go_upto_region 1 with (first | ((with_reducible refine gate_dst (N:=1) rfl ?_);refine box_event ?hg (N:=1) ?hd (cs:=#[.slice A0_0 l0_0.length c0_0,.int .i64 a0_1]) (t:=24) ?hr ?_;(case hd => rfl);(case hg => rfl);(case hr => first | (go_simp;done) | (go_simp;rfl));intro gb659 hg w3 hbox hb;have BK659:=AM (hbox);have GW659:=GW HB hg;have GE659:=GW HB hg;replace HB:=BS HB hb;clear hb hbox hg))
 (try simp only [Act.put,List.setIfInBounds_toArray,List.set_cons_zero,List.set_cons_succ])
 go_cut [22] (fun v22 wc => ∃ (kq:Nat) (x22_1:Bool),v22 = .bool x22_1∧Aside0 (w16_OldForward.j0 kq x22_1 l0_0 a0_1 = some r)∧Aside0 (kq≤k)∧Aside0 (wc.heap[gb659]? = some (.cells #[(.slice A0_0 l0_0.length c0_0),.int .i64 a0_1] 24 (0,0)))∧Aside0 (Below w.heap.size w wc))
 case first =>
  have H:=HC2.out;clear HC2;replace H:=Option.bind_eq_some_iff.mp H;obtain ⟨t660,A40,H⟩:=H;replace H:(if t660 = true then ((r09_Great.f k l0_0 a0_1).bind fun t661 => (if t661 = true then (w16_OldForward.j0 k true l0_0 a0_1) else ((r09_Copy.f k l0_0 a0_1).bind fun bt662 => ((old_Is.f k bt662.1 bt662.2).bind fun t666 => (w16_OldForward.j0 k (!t666) l0_0 a0_1))))) else (w16_OldForward.j0 k true l0_0 a0_1)) = some r:=H;have A4:=AM A40;clear A40;by_cases c5:t660 = true
  ·subst c5;have H1:((r09_Great.f k l0_0 a0_1).bind fun t661 => (if t661 = true then (w16_OldForward.j0 k true l0_0 a0_1) else ((r09_Copy.f k l0_0 a0_1).bind fun bt662 => ((old_Is.f k bt662.1 bt662.2).bind fun t666 => (w16_OldForward.j0 k (!t666) l0_0 a0_1))))) = some r:=by rw [if_pos rfl] at H;exact H
   clear H;have H:=H1;clear H1;replace H:=Option.bind_eq_some_iff.mp H;obtain ⟨t661,A60,H⟩:=H;replace H:(if t661 = true then (w16_OldForward.j0 k true l0_0 a0_1) else ((r09_Copy.f k l0_0 a0_1).bind fun bt662 => ((old_Is.f k bt662.1 bt662.2).bind fun t666 => (w16_OldForward.j0 k (!t666) l0_0 a0_1)))) = some r:=H;have A6:=AM A60;clear A60;by_cases c7:t661 = true
   ·subst c7;have H1:(w16_OldForward.j0 k true l0_0 a0_1) = some r:=by rw [if_pos rfl] at H;exact H
    clear H;have H:=H1;clear H1;have H':=AM H;clear H;go_wp2_with (first | ((with_reducible refine gate_callee (f:=28) rfl ?_);refine goesM_ (some 11) rfl rfl Tryd.func28 #[] rfl ?_;(with_reducible refine (w16_awake.calls k  true _ (fun w_ hb_ => HTB_.out w_ (below_step (BB HB) hb_)) A4.out).mono ?_);rintro e w8 ⟨rfl,hb⟩;refine ⟨_,rfl,?_⟩;replace BK659:=BE BK659 hb;replace HB:=BS HB hb;(try clear hb);(try clear hb2);(try clear hk);(try clear hi);have hcz9_0:=BC BK659 0 (.slice A0_0 l0_0.length c0_0) rfl;have hcz9_1:=BC BK659 1 (.int .i64 a0_1) rfl;have hfz9_0:=BF BK659 0;have hfz9_1:=BF BK659 1) | (go_at_call 14;(with_reducible refine (r09_Great.calls k _ _ l0_0 a0_1 true _ ?side1 ?side2 A6.out).mono ?_);(case side1 => exact Kd.C_below HR0_0.out (BB HB));(case side2 => exact HC0_0.out);rintro e w10 ⟨rfl,hb⟩;replace BK659:=BE BK659 hb;replace HB:=BS HB hb;(try clear hb);(try clear hb2);(try clear hk);(try clear hi)))
    go_meet
    case rel => exact ⟨_,(true),(by first | rfl | (simp;done) | (simp [*];done)),H',⟨by first | omega | exact Nat.le_refl _⟩,⟨BL BK659⟩,⟨BB HB⟩⟩
   ·replace c7:=Bool.eq_false_iff.mpr c7;subst c7;have H1:((r09_Copy.f k l0_0 a0_1).bind fun bt662 => ((old_Is.f k bt662.1 bt662.2).bind fun t666 => (w16_OldForward.j0 k (!t666) l0_0 a0_1))) = some r:=by rw [if_neg (show ¬ (false = true) by decide)] at H;exact H
    clear H;have H:=H1;clear H1;replace H:=Option.bind_eq_some_iff.mp H;obtain ⟨⟨t662,t665⟩,A110,H⟩:=H;replace H:((old_Is.f k t662 t665).bind fun t666 => (w16_OldForward.j0 k (!t666) l0_0 a0_1)) = some r:=H;have A11:=AM A110;clear A110;replace H:=Option.bind_eq_some_iff.mp H;obtain ⟨t666,A120,H⟩:=H;replace H:(w16_OldForward.j0 k (!t666) l0_0 a0_1) = some r:=H;have A12:=AM A120;clear A120;have H':=AM H;clear H;go_wp2_with (first | ((with_reducible refine gate_callee (f:=28) rfl ?_);refine goesM_ (some 11) rfl rfl Tryd.func28 #[] rfl ?_;(with_reducible refine (w16_awake.calls k  true _ (fun w_ hb_ => HTB_.out w_ (below_step (BB HB) hb_)) A4.out).mono ?_);rintro e w13 ⟨rfl,hb⟩;refine ⟨_,rfl,?_⟩;replace BK659:=BE BK659 hb;replace HB:=BS HB hb;(try clear hb);(try clear hb2);(try clear hk);(try clear hi);have hcz14_0:=BC BK659 0 (.slice A0_0 l0_0.length c0_0) rfl;have hcz14_1:=BC BK659 1 (.int .i64 a0_1) rfl;have hfz14_0:=BF BK659 0;have hfz14_1:=BF BK659 1) | (go_at_call 14;(with_reducible refine (r09_Great.calls k _ _ l0_0 a0_1 false _ ?side1 ?side2 A6.out).mono ?_);(case side1 => exact Kd.C_below HR0_0.out (BB HB));(case side2 => exact HC0_0.out);rintro e w15 ⟨rfl,hb⟩;replace BK659:=BE BK659 hb;replace HB:=BS HB hb;(try clear hb);(try clear hb2);(try clear hk);(try clear hi);have hcz16_0:=BC BK659 0 (.slice A0_0 l0_0.length c0_0) rfl;have hcz16_1:=BC BK659 1 (.int .i64 a0_1) rfl;have hfz16_0:=BF BK659 0;have hfz16_1:=BF BK659 1) | (go_at_call 16;(with_reducible refine (r09_Copy.calls k _ _ l0_0 a0_1 t662 t665 _ ?side1 ?side2 A11.out).mono ?_);(case side1 => exact Kd.C_below HR0_0.out (BB HB));(case side2 => exact HC0_0.out);rintro e w17 ⟨v663,rfl,ho0,hb⟩;have HO664:=AM (Kd.S_lower ho0 (below_size (BB HB)));replace BK659:=BE BK659 hb;replace HB:=BS HB hb;(try clear hb);(try clear hb2);(try clear hk);(try clear hi);(try clear ho0);obtain ⟨Ao18,co18,eo18⟩:=Kd.S_slice HO664.out;subst eo18) | (go_at_call 33;(with_reducible refine (old_Is.calls k _ _ t662 t665 t666 _ ?side1 ?side2 A12.out).mono ?_);(case side1 => exact CS HO664);(case side2 => exact (Kd.S_reads' HO664.out).2.1);rintro e w19 ⟨rfl,hb⟩;replace HO664:=AM (Kd.S_below (SL HO664) hb);replace BK659:=BE BK659 hb;replace HB:=BS HB hb;(try clear hb);(try clear hb2);(try clear hk);(try clear hi)))
    go_meet
    case rel => exact ⟨_,(!t666),(by first | rfl | (simp;done) | (simp [*];done)),H',⟨by first | omega | exact Nat.le_refl _⟩,⟨BL BK659⟩,⟨BB HB⟩⟩
  ·replace c5:=Bool.eq_false_iff.mpr c5;subst c5;have H1:(w16_OldForward.j0 k true l0_0 a0_1) = some r:=by rw [if_neg (show ¬ (false = true) by decide)] at H;exact H
   clear H;have H:=H1;clear H1;have H':=AM H;clear H;go_wp2_with (first | ((with_reducible refine gate_callee (f:=28) rfl ?_);refine goesM_ (some 11) rfl rfl Tryd.func28 #[] rfl ?_;(with_reducible refine (w16_awake.calls k  false _ (fun w_ hb_ => HTB_.out w_ (below_step (BB HB) hb_)) A4.out).mono ?_);rintro e w20 ⟨rfl,hb⟩;refine ⟨_,rfl,?_⟩;replace BK659:=BE BK659 hb;replace HB:=BS HB hb;(try clear hb);(try clear hb2);(try clear hk);(try clear hi)))
   go_meet
   case rel => exact ⟨_,(true),(by first | rfl | (simp;done) | (simp [*];done)),H',⟨by first | omega | exact Nat.le_refl _⟩,⟨BL BK659⟩,⟨BB HB⟩⟩
 case rest =>
  clear HC2;try clear c1
  try clear c2
  try clear p2
  try clear c5
  try clear c7
  try clear c12
  try clear hcz14_0
  try clear hcz14_1
  try clear hcz16_0
  try clear hcz16_1
  try clear hcz9_0
  try clear hcz9_1
  try clear hfz14_0
  try clear hfz14_1
  try clear hfz16_0
  try clear hfz16_1
  try clear hfz9_0
  try clear hfz9_1
  obtain ⟨kq,x22_1,rfl,HA,HJ1,BK659,HB⟩:=hcut;cases kq with
  | zero => exact absurd HA.out (by simp [w16_OldForward.j0])
  | succ kj1 =>
   have H:=HA.out;clear HA;simp only [w16_OldForward.j0] at H;by_cases c21:x22_1 = true
   ·subst c21;have H1:((w16_awake.f kj1).bind fun t667 => (some t667)) = some r:=by rw [if_pos rfl] at H;exact H
    clear H;have H:=H1;clear H1;replace H:=Option.bind_eq_some_iff.mp H;obtain ⟨t667,A220,H⟩:=H;replace H:(some t667) = some r:=H;have A22:=AM A220;clear A220;obtain rfl:=Option.some.inj H;go_wp2_with (first | ((with_reducible refine gate_callee (f:=28) rfl ?_);refine goesM_ (some 23) rfl rfl Tryd.func28 #[] rfl ?_;(with_reducible refine (w16_awake.calls kj1  t667 _ (fun w_ hb_ => HTB_.out w_ (below_step (BB HB) hb_)) A22.out).mono ?_);rintro e w23 ⟨rfl,hb⟩;refine ⟨_,rfl,?_⟩;replace BK659:=BE BK659 hb;replace HB:=BS HB hb;(try clear hb);(try clear hb2);(try clear hk);(try clear hi)))
    go_ret;exact RT (BB HB)
   ·replace c21:=Bool.eq_false_iff.mpr c21;subst c21;have H1:((graph_Check.f kj1 l0_0 a0_1).bind fun bt668 => ((old_Flat.f kj1 l0_0 a0_1).bind fun bt670 => (w16_OldForward.l0 kj1 bt668.1 bt670.2.2 l0_0 (l0_0.length:Int) 0 l0_0 a0_1 bt670.1 bt670.2.1))) = some r:=by rw [if_neg (show ¬ (false = true) by decide)] at H;exact H
    clear H;have H:=H1;clear H1;replace H:=Option.bind_eq_some_iff.mp H;obtain ⟨⟨t668,t669⟩,A240,H⟩:=H;replace H:((old_Flat.f kj1 l0_0 a0_1).bind fun bt670 => (w16_OldForward.l0 kj1 t668 bt670.2.2 l0_0 (l0_0.length:Int) 0 l0_0 a0_1 bt670.1 bt670.2.1)) = some r:=H;have A24:=AM A240;clear A240;replace H:=Option.bind_eq_some_iff.mp H;obtain ⟨⟨t670,t673,t674⟩,A250,H⟩:=H;replace H:(w16_OldForward.l0 kj1 t668 t674 l0_0 (l0_0.length:Int) 0 l0_0 a0_1 t670 t673) = some r:=H;have A25:=AM A250;clear A250;have H':=AM H;clear H;have hcz26_0:=BC BK659 0 (.slice A0_0 l0_0.length c0_0) rfl;have hcz26_1:=BC BK659 1 (.int .i64 a0_1) rfl;have hfz26_0:=BF BK659 0;have hfz26_1:=BF BK659 1;go_wp2_with (first | ((with_reducible refine gate_callee (f:=40) rfl ?_);refine goesM_ (some 26) rfl rfl Tryd.func40 #[.agg #[.slice A0_0 l0_0.length c0_0,.int .i64 a0_1]] rfl ?_;(with_reducible refine (graph_Check.calls kj1 _ _ l0_0 a0_1 t668 t669 _ ?side1 ?side2 A24.out).mono ?_);(case side1 => exact Kd.C_below HR0_0.out (BB HB));(case side2 => exact HC0_0.out);rintro e w27 ⟨rfl,hb⟩;refine ⟨_,rfl,?_⟩;replace BK659:=BE BK659 hb;replace HB:=BS HB hb;(try clear hb);(try clear hb2);(try clear hk);(try clear hi);have hcz28_0:=BC BK659 0 (.slice A0_0 l0_0.length c0_0) rfl;have hcz28_1:=BC BK659 1 (.int .i64 a0_1) rfl;have hfz28_0:=BF BK659 0;have hfz28_1:=BF BK659 1) | ((with_reducible refine gate_callee (f:=32) rfl ?_);refine goesM_ (some 31) rfl rfl Tryd.func32 #[.agg #[.slice A0_0 l0_0.length c0_0,.int .i64 a0_1]] rfl ?_;(with_reducible refine (old_Flat.calls kj1 _ _ l0_0 a0_1 t670 t673 t674 _ ?side1 ?side2 A25.out).mono ?_);(case side1 => exact Kd.C_below HR0_0.out (BB HB));(case side2 => exact HC0_0.out);rintro e w29 ⟨v671,rfl,ho0,hb⟩;refine ⟨_,rfl,?_⟩;have HO672:=AM (Kd.S_lower ho0 (below_size (BB HB)));replace BK659:=BE BK659 hb;replace HB:=BS HB hb;(try clear hb);(try clear hb2);(try clear hk);(try clear hi);(try clear ho0)) | ((with_reducible refine gate_dst (N:=5) rfl ?_);refine box_event ?hg (N:=5) ?hd (cs:=#[.slice none 0 0,.int .i64 0]) (t:=24) ?hr ?_;(case hd => rfl);(case hg => rfl);(case hr => first | (go_simp;done) | (go_simp;rfl));intro gb675 hg w30 hbox hb;replace HO672:=AM (Kd.S_below (SL HO672) hb);have BK675:=AM (hbox);have GW675:=GW HB hg;have GE675:=GW HB hg;replace HB:=BS HB hb;have NB659_675:=NL BK659 hg;have NB675_659:=NG BK659 hg;replace BK659:=BE BK659 hb;clear hb hbox hg;obtain ⟨Ao31,co31,eo31⟩:=Kd.S_slice HO672.out;subst eo31;have hnb32:=NB675_659.out;have hnc32:=NB659_675.out;have hcz33_0:=BC BK675 0 (.slice none 0 0) rfl;have hcz33_1:=BC BK675 1 (.int .i64 0) rfl;have hfz33_0:=BF BK675 0;have hfz33_1:=BF BK675 1;have hcz34_0:=BC BK659 0 (.slice A0_0 l0_0.length c0_0) rfl;have hcz34_1:=BC BK659 1 (.int .i64 a0_1) rfl;have hfz34_0:=BF BK659 0;have hfz34_1:=BF BK659 1))
    go_loopg [37] kj1 (fun kq v37 w' => ∃ (x37_2:Int),v37 = .int .i64 x37_2∧Aside0 (w16_OldForward.l0 kq t668 t674 l0_0 (l0_0.length:Int) x37_2 l0_0 a0_1 t670 t673 = some r)∧Aside0 (kq≤kj1)∧Aside0 (Kd.S k53 53 w' w.heap.size (fun _ => True) (.slice Ao31 t670.length co31) t670)∧Aside0 (w'.heap[gb659]? = some (.cells #[(.slice A0_0 l0_0.length c0_0),.int .i64 a0_1] 24 (0,0)))∧Aside0 (w'.heap[gb675]? = some (.cells #[(.slice Ao31 t670.length co31),.int .i64 t673] 24 (0,0)))∧Aside0 (Below w.heap.size w w'))
    case atStart => exact ⟨(0),(by first | rfl | (simp;done) | (simp [*];done)),H',⟨Nat.le_refl _⟩,⟨by (with_reducible repeat (first | apply Kd.S_alloc | apply Kd.S_drewN | apply Kd.S_drew));exact Kd.S_mono (Kd.S_far (p:=⟨gb675,1,none⟩) (Kd.S_far (p:=⟨gb675,0,none⟩) (Kd.S_types HO672.out BK675.out (by decide)) (fun _ hk => hk.2) (.slice Ao31 t670.length co31)) (fun _ hk => hk.2) (.int .i64 t673)) (fun _ hk => trivial)⟩,⟨by (repeat refine blk_far ?_ NB659_675.out _);exact BL BK659⟩,⟨by refine blk_put (cs:=#[.slice Ao31 t670.length co31,.int .i64 0]) ?_ 1 _ rfl;refine blk_put (cs:=#[.slice none 0 0,.int .i64 0]) ?_ 0 _ rfl;exact BL BK675⟩,⟨BB HB⟩⟩
    case round =>
     clear H';try clear c1
     try clear c2
     try clear p2
     try clear c3
     try clear c4
     try clear c5
     try clear c7
     try clear c12
     try clear c21
     try clear c28
     try clear c32
     try clear hcz14_0
     try clear hcz14_1
     try clear hcz16_0
     try clear hcz16_1
     try clear hcz26_0
     try clear hcz26_1
     try clear hcz28_0
     try clear hcz28_1
     try clear hcz33_0
     try clear hcz33_1
     try clear hcz34_0
     try clear hcz34_1
     try clear hcz9_0
     try clear hcz9_1
     try clear hfz14_0
     try clear hfz14_1
     try clear hfz16_0
     try clear hfz16_1
     try clear hfz26_0
     try clear hfz26_1
     try clear hfz28_0
     try clear hfz28_1
     try clear hfz33_0
     try clear hfz33_1
     try clear hfz34_0
     try clear hfz34_1
     try clear hfz9_0
     try clear hfz9_1
     try clear p2
     obtain ⟨x37_2,rfl,HA,HK2,HO_676000,BK659,BK675,HB⟩:=hrel;cases gk with
     | zero => exact absurd HA.out (by simp [w16_OldForward.l0])
     | succ k2 =>
      have H:=HA.out;clear HA;simp only [w16_OldForward.l0] at H;by_cases c35:x37_2 < (l0_0.length:Int)
      ·rw [if_pos c35] at H;have c35b0:decide (x37_2 < (l0_0.length:Int)) = true:=decide_eq_true c35;clear c35;by_cases c36:0≤x37_2
       ·rw [if_pos c36] at H;have c36b0:decide (0≤x37_2) = true:=decide_eq_true c36;clear c36;by_cases c37:x37_2 < (l0_0.length:Int)
        ·rw [if_pos c37] at H;have c37b0:decide (x37_2 < (l0_0.length:Int)) = true:=decide_eq_true c37;clear c37;have H':=AM H;clear H;have p677:0≤(x37_2:Int):=OD;have q677:x37_2 < (l0_0.length:Int):=OD;obtain ⟨ad677,A677_1,c677_1,A677_2,c677_2,A677_3,c677_3,e677,hx677_0,hx677_1,hx677_2,hx677_3,hl677_1,hi677_1,hl677_2,hi677_2,hl677_3,hi677_3⟩:=at_T53 HR0_0.out x37_2 p677 q677;cases e677
         replace hx677_0:=CL HB hx677_0;replace hx677_1:=CL HB hx677_1;replace hx677_2:=CL HB hx677_2;replace hx677_3:=CL HB hx677_3;have HR677_1:=AM hi677_1;have HC677_1:=AM hl677_1;clear hi677_1 hl677_1;have HR677_2:=AM hi677_2;have HC677_2:=AM hl677_2;clear hi677_2 hl677_2;have HR677_3:=AM hi677_3;have HC677_3:=AM hl677_3;clear hi677_3 hl677_3;replace p677:=eq_true p677;replace q677:=eq_true q677;go_wp2_with (first | ((with_reducible refine gate_dst (N:=8) rfl ?_);refine box_event ?hg (N:=8) ?hd (cs:=#[.int .i64 0,.slice none 0 0,.slice none 0 0,.slice none 0 0]) (t:=53) ?hr ?_;(case hd => rfl);(case hg => rfl);(case hr => first | (go_simp;done) | (go_simp;rfl));intro gb678 hg w38 hbox hb;replace HO_676000:=AM (Kd.S_below (Kd.S_elderB (SL HO_676000) gb678 (Nat.le_of_eq hg.symm)) hb);have BK678:=AM (hbox);have GW678:=GW HB hg;have GE678:=GW HB hg;replace HB:=BS HB hb;have NB659_678:=NL BK659 hg;have NB678_659:=NG BK659 hg;replace BK659:=BE BK659 hb;have NB675_678:=NL BK675 hg;have NB678_675:=NG BK675 hg;replace BK675:=BE BK675 hb;clear hb hbox hg;have hnb39:=NB678_659.out;have hnc39:=NB659_678.out;have hnb40:=NB678_675.out;have hnc40:=NB675_678.out;have hcz41_0:=BC BK678 0 (.int .i64 0) rfl;have hcz41_1:=BC BK678 1 (.slice none 0 0) rfl;have hcz41_2:=BC BK678 2 (.slice none 0 0) rfl;have hcz41_3:=BC BK678 3 (.slice none 0 0) rfl;have hfz41_0:=BF BK678 0;have hfz41_1:=BF BK678 1;have hfz41_2:=BF BK678 2;have hfz41_3:=BF BK678 3))
         go_loopg [44] k2 (fun kq v44 w' => ∃ (x44_3:Int),v44 = .int .i64 x44_3∧Aside0 (w16_OldForward.l1 kq t668 t674 l0_0 (l0_0.length:Int) x37_2 ((rd_T53 l0_0 x37_2).f3) (((rd_T53 l0_0 x37_2).f3).length:Int) x44_3 l0_0 a0_1 t670 t673 = some r)∧Aside0 (kq≤k2)∧Aside0 (Kd.S k53 53 w' w.heap.size (fun k_ => k_≠gb678) (.slice Ao31 t670.length co31) t670)∧Aside0 (w'.heap[gb659]? = some (.cells #[(.slice (some ad677) l0_0.length c0_0),.int .i64 a0_1] 24 (0,0)))∧Aside0 (w'.heap[gb675]? = some (.cells #[(.slice Ao31 t670.length co31),.int .i64 t673] 24 (0,0)))∧Aside0 (w'.heap[gb678]? = some (.cells #[.int .i64 ((rd_T53 l0_0 x37_2).f0),(.slice A677_1 ((rd_T53 l0_0 x37_2).f1).length c677_1),(.slice A677_2 ((rd_T53 l0_0 x37_2).f2).length c677_2),(.slice A677_3 ((rd_T53 l0_0 x37_2).f3).length c677_3)] 53 (0,0)))∧Aside0 (Below w.heap.size w w'))
         case atStart => exact ⟨(0),(by first | rfl | (simp;done) | (simp [*];done)),H',⟨Nat.le_refl _⟩,⟨by (with_reducible repeat (first | apply Kd.S_alloc | apply Kd.S_drewN | apply Kd.S_drew));exact Kd.S_mono (Kd.S_far (p:=⟨gb678,3,none⟩) (Kd.S_far (p:=⟨gb678,2,none⟩) (Kd.S_far (p:=⟨gb678,1,none⟩) (Kd.S_far (p:=⟨gb678,0,none⟩) (Kd.S_mono HO_676000.out (fun k_ hk => (⟨hk,hk.2⟩:_∧k_≠gb678))) (fun _ hk => hk.2) (.int .i64 ((rd_T53 l0_0 x37_2).f0))) (fun _ hk => hk.2) (.slice A677_1 ((rd_T53 l0_0 x37_2).f1).length c677_1)) (fun _ hk => hk.2) (.slice A677_2 ((rd_T53 l0_0 x37_2).f2).length c677_2)) (fun _ hk => hk.2) (.slice A677_3 ((rd_T53 l0_0 x37_2).f3).length c677_3)) (fun _ hk => hk.1.2)⟩,⟨by (repeat refine blk_far ?_ NB659_678.out _);exact BL BK659⟩,⟨by (repeat refine blk_far ?_ NB675_678.out _);exact BL BK675⟩,⟨by refine blk_put (cs:=#[.int .i64 ((rd_T53 l0_0 x37_2).f0),.slice A677_1 ((rd_T53 l0_0 x37_2).f1).length c677_1,.slice A677_2 ((rd_T53 l0_0 x37_2).f2).length c677_2,.slice none 0 0]) ?_ 3 _ rfl;refine blk_put (cs:=#[.int .i64 ((rd_T53 l0_0 x37_2).f0),.slice A677_1 ((rd_T53 l0_0 x37_2).f1).length c677_1,.slice none 0 0,.slice none 0 0]) ?_ 2 _ rfl;refine blk_put (cs:=#[.int .i64 ((rd_T53 l0_0 x37_2).f0),.slice none 0 0,.slice none 0 0,.slice none 0 0]) ?_ 1 _ rfl;refine blk_put (cs:=#[.int .i64 0,.slice none 0 0,.slice none 0 0,.slice none 0 0]) ?_ 0 _ rfl;exact BL BK678⟩,⟨BB HB⟩⟩
         case round =>
          clear H';try clear c1
          try clear c2
          try clear p2
          try clear c3
          try clear c4
          try clear c5
          try clear c6
          try clear p6
          try clear q6
          try clear hx6
          try clear c7
          try clear c12
          try clear c21
          try clear c28
          try clear c32
          try clear c35
          try clear c35b0
          try clear c36
          try clear c36b0
          try clear c37
          try clear c37b0
          try clear c39
          try clear c40
          try clear hcz14_0
          try clear hcz14_1
          try clear hcz16_0
          try clear hcz16_1
          try clear hcz26_0
          try clear hcz26_1
          try clear hcz28_0
          try clear hcz28_1
          try clear hcz33_0
          try clear hcz33_1
          try clear hcz34_0
          try clear hcz34_1
          try clear hcz41_0
          try clear hcz41_1
          try clear hcz41_2
          try clear hcz41_3
          try clear hcz9_0
          try clear hcz9_1
          try clear hfz14_0
          try clear hfz14_1
          try clear hfz16_0
          try clear hfz16_1
          try clear hfz26_0
          try clear hfz26_1
          try clear hfz28_0
          try clear hfz28_1
          try clear hfz33_0
          try clear hfz33_1
          try clear hfz34_0
          try clear hfz34_1
          try clear hfz41_0
          try clear hfz41_1
          try clear hfz41_2
          try clear hfz41_3
          try clear hfz9_0
          try clear hfz9_1
          try clear hx677_0
          try clear hx677_1
          try clear hx677_2
          try clear hx677_3
          try clear p2
          try clear p677
          try clear q677
          obtain ⟨x44_3,rfl,HA,HK3,HO_676000,BK659,BK675,BK678,HB⟩:=hrel;cases gk with
          | zero => exact absurd HA.out (by simp [w16_OldForward.l1])
          | succ k3 =>
           have H:=HA.out;clear HA;simp only [w16_OldForward.l1] at H;by_cases c42:x44_3 < (((rd_T53 l0_0 x37_2).f3).length:Int)
           ·rw [if_pos c42] at H;have c42b0:decide (x44_3 < (((rd_T53 l0_0 x37_2).f3).length:Int)) = true:=decide_eq_true c42;clear c42;by_cases c43:0≤x44_3
            ·rw [if_pos c43] at H;have c43b0:decide (0≤x44_3) = true:=decide_eq_true c43;clear c43;by_cases c44:x44_3 < (((rd_T53 l0_0 x37_2).f3).length:Int)
             ·rw [if_pos c44] at H;have c44b0:decide (x44_3 < (((rd_T53 l0_0 x37_2).f3).length:Int)) = true:=decide_eq_true c44;clear c44;by_cases c45:(rd ((rd_T53 l0_0 x37_2).f3) x44_3) = 0
              ·rw [if_pos c45] at H;have c45b0:((rd ((rd_T53 l0_0 x37_2).f3) x44_3) == 0) = true:=beq_iff_eq.mpr c45;have c45b1:((rd ((rd_T53 l0_0 x37_2).f3) x44_3) != 0) = false:=bne_eq_false_iff_eq.mpr c45;clear c45;obtain rfl:=Option.some.inj H;have p679:0≤(x44_3:Int):=OD;have q679:x44_3 < (((rd_T53 l0_0 x37_2).f3).length:Int):=OD;obtain ⟨ad679,e679,hx679_0⟩:=Kd.at_int HR677_3.out x44_3 p679 q679;cases e679
               replace hx679_0:=CL HB hx679_0;replace p679:=eq_true p679;replace q679:=eq_true q679;go_wp2
               go_ret;exact RT (BB HB)
              ·rw [if_neg c45] at H;have c45b0:((rd ((rd_T53 l0_0 x37_2).f3) x44_3) == 0) = false:=beq_eq_false_iff_ne.mpr c45;have c45b1:((rd ((rd_T53 l0_0 x37_2).f3) x44_3) != 0) = true:=bne_iff_ne.mpr c45;have H':=AM H;clear H;have p679:0≤(x44_3:Int):=OD;have q679:x44_3 < (((rd_T53 l0_0 x37_2).f3).length:Int):=OD;obtain ⟨ad679,e679,hx679_0⟩:=Kd.at_int HR677_3.out x44_3 p679 q679;cases e679
               replace hx679_0:=CL HB hx679_0;replace p679:=eq_true p679;replace q679:=eq_true q679;go_wp2
               go_roundg k3
               case measure => have:=HJ1.out;have:=HK2.out;have:=HK3.out;omega
               case rel => exact ⟨(wrap64 (x44_3+1)),(by first | rfl | (simp;done) | (simp [*];done)),H',⟨by have:=HJ1.out;have:=HK2.out;have:=HK3.out;omega⟩,⟨by (with_reducible repeat (first | apply Kd.S_alloc | apply Kd.S_drewN | apply Kd.S_drew));exact HO_676000.out⟩,⟨BL BK659⟩,⟨BL BK675⟩,⟨BL BK678⟩,⟨BB HB⟩⟩
             ·rw [if_neg c44] at H;exact absurd H (by simp)
            ·rw [if_neg c43] at H;exact absurd H (by simp)
           ·rw [if_neg c42] at H;have c42b0:decide (x44_3 < (((rd_T53 l0_0 x37_2).f3).length:Int)) = false:=decide_eq_false c42;clear c42;have H':=AM H;clear H;go_wp2
            go_roundg k3
            case measure => have:=HJ1.out;have:=HK2.out;have:=HK3.out;omega
            case rel => exact ⟨(wrap64 (x37_2+1)),(by first | rfl | (simp;done) | (simp [*];done)),H',⟨by have:=HJ1.out;have:=HK2.out;have:=HK3.out;omega⟩,⟨by (with_reducible repeat (first | apply Kd.S_alloc | apply Kd.S_drewN | apply Kd.S_drew));exact Kd.S_mono HO_676000.out (fun _ hk => trivial)⟩,⟨BL BK659⟩,⟨BL BK675⟩,⟨BB HB⟩⟩
        ·rw [if_neg c37] at H;exact absurd H (by simp)
       ·rw [if_neg c36] at H;exact absurd H (by simp)
      ·rw [if_neg c35] at H;have c35b0:decide (x37_2 < (l0_0.length:Int)) = false:=decide_eq_false c35;clear c35;by_cases c46:t668 = 0
       ·rw [if_pos c46] at H;have c46b0:(t668 == 0) = true:=beq_iff_eq.mpr c46;have c46b1:(t668 != 0) = false:=bne_eq_false_iff_eq.mpr c46;clear c46;by_cases c47:t674 = 0
        ·rw [if_pos c47] at H;have c47b0:(t674 == 0) = true:=beq_iff_eq.mpr c47;have c47b1:(t674 != 0) = false:=bne_eq_false_iff_eq.mpr c47;clear c47;replace H:=Option.bind_eq_some_iff.mp H;obtain ⟨t676,A480,H⟩:=H;replace H:(if t676 = true then (some ((t670.length:Int) == (l0_0.length:Int))) else (some false)) = some r:=H;have A48:=AM A480;clear A480;by_cases c49:t676 = true
         ·subst c49;have H1:(some ((t670.length:Int) == (l0_0.length:Int))) = some r:=by rw [if_pos rfl] at H;exact H
          clear H;have H:=H1;clear H1;obtain rfl:=Option.some.inj H;have hnb50:=NB675_659.out;have hnc50:=NB659_675.out;have hcz51_0:=BC BK675 0 (.slice Ao31 t670.length co31) rfl;have hcz51_1:=BC BK675 1 (.int .i64 t673) rfl;have hfz51_0:=BF BK675 0;have hfz51_1:=BF BK675 1;go_wp2_with (first | (go_at_call 33;(with_reducible refine (old_Is.calls k2 _ _ t670 t673 true _ ?side1 ?side2 A48.out).mono ?_);(case side1 => exact CS HO_676000);(case side2 => exact (Kd.S_reads' HO_676000.out).2.1);rintro e w52 ⟨rfl,hb⟩;replace HO_676000:=AM (Kd.S_below (SL HO_676000) hb);replace BK659:=BE BK659 hb;replace BK675:=BE BK675 hb;replace HB:=BS HB hb;(try clear hb);(try clear hb2);(try clear hk);(try clear hi);have hcz53_0:=BC BK675 0 (.slice Ao31 t670.length co31) rfl;have hcz53_1:=BC BK675 1 (.int .i64 t673) rfl;have hfz53_0:=BF BK675 0;have hfz53_1:=BF BK675 1;have hcz54_0:=BC BK659 0 (.slice A0_0 l0_0.length c0_0) rfl;have hcz54_1:=BC BK659 1 (.int .i64 a0_1) rfl;have hfz54_0:=BF BK659 0;have hfz54_1:=BF BK659 1))
          go_ret;exact RT (BB HB)
         ·replace c49:=Bool.eq_false_iff.mpr c49;subst c49;have H1:(some false) = some r:=by rw [if_neg (show ¬ (false = true) by decide)] at H;exact H
          clear H;have H:=H1;clear H1;obtain rfl:=Option.some.inj H;have hnb55:=NB675_659.out;have hnc55:=NB659_675.out;have hcz56_0:=BC BK675 0 (.slice Ao31 t670.length co31) rfl;have hcz56_1:=BC BK675 1 (.int .i64 t673) rfl;have hfz56_0:=BF BK675 0;have hfz56_1:=BF BK675 1;go_wp2_with (first | (go_at_call 33;(with_reducible refine (old_Is.calls k2 _ _ t670 t673 false _ ?side1 ?side2 A48.out).mono ?_);(case side1 => exact CS HO_676000);(case side2 => exact (Kd.S_reads' HO_676000.out).2.1);rintro e w57 ⟨rfl,hb⟩;replace HO_676000:=AM (Kd.S_below (SL HO_676000) hb);replace BK659:=BE BK659 hb;replace BK675:=BE BK675 hb;replace HB:=BS HB hb;(try clear hb);(try clear hb2);(try clear hk);(try clear hi)))
          go_ret;exact RT (BB HB)
        ·rw [if_neg c47] at H;have c47b0:(t674 == 0) = false:=beq_eq_false_iff_ne.mpr c47;have c47b1:(t674 != 0) = true:=bne_iff_ne.mpr c47;obtain rfl:=Option.some.inj H;go_wp2
         go_ret;exact RT (BB HB)
       ·rw [if_neg c46] at H;have c46b0:(t668 == 0) = false:=beq_eq_false_iff_ne.mpr c46;have c46b1:(t668 != 0) = true:=bne_iff_ne.mpr c46;obtain rfl:=Option.some.inj H;go_wp2
        go_ret;exact RT (BB HB)
end Go.Proofs.YtcphcaiiofeflaaDoor.GO
