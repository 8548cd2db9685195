import Derived.Test.YtoigkneoaemcfaaDoorNoNdAll
import Derived.Deep.RegionHeld3
namespace Go.Proofs.YtoigkneoaemcfaaDoor.Nd
open Go.RowKit Go.Lib Go.Proofs.YtoigkneoaemcfaaDoorW.PrintWords Go.Proofs.YtoigkneoaemcfaaDoorW.PrintLast Go.Proofs.YtoigkneoaemcfaaDoorW.PrintMore Go.Proofs.YtoigkneoaemcfaaDoor.B Go.Proofs.YtoigkneoaemcfaaDoor.Bd Go.Proofs.YtoigkneoaemcfaaDoor.Tab Go.Proofs.YtoigkneoaemcfaaDoor.Rec
open Go.Proofs.YtoigkneoaemcfaaDoor.GN (S40 rd_T40 k40 kidsI checkP cl H)
set_option linter.unusedVariables false
set_option linter.unusedSimpArgs false
theorem R_keepIn {α:Type} {d:Kd α} {e base:Nat} {ok:Nat→Prop} {W w1:World} {v:Value} {xs:List α} (h:d.R e W base ok v xs) (hm:∀ k,base≤k→k < W.heap.size→w1.heap[k]? = W.heap[k]?):d.R e w1 base ok v xs:=Kd.R_mono (Kd.R_move (Kd.R_bound h) (fun k hk => hm k hk.2.1 hk.2.2.1)) (fun _ hk => hk.1)
structure GS (w wr:World) (l0 l1 l2 l3 l4:Int):Prop where
  bel:Below w.heap.size w wr
  lim:wr.heap[w.heap.size]? = some (.cells #[.int .i64 l0,.int .i64 l1,.int .i64 l2,.int .i64 l3,.int .i64 l4] 23 (0,0))
  res:SB wr (w.heap.size+1) none 0 0 0
  non:SB wr (w.heap.size+2) none 0 0 0
section
variable {w wr w':World} {l0 l1 l2 l3 l4:Int}
theorem GS.below (h:GS w wr l0 l1 l2 l3 l4) (hb:Below wr.heap.size wr w'):GS w w' l0 l1 l2 l3 l4:=⟨below_step h.bel hb,blk_below h.lim hb,h.res.below hb,h.non.below hb⟩
theorem GS.turn (h:GS w wr l0 l1 l2 l3 l4) {g:Nat} (hg:w.heap.size+2 < g) (m:Mv (one g) wr w'):GS w w' l0 l1 l2 l3 l4 :=
  ⟨((Mv.of_below (S:=one g) h.bel).trans m (fun k hk => .inl hk)).below (fun k hk => by have e:k = g:=hk;omega),m.keep h.lim (fun e => by have e2:w.heap.size = g:=e;omega),m.keep h.res (fun e => by have e2:w.heap.size+1 = g:=e;omega),m.keep h.non (fun e => by have e2:w.heap.size+2 = g:=e;omega)⟩
end
section
variable (tx b:ByteArray) (l0 l1 l2 l3 l4:Int) (w:World)
def NGetPost (e:Ending) (w':World):Prop:=∃ v,e = .returned (.tuple #[.agg #[v,.int .i64 (getN tx b l0 l1 l2 l3 l4 (rB l0 l1 l2 l3 l4)).2.1],.int .i64 (getN tx b l0 l1 l2 l3 l4 (rB l0 l1 l2 l3 l4)).2.2])∧Kd.R k40 40 w' w.heap.size (fun _ => True) v (getN tx b l0 l1 l2 l3 l4 (rB l0 l1 l2 l3 l4)).1∧Below w.heap.size w w'
theorem none_post {wr:World} (h:GS w wr l0 l1 l2 l3 l4) {q:Int} (hE:getN tx b l0 l1 l2 l3 l4 (rB l0 l1 l2 l3 l4) = ([],0,q)) :
    NGetPost tx b l0 l1 l2 l3 l4 w (.returned (.tuple #[.agg #[.slice none 0 0,.int .i64 0],.int .i64 q])) ((wr.setCell ⟨w.heap.size+1,0,none⟩ (.slice none 0 0)).setCell ⟨w.heap.size+1,1,none⟩ (.int .i64 0)):=by
  unfold NGetPost
  rw [hE]
  exact ⟨_,rfl,Kd.R_nil _ _ _ _ _,(h.bel.setCell (p:=⟨w.heap.size+1,0,none⟩) (by simp) _).setCell (p:=⟨w.heap.size+1,1,none⟩) (by simp) _⟩
set_option maxHeartbeats 8000000 in
set_option maxRecDepth 100000 in
theorem nget_calls (ht:∀ w',Below w.heap.size w w'→Lib.Utf8Tabs 0 1 w') (htx:tx.size≤1000000) (hbs:b.size≤1000000)
    (hBig:rB l0 l1 l2 l3 l4 = true→(getE badS tx 16777216 l4).1 = 0→(endN (runN b (getE badS tx 16777216 l4).2 l1 l2).1).e = 0→Big (runN b (getE badS tx 16777216 l4).2 l1 l2).2) :
    Calls Tryd.prog 11 #[.string tx,.string b,.agg #[.int .i64 l0,.int .i64 l1,.int .i64 l2,.int .i64 l3,.int .i64 l4]] w fun e w' => NGetPost tx b l0 l1 l2 l3 l4 w e w':=by
  have HT:=Lib.hid ht
  have HBG:=Lib.hid hBig
  clear ht hBig
  go_enter Tryd.func11,Tryd.ntmps11
  go_upto_region 2 with (fail)
  have z1:(w.alloc (.cells #[.int .i64 l0,.int .i64 l1,.int .i64 l2,.int .i64 l3,.int .i64 l4] 23)).heap.size = w.heap.size+1:=by simp
  have z2:((w.alloc (.cells #[.int .i64 l0,.int .i64 l1,.int .i64 l2,.int .i64 l3,.int .i64 l4] 23)).alloc (.cells #[.slice none 0 0,.int .i64 0] 27)).heap.size = w.heap.size+2:=by simp
  have b1:=heap_alloc_new w (.cells #[.int .i64 l0,.int .i64 l1,.int .i64 l2,.int .i64 l3,.int .i64 l4] 23)
  have b2:=heap_alloc_new (w.alloc (.cells #[.int .i64 l0,.int .i64 l1,.int .i64 l2,.int .i64 l3,.int .i64 l4] 23)) (.cells #[.slice none 0 0,.int .i64 0] 27)
  have b3:=heap_alloc_new ((w.alloc (.cells #[.int .i64 l0,.int .i64 l1,.int .i64 l2,.int .i64 l3,.int .i64 l4] 23)).alloc (.cells #[.slice none 0 0,.int .i64 0] 27)) (.cells #[.slice none 0 0,.int .i64 0] 27)
  rw [z1] at b2
  rw [z2] at b3
  have hG:GS w (((w.alloc (.cells #[.int .i64 l0,.int .i64 l1,.int .i64 l2,.int .i64 l3,.int .i64 l4] 23)).alloc (.cells #[.slice none 0 0,.int .i64 0] 27)).alloc (.cells #[.slice none 0 0,.int .i64 0] 27)) l0 l1 l2 l3 l4 :=
    ⟨(((Below.refl _ w).alloc (Nat.le_refl _) _).alloc (by simp) _).alloc (by simp;omega) _,blk_alloc (blk_alloc b1 _) _,blk_alloc b2 _,b3⟩
  clear z1 z2 b1 b2 b3
  generalize ((w.alloc (.cells #[.int .i64 l0,.int .i64 l1,.int .i64 l2,.int .i64 l3,.int .i64 l4] 23)).alloc (.cells #[.slice none 0 0,.int .i64 0] 27)).alloc (.cells #[.slice none 0 0,.int .i64 0] 27) = w1 at *
  have G1:=Lib.hid hG
  have y0:w1.cell? ⟨w.heap.size,0,none⟩ = some (.int .i64 l0):=(blk_cell hG.lim 0).trans rfl
  have y1:w1.cell? ⟨w.heap.size,1,none⟩ = some (.int .i64 l1):=(blk_cell hG.lim 1).trans rfl
  have y2:w1.cell? ⟨w.heap.size,2,none⟩ = some (.int .i64 l2):=(blk_cell hG.lim 2).trans rfl
  have y3:w1.cell? ⟨w.heap.size,3,none⟩ = some (.int .i64 l3):=(blk_cell hG.lim 3).trans rfl
  have y4:w1.cell? ⟨w.heap.size,4,none⟩ = some (.int .i64 l4):=(blk_cell hG.lim 4).trans rfl
  clear hG
  go_wp2_with (fail)
  refine (right_calls l0 l1 l2 l3 l4 _).mono ?_
  rintro e w2 ⟨rfl,hb2⟩
  have G2:=Lib.hid (G1.out.below hb2)
  clear hb2 y0 y1 y2 y3 y4 G1
  obtain ⟨okL,hok⟩:∃ ok,ok = rB l0 l1 l2 l3 l4:=⟨_,rfl⟩
  rw [← hok]
  have HOK:=Lib.hid hok
  clear hok
  have y4:w2.cell? ⟨w.heap.size,4,none⟩ = some (.int .i64 l4):=(blk_cell G2.out.lim 4).trans rfl
  obtain ⟨n0,n1⟩:=G2.out.non.cells
  obtain ⟨s0,s1⟩:=G2.out.res.cells
  have f0:=blk_frozen G2.out.res 0
  have f1:=blk_frozen G2.out.res 1
  cases okL with
  | false =>
    have HE:=Lib.hid (show getN tx b l0 l1 l2 l3 l4 (rB l0 l1 l2 l3 l4) = ([],0,1) by rw [← HOK.out];exact getN_e1)
    go_wp2_with (fail)
    have hp:=blk_put (blk_put G2.out.res 0 (.slice none 0 0) rfl) 1 (.int .i64 0) rfl
    refine bodyPost_ret (results_ct rfl _ _ (w.heap.size+1) 27 #[.slice none 0 0,.int .i64 0] (0,0) _ rfl hp Tryd.underlying27 rfl (by kernel_rfl)) rfl ?_
    exact none_post tx b l0 l1 l2 l3 l4 w G2.out HE.out
  | true =>
  have hrb:=(rB_iff l0 l1 l2 l3 l4).1 HOK.out.symm
  have HRB:=Lib.hid hrb
  obtain ⟨⟨_,hr1,hr2,_,hr6⟩,_,hr3,hr4,_,hr5⟩:=hrb
  have HBG:=Lib.hid (HBG.out HOK.out.symm)
  go_wp2_with (fail)
  refine (get_calls badS bad_calls tx 16777216 l4 _ (fun w' hb => HT.out w' (below_step G2.out.bel hb)) htx (by omega) (by omega) (by omega) (by omega)).mono ?_
  rintro e w3 ⟨hb3,hp3⟩
  have G3:=Lib.hid (G2.out.below hb3)
  clear hb3 y4 n0 n1 s0 s1 f0 f1 G2
  obtain ⟨q,hq⟩:∃ q,q = getE badS tx 16777216 l4:=⟨_,rfl⟩
  rw [← hq] at hp3 HBG
  have HQ:=Lib.hid hq
  clear hq
  obtain ⟨q,L⟩:=q
  simp only at hp3
  obtain ⟨n0,n1⟩:=G3.out.non.cells
  obtain ⟨s0,s1⟩:=G3.out.res.cells
  have f0:=blk_frozen G3.out.res 0
  have f1:=blk_frozen G3.out.res 1
  by_cases hq0:q = 0
  rotate_left
  · rw [if_neg hq0] at hp3
    subst hp3
    have t26:(q != 0) = true:=bne_iff_ne.mpr hq0
    have HE:=Lib.hid (show getN tx b l0 l1 l2 l3 l4 (rB l0 l1 l2 l3 l4) = ([],0,q) by
      rw [← HOK.out,getN_e2 (by rw [← HQ.out];exact hq0),← HQ.out])
    clear hq0
    go_wp2_with (fail)
    have hp:=blk_put (blk_put G3.out.res 0 (.slice none 0 0) rfl) 1 (.int .i64 0) rfl
    refine bodyPost_ret (results_ct rfl _ _ (w.heap.size+1) 27 #[.slice none 0 0,.int .i64 0] (0,0) _ rfl hp Tryd.underlying27 rfl (by kernel_rfl)) rfl ?_
    exact none_post tx b l0 l1 l2 l3 l4 w G3.out HE.out
  rw [if_pos hq0] at hp3
  subst hq0
  obtain ⟨p,F,rfl,hT3,hF3⟩:=hp3
  have T3:=Lib.hid hT3
  clear hT3 hF3 n0 n1 s0 s1 f0 f1
  go_wp2_with (fail)
  refine (Cur.new_calls b _).mono ?_
  rintro e w4 ⟨rfl,hC4,hb4⟩
  have hgn:=Lib.hid (show ¬ F w3.heap.size from fun h => absurd (T3.out.lt _ h) (Nat.lt_irrefl _))
  have hgg:=Lib.hid (show w.heap.size+2 < w3.heap.size from blk_lt G3.out.non)
  have G4:=Lib.hid (G3.out.below hb4)
  have T4:=Lib.hid (T3.out.below hb4)
  have C4:=Lib.hid hC4
  clear hC4 hb4 G3 T3
  generalize w3.heap.size = g at *
  have y0:w4.cell? ⟨w.heap.size,0,none⟩ = some (.int .i64 l0):=(blk_cell G4.out.lim 0).trans rfl
  have y1:w4.cell? ⟨w.heap.size,1,none⟩ = some (.int .i64 l1):=(blk_cell G4.out.lim 1).trans rfl
  have y2:w4.cell? ⟨w.heap.size,2,none⟩ = some (.int .i64 l2):=(blk_cell G4.out.lim 2).trans rfl
  have y3:w4.cell? ⟨w.heap.size,3,none⟩ = some (.int .i64 l3):=(blk_cell G4.out.lim 3).trans rfl
  have y4:w4.cell? ⟨w.heap.size,4,none⟩ = some (.int .i64 l4):=(blk_cell G4.out.lim 4).trans rfl
  go_wp2_with (fail)
  refine (all_calls F g p L b l0 l1 l2 l3 l4 w4 C4.out (by omega) T4.out hgn.out hr3 (by omega) hr4 hr2).mono ?_
  rintro e w5 ⟨v5,rfl,hC5,hR5,hM5⟩
  have G5:=Lib.hid (G4.out.turn hgg.out hM5)
  have T5:=Lib.hid (T4.out.mv hM5 (fun k hk e => hgn.out (by have e2:k = g:=e;rwa [← e2])))
  have C5:=Lib.hid hC5
  obtain ⟨A5,c5,rfl,hc5,hCC⟩:=Kd.R_reads hR5
  have R5:=Lib.hid hR5
  have hb4:w.heap.size+2 < w4.heap.size:=blk_lt G4.out.non
  generalize w4.heap.size = n4 at *
  clear hC5 hR5 hM5 hCC y0 y1 y2 y3 y4 G4 T4 C4
  have HBG2:=Lib.hid (show (endN (runN b L l1 l2).1).e = 0→Big (runN b L l1 l2).2 from HBG.out (by trivial))
  have HGOT:=Lib.hid (show (endN (runN b L l1 l2).1).e = 0→Got tx b L (runN b L l1 l2).2 l1 l2 l3 l4 from fun h => by
    have:=(got_of (tx:=tx) (b:=b) (l1:=l1) (l2:=l2) (l4:=l4) (by rw [← HQ.out]) hr4 (by rw [← HQ.out];exact h) l3).1
    rw [← HQ.out] at this
    exact this)
  have E3:=Lib.hid (fun h => getN_e3 (b:=b) (l0:=l0) (l1:=l1) (l2:=l2) (l3:=l3) HQ.out.symm h)
  have E4:=Lib.hid (fun h q hq h0 => getN_e4 (b:=b) (l0:=l0) (l1:=l1) (l2:=l2) (l3:=l3) HQ.out.symm h (q:=q) hq h0)
  have E5:=Lib.hid (fun h hq => getN_e5 (b:=b) (l0:=l0) (l1:=l1) (l2:=l2) (l3:=l3) HQ.out.symm h hq)
  rw [HOK.out] at E3 E4 E5
  clear HBG HQ
  generalize (cntN b l1).1 - 1 = rt at *
  generalize endN (runN b L l1 l2).1 = ce at *
  generalize (runN b L l1 l2).2 = M at *
  go_upto_region 9 with (fail)
  obtain ⟨hx,hd⟩:=SB.new w5 A5 M.length c5 rt
  have hg5:w.heap.size+2 < w5.heap.size:=blk_lt G5.out.non
  generalize w5.alloc (.cells #[.slice A5 M.length c5,.int .i64 rt] 27) = w6 at hx hd ⊢
  have G6:=Lib.hid (G5.out.below hd)
  have T6:=Lib.hid (T5.out.below hd)
  have C6:=Lib.hid (C5.out.below hd)
  have R6:=Lib.hid (Kd.R_below R5.out hd)
  have X6:=Lib.hid hx
  clear hx hd G5 T5 C5 R5
  generalize w5.heap.size = s at *
  go_wp2_with (fail)
  refine (Cur.err_calls g ce _ C6.out).mono ?_
  rintro e w7 ⟨rfl,hw7⟩
  subst hw7
  obtain ⟨n0,n1⟩:=G6.out.non.cells
  obtain ⟨s0,s1⟩:=G6.out.res.cells
  have f0:=blk_frozen G6.out.res 0
  have f1:=blk_frozen G6.out.res 1
  by_cases hq0:ce.e = 0
  rotate_left
  · have t38:(ce.e != 0) = true:=bne_iff_ne.mpr hq0
    have HE:=Lib.hid (E3.out hq0)
    clear hq0
    go_wp2_with (fail)
    have hp:=blk_put (blk_put G6.out.res 0 (.slice none 0 0) rfl) 1 (.int .i64 0) rfl
    refine bodyPost_ret (results_ct rfl _ _ (w.heap.size+1) 27 #[.slice none 0 0,.int .i64 0] (0,0) _ rfl hp Tryd.underlying27 rfl (by kernel_rfl)) rfl ?_
    exact none_post tx b l0 l1 l2 l3 l4 w G6.out HE.out
  have t38:(ce.e != 0) = false:=by simpa using hq0
  have HBI:=Lib.hid (HBG2.out hq0)
  have HGO:=Lib.hid (HGOT.out hq0)
  have E4':=Lib.hid (fun q hq h0 => E4.out hq0 q hq h0)
  have E5':=Lib.hid (fun hq => E5.out hq0 hq)
  have hlen:=HBI.out.len
  have hkid:=HBI.out.kids
  clear hq0 E3 E4 E5 HBG2 HGOT n0 n1 s0 s1 f0 f1
  obtain ⟨x0,x1⟩:=X6.out.cells
  obtain ⟨_,_,hv6,hc6,hC6⟩:=Kd.R_reads R6.out
  cases hv6
  have CC6:=Lib.hid hC6
  clear hC6
  go_wp2_with (fail)
  refine (check_calls A5 c5 M rt w6 CC6.out hc6 (by omega) hkid).mono ?_
  rintro e w7 ⟨rfl,hb7⟩
  have G7:=Lib.hid (G6.out.below hb7)
  have T7:=Lib.hid (T6.out.below hb7)
  have R7:=Lib.hid (Kd.R_below R6.out hb7)
  have X7:=Lib.hid (X6.out.below hb7)
  have CC7:=Lib.hid (Kd.C_below CC6.out hb7)
  clear hb7 x0 x1 G6 T6 C6 R6 X6 CC6
  obtain ⟨q1,hq1⟩:∃ q,q = (checkP M rt).1:=⟨_,rfl⟩
  rw [← hq1]
  have HQ1:=Lib.hid hq1
  clear hq1
  obtain ⟨n0,n1⟩:=G7.out.non.cells
  obtain ⟨s0,s1⟩:=G7.out.res.cells
  have f0:=blk_frozen G7.out.res 0
  have f1:=blk_frozen G7.out.res 1
  by_cases h1:q1 = 0
  rotate_left
  · have t48:(q1 != 0) = true:=bne_iff_ne.mpr h1
    have HE:=Lib.hid (E4'.out q1 (by unfold endE;rw [← HQ1.out,if_pos h1]) h1)
    clear h1
    go_wp2_with (fail)
    have hp:=blk_put (blk_put G7.out.res 0 (.slice none 0 0) rfl) 1 (.int .i64 0) rfl
    refine bodyPost_ret (results_ct rfl _ _ (w.heap.size+1) 27 #[.slice none 0 0,.int .i64 0] (0,0) _ rfl hp Tryd.underlying27 rfl (by kernel_rfl)) rfl ?_
    exact none_post tx b l0 l1 l2 l3 l4 w G7.out HE.out
  have t48:(q1 != 0) = false:=by simpa using h1
  have HC0:=Lib.hid (show (checkP M rt).1 = 0 by rw [← HQ1.out];exact h1)
  clear h1 HQ1 n0 n1 s0 s1 f0 f1
  obtain ⟨x0,x1⟩:=X7.out.cells
  have y3:w7.cell? ⟨w.heap.size,3,none⟩ = some (.int .i64 l3):=(blk_cell G7.out.lim 3).trans rfl
  have HCC7:=Lib.hid (Kd.C_below CC7.out (below_drew1 (Below.refl _ w7)))
  go_upto_region 15 with (fail)
  go_region_held3 (fun w' => w'.cell? ⟨s,0,none⟩ = some (.slice A5 M.length c5)∧w'.cell? ⟨s,1,none⟩ = some (.int .i64 rt)∧w'.cell? ⟨w.heap.size,3,none⟩ = some (.int .i64 l3)) (go_keep)
    ((go_at_call 34;refine (depth_calls A5 c5 M rt _ HCC7.out hc6 (by omega) hkid).mono ?_;rintro e w8 ⟨rfl,hb8'⟩;have hb8:=below_step (below_drew1 (Below.refl _ w7)) hb8';have G8:=Lib.hid (G7.out.below hb8);have T8:=Lib.hid (T7.out.below hb8);have R8:=Lib.hid (Kd.R_below R7.out hb8);have X8:=Lib.hid (X7.out.below hb8);have CC8:=Lib.hid (Kd.C_below CC7.out hb8);have y8:w8.cell? ⟨w.heap.size,3,none⟩ = some (.int .i64 l3):=(blk_cell G8.out.lim 3).trans rfl;obtain ⟨q0,q1⟩:=X8.out.cells;clear hb8 hb8'))
  clear G7 T7 R7 X7 CC7 HCC7 x0 x1 y3
  obtain ⟨n0,n1⟩:=G8.out.non.cells
  obtain ⟨s0,s1⟩:=G8.out.res.cells
  have f0:=blk_frozen G8.out.res 0
  have f1:=blk_frozen G8.out.res 1
  obtain ⟨dp,hdp⟩:∃ d,d = depD M rt:=⟨_,rfl⟩
  rw [← hdp]
  have HDP:=Lib.hid hdp
  clear hdp
  by_cases h1:dp > l3
  · have t56:decide (dp > l3) = true:=decide_eq_true h1
    have HE:=Lib.hid (E4'.out 19 (by unfold endE;rw [if_neg (by simpa using HC0.out),← HDP.out,if_pos h1]) (by decide))
    go_wp2_with (fail)
    have hp:=blk_put (blk_put G8.out.res 0 (.slice none 0 0) rfl) 1 (.int .i64 0) rfl
    refine bodyPost_ret (results_ct rfl _ _ (w.heap.size+1) 27 #[.slice none 0 0,.int .i64 0] (0,0) _ rfl hp Tryd.underlying27 rfl (by kernel_rfl)) rfl ?_
    exact none_post tx b l0 l1 l2 l3 l4 w G8.out HE.out
  have t56:decide (dp > l3) = false:=decide_eq_false h1
  have HD0:=Lib.hid (show ¬ depD M rt > l3 by rw [← HDP.out];exact h1)
  go_wp2_with (fail)
  refine (is_calls A5 c5 M rt _ CC8.out hc6 (by omega) hkid).mono ?_
  rintro e w9 ⟨rfl,hb9⟩
  have G9:=Lib.hid (G8.out.below hb9)
  have T9:=Lib.hid (T8.out.below hb9)
  have R9:=Lib.hid (Kd.R_below R8.out hb9)
  have X9:=Lib.hid (X8.out.below hb9)
  have CC9:=Lib.hid (Kd.C_below CC8.out hb9)
  clear hb9 q0 q1 G8 T8 R8 X8 CC8 n0 n1 s0 s1 f0 f1 y8 h1 t56 HDP
  obtain ⟨n0,n1⟩:=G9.out.non.cells
  obtain ⟨s0,s1⟩:=G9.out.res.cells
  have f0:=blk_frozen G9.out.res 0
  have f1:=blk_frozen G9.out.res 1
  obtain ⟨ib,hib⟩:∃ d,d = isB M rt:=⟨_,rfl⟩
  rw [← hib]
  have HIB:=Lib.hid hib
  clear hib
  cases ib with
  | false =>
    have HE:=Lib.hid (E4'.out 16 (by unfold endE;rw [if_neg (by simpa using HC0.out),if_neg (by have:=HD0.out;omega),if_pos HIB.out.symm]) (by decide))
    go_wp2_with (fail)
    have hp:=blk_put (blk_put G9.out.res 0 (.slice none 0 0) rfl) 1 (.int .i64 0) rfl
    refine bodyPost_ret (results_ct rfl _ _ (w.heap.size+1) 27 #[.slice none 0 0,.int .i64 0] (0,0) _ rfl hp Tryd.underlying27 rfl (by kernel_rfl)) rfl ?_
    exact none_post tx b l0 l1 l2 l3 l4 w G9.out HE.out
  | true =>
  clear n0 n1 s0 s1 f0 f1
  obtain ⟨x0,x1⟩:=X9.out.cells
  have hLb:=tabB_len L
  rw [HGO.out.tab] at hLb
  go_wp2_with (fail)
  refine (used_calls A5 c5 M rt _ CC9.out HBI.out T9.out (by omega) (by omega)).mono ?_
  have hUL:=tab_bound HBI.out (l:=txs M) ⟨Nat.le_refl _,Nat.le_refl _⟩
  rw [tabB_eq (tabOf_nodup _ _ List.nodup_nil) HGO.out.nodup (by omega) (by omega) (fun u hu => by
    rcases (tabOf_mem _ _ _).1 hu with h | h
    · cases h
    · unfold txs at h
      obtain ⟨n,hn,hs⟩:=List.mem_flatMap.1 h
      have:=(HBI.out.fit n hn).s2 u hs
      omega) (fun u hu => by have:=mem_total hu;omega)]
  rintro e w10 ⟨rfl,hb10⟩
  have G10:=Lib.hid (G9.out.below hb10)
  have R10:=Lib.hid (Kd.R_below R9.out hb10)
  have X10:=Lib.hid (X9.out.below hb10)
  clear hb10 x0 x1 G9 T9 R9 X9 CC9 hUL
  obtain ⟨n0,n1⟩:=G10.out.non.cells
  obtain ⟨s0,s1⟩:=G10.out.res.cells
  have f0:=blk_frozen G10.out.res 0
  have f1:=blk_frozen G10.out.res 1
  by_cases hu:tabOf [] (txs M) = L
  rotate_left
  · rw [decide_eq_false hu]
    have HE:=Lib.hid (E4'.out 18 (by unfold endE;rw [if_neg (by simpa using HC0.out),if_neg (by have:=HD0.out;omega),if_neg (by rw [← HIB.out];decide),if_neg hu]) (by decide))
    clear hu
    go_wp2_with (fail)
    have hp:=blk_put (blk_put G10.out.res 0 (.slice none 0 0) rfl) 1 (.int .i64 0) rfl
    refine bodyPost_ret (results_ct rfl _ _ (w.heap.size+1) 27 #[.slice none 0 0,.int .i64 0] (0,0) _ rfl hp Tryd.underlying27 rfl (by kernel_rfl)) rfl ?_
    exact none_post tx b l0 l1 l2 l3 l4 w G10.out HE.out
  rw [decide_eq_true hu]
  have HE:=Lib.hid (E5'.out (by unfold endE;rw [if_neg (by simpa using HC0.out),if_neg (by have:=HD0.out;omega),if_neg (by rw [← HIB.out];decide),if_pos hu]))
  clear hu n0 n1
  obtain ⟨x0,x1⟩:=X10.out.cells
  go_wp2_with (fail)
  have hp:=blk_put (blk_put G10.out.res 0 (.slice A5 M.length c5) rfl) 1 (.int .i64 rt) rfl
  refine bodyPost_ret (results_ct rfl _ _ (w.heap.size+1) 27 #[.slice A5 M.length c5,.int .i64 rt] (0,0) _ rfl hp Tryd.underlying27 rfl (by kernel_rfl)) rfl ?_
  unfold NGetPost
  rw [HE.out]
  exact ⟨_,rfl,Kd.R_lower (R_keepIn (R_keepIn R10.out (fun k hk _ => Below.heap_setCell _ _ _ _ (by show k≠w.heap.size+1;omega))) (fun k hk _ => Below.heap_setCell _ _ _ _ (by show k≠w.heap.size+1;omega))) (by omega),(G10.out.bel.setCell (p:=⟨w.heap.size+1,0,none⟩) (by simp) _).setCell (p:=⟨w.heap.size+1,1,none⟩) (by simp) _⟩
end
end Go.Proofs.YtoigkneoaemcfaaDoor.Nd
