import Derived.Test.YtoigkneoaemcfaaDoorNoM16
import Derived.Test.YtoigkneoaemcfaaDoorNoGNx11
namespace Go.Proofs.YtoigkneoaemcfaaDoor.Nd
open Go.RowKit Go.Lib Go.Proofs.YtoigkneoaemcfaaDoorW.PrintWords Go.Proofs.YtoigkneoaemcfaaDoorW.PrintLast Go.Proofs.YtoigkneoaemcfaaDoorW.PrintMore Go.Proofs.YtoigkneoaemcfaaDoor.B Go.Proofs.YtoigkneoaemcfaaDoor.Bd Go.Proofs.YtoigkneoaemcfaaDoor.Tab Go.Proofs.YtoigkneoaemcfaaDoor.Rec
open Go.Proofs.YtoigkneoaemcfaaDoor.GN (S40 rd_T40 k40 kidsI checkP cl H tStep textsOf textN)
set_option linter.unusedVariables false
set_option linter.unusedSimpArgs false
theorem fold_tells:∀ (ts m:List ByteArray) (s:Nat),m.Nodup→s = (m.map ByteArray.size).sum→∃ m':List ByteArray,(ts.foldl tStep (m,s)).2 = (m'.map ByteArray.size).sum∧m'.Nodup∧∀ t,t ∈ m'↔t ∈ m ∨ t ∈ ts
  | [],m,s,hn,hs => ⟨m,hs,hn,by simp⟩
  | t :: ts,m,s,hn,hs => by
    by_cases h:t ∈ m
    · obtain ⟨m',h1,h2,h3⟩:=fold_tells ts m s hn hs
      refine ⟨m',by rw [List.foldl_cons,GN.tStep_old h];exact h1,h2,fun x => ?_⟩
      rw [h3]
      simp only [List.mem_cons]
      constructor
      · rintro (a | a)
        · exact .inl a
        · exact .inr (.inr a)
      · rintro (a | rfl | a)
        · exact .inl a
        · exact .inl h
        · exact .inr a
    · obtain ⟨m',h1,h2,h3⟩:=fold_tells ts (t :: m) (s+t.size) (List.nodup_cons.2 ⟨h,hn⟩) (by rw [hs];simp;omega)
      refine ⟨m',by rw [List.foldl_cons,GN.tStep_new h];exact h1,h2,fun x => ?_⟩
      rw [h3]
      simp only [List.mem_cons]
      constructor
      · rintro ((a | a) | a)
        · exact .inr (.inl a)
        · exact .inl a
        · exact .inr (.inr a)
      · rintro (a | a | a)
        · exact .inl (.inr a)
        · exact .inl (.inl a)
        · exact .inr a
theorem textN_total (l0:List (S40)):textN l0 = total (tabOf [] (txs l0)):=by
  obtain ⟨m',h1,h2,h3⟩:=fold_tells (textsOf l0) [] 0 List.nodup_nil rfl
  unfold textN
  rw [h1]
  exact GN.perm_sum (((List.perm_ext_iff_of_nodup h2 (tabOf_nodup _ _ List.nodup_nil)).2 (fun t => by rw [h3,tabOf_mem];rfl)).map _)
section
variable (A0:Option Addr) (c0:Nat) (l:List (S40)) (r:Int) (w:World)
theorem meas_calls (hr:Kd.C k40 w A0 l.length l) (hc:l.length≤c0) (hB:Big l) :
    Calls Tryd.prog 44 #[.agg #[.slice A0 l.length c0,.int .i64 r]] w fun e w' => e = .returned (.agg #[.int .i64 0,.int .i64 (l.length:Int),.int .i64 (kidN l:Int),.int .i64 (depD l r),.int .i64 (total (tabOf [] (txs l)):Int)])∧Below w.heap.size w w':=by
  have h1:=hB.len
  have h2:=hB.kids
  have hk:=kidN_sum l
  obtain ⟨K,h3⟩:=GN.gdepth l r (by omega) (by omega)
  have h4:=GN.gedges_run l r (by omega) l.length 0 0 (by omega) (by omega) (by unfold GN.restK;rw [List.drop_zero];omega) K
  have h5:GN.TBb l = true:=by
    unfold GN.TBb
    have h6:textsOf l = txs l:=rfl
    have h7:=hB.txn
    have h8:=hB.txt
    have h9:((txs l).map ByteArray.size).sum = total (txs l):=rfl
    rw [h6,h9]
    simp only [Bool.and_eq_true,decide_eq_true_eq]
    omega
  refine GN.limit_Measure.calls (K+l.length+1) A0 c0 l r _ _ _ _ _ w hr hc ?_
  have h4':=h4
  rw [show ((0:Nat):Int) = 0 from rfl] at h4'
  unfold GN.limit_Measure.f GN.graph_Edges.f
  rw [h4',Option.bind_some,show K+l.length+1 = (l.length+1)+K by omega,h3,Option.bind_some,if_pos h5,textN_total]
  unfold GN.restK depD
  rw [List.drop_zero,hk,Int.zero_add]
set_option maxHeartbeats 8000000 in
set_option maxRecDepth 100000 in
theorem valid_calls (b0 b1 b2 b3 b4:Int) (ht:∀ w',Below w.heap.size w w'→Lib.Utf8Tabs 0 1 w') (hr:Kd.C k40 w A0 l.length l) (hc:l.length≤c0) (hB:Big l) (h1:rB b0 b1 b2 b3 b4 = true) (h2:(typedE l 0).1 = 0) (h3:(checkP l r).1 = 0) (h4:LimW.wB 0 (l.length:Int) (kidN l:Int) (depD l r) (total (tabOf [] (txs l)):Int) b0 b1 b2 b3 b4 = true) :
    Calls Tryd.prog 13 #[.agg #[.slice A0 l.length c0,.int .i64 r],.agg #[.int .i64 b0,.int .i64 b1,.int .i64 b2,.int .i64 b3,.int .i64 b4]] w fun e w' => e = .returned (.tuple #[.int .i64 0,.int .i64 0])∧Below w.heap.size w w':=by
  have HT:=Lib.hid ht
  have HR:=Lib.hid hr
  have HB:=Lib.hid hB
  have H1:=Lib.hid h1
  have H2:=Lib.hid h2
  have H3:=Lib.hid h3
  have H4:=Lib.hid h4
  have hlen:=hB.len
  clear ht hr hB h1 h2 h3 h4
  go_enter Tryd.func13,Tryd.ntmps13
  go_upto_region 1 with (fail)
  obtain ⟨hx,hd⟩:=SB.new w A0 l.length c0 r
  have hy:=heap_alloc_new (w.alloc (.cells #[.slice A0 l.length c0,.int .i64 r] 27)) (.cells #[.int .i64 b0,.int .i64 b1,.int .i64 b2,.int .i64 b3,.int .i64 b4] 23)
  have hd2:Below (w.alloc (.cells #[.slice A0 l.length c0,.int .i64 r] 27)).heap.size (w.alloc (.cells #[.slice A0 l.length c0,.int .i64 r] 27)) ((w.alloc (.cells #[.slice A0 l.length c0,.int .i64 r] 27)).alloc (.cells #[.int .i64 b0,.int .i64 b1,.int .i64 b2,.int .i64 b3,.int .i64 b4] 23)):=(Below.refl _ _).alloc (Nat.le_refl _) _
  rw [show (w.alloc (.cells #[.slice A0 l.length c0,.int .i64 r] 27)).heap.size = w.heap.size+1 by simp] at hy
  have D1:=Lib.hid (below_step hd hd2)
  have X1:=Lib.hid (hx.below hd2)
  have Y1:=Lib.hid hy
  clear hx hd hy hd2
  generalize (w.alloc (.cells #[.slice A0 l.length c0,.int .i64 r] 27)).alloc (.cells #[.int .i64 b0,.int .i64 b1,.int .i64 b2,.int .i64 b3,.int .i64 b4] 23) = w1 at *
  have y0:w1.cell? ⟨w.heap.size+1,0,none⟩ = some (.int .i64 b0):=(blk_cell Y1.out 0).trans rfl
  have y1:w1.cell? ⟨w.heap.size+1,1,none⟩ = some (.int .i64 b1):=(blk_cell Y1.out 1).trans rfl
  have y2:w1.cell? ⟨w.heap.size+1,2,none⟩ = some (.int .i64 b2):=(blk_cell Y1.out 2).trans rfl
  have y3:w1.cell? ⟨w.heap.size+1,3,none⟩ = some (.int .i64 b3):=(blk_cell Y1.out 3).trans rfl
  have y4:w1.cell? ⟨w.heap.size+1,4,none⟩ = some (.int .i64 b4):=(blk_cell Y1.out 4).trans rfl
  go_wp2_with (fail)
  refine (right_calls b0 b1 b2 b3 b4 _).mono ?_
  rw [H1.out]
  rintro e w2 ⟨rfl,hb2⟩
  have D2:=Lib.hid (below_step D1.out hb2)
  have X2:=Lib.hid (X1.out.below hb2)
  have Y2:=Lib.hid (blk_below Y1.out hb2)
  clear hb2 D1 X1 Y1 y0 y1 y2 y3 y4
  obtain ⟨x0,x1⟩:=X2.out.cells
  go_wp2_with (fail)
  refine (typed_calls A0 c0 l r w2 (fun w' hb => HT.out w' (below_step D2.out hb)) (Kd.C_below HR.out D2.out) HB.out.fit (by omega)).mono ?_
  obtain ⟨q,hq⟩:∃ q,q = typedE l 0:=⟨_,rfl⟩
  rw [← hq,show q.1 = 0 by rw [hq];exact H2.out]
  generalize q.2 = q2 at *
  clear hq
  rintro e w3 ⟨rfl,hb3⟩
  have D3:=Lib.hid (below_step D2.out hb3)
  have X3:=Lib.hid (X2.out.below hb3)
  have Y3:=Lib.hid (blk_below Y2.out hb3)
  clear hb3 D2 X2 Y2 x0 x1
  obtain ⟨x0,x1⟩:=X3.out.cells
  go_wp2_with (fail)
  refine (check_calls A0 c0 l r w3 (Kd.C_below HR.out D3.out) hc (by omega) HB.out.kids).mono ?_
  obtain ⟨p,hp⟩:∃ p,p = checkP l r:=⟨_,rfl⟩
  rw [← hp,show p.1 = 0 by rw [hp];exact H3.out]
  generalize p.2 = p2 at *
  clear hp
  rintro e w4 ⟨rfl,hb4⟩
  have D4:=Lib.hid (below_step D3.out hb4)
  have X4:=Lib.hid (X3.out.below hb4)
  have Y4:=Lib.hid (blk_below Y3.out hb4)
  clear hb4 D3 X3 Y3 x0 x1
  obtain ⟨x0,x1⟩:=X4.out.cells
  have y0:w4.cell? ⟨w.heap.size+1,0,none⟩ = some (.int .i64 b0):=(blk_cell Y4.out 0).trans rfl
  have y1:w4.cell? ⟨w.heap.size+1,1,none⟩ = some (.int .i64 b1):=(blk_cell Y4.out 1).trans rfl
  have y2:w4.cell? ⟨w.heap.size+1,2,none⟩ = some (.int .i64 b2):=(blk_cell Y4.out 2).trans rfl
  have y3:w4.cell? ⟨w.heap.size+1,3,none⟩ = some (.int .i64 b3):=(blk_cell Y4.out 3).trans rfl
  have y4:w4.cell? ⟨w.heap.size+1,4,none⟩ = some (.int .i64 b4):=(blk_cell Y4.out 4).trans rfl
  have HCC:=Lib.hid (Kd.C_below HR.out (below_step D4.out (below_drew1 (Below.refl _ w4))))
  go_upto_region 9 with (fail)
  go_region_held3 (fun w' => w'.cell? ⟨w.heap.size,0,none⟩ = some (.slice A0 l.length c0)∧w'.cell? ⟨w.heap.size,1,none⟩ = some (.int .i64 r)∧w'.cell? ⟨w.heap.size+1,0,none⟩ = some (.int .i64 b0)∧w'.cell? ⟨w.heap.size+1,1,none⟩ = some (.int .i64 b1)∧w'.cell? ⟨w.heap.size+1,2,none⟩ = some (.int .i64 b2)∧w'.cell? ⟨w.heap.size+1,3,none⟩ = some (.int .i64 b3)∧w'.cell? ⟨w.heap.size+1,4,none⟩ = some (.int .i64 b4)) (go_keep)
    ((first
      | (go_at_call 44;refine (meas_calls A0 c0 l r _ HCC.out hc HB.out).mono ?_;rintro e w8 ⟨rfl,hb8'⟩;have hb8:=below_step (below_drew1 (Below.refl _ w4)) hb8';have D8:=Lib.hid (below_step D4.out hb8);obtain ⟨p0,p1⟩:=(X4.out.below hb8).cells;have Y8:=blk_below Y4.out hb8;have z0:w8.cell? ⟨w.heap.size+1,0,none⟩ = some (.int .i64 b0):=(blk_cell Y8 0).trans rfl;have z1:w8.cell? ⟨w.heap.size+1,1,none⟩ = some (.int .i64 b1):=(blk_cell Y8 1).trans rfl;have z2:w8.cell? ⟨w.heap.size+1,2,none⟩ = some (.int .i64 b2):=(blk_cell Y8 2).trans rfl;have z3:w8.cell? ⟨w.heap.size+1,3,none⟩ = some (.int .i64 b3):=(blk_cell Y8 3).trans rfl;have z4:w8.cell? ⟨w.heap.size+1,4,none⟩ = some (.int .i64 b4):=(blk_cell Y8 4).trans rfl;have XX8:=Lib.hid (X4.out.below hb8);have YY8:=Lib.hid Y8;clear hb8 hb8' Y8)
      | (go_at_call 43;refine (LimW.within_calls 0 (l.length:Int) (kidN l:Int) (depD l r) (total (tabOf [] (txs l)):Int) b0 b1 b2 b3 b4 _).mono ?_;rintro e w9 ⟨rfl,hb9'⟩;have hb9:=hb9';have D9:=Lib.hid (below_step D8.out hb9);obtain ⟨q0,q1⟩:=(XX8.out.below hb9).cells;have Y9:=blk_below YY8.out hb9;have r0:w9.cell? ⟨w.heap.size+1,0,none⟩ = some (.int .i64 b0):=(blk_cell Y9 0).trans rfl;have r1:w9.cell? ⟨w.heap.size+1,1,none⟩ = some (.int .i64 b1):=(blk_cell Y9 1).trans rfl;have r2:w9.cell? ⟨w.heap.size+1,2,none⟩ = some (.int .i64 b2):=(blk_cell Y9 2).trans rfl;have r3:w9.cell? ⟨w.heap.size+1,3,none⟩ = some (.int .i64 b3):=(blk_cell Y9 3).trans rfl;have r4:w9.cell? ⟨w.heap.size+1,4,none⟩ = some (.int .i64 b4):=(blk_cell Y9 4).trans rfl;clear hb9 hb9' Y9)))
  rw [H4.out]
  go_wp2_with (fail)
  go_ret2
  exact ⟨rfl,D9.out⟩
end
section
variable (tx b:ByteArray) (l0 l1 l2 l3 l4:Int) (w:World)
set_option maxHeartbeats 8000000 in
set_option maxRecDepth 100000 in
theorem one_all (ht:∀ w',Below w.heap.size w w'→Lib.Utf8Tabs 0 1 w') :
    Calls Tryd.prog 3 #[.string tx,.string b,.agg #[.int .i64 l0,.int .i64 l1,.int .i64 l2,.int .i64 l3,.int .i64 l4]] w fun e w' => e = .returned (.bool true)∧Below w.heap.size w w':=by
  have HT:=Lib.hid ht
  clear ht
  go_enter Tryd.func3,Tryd.ntmps3
  go_upto_region 1 with (fail)
  have hy:=heap_alloc_new w (.cells #[.int .i64 l0,.int .i64 l1,.int .i64 l2,.int .i64 l3,.int .i64 l4] 23)
  have hd:Below w.heap.size w (w.alloc (.cells #[.int .i64 l0,.int .i64 l1,.int .i64 l2,.int .i64 l3,.int .i64 l4] 23)):=(Below.refl _ _).alloc (Nat.le_refl _) _
  generalize w.alloc (.cells #[.int .i64 l0,.int .i64 l1,.int .i64 l2,.int .i64 l3,.int .i64 l4] 23) = w1 at *
  have D1:=Lib.hid hd
  have Y1:=Lib.hid hy
  clear hy hd
  go_wp2_with (fail)
  refine (awake_calls w1 (fun w' hb => HT.out w' (below_step D1.out hb))).mono ?_
  rintro e w2 ⟨rfl,hb2⟩
  have D2:=Lib.hid (below_step D1.out hb2)
  have Y2:=Lib.hid (blk_below Y1.out hb2)
  clear hb2 D1 Y1
  by_cases q0:(tx.size:Int) > 800
  · have d0:decide ((tx.size:Int) > 800) = true:=decide_eq_true q0
    go_wp2_with (fail)
    refine (awake_calls w2 (fun w' hb => HT.out w' (below_step D2.out hb))).mono ?_
    rintro e w3 ⟨rfl,hb3⟩
    have D3:=Lib.hid (below_step D2.out hb3)
    clear hb3
    go_wp2_with (fail)
    go_ret
    exact ⟨rfl,D3.out⟩
  have d0:decide ((tx.size:Int) > 800) = false:=decide_eq_false q0
  by_cases q1:(b.size:Int) > 800
  · have d1:decide ((b.size:Int) > 800) = true:=decide_eq_true q1
    go_wp2_with (fail)
    refine (awake_calls w2 (fun w' hb => HT.out w' (below_step D2.out hb))).mono ?_
    rintro e w3 ⟨rfl,hb3⟩
    have D3:=Lib.hid (below_step D2.out hb3)
    clear hb3
    go_wp2_with (fail)
    go_ret
    exact ⟨rfl,D3.out⟩
  have d1:decide ((b.size:Int) > 800) = false:=decide_eq_false q1
  have y0:w2.cell? ⟨w.heap.size,0,none⟩ = some (.int .i64 l0):=(blk_cell Y2.out 0).trans rfl
  have y1:w2.cell? ⟨w.heap.size,1,none⟩ = some (.int .i64 l1):=(blk_cell Y2.out 1).trans rfl
  have y2:w2.cell? ⟨w.heap.size,2,none⟩ = some (.int .i64 l2):=(blk_cell Y2.out 2).trans rfl
  have y3:w2.cell? ⟨w.heap.size,3,none⟩ = some (.int .i64 l3):=(blk_cell Y2.out 3).trans rfl
  have y4:w2.cell? ⟨w.heap.size,4,none⟩ = some (.int .i64 l4):=(blk_cell Y2.out 4).trans rfl
  go_wp2_with (fail)
  have hbig:rB l0 l1 l2 l3 l4 = true→(getE badS tx 16777216 l4).1 = 0→(endN (runN b (getE badS tx 16777216 l4).2 l1 l2).1).e = 0→Big (runN b (getE badS tx 16777216 l4).2 l1 l2).2:=fun h0 h1 h2 =>
    (got_of (tx:=tx) (b:=b) h1 ((rB_iff l0 l1 l2 l3 l4).1 h0).2.2.2.1 h2 l3).1.big (by omega) (by omega)
  refine (nget_calls tx b l0 l1 l2 l3 l4 w2 (fun w' hb => HT.out w' (below_step D2.out hb)) (by omega) (by omega) hbig).mono ?_
  have HBG:=Lib.hid hbig
  unfold NGetPost
  clear hbig y0 y1 y2 y3 y4
  obtain ⟨G,hG⟩:∃ G,G = getN tx b l0 l1 l2 l3 l4 (rB l0 l1 l2 l3 l4):=⟨_,rfl⟩
  rw [← hG]
  have HN:=Lib.hid (show G.2.2≠0→G.1 = []∧G.2.1 = 0 by rw [hG];exact getN_none)
  have HS:=Lib.hid (show G.2.2 = 0→putN G.1 G.2.1 = (tx,b,0)∧Big G.1∧rB l0 l1 l2 l3 l4 = true∧(typedE G.1 0).1 = 0∧(checkP G.1 G.2.1).1 = 0∧LimW.wB 0 (G.1.length:Int) (kidN G.1:Int) (depD G.1 G.2.1) (total (tabOf [] (txs G.1)):Int) l0 l1 l2 l3 l4 = true by
    intro h
    rw [hG] at h ⊢
    obtain ⟨s1,s2,s3,s4,s5⟩:=getN_some h
    have hrb:=(rB_iff l0 l1 l2 l3 l4).1 s1
    obtain ⟨g,gc⟩:=got_of (tx:=tx) (b:=b) s2 hrb.2.2.2.1 s3 l3
    obtain ⟨p1,p2,p3,p4⟩:=g.back (by omega) s4
    rw [s5]
    refine ⟨p1,HBG.out s1 s2 s3,s1,g.typed,p2,?_⟩
    have g1:=g.len
    have g2:=g.kids
    have g3:=g.tot
    unfold LimW.wB
    rw [decide_eq_true_eq]
    simp only at p3 p4 ⊢
    rw [p4]
    omega)
  clear hG HBG
  obtain ⟨M,rt,er⟩:=G
  simp only at HN HS ⊢
  rintro e w3 ⟨v3,rfl,hR3,hb3⟩
  obtain ⟨A3,c3,rfl,hc3,hC3⟩:=Kd.R_reads hR3
  have D3:=Lib.hid (below_step D2.out hb3)
  have Y3:=Lib.hid (blk_below Y2.out hb3)
  have C3:=Lib.hid hC3
  clear hb3 hR3 hC3 D2 Y2
  go_upto_region 4 with (fail)
  obtain ⟨hx,hd⟩:=SB.new w3 A3 M.length c3 rt
  have D4:=Lib.hid (below_step D3.out hd)
  have Y4:=Lib.hid (blk_below Y3.out hd)
  have C4:=Lib.hid (Kd.C_below C3.out hd)
  have X4:=Lib.hid hx
  generalize w3.alloc (.cells #[.slice A3 M.length c3,.int .i64 rt] 27) = w4 at *
  generalize w3.heap.size = s at *
  obtain ⟨x0,x1⟩:=X4.out.cells
  clear hx hd D3 Y3 C3
  by_cases he:er = 0
  rotate_left
  · have t35:(er != 0) = true:=bne_iff_ne.mpr he
    obtain ⟨hM,hr⟩:=HN.out he
    subst hM hr
    clear he
    have t39:((([]:List (S40)).length:Int) == 0) = true:=rfl
    go_wp2_with (fail)
    go_ret
    exact ⟨rfl,D4.out⟩
  subst he
  obtain ⟨hp,hB,hrb,hty,hck,hwb⟩:=HS.out (by trivial)
  have HB:=Lib.hid hB
  have HRB:=Lib.hid hrb
  have HTY:=Lib.hid hty
  have HCK:=Lib.hid hck
  have HWB:=Lib.hid hwb
  have HP:=Lib.hid hp
  clear hp hB hrb hty hck hwb HN HS
  go_wp2_with (fail)
  refine (nput_calls A3 c3 M rt w4 (fun w' hb => HT.out w' (below_step D4.out hb)) C4.out hc3 HB.out).mono ?_
  rw [HP.out]
  rintro e w5 ⟨rfl,hb5⟩
  have D5:=Lib.hid (below_step D4.out hb5)
  have Y5:=Lib.hid (blk_below Y4.out hb5)
  have C5:=Lib.hid (Kd.C_below C4.out hb5)
  have X5:=Lib.hid (X4.out.below hb5)
  clear hb5 x0 x1 D4 Y4 C4 X4
  obtain ⟨x0,x1⟩:=X5.out.cells
  have y0:w5.cell? ⟨w.heap.size,0,none⟩ = some (.int .i64 l0):=(blk_cell Y5.out 0).trans rfl
  have y1:w5.cell? ⟨w.heap.size,1,none⟩ = some (.int .i64 l1):=(blk_cell Y5.out 1).trans rfl
  have y2:w5.cell? ⟨w.heap.size,2,none⟩ = some (.int .i64 l2):=(blk_cell Y5.out 2).trans rfl
  have y3:w5.cell? ⟨w.heap.size,3,none⟩ = some (.int .i64 l3):=(blk_cell Y5.out 3).trans rfl
  have y4:w5.cell? ⟨w.heap.size,4,none⟩ = some (.int .i64 l4):=(blk_cell Y5.out 4).trans rfl
  go_wp2_with (fail)
  refine (valid_calls A3 c3 M rt w5 l0 l1 l2 l3 l4 (fun w' hb => HT.out w' (below_step D5.out hb)) C5.out hc3 HB.out HRB.out HTY.out HCK.out HWB.out).mono ?_
  rintro e w6 ⟨rfl,hb6⟩
  have D6:=Lib.hid (below_step D5.out hb6)
  clear hb6
  have ta:(tx.toList == tx.toList) = true:=by simp
  have tb:(b.toList == b.toList) = true:=by simp
  go_wp2_with (fail)
  go_ret
  exact ⟨rfl,D6.out⟩
end
end Go.Proofs.YtoigkneoaemcfaaDoor.Nd
